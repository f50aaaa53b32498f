/-
  Rules on maps of our own, whatever their keys: numbers, strings.
-/
import Derived.Test.YtonnkgblligdkaaSLMore6
set_option linter.unusedVariables false
set_option linter.unusedSimpArgs false
namespace Go.SL

variable {P : Program} {l : Sl} {H : List Ck} {d : Option Nat} {ty : TypeId} {pos : String} {aft : Array Edge} {g : Option (Nat × Bool)} {K : Next → List Ck → Prop}

/-- kinds of keys -/
structure Kk (κ : Type) [DecidableEq κ] where
  kv : κ → Value
  fits : TypeDesc → Prop
  same : ∀ T, fits T → ∀ a b, Instr.sameNow T (kv a) (kv b) = some (decide (a = b))
  check : ∀ {P : Program} {w : World} {KT : TypeId} {T : TypeDesc} {b : Bool} {a : κ}, P.underlying KT = some T → fits T → (Instr.checkKey b 10000 KT (kv a)).run P w = .ok () w
  bits : ∀ a, Instr.sameBits 10000 (kv a) (kv a) = true
  inj : ∀ a b, kv a = kv b → a = b
def kU32 : Kk (BitVec 32) where
  kv o := .int .u32 o.toNat
  fits T := ∃ k, T = .int k
  same := by
    rintro T ⟨k, rfl⟩ a b
    simp only [Instr.sameNow, if_true, Option.some.injEq]
    rw [Bool.eq_iff_iff, decide_eq_true_eq, beq_iff_eq]
    exact ⟨fun h => BitVec.eq_of_toNat_eq (by omega), fun h => by rw [h]⟩
  check := by
    rintro P w KT T b a hK ⟨k, rfl⟩
    show (Instr.checkKey b (9999 + 1) KT _).run P w = _
    rw [Instr.checkKey]
    simp [run_underlying hK]
  bits a := by
    show Instr.sameBits (9999 + 1) _ _ = true
    simp [Instr.sameBits]
  inj a b h := by
    simp only [Value.int.injEq, true_and] at h
    exact BitVec.eq_of_toNat_eq (by omega)
theorem beq_bytes (a b : ByteArray) : (a == b) = decide (a = b) := by
  obtain ⟨⟨x⟩⟩ := a
  obtain ⟨⟨y⟩⟩ := b
  show ((⟨x⟩ : Array UInt8) == ⟨y⟩) = _
  rw [Bool.eq_iff_iff]; simp
def kStr : Kk ByteArray where
  kv s := .string s
  fits T := T = .string
  same := by
    rintro T rfl a b
    simp only [Instr.sameNow, beq_bytes]
  check := by
    rintro P w KT T b a hK rfl
    show (Instr.checkKey b (9999 + 1) KT _).run P w = _
    rw [Instr.checkKey]
    simp [run_underlying hK]
  bits a := by
    show Instr.sameBits (9999 + 1) _ _ = true
    simp [Instr.sameBits, beq_bytes]
  inj a b h := by simpa using h

section
variable {κ : Type} [DecidableEq κ] (k0 : Kk κ)
def findG : List (κ × Value) → κ → Nat → Option (Nat × Value)
  | [], _, _ => none
  | p :: m, n, i => if n = p.1 then some (i, p.2) else findG m n (i + 1)
def getG (m : List (κ × Value)) (n : κ) : Option Value := (m.find? fun p => decide (n = p.1)).map (·.2)
def setG (m : List (κ × Value)) (n : κ) (v : Value) : List (κ × Value) := if (getG m n).isSome then m.map (fun p => if n = p.1 then (p.1, v) else p) else m ++ [(n, v)]
def delG (m : List (κ × Value)) (n : κ) : List (κ × Value) := m.filter fun p => decide (n ≠ p.1)
theorem findG_get (m : List (κ × Value)) (n : κ) : ∀ i, (findG m n i).map (·.2) = getG m n := by
  induction m with
  | nil => intro i; rfl
  | cons p m ih =>
    intro i
    by_cases h : n = p.1
    · simp [findG, getG, h]
    · have := ih (i + 1)
      simp only [findG, if_neg h, this]
      simp [getG, h]
def EntsG (es : Array MapEntry) (m : List (κ × Value)) : Prop := es.toList.map (fun e => (e.key, e.val)) = m.map fun p => (k0.kv p.1, p.2)
theorem EntsG.size {es : Array MapEntry} {m : List (κ × Value)} (h : EntsG k0 es m) : es.size = m.length := by
  have := congrArg List.length h
  simpa using this
theorem findNow_G {T : TypeDesc} (hT : k0.fits T) (n : κ) : ∀ (es : List MapEntry) (m : List (κ × Value)) (i : Nat), es.map (fun e => (e.key, e.val)) = m.map (fun p => (k0.kv p.1, p.2)) → Instr.findNow T (k0.kv n) es i = some (findG m n i)
  | [], [], i, _ => rfl
  | [], _ :: _, i, h => by simp at h
  | _ :: _, [], i, h => by simp at h
  | e :: es, p :: m, i, h => by
    simp only [List.map_cons, List.cons.injEq, Prod.mk.injEq] at h
    obtain ⟨⟨h1, h2⟩, h3⟩ := h
    rw [Instr.findNow, h1, k0.same T hT]
    by_cases hn : n = p.1
    · simp [findG, hn, h2]
    · simp only [decide_eq_false hn, findG, if_neg hn]
      exact findNow_G hT n es m (i + 1) h3
theorem run_findKey_G {w : World} {KT : TypeId} {T : TypeDesc} {n : κ} {es : Array MapEntry} {m : List (κ × Value)} (hK : P.underlying KT = some T) (hT : k0.fits T) (h : EntsG k0 es m) :
    (Instr.findKey KT (k0.kv n) es.toList).run P w = .ok (findG m n 0) w := by
  simp [Instr.findKey, run_underlying hK, findNow_G k0 hT n _ _ 0 h]
/-- C is a map of our own -/
def MpG (b : Nat) (m : List (κ × Value)) (C : List Ck) : Prop := ∃ es clock, C = [⟨b, .map es clock, true⟩] ∧ EntsG k0 es m ∧ (∀ e ∈ es.toList, e.born < clock) ∧ (es.toList.map (·.born)).Nodup
theorem Hd.makeMapG {T : TypeId} (k : ∀ b C, MpG k0 b [] C → K (.value (.map (some b))) (C ++ H)) : Hd P ⟨d, .makeMap T none, ty, pos, aft, g⟩ l H K := fun a w R kn s => by
  refine ⟨_, _, ⟨w.heap.size, .map #[] 0, true⟩ :: H, ?_, s.push (.map #[] 0) true, ⟨rfl, rfl, rfl, by simp, by first | exact Nat.le_refl _ | exact Nat.le_succ _⟩, k w.heap.size [⟨w.heap.size, .map #[] 0, true⟩] ⟨#[], 0, rfl, rfl, by simp, by simp⟩⟩
  simp [execOp, Instr.makeMap]
variable {k0}
theorem MpG.holds {w : World} {b : Nat} {m : List (κ × Value)} {C R : List Ck} (h : MpG k0 b m C) (s : Sat w (C ++ R)) : ∃ es clock, w.heap[b]? = some (.map es clock) ∧ EntsG k0 es m := by
  obtain ⟨es, clock, rfl, h1, _⟩ := h
  exact ⟨es, clock, s.holds _ (List.mem_append_left R List.mem_cons_self), h1⟩
/-- 'v, has := m[k]', 'm[k]' -/
theorem Hd.lookupG {T KT ET : TypeId} {TD : TypeDesc} {x y : Operand} {b : Nat} {n : κ} {m : List (κ × Value)} {z u : Value} {C D : List Ck} {two : Bool} (hT : mapOf P T = some (KT, ET)) (hK : P.underlying KT = some TD) (hTD : k0.fits TD) (hz0 : (P.info? ET).bind (·.zero) = some z)
    (hx : ev l x = some (.map (some b))) (hy : ev l y = some (k0.kv n)) (hm : MpG k0 b m C) (hH : Sp H C D) (hu : (if two then Value.tuple #[(getG m n).getD z, .bool (getG m n).isSome] else (getG m n).getD z) = u) (k : K (.value u) H) :
    Hd P ⟨d, .lookup T x y two, ty, pos, aft, g⟩ l H K := fun a w R kn s => by
  subst hu
  have hz : ∀ w, (zeroValue ET).run P w = .ok z w := fun w => by
    obtain ⟨i, hi, hzi⟩ := Option.bind_eq_some_iff.1 hz0
    simp [zeroValue, typeInfo, hi, hzi]
  obtain ⟨es, clock, h1, h2⟩ := hm.holds (by have := s.perm (hH.p.append_right R); simpa using this : Sat w (C ++ (D ++ R)))
  refine ⟨_, w, H, ?_, s, Kept.refl w, k⟩
  have hg := findG_get m n 0
  cases hf : findG m n 0 with
  | none =>
    have hg' : getG m n = none := by rw [← hg, hf]; rfl
    cases two <;> simp [execOp, kn.ev hx, kn.ev hy, Instr.lookup, run_underlying (underlying_map hT), run_getObj_m h1 ⟨_, _, rfl⟩, k0.check hK hTD, run_findKey_G k0 hK hTD h2, hf, hz, hg']
  | some p =>
    have hg' : getG m n = some p.2 := by rw [← hg, hf]; rfl
    cases two <;> simp [execOp, kn.ev hx, kn.ev hy, Instr.lookup, run_underlying (underlying_map hT), run_getObj_m h1 ⟨_, _, rfl⟩, k0.check hK hTD, run_findKey_G k0 hK hTD h2, hf, hg']
theorem findG_lt (m : List (κ × Value)) (n : κ) : ∀ i j v, findG m n i = some (j, v) → i ≤ j ∧ j < i + m.length ∧ ∃ p, m[j - i]? = some p ∧ n = p.1 ∧ v = p.2 := by
  induction m with
  | nil => intro i j v h; cases h
  | cons p m ih =>
    intro i j v h
    by_cases hn : n = p.1
    · simp only [findG, if_pos hn, Option.some.injEq, Prod.mk.injEq] at h
      obtain ⟨rfl, rfl⟩ := h
      exact ⟨Nat.le_refl _, by simp, p, by simp, hn, rfl⟩
    · simp only [findG, if_neg hn] at h
      obtain ⟨h1, h2, q, h3, h4⟩ := ih (i + 1) j v h
      refine ⟨by omega, by simp; omega, q, ?_, h4⟩
      rw [show j - i = (j - (i + 1)) + 1 by omega]
      simpa using h3
theorem setG_at (n : κ) (v : Value) : ∀ (m : List (κ × Value)) (k i : Nat) (u : Value), findG m n k = some (i, u) → (m.map (·.1)).Nodup → (m.map fun p => if n = p.1 then (p.1, v) else p) = m.modify (i - k) fun p => (p.1, v)
  | [], k, i, u, h, _ => by cases h
  | p :: m, k, i, u, h, hn => by
    simp only [List.map_cons, List.nodup_cons] at hn
    by_cases e : n = p.1
    · simp only [findG, if_pos e, Option.some.injEq, Prod.mk.injEq] at h
      obtain ⟨rfl, rfl⟩ := h
      have hm : (m.map fun p => if n = p.1 then (p.1, v) else p) = m := by
        rw [List.map_congr_left (g := id) (fun q hq => ?_), List.map_id]
        rw [if_neg]; · rfl
        intro e2
        exact hn.1 (List.mem_map.2 ⟨q, hq, by rw [← e2, e]⟩)
      rw [List.map_cons, if_pos e, hm, Nat.sub_self]
      rfl
    · simp only [findG, if_neg e] at h
      have ih := setG_at n v m (k + 1) i u h hn.2
      obtain ⟨h1, _⟩ := findG_lt m n (k + 1) i u h
      rw [List.map_cons, if_neg e, ih, show i - k = (i - (k + 1)) + 1 by omega]
      rfl
theorem delG_erase (n : κ) : ∀ (m : List (κ × Value)) (k i : Nat) (v : Value), findG m n k = some (i, v) → (m.map (·.1)).Nodup → delG m n = m.eraseIdx (i - k)
  | [], k, i, v, h, _ => by cases h
  | p :: m, k, i, v, h, hn => by
    simp only [List.map_cons, List.nodup_cons] at hn
    by_cases e : n = p.1
    · simp only [findG, if_pos e, Option.some.injEq, Prod.mk.injEq] at h
      obtain ⟨rfl, rfl⟩ := h
      rw [Nat.sub_self]
      have hm : ∀ q ∈ m, decide (n ≠ q.1) = true := by
        intro q hq
        simp only [decide_eq_true_eq]
        intro e2
        exact hn.1 (List.mem_map.2 ⟨q, hq, by rw [← e2, e]⟩)
      simp only [delG, List.eraseIdx_zero, List.tail_cons]
      rw [List.filter_cons_of_neg (by simp [e]), List.filter_eq_self.2 hm]
    · simp only [findG, if_neg e] at h
      have ih := delG_erase n m (k + 1) i v h hn.2
      obtain ⟨h1, _⟩ := findG_lt m n (k + 1) i v h
      have : delG (p :: m) n = p :: delG m n := by
        simp only [delG]
        rw [List.filter_cons_of_pos (by simp [e])]
      rw [this, ih, show i - k = (i - (k + 1)) + 1 by omega]
      rfl
theorem run_keyStays {w : World} (a : κ) : (Instr.keyThatStays (k0.kv a) (k0.kv a)).run P w = .ok (k0.kv a) w := by
  simp [Instr.keyThatStays, k0.bits]
/-- 'm[k] = v' -/
theorem Hd.mapSet {T KT ET : TypeId} {TD : TypeDesc} {x y z : Operand} {b : Nat} {n : κ} {v : Value} {m : List (κ × Value)} {C D : List Ck} (hT : mapOf P T = some (KT, ET)) (hK : P.underlying KT = some TD) (hTD : k0.fits TD)
    (hx : ev l x = some (.map (some b))) (hy : ev l y = some (k0.kv n)) (hz : ev l z = some v) (hm : MpG k0 b m C) (hnd : (m.map (·.1)).Nodup) (hH : Sp H C D) (k : ∀ C', MpG k0 b (setG m n v) C' → K .skip (C' ++ D)) :
    Hd P ⟨d, .mapUpdate T x y z, ty, pos, aft, g⟩ l H K := fun a w R kn s => by
  obtain ⟨es, clock, rfl, h2, h3, h4⟩ := hm
  have s' : Sat w (⟨b, .map es clock, true⟩ :: (D ++ R)) := by have := s.perm (hH.p.append_right R); simpa using this
  have h1 := s'.holds _ List.mem_cons_self
  have hg := findG_get m n 0
  cases hf : findG m n 0 with
  | none =>
    rw [hf] at hg
    have e : setG m n v = m ++ [(n, v)] := by unfold setG; rw [← hg]; rfl
    refine ⟨.skip, { w with heap := w.heap.setIfInBounds b (.map (es.push { key := k0.kv n, val := v, born := clock }) (clock + 1)) }, [⟨b, .map (es.push { key := k0.kv n, val := v, born := clock }) (clock + 1), true⟩] ++ D, ?_, s'.setMap, kept_setMap _ _ _, k _ ⟨_, _, rfl, ?_, ?_, ?_⟩⟩
    · simp only [execOp, kn.ev hx, kn.ev hy, kn.ev hz, Instr.mapUpdate]
      simp [run_underlying (underlying_map hT), run_getObj_m h1 ⟨_, _, rfl⟩, k0.check hK hTD, run_findKey_G k0 hK hTD h2, hf, run_setObj_m _ h1]
    · rw [e]
      unfold EntsG at h2 ⊢
      simp [h2]
    · intro e he
      simp at he
      rcases he with he | rfl
      · have := h3 e (by simpa using he); omega
      · simp
    · simp only [Array.toList_push, List.map_append, List.map_cons, List.map_nil]
      rw [List.nodup_append]
      refine ⟨h4, by simp, ?_⟩
      intro x hx y hy
      simp at hx hy
      obtain ⟨e, he, rfl⟩ := hx
      have := h3 e (by simpa using he)
      omega
  | some p =>
    obtain ⟨i, u⟩ := p
    rw [hf] at hg
    obtain ⟨_, hi, q, hq, hnq, huq⟩ := findG_lt m n 0 i u hf
    have hsz := h2.size
    have hi2 : i < es.size := by omega
    have e : setG m n v = m.modify i fun p => (p.1, v) := by
      unfold setG; rw [← hg]
      have := setG_at n v m 0 i u hf hnd
      rw [Nat.sub_zero] at this
      exact this
    have hkey : es[i].key = k0.kv n := by
      have h5 := congrArg (fun l => l[i]?) h2
      simp only [List.getElem?_map, Array.getElem?_toList] at h5
      rw [Nat.sub_zero] at hq
      rw [hq, Array.getElem?_eq_getElem hi2] at h5
      simp only [Option.map_some, Option.some.injEq, Prod.mk.injEq] at h5
      rw [h5.1, hnq]
    refine ⟨.skip, { w with heap := w.heap.setIfInBounds b (.map (es.modify i fun e => { e with key := k0.kv n, val := v }) clock) }, [⟨b, .map (es.modify i fun e => { e with key := k0.kv n, val := v }) clock, true⟩] ++ D, ?_, s'.setMap, kept_setMap _ _ _, k _ ⟨_, clock, rfl, ?_, ?_, ?_⟩⟩
    · simp only [execOp, kn.ev hx, kn.ev hy, kn.ev hz, Instr.mapUpdate]
      simp [run_underlying (underlying_map hT), run_getObj_m h1 ⟨_, _, rfl⟩, k0.check hK hTD, run_findKey_G k0 hK hTD h2, hf, run_setObj_m _ h1, hi2, hkey, run_keyStays]
    · rw [e]
      unfold EntsG at h2 ⊢
      apply List.ext_getElem?
      intro j
      have h5 := congrArg (fun l => l[j]?) h2
      simp only [List.getElem?_map, Array.getElem?_toList] at h5
      simp only [List.getElem?_map, Array.getElem?_toList, Array.getElem?_modify, List.getElem?_modify]
      rw [Nat.sub_zero] at hq
      by_cases hij : i = j
      · subst hij
        simp only [if_true, hq, Array.getElem?_eq_getElem hi2, Option.map_some, hnq]
        rfl
      · simp only [if_neg hij]
        simpa using h5
    · intro e he
      obtain ⟨j, hj, rfl⟩ := List.getElem_of_mem he
      have hj2 : j < es.size := by simpa using hj
      have h6 := h3 es[j] (by simp)
      simp only [Array.getElem_toList, Array.getElem_modify]
      split
      · exact h6
      · exact h6
    · have : ((es.modify i fun e => { e with key := k0.kv n, val := v }).toList.map (·.born)) = es.toList.map (·.born) := by
        apply List.ext_getElem?
        intro j
        simp only [List.getElem?_map, Array.getElem?_toList, Array.getElem?_modify]
        split
        · cases es[j]? <;> rfl
        · rfl
      rw [this]; exact h4
/-- 'delete(m, k)' -/
theorem Hd.deleteG {T KT ET : TypeId} {TD : TypeDesc} {Ts : Array TypeId} {x y : Operand} {b : Nat} {n : κ} {m : List (κ × Value)} {C D : List Ck} (hT : mapOf P T = some (KT, ET)) (hK : P.underlying KT = some TD) (hTD : k0.fits TD) (hTs : Ts[0]? = some T)
    (hx : ev l x = some (.map (some b))) (hy : ev l y = some (k0.kv n)) (hm : MpG k0 b m C) (hnd : (m.map (·.1)).Nodup) (hH : Sp H C D) (k : ∀ C', MpG k0 b (delG m n) C' → K (.value (.tuple #[])) (C' ++ D)) :
    Hd P ⟨d, .call ⟨.builtin .delete, #[x, y], Ts⟩, ty, pos, aft, g⟩ l H K := fun a w R kn s => by
  obtain ⟨es, clock, rfl, h2, h3, h4⟩ := hm
  have s' : Sat w (⟨b, .map es clock, true⟩ :: (D ++ R)) := by have := s.perm (hH.p.append_right R); simpa using this
  have h1 := s'.holds _ List.mem_cons_self
  cases hf : findG m n 0 with
  | none =>
    have hd : delG m n = m := by
      unfold delG
      apply List.filter_eq_self.2
      intro p hp
      have hg := findG_get m n 0
      rw [hf] at hg
      have : m.find? (fun p => decide (n = p.1)) = none := by
        unfold getG at hg
        cases h : m.find? (fun p => decide (n = p.1)) with
        | none => rfl
        | some q => rw [h] at hg; cases hg
      have := List.find?_eq_none.1 this p hp
      simpa using this
    refine ⟨_, { w with heap := w.heap.setIfInBounds b (.map es clock) }, [⟨b, .map es clock, true⟩] ++ D, ?_, s'.setMap, kept_setMap _ _ _, k _ ⟨es, clock, rfl, by rw [hd]; exact h2, h3, h4⟩⟩
    simp only [execOp, resolve, invoke, builtin, kn.ev hx, kn.ev hy, Builtin.delete_]
    simp [hTs, run_underlying (underlying_map hT), run_getObj_m h1 ⟨_, _, rfl⟩, k0.check hK hTD, run_findKey_G k0 hK hTD h2, hf, run_setObj_m _ h1, kn.ev hx, kn.ev hy]
  | some p =>
    obtain ⟨i, v⟩ := p
    obtain ⟨_, hi, q, hq, hnq, _⟩ := findG_lt m n 0 i v hf
    have hsz := h2.size
    have hi2 : i < es.size := by omega
    have hde := delG_erase n m 0 i v hf hnd
    rw [Nat.sub_zero] at hde
    refine ⟨_, { w with heap := w.heap.setIfInBounds b (.map (es.eraseIdxIfInBounds i) clock) }, [⟨b, .map (es.eraseIdxIfInBounds i) clock, true⟩] ++ D, ?_, s'.setMap, kept_setMap _ _ _, k _ ⟨_, clock, rfl, ?_, ?_, ?_⟩⟩
    · simp only [execOp, resolve, invoke, builtin, kn.ev hx, kn.ev hy, Builtin.delete_]
      simp [hTs, run_underlying (underlying_map hT), run_getObj_m h1 ⟨_, _, rfl⟩, k0.check hK hTD, run_findKey_G k0 hK hTD h2, hf, run_setObj_m _ h1, kn.ev hx, kn.ev hy]
    · unfold EntsG at h2 ⊢
      rw [toList_erase es i hi2, hde, map_erase, map_erase, h2]
    · intro e he
      rw [toList_erase es i hi2] at he
      exact h3 e (List.mem_of_mem_eraseIdx he)
    · rw [toList_erase es i hi2]
      exact h4.sublist ((List.eraseIdx_sublist _ _).map _)
end

end Go.SL
