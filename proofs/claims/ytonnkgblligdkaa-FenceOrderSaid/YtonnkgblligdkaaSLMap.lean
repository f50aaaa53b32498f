/-
  Rules on maps of our own whose keys are numbers.
-/
import Derived.Test.YtonnkgblligdkaaSLMore3
set_option linter.unusedVariables false
set_option linter.unusedSimpArgs false
namespace Go.SL

variable {P : Program} {l : Sl} {H : List Ck} {d : Option Nat} {ty : TypeId} {pos : String} {aft : Array Edge} {g : Option (Nat × Bool)}

/-- a map's type: its keys' and its elements' -/
def mapOf (P : Program) (T : TypeId) : Option (TypeId × TypeId) := match P.underlying T with | some (.map k e) => some (k, e) | _ => none
theorem underlying_map {T k e : TypeId} (h : mapOf P T = some (k, e)) : P.underlying T = some (.map k e) := by
  unfold mapOf at h
  split at h
  · rename_i k' e' hu
    simp only [Option.some.injEq, Prod.mk.injEq] at h
    rw [hu, h.1, h.2]
  · cases h
/-- where a number stands among the keys -/
def findM : List (Int × Value) → Int → Nat → Option (Nat × Value)
  | [], _, _ => none
  | p :: m, n, i => if n = p.1 then some (i, p.2) else findM m n (i + 1)
def getM (m : List (Int × Value)) (n : Int) : Option Value := (m.find? fun p => decide (n = p.1)).map (·.2)
def setM (m : List (Int × Value)) (n : Int) (v : Value) : List (Int × Value) := if (getM m n).isSome then m.map (fun p => if n = p.1 then (p.1, v) else p) else m ++ [(n, v)]
def delM (m : List (Int × Value)) (n : Int) : List (Int × Value) := m.filter fun p => decide (n ≠ p.1)
theorem findM_get (m : List (Int × Value)) (n : Int) : ∀ i, (findM m n i).map (·.2) = getM m n := by
  induction m with
  | nil => intro i; rfl
  | cons p m ih =>
    intro i
    by_cases h : n = p.1
    · simp [findM, getM, h]
    · have := ih (i + 1)
      simp only [findM, if_neg h, this]
      simp [getM, h]
/-- the entries of a map whose keys are numbers of a kind -/
def Ents (kd : IntKind) (es : Array MapEntry) (m : List (Int × Value)) : Prop := es.toList.map (fun e => (e.key, e.val)) = m.map fun p => (Value.int kd p.1, p.2)
theorem Ents.size {kd : IntKind} {es : Array MapEntry} {m : List (Int × Value)} (h : Ents kd es m) : es.size = m.length := by
  have := congrArg List.length h
  simpa using this
theorem findNow_ints (kd kt : IntKind) (n : Int) : ∀ (es : List MapEntry) (m : List (Int × Value)) (i : Nat), es.map (fun e => (e.key, e.val)) = m.map (fun p => (Value.int kd p.1, p.2)) → Instr.findNow (.int kt) (.int kd n) es i = some (findM m n i)
  | [], [], i, _ => rfl
  | [], _ :: _, i, h => by simp at h
  | _ :: _, [], i, h => by simp at h
  | e :: es, p :: m, i, h => by
    simp only [List.map_cons, List.cons.injEq, Prod.mk.injEq] at h
    obtain ⟨⟨h1, h2⟩, h3⟩ := h
    by_cases hn : n = p.1
    · simp [Instr.findNow, Instr.sameNow, h1, findM, hn, h2]
    · have hb : (n == p.1) = false := by simp [hn]
      simp [Instr.findNow, Instr.sameNow, h1, findM, hn, hb, findNow_ints kd kt n es m (i + 1) h3]
theorem run_findKey_ints {w : World} {K : TypeId} {kt kd : IntKind} {n : Int} {es : Array MapEntry} {m : List (Int × Value)} (hK : P.underlying K = some (.int kt)) (h : Ents kd es m) :
    (Instr.findKey K (.int kd n) es.toList).run P w = .ok (findM m n 0) w := by
  simp [Instr.findKey, run_underlying hK, findNow_ints kd kt n _ _ 0 h]
theorem run_checkKey_int {w : World} {K : TypeId} {kt kd : IntKind} {n : Int} {b : Bool} (hK : P.underlying K = some (.int kt)) : (Instr.checkKey b 10000 K (.int kd n)).run P w = .ok () w := by
  show (Instr.checkKey b (9999 + 1) K (.int kd n)).run P w = _
  rw [Instr.checkKey]
  simp [run_underlying hK]
theorem run_getObj_m {w : World} {r : Nat} {o : Obj} (hb : w.heap[r]? = some o) (hm : ∃ es clock, o = .map es clock) : (getObj r).run P w = .ok o w := by
  obtain ⟨es, clock, rfl⟩ := hm
  simp [getObj, Sem.run, hb]
theorem run_setObj_m {w : World} {r : Nat} {es : Array MapEntry} {clock : Nat} (o : Obj) (hb : w.heap[r]? = some (.map es clock)) : (setObj r o).run P w = .ok () { w with heap := w.heap.setIfInBounds r o } := by
  simp only [setObj, Sem.run, hb]

/-- C is a map of our own -/
def Mp (b : Nat) (kd : IntKind) (m : List (Int × Value)) (C : List Ck) : Prop := ∃ es clock, C = [⟨b, .map es clock, true⟩] ∧ Ents kd es m ∧ (∀ e ∈ es.toList, e.born < clock) ∧ (es.toList.map (·.born)).Nodup

theorem Hd.makeMap {T : TypeId} {kd : IntKind} {K : Next → List Ck → Prop} (k : ∀ b C, Mp b kd [] C → K (.value (.map (some b))) (C ++ H)) : Hd P ⟨d, .makeMap T none, ty, pos, aft, g⟩ l H K := fun a w R kn s => by
  refine ⟨_, _, ⟨w.heap.size, .map #[] 0, true⟩ :: H, ?_, s.push (.map #[] 0) true, ⟨rfl, rfl, rfl, by simp, by first | exact Nat.le_refl _ | exact Nat.le_succ _⟩, k w.heap.size [⟨w.heap.size, .map #[] 0, true⟩] ⟨#[], 0, rfl, rfl, by simp, by simp⟩⟩
  simp [execOp, Instr.makeMap]

theorem Mp.holds {w : World} {b : Nat} {kd : IntKind} {m : List (Int × Value)} {C R : List Ck} (h : Mp b kd m C) (s : Sat w (C ++ R)) : ∃ es clock, w.heap[b]? = some (.map es clock) ∧ Ents kd es m := by
  obtain ⟨es, clock, rfl, h1, _⟩ := h
  exact ⟨es, clock, s.holds _ (List.mem_append_left R List.mem_cons_self), h1⟩

/-- 'v, has := m[k]' -/
theorem Hd.lookup2 {T KT ET : TypeId} {x y : Operand} {b : Nat} {kd kt : IntKind} {n : Int} {m : List (Int × Value)} {z : Value} {C D : List Ck} {K : Next → List Ck → Prop} (hT : mapOf P T = some (KT, ET)) (hK : P.underlying KT = some (.int kt)) (hz0 : (P.info? ET).bind (·.zero) = some z)
    (hx : ev l x = some (.map (some b))) (hy : ev l y = some (.int kd n)) (hm : Mp b kd m C) (hH : H.Perm (C ++ D)) (k : K (.value (.tuple #[(getM m n).getD z, .bool (getM m n).isSome])) H) :
    Hd P ⟨d, .lookup T x y true, ty, pos, aft, g⟩ l H K := fun a w R kn s => by
  have hz : ∀ w, (zeroValue ET).run P w = .ok z w := fun w => by
    obtain ⟨i, hi, hzi⟩ := Option.bind_eq_some_iff.1 hz0
    simp [zeroValue, typeInfo, hi, hzi]
  obtain ⟨es, clock, h1, h2⟩ := hm.holds (by have := s.perm (hH.append_right R); simpa using this : Sat w (C ++ (D ++ R)))
  refine ⟨_, w, H, ?_, s, Kept.refl w, k⟩
  have hg := findM_get m n 0
  cases hf : findM m n 0 with
  | none =>
    have hg' : getM m n = none := by rw [← hg, hf]; rfl
    simp [execOp, kn.ev hx, kn.ev hy, Instr.lookup, run_underlying (underlying_map hT), run_getObj_m h1 ⟨_, _, rfl⟩, run_checkKey_int hK, run_findKey_ints hK h2, hf, hz, hg']
  | some p =>
    have hg' : getM m n = some p.2 := by rw [← hg, hf]; rfl
    simp [execOp, kn.ev hx, kn.ev hy, Instr.lookup, run_underlying (underlying_map hT), run_getObj_m h1 ⟨_, _, rfl⟩, run_checkKey_int hK, run_findKey_ints hK h2, hf, hg']

/-- the world behind a change of our own map -/
theorem Sat.setMap {w : World} {b : Nat} {o o' : Obj} {D : List Ck} (s : Sat w (⟨b, o, true⟩ :: D)) : Sat { w with heap := w.heap.setIfInBounds b o' } (⟨b, o', true⟩ :: D) := by
  have hb : b < w.heap.size := s.lt (c := ⟨b, o, true⟩) List.mem_cons_self
  exact s.write (by simp [hb]) (fun k hk => by simp [Array.getElem?_setIfInBounds, Ne.symm hk])
theorem kept_setMap (w : World) (b : Nat) (o : Obj) : Kept w { w with heap := w.heap.setIfInBounds b o } := ⟨rfl, rfl, rfl, by simp, by first | exact Nat.le_refl _ | exact Nat.le_succ _⟩

theorem findM_lt (m : List (Int × Value)) (n : Int) : ∀ i j v, findM m n i = some (j, v) → i ≤ j ∧ j < i + m.length ∧ ∃ p, m[j - i]? = some p ∧ n = p.1 ∧ v = p.2 := by
  induction m with
  | nil => intro i j v h; cases h
  | cons p m ih =>
    intro i j v h
    by_cases hn : n = p.1
    · simp only [findM, if_pos hn, Option.some.injEq, Prod.mk.injEq] at h
      obtain ⟨rfl, rfl⟩ := h
      exact ⟨Nat.le_refl _, by simp, p, by simp, hn, rfl⟩
    · simp only [findM, if_neg hn] at h
      obtain ⟨h1, h2, q, h3, h4⟩ := ih (i + 1) j v h
      refine ⟨by omega, by simp; omega, q, ?_, h4⟩
      rw [show j - i = (j - (i + 1)) + 1 by omega]
      simpa using h3
theorem sameBits_int (kd : IntKind) (n : Int) : Instr.sameBits 10000 (.int kd n) (.int kd n) = true := by
  show Instr.sameBits (9999 + 1) (.int kd n) (.int kd n) = true
  simp [Instr.sameBits]

/-- 'm[k] = v' for a key that is not there -/
theorem Hd.mapNew {T KT ET : TypeId} {x y z : Operand} {b : Nat} {kd kt : IntKind} {n : Int} {v : Value} {m : List (Int × Value)} {C D : List Ck} {K : Next → List Ck → Prop} (hT : mapOf P T = some (KT, ET)) (hK : P.underlying KT = some (.int kt))
    (hx : ev l x = some (.map (some b))) (hy : ev l y = some (.int kd n)) (hz : ev l z = some v) (hm : Mp b kd m C) (hn : getM m n = none) (hH : H.Perm (C ++ D)) (k : ∀ C', Mp b kd (m ++ [(n, v)]) C' → K .skip (C' ++ D)) :
    Hd P ⟨d, .mapUpdate T x y z, ty, pos, aft, g⟩ l H K := fun a w R kn s => by
  obtain ⟨es, clock, rfl, h2, h3, h4⟩ := hm
  have s' : Sat w (⟨b, .map es clock, true⟩ :: (D ++ R)) := by have := s.perm (hH.append_right R); simpa using this
  have h1 := s'.holds _ List.mem_cons_self
  have hf : findM m n 0 = none := by
    have := findM_get m n 0
    rw [hn] at this
    cases h : findM m n 0 with
    | none => rfl
    | some p => rw [h] at this; cases this
  refine ⟨.skip, { w with heap := w.heap.setIfInBounds b (.map (es.push { key := .int kd n, val := v, born := clock }) (clock + 1)) }, [⟨b, .map (es.push { key := .int kd n, val := v, born := clock }) (clock + 1), true⟩] ++ D, ?_, s'.setMap, kept_setMap _ _ _, k _ ⟨_, _, rfl, ?_, ?_, ?_⟩⟩
  · simp only [execOp, kn.ev hx, kn.ev hy, kn.ev hz, Instr.mapUpdate]
    simp [run_underlying (underlying_map hT), run_getObj_m h1 ⟨_, _, rfl⟩, run_checkKey_int hK, run_findKey_ints hK h2, hf, run_setObj_m _ h1]
  · unfold Ents at h2 ⊢
    simp [h2]
  · intro e he
    simp at he
    rcases he with he | rfl
    · have := h3 e (by simpa using he); omega
    · simp
  · simp only [Array.toList_push, List.map_append, List.map_cons, List.map_nil]
    rw [List.nodup_append]
    refine ⟨h4, by simp, ?_⟩
    intro x hx y hy
    simp at hx hy
    obtain ⟨e, he, rfl⟩ := hx
    have := h3 e (by simpa using he)
    omega

theorem delM_erase (n : Int) : ∀ (m : List (Int × Value)) (k i : Nat) (v : Value), findM m n k = some (i, v) → (m.map (·.1)).Nodup → delM m n = m.eraseIdx (i - k)
  | [], k, i, v, h, _ => by cases h
  | p :: m, k, i, v, h, hn => by
    simp only [List.map_cons, List.nodup_cons] at hn
    by_cases e : n = p.1
    · simp only [findM, if_pos e, Option.some.injEq, Prod.mk.injEq] at h
      obtain ⟨rfl, rfl⟩ := h
      rw [Nat.sub_self]
      have hm : ∀ q ∈ m, decide (n ≠ q.1) = true := by
        intro q hq
        simp only [decide_eq_true_eq]
        intro e2
        exact hn.1 (List.mem_map.2 ⟨q, hq, by rw [← e2, e]⟩)
      simp only [delM, List.eraseIdx_zero, List.tail_cons]
      rw [List.filter_cons_of_neg (by simp [e]), List.filter_eq_self.2 hm]
    · simp only [findM, if_neg e] at h
      have ih := delM_erase n m (k + 1) i v h hn.2
      obtain ⟨h1, _⟩ := findM_lt m n (k + 1) i v h
      have : delM (p :: m) n = p :: delM m n := by
        simp only [delM]
        rw [List.filter_cons_of_pos (by simp [e])]
      rw [this, ih, show i - k = (i - (k + 1)) + 1 by omega]
      rfl
theorem map_erase {α β : Type} (f : α → β) : ∀ (l : List α) (i : Nat), (l.eraseIdx i).map f = (l.map f).eraseIdx i
  | [], _ => rfl
  | _ :: _, 0 => rfl
  | a :: l, i + 1 => by simp only [List.eraseIdx_cons_succ, List.map_cons, map_erase f l i]
theorem toList_erase (es : Array MapEntry) (i : Nat) (h : i < es.size) : (es.eraseIdxIfInBounds i).toList = es.toList.eraseIdx i := by
  simp [Array.eraseIdxIfInBounds, h]

/-- 'delete(m, k)' -/
theorem Hd.delete {T KT ET : TypeId} {Ts : Array TypeId} {x y : Operand} {b : Nat} {kd kt : IntKind} {n : Int} {m : List (Int × Value)} {C D : List Ck} {K : Next → List Ck → Prop} (hT : mapOf P T = some (KT, ET)) (hK : P.underlying KT = some (.int kt)) (hTs : Ts[0]? = some T)
    (hx : ev l x = some (.map (some b))) (hy : ev l y = some (.int kd n)) (hm : Mp b kd m C) (hnd : (m.map (·.1)).Nodup) (hH : H.Perm (C ++ D)) (k : ∀ C', Mp b kd (delM m n) C' → K (.value (.tuple #[])) (C' ++ D)) :
    Hd P ⟨d, .call ⟨.builtin .delete, #[x, y], Ts⟩, ty, pos, aft, g⟩ l H K := fun a w R kn s => by
  obtain ⟨es, clock, rfl, h2, h3, h4⟩ := hm
  have s' : Sat w (⟨b, .map es clock, true⟩ :: (D ++ R)) := by have := s.perm (hH.append_right R); simpa using this
  have h1 := s'.holds _ List.mem_cons_self
  cases hf : findM m n 0 with
  | none =>
    have hd : delM m n = m := by
      unfold delM
      apply List.filter_eq_self.2
      intro p hp
      have hg := findM_get m n 0
      rw [hf] at hg
      have : m.find? (fun p => decide (n = p.1)) = none := by
        unfold getM at hg
        cases h : m.find? (fun p => decide (n = p.1)) with
        | none => rfl
        | some q => rw [h] at hg; cases hg
      have := List.find?_eq_none.1 this p hp
      simpa using this
    refine ⟨_, { w with heap := w.heap.setIfInBounds b (.map es clock) }, [⟨b, .map es clock, true⟩] ++ D, ?_, s'.setMap, kept_setMap _ _ _, k _ ⟨es, clock, rfl, by rw [hd]; exact h2, h3, h4⟩⟩
    simp only [execOp, resolve, invoke, builtin, kn.ev hx, kn.ev hy, Builtin.delete_]
    simp [hTs, run_underlying (underlying_map hT), run_getObj_m h1 ⟨_, _, rfl⟩, run_checkKey_int hK, run_findKey_ints hK h2, hf, run_setObj_m _ h1, kn.ev hx, kn.ev hy]
  | some p =>
    obtain ⟨i, v⟩ := p
    obtain ⟨_, hi, q, hq, hnq, _⟩ := findM_lt m n 0 i v hf
    have hsz := h2.size
    have hi2 : i < es.size := by omega
    have hde := delM_erase n m 0 i v hf hnd
    rw [Nat.sub_zero] at hde
    refine ⟨_, { w with heap := w.heap.setIfInBounds b (.map (es.eraseIdxIfInBounds i) clock) }, [⟨b, .map (es.eraseIdxIfInBounds i) clock, true⟩] ++ D, ?_, s'.setMap, kept_setMap _ _ _, k _ ⟨_, clock, rfl, ?_, ?_, ?_⟩⟩
    · simp only [execOp, resolve, invoke, builtin, kn.ev hx, kn.ev hy, Builtin.delete_]
      simp [hTs, run_underlying (underlying_map hT), run_getObj_m h1 ⟨_, _, rfl⟩, run_checkKey_int hK, run_findKey_ints hK h2, hf, run_setObj_m _ h1, kn.ev hx, kn.ev hy]
    · unfold Ents at h2 ⊢
      rw [toList_erase es i hi2, hde, map_erase, map_erase, h2]
    · intro e he
      rw [toList_erase es i hi2] at he
      exact h3 e (List.mem_of_mem_eraseIdx he)
    · rw [toList_erase es i hi2]
      exact h4.sublist ((List.eraseIdx_sublist _ _).map _)

theorem unwanted_undef {ops : Array Oper} {d : Option Nat} {j dj : Nat} {b : Bool} {op : Op} {tmps : Array Value} (hj : (ops[j]?).bind (·.dst) = some dj) (hv : tmps.getD dj undef = undef) :
    Region.wanted ⟨d, op, ty, pos, aft, some (j, b)⟩ (yielded ops tmps) = false := by
  simp only [Region.wanted, yielded]
  cases ho : ops[j]? with
  | none => simp
  | some oj =>
    simp [ho] at hj
    simp only [Array.getD_eq_getD_getElem?] at hv
    cases ht : tmps[dj]? with
    | none => simp [hj, ht]
    | some u =>
      rw [ht] at hv
      simp at hv
      subst hv
      simp [hj, ht, undef]
/-- Under a guard that was not asked. -/
theorem WL.gu {n : Nat} {w0 : World} {R : List Ck} {ops : Array Oper} {Q : Exit → Act → World → Prop} {dd j : Nat} {b : Bool} {dj : Nat} {op : Op} {rest : List Oper} (hj : (ops[j]?).bind (·.dst) = some dj) (hg : getv l dj = some undef)
    (hd : Nat.blt dd n = true) (h : WL P n w0 R ops Q rest ((dd, undef) :: l) H) : WL P n w0 R ops Q (⟨some dd, op, ty, pos, aft, some (j, b)⟩ :: rest) l H := by
  intro a w i
  refine wpList_step fun K hK => ?_
  have hw : Region.wanted ⟨some dd, op, ty, pos, aft, some (j, b)⟩ (yielded ops a.tmps) = false := unwanted_undef hj (i.kn dj _ hg)
  rw [hw]
  exact hK _ _ (h _ _ (i.put hd undef))
/-- an operation whose value goes nowhere -/
theorem WL.h0 {n : Nat} {w0 : World} {R : List Ck} {ops : Array Oper} {Q : Exit → Act → World → Prop} {op : Op} {rest : List Oper}
    (hh : Hd P ⟨none, op, ty, pos, aft, none⟩ l H fun r H' => ∃ v, r = .value v ∧ WL P n w0 R ops Q rest l H') : WL P n w0 R ops Q (⟨none, op, ty, pos, aft, none⟩ :: rest) l H := by
  intro a w i
  obtain ⟨r, w', H', hr, hs, hk, v, rfl, hw⟩ := hh a w R i.kn i.sat
  exact wpList_value rfl hr (hw _ _ ⟨i.size, i.defers, i.kn, hs, i.kept.trans hk⟩)
/-- a call of a function that lies in a slot -/
theorem Ent.val {f : FuncId} {x : Operand} {xs : List Operand} {ats : Array TypeId} {vs : List Value}
    (hc : ∀ (args : Array Value) (w : World), (callFunc f args).run P w = .ok (.enter f args) w) (hx : ev l x = some (.func (.func f) #[] #[])) (hv : evs l xs = some vs) :
    Ent P ⟨d, .call ⟨.value x, xs.toArray, ats⟩, ty, pos, aft, g⟩ l f vs := by
  intro a k w
  have := k.evs hv
  simp [execOp, resolve, k.ev hx, Deferred.ofValue, invoke, this, hc]

/-- an element of several cells, read from a slice -/
theorem WL.elemA {n : Nat} {w0 : World} {R : List Ck} {ops : Array Oper} {Q : Exit → Act → World → Prop} {d1 d2 s : Nat} {T e T2 : TypeId} {x y : Operand} {ty1 ty2 : TypeId} {p1 p2 : String} {a1 a2 : Array Edge} {rest : List Oper} {ao : Option Addr} {len c m : Nat} {xs vs : List Value} {k : IntKind} {i : Nat} {mi : Int}
    (hT : sliceOf P T = some e) (hs : szOf P e = some s) (hT2 : isAggOf P T2 s = true) (hx : ev l x = some (.slice ao len c)) (hy : ev l y = some (.int k mi)) (hmi : mi = (i : Int)) (hr : Rs (.slice ao len c) m xs H) (hv : (xs.drop (i * s)).take s = vs) (hvs : vs.length = s) (hs0 : 0 < s) (hlt : i < len) (h1 : Nat.blt d1 n = true) (h2 : Nat.blt d2 n = true)
    (h : ∀ p, WL P n w0 R ops Q rest ((d2, .agg vs.toArray) :: (d1, p) :: l) H) : WL P n w0 R ops Q (⟨some d1, .indexAddr T x y, ty1, p1, a1, none⟩ :: ⟨some d2, .load T2 (.tmp d1), ty2, p2, a2, none⟩ :: rest) l H := by
  subst hmi
  have h8 : vs.length = min s (xs.length - i * s) := by rw [← hv, List.length_take, List.length_drop]
  have hne : xs ≠ [] := fun e => by
    rw [e] at h8
    simp only [List.length_nil, Nat.zero_sub, Nat.min_zero, Nat.le_zero_eq] at h8
    omega
  rcases hr with ⟨ao', cap', _, _, e0⟩ | ⟨b, o, cap, cs, T', fr, ex, hsl, hc, hm, hcs⟩
  · exact absurd e0 hne
  simp only [Value.slice.injEq] at hsl
  obtain ⟨rfl, rfl, rfl⟩ := hsl
  have hlen : i * s + s ≤ xs.length := by omega
  have hcl : o + xs.length ≤ cs.length := by
    have := congrArg List.length hcs
    rw [List.length_take, List.length_drop] at this
    by_cases h0 : xs.length = 0
    · exact absurd (List.eq_nil_of_length_eq_zero h0) hne
    · omega
  refine WL.y h1 (Yd.indexAddr hT hs hx hy (by omega) (by omega)) ?_
  refine WL.h h2 (Hd.loadA (n := s) (b := b) (o := o + (i : Int).toNat * s) (cs := cs) (vs := vs) hT2 (by simp [ev, getv_cons]) hm hvs ?_ ⟨_, rfl, h _⟩)
  rw [← hv, Int.toNat_natCast]
  rw [← hcs, List.drop_take, List.take_take, List.drop_drop]
  congr 1
  omega

end Go.SL
