/-
  Where the order is drawn: some reads that may come in any order, others beside them.
-/
import Derived.Test.YtonnkgblligdkaaSLQuiet
import Derived.Test.YtonnkgblligdkaaSLMapG
set_option linter.unusedVariables false
set_option linter.unusedSimpArgs false
namespace Go.SL

def listedS (listed : Array Bool) (S : List Nat) : Array Bool := listed.mapIdx fun i b => b || S.contains i
def valsS (rs : List (Nat × Nat × Value)) (S : List Nat) : Sl := (rs.filter fun r => S.contains r.1).map (·.2)
def subs : List Nat → List (List Nat)
  | [] => [[]]
  | x :: xs => (subs xs).flatMap fun s => [x :: s, s]
theorem filter_subs (p : Nat → Bool) : ∀ L : List Nat, L.filter p ∈ subs L
  | [] => by simp [subs]
  | x :: L => by
    have ih := filter_subs p L
    simp only [subs, List.mem_flatMap]
    refine ⟨_, ih, ?_⟩
    by_cases h : p x = true
    · rw [List.filter_cons_of_pos h]; simp
    · rw [List.filter_cons_of_neg h]; simp
def readsB (ops : Array Oper) (listed : Array Bool) (L : List Nat) (ex : List (List Nat × Nat)) : Bool :=
  (subs L).all fun S => S.length == L.length || (!(Region.ready .any ops (listedS listed S)).isEmpty && (Region.ready .any ops (listedS listed S)).all fun j => L.contains j || ex.contains (S, j))

section
variable {P : Program} {n : Nat} {w0 : World} {R : List Ck} {Q : Exit → Act → World → Prop} {l : Sl} {H : List Ck} {ops : Array Oper}
/-- r is a read: its number, its slot, what it yields -/
def ReadAt (P : Program) (n : Nat) (ops : Array Oper) (l : Sl) (H : List Ck) (r : Nat × Nat × Value) : Prop :=
  ∃ o, ops[r.1]? = some o ∧ o.dst = some r.2.1 ∧ Nat.blt r.2.1 n = true ∧ Wt ops l o ∧ Rd P o l H r.2.2
theorem ReadAt.mk {i d : Nat} {op : Op} {ty : TypeId} {pos : String} {aft : Array Edge} {g : Option (Nat × Bool)} {v : Value} (hi : ops[i]? = some ⟨some d, op, ty, pos, aft, g⟩) (hw : Wt ops l ⟨some d, op, ty, pos, aft, g⟩) (hd : Nat.blt d n = true) (hr : Rd P ⟨some d, op, ty, pos, aft, g⟩ l H v) : ReadAt P n ops l H (i, d, v) :=
  ⟨_, hi, rfl, hd, hw, hr⟩
theorem getv_vals {rs : List (Nat × Nat × Value)} {S : List Nat} {t : Nat} {u : Value} (h : getv (valsS rs S ++ l) t = some u) : (∃ r ∈ rs, S.contains r.1 = true ∧ r.2 = (t, u)) ∨ ((∀ r ∈ rs, S.contains r.1 = true → r.2.1 ≠ t) ∧ getv l t = some u) := by
  unfold valsS at h
  induction rs with
  | nil => exact .inr ⟨fun r hr => (by cases hr), h⟩
  | cons r rs ih =>
    by_cases hc : S.contains r.1 = true
    · rw [List.filter_cons_of_pos (p := fun r : Nat × Nat × Value => S.contains r.1) hc, List.map_cons, List.cons_append] at h
      have h' : getv ((r.2.1, r.2.2) :: (List.map (fun x => x.2) (List.filter (fun r => S.contains r.1) rs) ++ l)) t = some u := h
      rw [getv_cons] at h'
      by_cases e : r.2.1 = t
      · rw [if_pos e] at h'
        simp only [Option.some.injEq] at h'
        exact .inl ⟨r, List.mem_cons_self, hc, Prod.ext e h'⟩
      · rw [if_neg e] at h'
        rcases ih h' with ⟨q, hq, h1, h2⟩ | ⟨h1, h2⟩
        · exact .inl ⟨q, List.mem_cons_of_mem _ hq, h1, h2⟩
        · refine .inr ⟨fun q hq hqc => ?_, h2⟩
          rcases List.mem_cons.1 hq with rfl | hq
          · exact e
          · exact h1 q hq hqc
    · rw [List.filter_cons_of_neg (p := fun r : Nat × Nat × Value => S.contains r.1) hc] at h
      rcases ih h with ⟨q, hq, h1, h2⟩ | ⟨h1, h2⟩
      · exact .inl ⟨q, List.mem_cons_of_mem _ hq, h1, h2⟩
      · refine .inr ⟨fun q hq hqc => ?_, h2⟩
        rcases List.mem_cons.1 hq with rfl | hq
        · exact absurd hqc hc
        · exact h1 q hq hqc
theorem getv_past {rs : List (Nat × Nat × Value)} {S : List Nat} {t : Nat} (h : ∀ r ∈ rs, r.2.1 ≠ t) : getv (valsS rs S ++ l) t = getv l t := by
  unfold valsS
  induction rs with
  | nil => rfl
  | cons r rs ih =>
    have ih := ih (fun q hq => h q (List.mem_cons_of_mem _ hq))
    by_cases hc : S.contains r.1 = true
    · rw [List.filter_cons_of_pos (p := fun r : Nat × Nat × Value => S.contains r.1) hc, List.map_cons, List.cons_append]
      show getv ((r.2.1, r.2.2) :: _) t = _
      rw [getv_cons, if_neg (h r List.mem_cons_self)]
      exact ih
    · rw [List.filter_cons_of_neg (p := fun r : Nat × Nat × Value => S.contains r.1) hc]
      exact ih
theorem nodup_eq {rs : List (Nat × Nat × Value)} {f : Nat × Nat × Value → Nat} (hn : (rs.map f).Nodup) {a b : Nat × Nat × Value} (ha : a ∈ rs) (hb : b ∈ rs) (e : f a = f b) : a = b := by
  induction rs with
  | nil => cases ha
  | cons r rs ih =>
    simp only [List.map_cons, List.nodup_cons] at hn
    rcases List.mem_cons.1 ha with h1 | h1
    · rcases List.mem_cons.1 hb with h2 | h2
      · rw [h1, h2]
      · exact absurd (List.mem_map.2 ⟨b, h2, by rw [← e, h1]⟩) hn.1
    · rcases List.mem_cons.1 hb with h2 | h2
      · exact absurd (List.mem_map.2 ⟨a, h1, by rw [e, h2]⟩) hn.1
      · exact ih hn.2 h1 h2
theorem listedS_set {listed : Array Bool} {S S' : List Nat} {i : Nat} (h : ∀ j, S'.contains j = (S.contains j || j == i)) : (listedS listed S).setIfInBounds i true = listedS listed S' := by
  unfold listedS
  apply Array.ext
  · simp
  · intro j h1 h2
    have h3 := h j
    have h5 : j < (listed.mapIdx fun i b => b || S.contains i).size := by simpa using h1
    rw [Array.getElem_setIfInBounds h5, Array.getElem_mapIdx, Array.getElem_mapIdx]
    by_cases e : i = j
    · subst e
      rw [if_pos rfl, h3]
      simp
    · rw [if_neg e, h3]
      have : (j == i) = false := by simpa using fun x => e x.symm
      rw [this, Bool.or_false]
theorem WA.reads {fuel : Nat} {listed : Array Bool} (rs : List (Nat × Nat × Value)) (L : List Nat) (ex : List (List Nat × Nat)) (r0 : Nat) (hL : rs.map (·.1) = L) (hf : fuel = r0 + L.length) (hrs : ∀ r ∈ rs, ReadAt P n ops l H r) (hnd : L.Nodup) (hdn : (rs.map fun r => r.2.1).Nodup)
    (hfr : ∀ r ∈ rs, getv l r.2.1 = none) (hB : readsB ops listed L ex = true)
    (hex : ∀ e ∈ ex, WO P n w0 R ops Q (r0 + (L.length - e.1.length - 1)) (listedS listed e.1) e.2 (valsS rs e.1 ++ l) H)
    (hfin : WA P n w0 R ops Q r0 (listedS listed L) (valsS rs L ++ l) H) : WA P n w0 R ops Q fuel listed l H := by
  have key : ∀ (t : Nat) (p : Nat → Bool), (L.filter p).length + t = L.length → WA P n w0 R ops Q (r0 + t) (listedS listed (L.filter p)) (valsS rs (L.filter p) ++ l) H := by
    intro t
    induction t with
    | zero =>
      intro p hp
      have e : L.filter p = L := (List.filter_sublist (p := p) (l := L)).eq_of_length (by omega)
      rw [e]
      exact hfin
    | succ t ih =>
      intro p hp
      have h1 := List.all_eq_true.1 hB _ (filter_subs p L)
      simp only [Bool.or_eq_true, beq_iff_eq, Bool.and_eq_true, Bool.not_eq_true', List.all_eq_true] at h1
      rcases h1 with h1 | ⟨h1, h2⟩
      · omega
      · intro a w at_
        refine ⟨fun h0 => (by rw [h0] at h1; cases h1), fun i hi => ?_⟩
        rcases h2 i hi with h3 | h3
        · have hiL : i ∈ L := by simpa using h3
          rw [← hL] at hiL
          obtain ⟨r, hr, rfl⟩ := List.mem_map.1 hiL
          have hiL' : r.1 ∈ L := by rw [← hL]; exact hiL
          have hun : (L.filter p).contains r.1 = false := by
            have h4 := (mem_ready.1 hi).1
            have h5 : r.1 < (listedS listed (L.filter p)).size := by
              rcases Nat.lt_or_ge r.1 (listedS listed (L.filter p)).size with h' | h'
              · exact h'
              · simp [Array.getElem?_eq_none h'] at h4
            rw [Array.getD_eq_getD_getElem?, Array.getElem?_eq_getElem h5] at h4
            simp only [listedS, Array.getElem_mapIdx, Option.getD_some, Bool.or_eq_false_iff] at h4
            exact h4.2
          have hpf : p r.1 = false := by
            cases hpr : p r.1 with
            | false => rfl
            | true =>
              have : r.1 ∈ L.filter p := List.mem_filter.2 ⟨hiL', hpr⟩
              rw [List.contains_iff_mem.2 this] at hun
              cases hun
          obtain ⟨o, ho, hod, hdb, hw, hrd⟩ := hrs r hr
          have hkl : Kn a l := fun s u hs => at_.kn s u (by
            rw [getv_past (fun q hq e => by rw [← e, hfr q hq] at hs; cases hs)]; exact hs)
          let p' : Nat → Bool := fun j => p j || j == r.1
          have hcont : ∀ j, (L.filter p').contains j = ((L.filter p).contains j || j == r.1) := fun j => by
            rw [Bool.eq_iff_iff]
            simp only [List.contains_iff_mem, Bool.or_eq_true, List.mem_filter, beq_iff_eq, p']
            constructor
            · rintro ⟨h5, h6 | h6⟩
              · exact .inl ⟨h5, h6⟩
              · exact .inr h6
            · rintro (⟨h5, h6⟩ | h6)
              · exact ⟨h5, .inl h6⟩
              · exact ⟨by rw [h6]; exact hiL', .inr h6⟩
          have hlen : (L.filter p').length = (L.filter p).length + 1 := by
            have : ∀ M : List Nat, M.Nodup → r.1 ∈ M → (M.filter p').length = (M.filter p).length + 1 := by
              intro M
              induction M with
              | nil => intro _ h; cases h
              | cons x M ihM =>
                intro hn hx
                simp only [List.nodup_cons] at hn
                by_cases e : x = r.1
                · subst e
                  rw [List.filter_cons_of_pos (by simp [p']), List.filter_cons_of_neg (by rw [hpf]; simp)]
                  have : M.filter p' = M.filter p := List.filter_congr fun y hy => by
                    have : ¬ y = r.1 := fun e => hn.1 (by rw [← e]; exact hy)
                    simp [p', this]
                  rw [this, List.length_cons]
                · have hxM : r.1 ∈ M := by
                    rcases List.mem_cons.1 hx with h | h
                    · exact absurd h.symm e
                    · exact h
                  have e2 : p' x = p x := by simp [p', e]
                  have := ihM hn.2 hxM
                  by_cases hpx : p x = true
                  · rw [List.filter_cons_of_pos (by rw [e2]; exact hpx), List.filter_cons_of_pos hpx, List.length_cons, List.length_cons, this]
                  · rw [List.filter_cons_of_neg (by rw [e2]; exact hpx), List.filter_cons_of_neg hpx, this]
            exact this L hnd hiL'
          have hnext := ih p' (by omega)
          rw [← listedS_set hcont] at hnext
          unfold wpOp
          simp only [ho]
          rw [if_pos (hw a hkl)]
          refine .inl ?_
          unfold Oper.wp
          rw [hrd a w R hkl at_.sat, Oper.upon_value, hod]
          have hdn' : r.2.1 < a.tmps.size := by rw [at_.size]; exact Nat.le_of_ble_eq_true hdb
          refine hnext _ _ ⟨by simp [Act.put, at_.size], by simpa [Act.put] using at_.defers, fun s u hs => ?_, at_.sat, at_.kept⟩
          have hput := at_.kn.put r.2.2 hdn'
          refine hput s u ?_
          rw [getv_cons]
          rcases getv_vals hs with ⟨q, hq, hqc, hqe⟩ | ⟨hno, hl2⟩
          · by_cases e : r.2.1 = s
            · rw [if_pos e]
              have : q = r := nodup_eq hdn hq hr (by rw [hqe]; exact e.symm)
              subst this
              rw [hqe]
            · rw [if_neg e]
              rw [hcont] at hqc
              have hqc2 : (L.filter p).contains q.1 = true := by
                rw [Bool.or_eq_true] at hqc
                rcases hqc with h | h
                · exact h
                · exfalso
                  have : q = r := nodup_eq (by rw [hL]; exact hnd) hq hr (by simpa using h)
                  subst this
                  rw [hqe] at e
                  exact e rfl
              cases hv : getv (valsS rs (L.filter p) ++ l) s with
              | none =>
                exfalso
                have hmem : ∀ (qs : List (Nat × Nat × Value)), q ∈ qs → getv (valsS qs (L.filter p) ++ l) s ≠ none := by
                  intro qs
                  induction qs with
                  | nil => intro h; cases h
                  | cons x qs ihq =>
                    intro h
                    unfold valsS
                    by_cases hxc : (L.filter p).contains x.1 = true
                    · rw [List.filter_cons_of_pos (p := fun r : Nat × Nat × Value => (L.filter p).contains r.1) hxc, List.map_cons, List.cons_append]
                      show getv ((x.2.1, x.2.2) :: _) s ≠ none
                      rw [getv_cons]
                      split
                      · simp
                      · rename_i hne
                        rcases List.mem_cons.1 h with h | h
                        · subst h; rw [hqe] at hne; exact absurd rfl hne
                        · exact ihq h
                    · rw [List.filter_cons_of_neg (p := fun r : Nat × Nat × Value => (L.filter p).contains r.1) hxc]
                      rcases List.mem_cons.1 h with h | h
                      · subst h; exact absurd hqc2 hxc
                      · exact ihq h
                exact hmem rs hq hv
              | some u' =>
                rcases getv_vals hv with ⟨q', hq', _, hqe'⟩ | ⟨hno, _⟩
                · have : q' = q := nodup_eq hdn hq' hq (by rw [hqe', hqe])
                  subst this
                  rw [hqe] at hqe'
                  simp only [Prod.mk.injEq, true_and] at hqe'
                  rw [hqe']
                · exact absurd (by rw [hqe]) (hno q hq hqc2)
          · have e : ¬ r.2.1 = s := fun e => by
              exact hno r hr (by rw [hcont]; simp) e
            rw [if_neg e, getv_past (fun q hq e2 => by
              have := hfr q hq
              rw [e2, hl2] at this
              cases this)]
            exact hl2
        · have h4 := hex (L.filter p, i) (by simpa using h3) a w at_
          have e : r0 + (L.length - (L.filter p).length - 1) = r0 + t := by omega
          simp only at h4
          rw [e] at h4
          exact h4
  have h0 := key L.length (fun _ => false) (by simp)
  rw [← hf] at h0
  have e1 : L.filter (fun _ => false) = [] := by simp
  rw [e1] at h0
  have e2 : listedS listed [] = listed := by
    apply Array.ext
    · simp [listedS]
    · intro j h1 h2
      simp [listedS]
  have e3 : valsS rs [] = [] := by simp [valsS]
  rw [e2, e3] at h0
  exact h0
end

/-! an entry of a map, then its new value -/
section
variable {P : Program} {l : Sl} {H : List Ck} {d : Option Nat} {ty : TypeId} {pos : String} {aft : Array Edge} {g : Option (Nat × Bool)} {K : Next → List Ck → Prop} {κ : Type} [DecidableEq κ] {k0 : Kk κ}
/-- C is a map of our own that has n, its entry's stamp is bo -/
def MpE (k0 : Kk κ) (b : Nat) (m : List (κ × Value)) (n : κ) (bo : Nat) (C : List Ck) : Prop := ∃ es clock i u, C = [⟨b, .map es clock, true⟩] ∧ EntsG k0 es m ∧ (∀ e ∈ es.toList, e.born < clock) ∧ (es.toList.map (·.born)).Nodup ∧ findG m n 0 = some (i, u) ∧ (es[i]?).map (·.born) = some bo
theorem Hd.mapEntry {T KT ET : TypeId} {TD : TypeDesc} {x y : Operand} {b : Nat} {n : κ} {m : List (κ × Value)} {u : Value} {C D : List Ck} (hT : mapOf P T = some (KT, ET)) (hK : P.underlying KT = some TD) (hTD : k0.fits TD)
    (hx : ev l x = some (.map (some b))) (hy : ev l y = some (k0.kv n)) (hm : MpG k0 b m C) (hu : getG m n = some u) (hH : Sp H C D) (k : ∀ bo C', MpE k0 b m n bo C' → K (.value (.tuple #[u, .int .i64 (bo : Int)])) (C' ++ D)) :
    Hd P ⟨d, .mapEntry T x y, ty, pos, aft, g⟩ l H K := fun a w R kn s => by
  obtain ⟨es, clock, rfl, h2, h3, h4⟩ := hm
  have s' : Sat w (⟨b, .map es clock, true⟩ :: (D ++ R)) := by have := s.perm (hH.p.append_right R); simpa using this
  have h1 := s'.holds _ List.mem_cons_self
  have hg := findG_get m n 0
  cases hf : findG m n 0 with
  | none => rw [hf, hu] at hg; cases hg
  | some p =>
    obtain ⟨i, u'⟩ := p
    rw [hf, hu] at hg
    simp only [Option.map_some, Option.some.injEq] at hg
    subst hg
    obtain ⟨_, hi, q, hq, hnq, huq⟩ := findG_lt m n 0 i u' hf
    have hsz := h2.size
    have hi2 : i < es.size := by omega
    have hkey : es[i].key = k0.kv n := by
      have h5 := congrArg (fun l => l[i]?) h2
      simp only [List.getElem?_map, Array.getElem?_toList] at h5
      rw [Nat.sub_zero] at hq
      rw [hq, Array.getElem?_eq_getElem hi2] at h5
      simp only [Option.map_some, Option.some.injEq, Prod.mk.injEq] at h5
      rw [h5.1, hnq]
    have hes : (es.modify i fun e => { e with key := k0.kv n }) = es := by
      apply Array.ext
      · simp
      · intro j h5 h6
        rw [Array.getElem_modify]
        split
        · rename_i e
          subst e
          have : ∀ e : MapEntry, e.key = k0.kv n → ({ key := k0.kv n, val := e.val, born := e.born } : MapEntry) = e := fun e h => by cases e; simp only at h; subst h; rfl
          exact this _ hkey
        · rfl
    refine ⟨_, { w with heap := w.heap.setIfInBounds b (.map es clock) }, [⟨b, .map es clock, true⟩] ++ D, ?_, s'.setMap, kept_setMap _ _ _, k es[i].born _ ⟨es, clock, i, u', rfl, h2, h3, h4, hf, by rw [Array.getElem?_eq_getElem hi2]; rfl⟩⟩
    simp only [execOp, kn.ev hx, kn.ev hy, Instr.mapEntry]
    simp [run_underlying (underlying_map hT), run_getObj_m h1 ⟨_, _, rfl⟩, k0.check hK hTD, run_findKey_G k0 hK hTD h2, hf, run_setObj_m _ h1, hi2, hkey, run_keyStays, hes, goInt]
theorem Hd.entryStore {T : TypeId} {x y z : Operand} {b bo : Nat} {n : κ} {v : Value} {m : List (κ × Value)} {C D : List Ck} (hx : ev l x = some (.map (some b))) (hy : ev l y = some (.int .i64 (bo : Int))) (hz : ev l z = some v) (hm : MpE k0 b m n bo C) (hnd : (m.map (·.1)).Nodup) (hH : Sp H C D) (k : ∀ C', MpG k0 b (setG m n v) C' → K .skip (C' ++ D)) :
    Hd P ⟨d, .entryStore T x y z, ty, pos, aft, g⟩ l H K := fun a w R kn s => by
  obtain ⟨es, clock, i, u, rfl, h2, h3, h4, hf, hb⟩ := hm
  have s' : Sat w (⟨b, .map es clock, true⟩ :: (D ++ R)) := by have := s.perm (hH.p.append_right R); simpa using this
  have h1 := s'.holds _ List.mem_cons_self
  have hg := findG_get m n 0
  rw [hf] at hg
  obtain ⟨_, hi, q, hq, hnq, huq⟩ := findG_lt m n 0 i u hf
  have hsz := h2.size
  have hi2 : i < es.size := by omega
  have hbo : es[i].born = bo := by
    rw [Array.getElem?_eq_getElem hi2] at hb
    simpa using hb
  have e : setG m n v = m.modify i fun p => (p.1, v) := by
    unfold setG; rw [← hg]
    have := setG_at n v m 0 i u hf hnd
    rw [Nat.sub_zero] at this
    exact this
  have hfi : es.findIdx? (fun e => (e.born : Int) == (bo : Int)) = some i := by
    rw [Array.findIdx?_eq_some_iff_getElem]
    refine ⟨hi2, by rw [hbo]; simp, fun j hj => ?_⟩
    have h5 := List.pairwise_iff_getElem.1 h4 j i (by simp; omega) (by simpa using hi2) hj
    simp only [List.getElem_map, Array.getElem_toList, ne_eq, hbo] at h5
    simp only [Bool.not_eq_true, beq_eq_false_iff_ne, ne_eq]
    omega
  refine ⟨.skip, { w with heap := w.heap.setIfInBounds b (.map (es.modify i fun e => { e with val := v }) clock) }, [⟨b, .map (es.modify i fun e => { e with val := v }) clock, true⟩] ++ D, ?_, s'.setMap, kept_setMap _ _ _, k _ ⟨_, clock, rfl, ?_, ?_, ?_⟩⟩
  · simp only [execOp, kn.ev hx, kn.ev hy, kn.ev hz, Instr.entryStore]
    simp [run_getObj_m h1 ⟨_, _, rfl⟩, asInt, asIntOf, hfi, run_setObj_m _ h1]
  · rw [e]
    unfold EntsG at h2 ⊢
    apply List.ext_getElem?
    intro j
    have h5 := congrArg (fun l => l[j]?) h2
    simp only [List.getElem?_map, Array.getElem?_toList] at h5
    simp only [List.getElem?_map, Array.getElem?_toList, Array.getElem?_modify, List.getElem?_modify]
    rw [Nat.sub_zero] at hq
    by_cases hij : i = j
    · subst hij
      simp only [if_true, hq, Array.getElem?_eq_getElem hi2, Option.map_some] at h5 ⊢
      simp only [Option.some.injEq, Prod.mk.injEq] at h5
      rw [h5.1]
      rfl
    · simp only [if_neg hij]
      simpa using h5
  · intro e he
    obtain ⟨j, hj, rfl⟩ := List.getElem_of_mem he
    have hj2 : j < es.size := by simpa using hj
    have h6 := h3 es[j] (by simp)
    simp only [Array.getElem_toList, Array.getElem_modify]
    split
    · exact h6
    · exact h6
  · have : ((es.modify i fun e => { e with val := v }).toList.map (·.born)) = es.toList.map (·.born) := by
      apply List.ext_getElem?
      intro j
      simp only [List.getElem?_map, Array.getElem?_toList, Array.getElem?_modify]
      split
      · cases es[j]? <;> rfl
      · rfl
    rw [this]; exact h4
end

end Go.SL
