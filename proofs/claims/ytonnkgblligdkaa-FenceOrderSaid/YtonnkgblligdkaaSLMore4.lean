/-
  More rules: strings gone through letter by letter, maps gone through in whatever order, a slice's part struck out.
-/
import Derived.Test.YtonnkgblligdkaaSLAuto
import Derived.Laws.RangeString
set_option linter.unusedVariables false
set_option linter.unusedSimpArgs false
namespace Go.SL

variable {P : Program} {l : Sl} {H : List Ck} {d : Option Nat} {ty : TypeId} {pos : String} {aft : Array Edge} {g : Option (Nat × Bool)} {K : Next → List Ck → Prop}

/-! ### strings, letter by letter -/
theorem Hd.rangeS {T : TypeId} {x : Operand} {s : ByteArray} (hT : P.underlying T = some .string) (hx : ev l x = some (.string s)) (k : ∀ b, K (.value (.pointer (some ⟨b, 0, none⟩))) (⟨b, .stringIter s 0, true⟩ :: H)) :
    Hd P ⟨d, .range T x, ty, pos, aft, g⟩ l H K := fun a w R kn st => by
  refine ⟨_, _, ⟨w.heap.size, .stringIter s 0, true⟩ :: H, ?_, st.push (.stringIter s 0) true, ⟨rfl, rfl, rfl, by simp, Nat.le_refl _⟩, k w.heap.size⟩
  simp [execOp, kn.ev hx, Instr.range, run_underlying hT]
theorem Hd.nextS {x : Operand} {b p : Nat} {s : ByteArray} {D : List Ck} (hx : ev l x = some (.pointer (some ⟨b, 0, none⟩))) (hm : Fr H ⟨b, .stringIter s p, true⟩ D)
    (k1 : ∀ (h : p < s.size), (s[p]'h).toNat < 128 ∧ K (.value (.tuple #[.bool true, .int .i64 p, .int .i32 ((s[p]'h).toNat : Int)])) (⟨b, .stringIter s (p + 1), true⟩ :: D))
    (k2 : ¬ p < s.size → K (.value (.tuple #[.bool false])) (⟨b, .stringIter s p, true⟩ :: D)) : Hd P ⟨d, .next x true, ty, pos, aft, g⟩ l H K := fun a w R kn st => by
  have s' : Sat w (⟨b, .stringIter s p, true⟩ :: (D ++ R)) := st.perm (hm.p.append_right R)
  have hg := s'.holds _ List.mem_cons_self
  by_cases h : p < s.size
  · obtain ⟨h1, h2⟩ := k1 h
    have hb : b < w.heap.size := s'.lt (c := ⟨b, .stringIter s p, true⟩) List.mem_cons_self
    refine ⟨_, { w with heap := w.heap.setIfInBounds b (.stringIter s (p + 1)) }, ⟨b, .stringIter s (p + 1), true⟩ :: D, ?_, s'.write (by simp [hb]) (fun k hk => by simp [Array.getElem?_setIfInBounds, Ne.symm hk]), ⟨rfl, rfl, rfl, by simp, Nat.le_refl _⟩, h2⟩
    simp only [execOp, kn.ev hx, Instr.next, getObj, setObj, Sem.run_bind, Sem.run, hg, Result.andThen, h, if_true, decode_ascii s p h h1]
    simp [goInt]
  · refine ⟨_, w, ⟨b, .stringIter s p, true⟩ :: D, ?_, s', Kept.refl w, k2 h⟩
    simp [execOp, kn.ev hx, Instr.next, getObj, Sem.run, hg, h]

/-! ### maps, in whatever order -/
/-- a going through a map: what of it was seen; the map itself lies where it lay -/
theorem Hd.rangeM {T KT ET : TypeId} {x : Operand} {b : Nat} {es : Array MapEntry} {clock : Nat} (hT : mapOf P T = some (KT, ET)) (hx : ev l x = some (.map (some b))) (hm : (⟨b, .map es clock, true⟩ : Ck) ∈ H)
    (k : ∀ i, K (.value (.pointer (some ⟨i, 0, none⟩))) (⟨i, .mapIter (some b) clock #[] clock, true⟩ :: H)) : Hd P ⟨d, .range T x, ty, pos, aft, g⟩ l H K := fun a w R kn st => by
  have hg := st.holds _ (List.mem_append_left R hm)
  refine ⟨_, _, ⟨w.heap.size, .mapIter (some b) clock #[] clock, true⟩ :: H, ?_, st.push (.mapIter (some b) clock #[] clock) true, ⟨rfl, rfl, rfl, by simp, Nat.le_refl _⟩, k w.heap.size⟩
  simp [execOp, kn.ev hx, Instr.range, run_underlying (underlying_map hT), run_getObj_m hg ⟨_, _, rfl⟩]
/-- what of a map is not yet seen -/
def unseen (es : Array MapEntry) (seen : Array Nat) : Array MapEntry := es.filter fun e => !seen.contains e.born
theorem Hd.nextM {x : Operand} {i b clock : Nat} {es : Array MapEntry} {seen : Array Nat} {D : List Ck} (hx : ev l x = some (.pointer (some ⟨i, 0, none⟩))) (hm : Fr H ⟨i, .mapIter (some b) clock seen clock, true⟩ D) (hM : (⟨b, .map es clock, true⟩ : Ck) ∈ D)
    (hb : ∀ e ∈ es.toList, e.born < clock)
    (k1 : ∀ e, e ∈ (unseen es seen).toList → K (.value (.tuple #[.bool true, e.key, e.val])) (⟨i, .mapIter (some b) clock (seen.push e.born) clock, true⟩ :: D))
    (k2 : unseen es seen = #[] → K (.value (.tuple #[.bool false])) (⟨i, .mapIter (some b) clock seen clock, true⟩ :: D)) : Hd P ⟨d, .next x false, ty, pos, aft, g⟩ l H K := fun a w R kn st => by
  have s' : Sat w (⟨i, .mapIter (some b) clock seen clock, true⟩ :: (D ++ R)) := st.perm (hm.p.append_right R)
  have hg := s'.holds _ List.mem_cons_self
  have hgm := s'.holds _ (List.mem_cons_of_mem _ (List.mem_append_left R hM))
  have hi : i < w.heap.size := s'.lt (c := ⟨i, .mapIter (some b) clock seen clock, true⟩) List.mem_cons_self
  have hge : (!seen.isEmpty && !es.isEmpty && es.all (fun e => decide (e.born ≥ clock))) = false := by
    by_cases h0 : es.isEmpty = true
    · simp [h0]
    · have h1 : ∃ e, e ∈ es.toList := by
        cases h : es.toList with
        | nil => exact absurd (by simpa using h) h0
        | cons e r => exact ⟨e, by simp⟩
      obtain ⟨e, he⟩ := h1
      have h2 : es.all (fun e => decide (e.born ≥ clock)) = false := by
        apply Bool.eq_false_iff.2
        intro ht
        have h3 := Array.all_eq_true_iff_forall_mem.1 ht e (by simpa using he)
        have h4 := hb e he
        simp only [ge_iff_le, decide_eq_true_eq] at h3
        omega
      rw [h2, Bool.and_false]
  have hold : (unseen es seen).filter (fun e => decide (e.born < clock)) = unseen es seen := by
    rw [Array.filter_eq_self]
    intro e he
    have : e ∈ es.toList := by
      have := Array.mem_filter.1 he
      simpa using this.1
    have := hb e this
    simpa using this
  have hnew : (unseen es seen).filter (fun e => decide (e.born ≥ clock)) = #[] := by
    rw [Array.filter_eq_empty_iff]
    intro e he
    have : e ∈ es.toList := by
      have := Array.mem_filter.1 he
      simpa using this.1
    have := hb e this
    simp; omega
  obtain ⟨U, hU⟩ : ∃ U, U = unseen es seen := ⟨_, rfl⟩
  have hun : es.filter (fun e => !seen.contains e.born) = U := hU ▸ rfl
  rw [← hU] at hold hnew k1 k2
  obtain ⟨n, w1, hch, hw1, hn⟩ : ∃ n w1, (choose (.mapNext ((if U.isEmpty then #[none] else #[]) ++ (U ++ #[]).map some).size)).run P w = .ok n w1 ∧ (w1 = w ∨ w1 = { w with drawn := w.drawn + 1 }) ∧ n < ((if U.isEmpty then #[none] else #[]) ++ (U ++ #[]).map some).size := by
    have hpos : 0 < ((if U.isEmpty then #[none] else #[]) ++ (U ++ #[]).map some).size := by
      by_cases h : U.isEmpty = true
      · simp [h]; omega
      · have : U.size ≠ 0 := by simpa using h
        simp [h]; omega
    rw [run_choose]
    by_cases hf : (Question.mapNext ((if U.isEmpty then #[none] else #[]) ++ (U ++ #[]).map some).size).forced = true
    · rw [if_pos hf]; exact ⟨0, w, rfl, .inl rfl, hpos⟩
    · rw [if_neg hf]
      refine ⟨_, _, rfl, .inr rfl, ?_⟩
      simp only [Question.cut]
      exact Nat.mod_lt _ hpos
  have k1w : Kept w w1 := by rcases hw1 with rfl | rfl; exact Kept.refl _; exact ⟨rfl, rfl, rfl, Nat.le_refl _, Nat.le_succ _⟩
  have hh : w1.heap = w.heap := by rcases hw1 with rfl | rfl <;> rfl
  have sw1 : Sat w1 (⟨i, .mapIter (some b) clock seen clock, true⟩ :: (D ++ R)) := s'.heap hh
  by_cases h0 : U.isEmpty = true
  · have hU0 : U = #[] := by simpa using h0
    subst hU0
    have hn0 : n = 0 := by simp at hn; omega
    subst hn0
    refine ⟨.value (.tuple #[.bool false]), w1, ⟨i, .mapIter (some b) clock seen clock, true⟩ :: D, ?_, sw1, k1w, k2 rfl⟩
    simp only [execOp, kn.ev hx, Instr.next, getObj, Sem.run_bind, Sem.run, hg, Result.andThen, hgm, hge, hun]
    simp only [hold, hnew]
    simp at hch
    simp [hch]
  · have hnU : n < U.size := by
      simp [h0] at hn
      exact hn
    refine ⟨.value (.tuple #[.bool true, U[n].key, U[n].val]), { w1 with heap := w1.heap.setIfInBounds i (.mapIter (some b) clock (seen.push U[n].born) clock) }, ⟨i, .mapIter (some b) clock (seen.push U[n].born) clock, true⟩ :: D, ?_, ?_, ?_, k1 U[n] (by simp)⟩
    · simp only [execOp, kn.ev hx, Instr.next, getObj, Sem.run_bind, Sem.run, hg, Result.andThen, hgm, hge, hun]
      simp only [hold, hnew]
      simp [h0] at hch
      simp [h0, hch, hnU, setObj, Sem.run, hh, hg]
    · exact sw1.write (by simp [hh, hi]) (fun k hk => by simp [Array.getElem?_setIfInBounds, Ne.symm hk])
    · exact k1w.trans ⟨rfl, rfl, rfl, by simp, Nat.le_refl _⟩

end Go.SL
