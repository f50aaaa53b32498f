/-
  The plain law of frames, continued: what the code's reader tells.
-/
import Derived.Test.YtfacofbobmlmiaaFrameMath2
set_option linter.unusedVariables false
set_option linter.unusedSimpArgs false
namespace Go.Sum

theorem rdRest_le (bs : List B8) (sh : Bool) (k : Nat) : (rdRest bs sh k).length ≤ bs.length := by
  unfold rdRest; split <;> simp

/-! the reader's states over a frame's head -/
def s1 (p : List B8) : Bool := rdShort p false 2
def r1 (p : List B8) : List B8 := rdRest p false 2
def s2 (p : List B8) : Bool := rdShort (r1 p) (s1 p) 2
def r2 (p : List B8) : List B8 := rdRest (r1 p) (s1 p) 2
def s3 (p : List B8) : Bool := rdShort (r2 p) (s2 p) 4
def r3 (p : List B8) : List B8 := rdRest (r2 p) (s2 p) 4
def doneOf (p : List B8) : Int := if s3 p then 10 else if 0 < (r3 p).length then 11 else 0
theorem head_facts (p : List B8) (h : p.length ≤ 8) : doneOf p = 0 ↔ p.length = 8 := by
  by_cases h2 : p.length < 2
  · have e1 : s1 p = true := by simp [s1, rdShort, h2]
    have e2 : s2 p = true := by simp [s2, rdShort, e1]
    have e3 : s3 p = true := by simp [s3, rdShort, e2]
    rw [doneOf, if_pos e3]
    omega
  · have e1 : s1 p = false := by simp [s1, rdShort]; omega
    have l1 : (r1 p).length = p.length - 2 := by
      rw [r1, rdRest]
      have : rdShort p false 2 = false := e1
      rw [this]; simp
    by_cases h4 : p.length < 4
    · have e2 : s2 p = true := by simp [s2, rdShort, e1]; omega
      have e3 : s3 p = true := by simp [s3, rdShort, e2]
      rw [doneOf, if_pos e3]
      omega
    · have e2 : s2 p = false := by simp [s2, rdShort, e1]; omega
      have l2 : (r2 p).length = p.length - 4 := by
        rw [r2, rdRest]
        have : rdShort (r1 p) (s1 p) 2 = false := e2
        rw [this]; simp; omega
      by_cases h8 : p.length < 8
      · have e3 : s3 p = true := by simp [s3, rdShort, e2]; omega
        rw [doneOf, if_pos e3]
        omega
      · have e3 : s3 p = false := by simp [s3, rdShort, e2]; omega
        have l3 : (r3 p).length = 0 := by
          rw [r3, rdRest]
          have : rdShort (r2 p) (s2 p) 4 = false := e3
          rw [this]; simp; omega
        rw [doneOf, e3, l3]
        simp
        omega
theorem piece_length (rest : List B8) : (rest.take 8).length ≤ 8 := by simp; omega
theorem code_facts {rest p : List B8} (hp : p = rest.take 8) (h : doneOf p = 0) : 8 ≤ rest.length ∧ rdGot p false 2 = rest.take 2 ∧ rdGot (r1 p) (s1 p) 2 = (rest.drop 2).take 2 ∧ rdGot (r2 p) (s2 p) 4 = (rest.drop 4).take 4 := by
  subst hp
  have h8 := (head_facts _ (piece_length rest)).1 h
  have hl : 8 ≤ rest.length := by simp at h8; omega
  obtain ⟨a0, a1, a2, a3, a4, a5, a6, a7, t, rfl⟩ := eight hl
  exact ⟨hl, rfl, rfl, rfl⟩
theorem code_short {rest p : List B8} (hp : p = rest.take 8) (h : doneOf p ≠ 0) : codeAt rest = none := by
  subst hp
  have h8 : ¬ (rest.take 8).length = 8 := fun e => h ((head_facts _ (piece_length rest)).2 e)
  unfold codeAt
  rw [if_neg]
  intro h9
  have := h9.1
  simp at h8
  omega
theorem getOf_bad {b : List B8} {k : Nat} (h : k < b.length) (h0 : b[k] ≠ 0#8) (hb : codeAt (b.drop k) = none) : getOf b k = ([], 0, 31) := by
  rw [codeAt_eq] at hb
  rw [getOf, if_neg (by omega), if_neg (by
    rintro (e | e)
    · omega
    · apply h0; simpa [List.getD, h] using e)]
  simp [hb]
theorem getOf_good {b l : List B8} {k : Nat} (h : k < b.length) (h0 : b[k] ≠ 0#8) (hb : codeAt (b.drop k) = some l) : getOf b k = (l, (k : Int) + 8 + l.length, 0) := by
  rw [codeAt_eq] at hb
  rw [getOf, if_neg (by omega), if_neg (by
    rintro (e | e)
    · omega
    · apply h0; simpa [List.getD, h] using e)]
  simp [hb]
theorem piece_eq (b : List B8) (k : Nat) (h : k ≤ b.length) : (b.drop k).take (min b.length (k + 8) - k) = (b.drop k).take 8 := by
  apply List.take_eq_take_iff.2
  simp
  omega

/-! all frames in a row -/
def allFrom (b : List B8) : Nat → Nat → List (List B8) × Nat × Int
  | 0, k => ([], k, 31)
  | f + 1, k => if (getOf b k).2.2 = 0 then ((getOf b k).1 :: (allFrom b f (getOf b k).2.1.toNat).1, (allFrom b f (getOf b k).2.1.toNat).2) else if (getOf b k).2.2 = 30 then ([], k, 0) else ([], k, 31)
def allOf (b : List B8) : List (List B8) × Nat × Int := allFrom b (b.length + 1) 0
theorem bodyAt_length {b l : List B8} (h : bodyAt b = some l) : 8 + l.length ≤ b.length ∧ l.length ≤ 2000 ∧ frameOf l = b.take (8 + l.length) := by
  unfold bodyAt at h
  simp only at h
  split at h
  · rename_i hh
    obtain ⟨h1, h2, h3⟩ := hh
    simp only [Option.some.injEq] at h
    have hl : l.length = (b.getD 2 0#8).toNat * 256 + (b.getD 3 0#8).toNat := by rw [← h]; simp only [List.length_take, List.length_drop]; omega
    rw [← hl] at h1 h2 h3 h
    rw [h] at h3
    exact ⟨h1, h2, h3⟩
  · cases h
/-- what is got goes on -/
theorem getOf_ok {b : List B8} {k : Nat} (h : (getOf b k).2.2 = 0) : k < b.length ∧ bodyAt (b.drop k) = some (getOf b k).1 ∧ (getOf b k).2.1 = (k : Int) + 8 + (getOf b k).1.length ∧ k + 8 + (getOf b k).1.length ≤ b.length ∧ (getOf b k).1.length ≤ 2000 := by
  unfold getOf at h ⊢
  by_cases h1 : (k : Int) < 0 ∨ (b.length : Int) < k
  · rw [if_pos h1] at h; cases h
  · rw [if_neg h1] at h ⊢
    by_cases h2 : (k : Int) = b.length ∨ b.getD (k : Int).toNat 0#8 = 0#8
    · rw [if_pos h2] at h; cases h
    · rw [if_neg h2] at h ⊢
      simp only [Int.toNat_natCast] at h ⊢
      cases hb : bodyAt (b.drop k) with
      | none => rw [hb] at h; cases h
      | some l =>
        have := bodyAt_length hb
        simp only [List.length_drop] at this
        exact ⟨by omega, rfl, rfl, by simp only; omega, this.2.1⟩
/-- a round of the reading of all frames -/
structure FrRest (b : List B8) (acc : List (List B8)) (f k : Nat) : Prop where
  all : allOf b = (acc ++ (allFrom b f k).1, (allFrom b f k).2)
  here : k ≤ b.length
  fuel : b.length - k < f
  few : acc.length ≤ k
theorem FrRest.start (b : List B8) : FrRest b [] (b.length + 1) 0 := ⟨by simp [allOf], Nat.zero_le _, by omega, Nat.le_refl _⟩
theorem FrRest.next {b : List B8} {acc : List (List B8)} {f k : Nat} (h : FrRest b acc f k) (h0 : (getOf b k).2.2 = 0) : ∃ k' f', (getOf b k).2.1 = (k' : Nat) ∧ f = f' + 1 ∧ FrRest b (acc ++ [(getOf b k).1]) f' k' ∧ k < k' := by
  obtain ⟨h1, h2, h3, h4, h5⟩ := getOf_ok h0
  obtain ⟨f', rfl⟩ : ∃ f', f = f' + 1 := ⟨f - 1, by have := h.fuel; omega⟩
  refine ⟨k + 8 + (getOf b k).1.length, f', by rw [h3]; omega, rfl, ⟨?_, h4, by have := h.fuel; omega, by have := h.few; simp; omega⟩, by omega⟩
  rw [h.all]
  have e : (getOf b k).2.1.toNat = k + 8 + (getOf b k).1.length := by rw [h3]; omega
  simp only [allFrom, if_pos h0, e, List.append_assoc, List.cons_append, List.nil_append]
theorem FrRest.stop {b : List B8} {acc : List (List B8)} {f k : Nat} (h : FrRest b acc f k) (h0 : (getOf b k).2.2 = 30) : allOf b = (acc, k, 0) := by
  obtain ⟨f', rfl⟩ : ∃ f', f = f' + 1 := ⟨f - 1, by have := h.fuel; omega⟩
  rw [h.all]
  simp [allFrom, h0]
theorem FrRest.bad {b : List B8} {acc : List (List B8)} {f k : Nat} (h : FrRest b acc f k) (h0 : ¬ (getOf b k).2.2 = 0) (h1 : ¬ (getOf b k).2.2 = 30) : allOf b = (acc, k, 31) := by
  obtain ⟨f', rfl⟩ : ∃ f', f = f' + 1 := ⟨f - 1, by have := h.fuel; omega⟩
  rw [h.all]
  simp [allFrom, h0, h1]

end Go.Sum
