/-
  The plain law of frames, continued: numbers' bytes, the lowest first and turned round.
-/
import Derived.Test.YtfacofbobmlmiaaFrameMath3
set_option linter.unusedVariables false
set_option linter.unusedSimpArgs false
namespace Go.Sum

def loW (n : BitVec 64) (k : Nat) : List B8 := (List.range k).map fun i => (n >>> (8 * i)).setWidth 8
theorem loW_length (n : BitVec 64) (k : Nat) : (loW n k).length = k := by simp [loW]
theorem loW_next (n : BitVec 64) (k : Nat) : loW n (k + 1) = loW n k ++ [((n >>> (8 * k)) % 256#64).setWidth 8] := by
  have : ((n >>> (8 * k)) % 256#64).setWidth 8 = (n >>> (8 * k)).setWidth 8 := by
    apply BitVec.eq_of_toNat_eq
    simp only [BitVec.toNat_setWidth, BitVec.toNat_umod]
    rw [show (256#64).toNat = 256 from rfl]
    omega
  rw [this]
  simp [loW, List.range_succ]
theorem quo_next (n : BitVec 64) (k : Nat) : (n >>> (8 * k)) / 256#64 = n >>> (8 * (k + 1)) := by
  apply BitVec.eq_of_toNat_eq
  simp only [BitVec.toNat_udiv, BitVec.toNat_ushiftRight, Nat.shiftRight_eq_div_pow]
  rw [show (256#64).toNat = 256 from rfl, Nat.mul_add, Nat.pow_add, ← Nat.div_div_eq_div_mul]
theorem loW_get (n : BitVec 64) (k j : Nat) (h : j < k) : (loW n k)[j]'(by rw [loW_length]; exact h) = (n >>> (8 * j)).setWidth 8 := by simp [loW]
theorem getOf_bad' {b : List B8} {k : Nat} (h : k < b.length) (h0 : b[k] ≠ 0#8) (hb : bodyAt (b.drop k) = none) : getOf b k = ([], 0, 31) := getOf_bad h h0 (by rw [codeAt_eq]; exact hb)
theorem getOf_good' {b l : List B8} {k : Nat} (h : k < b.length) (h0 : b[k] ≠ 0#8) (hb : bodyAt (b.drop k) = some l) : getOf b k = (l, (k : Int) + 8 + l.length, 0) := getOf_good h h0 (by rw [codeAt_eq]; exact hb)
/-- the number of a frame's bytes -/
def numAt (b : List B8) (k : Nat) : Nat := (b.getD (k + 2) 0#8).toNat * 256 + (b.getD (k + 3) 0#8).toNat
theorem bodyAt_num (b : List B8) (k : Nat) : bodyAt (b.drop k) = if 8 + numAt b k ≤ b.length - k ∧ numAt b k ≤ 2000 ∧ frameOf ((b.drop (k + 8)).take (numAt b k)) = (b.drop k).take (8 + numAt b k) then some ((b.drop (k + 8)).take (numAt b k)) else none := by
  have e : ∀ j, (b.drop k).getD j 0#8 = b.getD (k + j) 0#8 := by intro j; simp [List.getD]
  unfold bodyAt
  simp only [e, List.length_drop, List.drop_drop]
  rfl
theorem beW_trunc (n : Nat) : beW (BitVec.ofNat 64 n) 2 = be2 n := by
  rw [beW2]
  have h1 : (BitVec.ofNat 64 n >>> 8).setWidth 8 = (BitVec.ofNat 16 n >>> 8).setWidth 8 := by
    apply BitVec.eq_of_toNat_eq
    simp only [BitVec.toNat_setWidth, BitVec.toNat_ushiftRight, Nat.shiftRight_eq_div_pow, BitVec.toNat_ofNat]
    omega
  have h2 : (BitVec.ofNat 64 n >>> 0).setWidth 8 = (BitVec.ofNat 16 n).setWidth 8 := by
    apply BitVec.eq_of_toNat_eq
    simp only [BitVec.toNat_setWidth, BitVec.toNat_ushiftRight, Nat.shiftRight_eq_div_pow, BitVec.toNat_ofNat]
    omega
  show [(BitVec.ofNat 64 n >>> 8).setWidth 8, (BitVec.ofNat 64 n >>> 0).setWidth 8] = _
  rw [h1, h2]

/-- how many frames there may be, and how long -/
theorem allFrom_few (b : List B8) : ∀ f k, k ≤ b.length → (allFrom b f k).1.length + k ≤ b.length ∧ (∀ l ∈ (allFrom b f k).1, l.length ≤ 2000)
  | 0, k, hk => by simp [allFrom]; omega
  | f + 1, k, hk => by
    rw [allFrom]
    by_cases h : (getOf b k).2.2 = 0
    · obtain ⟨h1, h2, h3, h4, h5⟩ := getOf_ok h
      have e : (getOf b k).2.1.toNat = k + 8 + (getOf b k).1.length := by rw [h3]; omega
      have ih := allFrom_few b f (k + 8 + (getOf b k).1.length) h4
      rw [if_pos h, e]
      refine ⟨by simp only [List.length_cons]; omega, fun l hl => ?_⟩
      rcases List.mem_cons.1 hl with rfl | hl
      · exact h5
      · exact ih.2 l hl
    · rw [if_neg h]
      split
      · simp; omega
      · simp; omega
theorem allOf_few (b : List B8) : (allOf b).1.length ≤ b.length := (allFrom_few b _ 0 (Nat.zero_le _)).1
theorem allOf_short (b : List B8) : ∀ l ∈ (allOf b).1, l.length ≤ 2000 := (allFrom_few b _ 0 (Nat.zero_le _)).2

end Go.Sum
