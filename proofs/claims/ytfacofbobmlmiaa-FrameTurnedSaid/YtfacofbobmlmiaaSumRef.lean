/-
  The plain law of the sum, continued: the long division of the document's answer; runs over pieces; turned bits.
-/
import Derived.Test.YtfacofbobmlmiaaSumMath
set_option linter.unusedVariables false
set_option linter.unusedSimpArgs false
namespace Go.Sum

/-! ### the document's answer, bit by bit -/
def bitStep (x : B32) (b : Bool) : B32 := crcStep (x ^^^ (if b then 1#32 else 0#32))
def bits8 (c : B8) (k : Nat) : List Bool := (List.range k).map fun i => decide ((c >>> i) % 2#8 = 1#8)
def bitsOf (l : List B8) : List Bool := l.flatMap fun c => bits8 c 8
theorem bits8_succ (c : B8) (k : Nat) : bits8 c (k + 1) = bits8 c k ++ [decide ((c >>> k) % 2#8 = 1#8)] := by simp [bits8, List.range_succ]
theorem bitsOf_take_succ (l : List B8) (k : Nat) (h : k < l.length) : bitsOf (l.take (k + 1)) = bitsOf (l.take k) ++ bits8 l[k] 8 := by
  unfold bitsOf
  rw [List.take_succ_eq_append_getElem h, List.flatMap_append]
  simp
theorem bits8_length (c : B8) (k : Nat) : (bits8 c k).length = k := by simp [bits8]
theorem bitsOf_length (l : List B8) : (bitsOf l).length = 8 * l.length := by
  induction l with
  | nil => rfl
  | cons c l ih => simp only [bitsOf, List.flatMap_cons, List.length_append, bits8_length] at *; rw [ih]; simp; omega

theorem mod_two (c : B8) (k : Nat) : ((c >>> k) % 2#8 = 1#8) ↔ c.getLsbD k = true := by
  constructor
  · intro h
    have := congrArg BitVec.toNat h
    simp only [BitVec.toNat_umod, BitVec.toNat_ushiftRight] at this
    rw [BitVec.getLsbD, Nat.testBit, Nat.shiftRight_eq_div_pow] at *
    simp [Nat.and_comm, Nat.and_one_is_mod]
    simpa [Nat.shiftRight_eq_div_pow] using this
  · intro h
    apply BitVec.eq_of_toNat_eq
    simp only [BitVec.toNat_umod, BitVec.toNat_ushiftRight]
    rw [BitVec.getLsbD, Nat.testBit, Nat.shiftRight_eq_div_pow] at *
    simp [Nat.and_comm, Nat.and_one_is_mod] at h
    simpa [Nat.shiftRight_eq_div_pow] using h
theorem bits8_eq (c : B8) (k : Nat) : bits8 c k = (List.range k).map fun i => c.getLsbD i := by
  apply List.map_congr_left
  intro i _
  by_cases h : c.getLsbD i = true
  · rw [decide_eq_true ((mod_two c i).2 h), h]
  · rw [decide_eq_false (fun e => h ((mod_two c i).1 e))]; simpa using h

/-- x's part that is not met yet, shifted -/
theorem shift_in (k : Nat) (hk : k < 32) : crcStep (1#32 <<< (k + 1)) = 1#32 <<< k ∨ 31 ≤ k := by
  by_cases h : 31 ≤ k
  · exact .inr h
  · left
    rw [crcStep_eq]
    have h0 : (1#32 <<< (k + 1)).getLsbD 0 = false := by simp [BitVec.getLsbD_shiftLeft]
    rw [h0]
    apply BitVec.eq_of_getLsbD_eq
    intro i hi
    simp only [Bool.false_eq_true, if_false, BitVec.xor_zero, BitVec.getLsbD_ushiftRight, BitVec.getLsbD_shiftLeft, hi, decide_true, Bool.true_and, BitVec.getLsbD_one]
    by_cases h1 : i = k
    · subst h1; simp; omega
    · by_cases h2 : i < k
      · simp [show ¬ (k ≤ i) by omega, show 1 + i < k + 1 by omega]
      · simp [show ¬ (1 + i - (k + 1) = 0) by omega, show ¬ (i - k = 0) by omega]

theorem steps_bit (k : Nat) (hk : k < 32) : crcSteps k (1#32 <<< k) = 1#32 := by
  have key : ∀ k, k < 32 → ∀ j, j ≤ k → crcSteps j (1#32 <<< k) = 1#32 <<< (k - j) := by
    intro k hk j
    induction j with
    | zero => intro _; rfl
    | succ j ih =>
      intro hj
      simp only [crcSteps]
      rw [ih (by omega)]
      have := (shift_in (k - j - 1) (by omega)).resolve_right (by omega)
      rw [show k - j = k - j - 1 + 1 by omega, this]
      congr 1
  have := key k hk k (Nat.le_refl _)
  simpa using this

/-- k steps over a word are k steps with its bits put in one after the other -/
theorem steps_bits (f : Nat → Bool) (x : B32) : ∀ k, k ≤ 32 → ∀ w : B32, (∀ i, i < 32 → w.getLsbD i = (decide (i < k) && f i)) →
    crcSteps k (x ^^^ w) = ((List.range k).map f).foldl bitStep x
  | 0, _, w, hw => by
    have : w = 0#32 := by
      apply BitVec.eq_of_getLsbD_eq
      intro i hi
      rw [hw i hi]; simp
    subst this
    simp [crcSteps]
  | k + 1, hk, w, hw => by
    have ih := steps_bits f x k (by omega) (low k w) (fun i hi => by
      rw [getLsbD_low _ _ _ hi, hw i hi]
      by_cases h : i < k
      · simp [h, show i < k + 1 by omega]
      · simp [h])
    rw [List.range_succ, List.map_append, List.foldl_append, ← ih]
    simp only [List.map_cons, List.map_nil, List.foldl_cons, List.foldl_nil, bitStep, crcSteps]
    congr 1
    have hwk : w = low k w ^^^ (if f k then 1#32 <<< k else 0#32) := by
      apply BitVec.eq_of_getLsbD_eq
      intro i hi
      rw [BitVec.getLsbD_xor, getLsbD_low _ _ _ hi, hw i hi]
      by_cases h1 : i < k
      · have : (if f k = true then 1#32 <<< k else 0#32).getLsbD i = false := by
          split
          · simp [BitVec.getLsbD_shiftLeft, h1]
          · simp
        rw [this]; simp [h1]
      · by_cases h2 : i = k
        · subst h2
          cases hf : f i <;> simp [hi]
        · have : (if f k = true then 1#32 <<< k else 0#32).getLsbD i = false := by
            split
            · simp [BitVec.getLsbD_shiftLeft, h1, BitVec.getLsbD_one]; omega
            · simp
          rw [this]; simp [h1, show ¬ i < k + 1 by omega]
    have e : crcSteps k (x ^^^ w) = crcSteps k (x ^^^ low k w) ^^^ (if f k then 1#32 else 0#32) := by
      have : x ^^^ w = (x ^^^ low k w) ^^^ (if f k then 1#32 <<< k else 0#32) := by rw [BitVec.xor_assoc, ← hwk]
      rw [this, crcSteps_xor]
      congr 1
      split
      · exact steps_bit k (by omega)
      · exact crcSteps_zero k
    exact e

theorem byte_bits (x : B32) (c : B8) : crcByte x c = (bits8 c 8).foldl bitStep x := by
  rw [bits8_eq]
  exact steps_bits (fun i => c.getLsbD i) x 8 (by omega) _ (fun i hi => by
    simp only [BitVec.getLsbD_setWidth, hi, decide_true, Bool.true_and]
    by_cases h : i < 8
    · simp [h]
    · simp [h, BitVec.getLsbD_of_ge c i (by omega)])
theorem run_bits (x : B32) (l : List B8) : crcRun x l = (bitsOf l).foldl bitStep x := by
  induction l generalizing x with
  | nil => rfl
  | cons c l ih =>
    simp only [crcRun, List.foldl_cons, bitsOf, List.flatMap_cons, List.foldl_append] at *
    rw [ih, byte_bits]

/-! the row of truth values that stands for a register -/
structure Rep (r : List Bool) (x : B32) : Prop where
  len : r.length = 32
  bit : ∀ i, i < 32 → r.getD i false = x.getLsbD i
/-- the first k moved down by one -/
def shK (r : List Bool) (k : Nat) : List Bool := (List.range 32).map fun j => if j < k then r.getD (j + 1) false else r.getD j false
theorem shK_length (r : List Bool) (k : Nat) : (shK r k).length = 32 := by simp [shK]
theorem shK_zero {r : List Bool} (h : r.length = 32) : shK r 0 = r := by
  apply List.ext_getElem
  · simp [shK, h]
  · intro i h1 h2; simp [shK, List.getD, h2]
theorem shK_get (r : List Bool) (k : Nat) (hk : k < 31) : (shK r k).getD (k + 1) false = r.getD (k + 1) false := by
  simp [shK, List.getD, show k + 1 < 32 by omega, show ¬ k + 1 < k by omega]
theorem shK_succ (r : List Bool) (k : Nat) (hk : k < 31) : (shK r k).set k (r.getD (k + 1) false) = shK r (k + 1) := by
  apply List.ext_getElem
  · simp [shK]
  · intro i h1 h2
    simp only [shK, List.getElem_set, List.getElem_map, List.getElem_range]
    by_cases h : k = i
    · subst h; simp
    · rw [if_neg h]
      by_cases h3 : i < k
      · rw [if_pos h3, if_pos (by omega)]
      · rw [if_neg h3, if_neg (by omega)]
def sh (r : List Bool) : List Bool := (shK r 31).set 31 false
theorem sh_rep {r : List Bool} {x : B32} (h : Rep r x) : Rep (sh r) (x >>> 1) := by
  refine ⟨by simp [sh, shK], fun i hi => ?_⟩
  simp only [sh, List.getD, List.getElem?_set, shK_length, BitVec.getLsbD_ushiftRight]
  by_cases h1 : 31 = i
  · subst h1; simp
  · rw [if_neg h1]
    have h2 := h.bit (i + 1) (by omega)
    simp only [shK, List.getElem?_map, List.getElem?_range hi, Option.map_some, show i < 31 by omega, if_true, Option.getD_some, h2, Nat.add_comm 1 i]

def taps : List Nat := [31, 30, 29, 27, 26, 24, 23, 21, 20, 19, 15, 9, 8, 5]
def turnBit (r : List Bool) (t : Nat) : List Bool := r.set t (!r.getD t false)
def turnK (r : List Bool) (k : Nat) : List Bool := (taps.take k).foldl turnBit r
def turnAll (r : List Bool) : List Bool := taps.foldl turnBit r
theorem turnK_succ (r : List Bool) (k : Nat) (hk : k < taps.length) : turnK r (k + 1) = turnBit (turnK r k) taps[k] := by
  unfold turnK
  rw [List.take_succ_eq_append_getElem hk, List.foldl_append]
  rfl
theorem turnK_length (r : List Bool) (k : Nat) : (turnK r k).length = r.length := by
  unfold turnK
  induction taps.take k generalizing r with
  | nil => rfl
  | cons t l ih => rw [List.foldl_cons, ih]; simp [turnBit]
theorem turnAll_get (l : List Nat) : ∀ (r : List Bool) (i : Nat), i < r.length → l.Nodup → (l.foldl turnBit r).getD i false = (xor (r.getD i false) (l.contains i)) := by
  induction l with
  | nil => intro r i hi _; simp
  | cons t l ih =>
    intro r i hi hn
    rw [List.foldl_cons, ih (turnBit r t) i (by simp [turnBit, hi]) (List.nodup_cons.1 hn).2]
    have hnt := (List.nodup_cons.1 hn).1
    by_cases h : t = i
    · subst h
      have : l.contains t = false := by simpa using hnt
      simp [turnBit, List.getD, hi, this, hnt]
    · have h2 : (i == t) = false := by simp; omega
      simp only [turnBit, List.getD, List.getElem?_set, if_neg h, List.contains_cons, h2, Bool.false_or]
theorem turn_rep {r : List Bool} {x : B32} (h : Rep r x) : Rep (turnAll r) (x ^^^ 0xedb88320#32) := by
  refine ⟨by have := turnK_length r taps.length; simp [turnK] at this; rw [turnAll, this, h.len], fun i hi => ?_⟩
  rw [turnAll, turnAll_get taps r i (by rw [h.len]; exact hi) (by decide), h.bit i hi, BitVec.getLsbD_xor]
  congr 1
  have key : ∀ i, i < 32 → taps.contains i = (0xedb88320#32).getLsbD i := by decide
  exact key i hi
theorem ref_step {r : List Bool} {x : B32} (h : Rep r x) (b : Bool) : Rep (if !(r.getD 0 false == b) then turnAll (sh r) else sh r) (bitStep x b) := by
  have h0 := h.bit 0 (by omega)
  have e : (x ^^^ (if b then 1#32 else 0#32)).getLsbD 0 = !(r.getD 0 false == b) := by
    rw [BitVec.getLsbD_xor, h0]
    cases b <;> cases x.getLsbD 0 <;> rfl
  have e2 : (x ^^^ (if b then 1#32 else 0#32)) >>> 1 = x >>> 1 := by
    cases b
    · simp
    · apply BitVec.eq_of_getLsbD_eq
      intro i hi
      simp only [if_true, BitVec.getLsbD_ushiftRight, BitVec.getLsbD_xor, BitVec.getLsbD_one]
      simp
  unfold bitStep
  rw [crcStep_eq, e, e2]
  split
  · rename_i hh; exact turn_rep (sh_rep h)
  · rename_i hh; simpa using sh_rep h
theorem ref_start : Rep (List.replicate 32 true) (~~~ 0#32) := by
  refine ⟨by simp, fun i hi => ?_⟩
  have key : ∀ i, i < 32 → (List.replicate 32 true).getD i false = (~~~ 0#32 : B32).getLsbD i := by decide
  exact key i hi
/-- the number of the register's bits, turned over, from bit k on -/
theorem ref_num {r : List Bool} {x : B32} (h : Rep r x) (k : Nat) (hk : k < 32) : (~~~x) >>> k = (if !r.getD k false then ((~~~x) >>> (k + 1)) * 2#32 + 1#32 else ((~~~x) >>> (k + 1)) * 2#32) := by
  rw [h.bit k hk]
  have h1 : (~~~x).getLsbD k = !x.getLsbD k := by simp [hk]
  rw [← h1]
  have hlt : (~~~x).toNat < 2 ^ 32 := (~~~x).isLt
  generalize hy : ~~~x = y at *
  have h2 : y.getLsbD k = true ↔ y.toNat / 2 ^ k % 2 = 1 := by
    rw [BitVec.getLsbD, Nat.testBit, Nat.shiftRight_eq_div_pow]
    simp [Nat.and_comm, Nat.and_one_is_mod]
  have h3 : y.toNat / 2 ^ (k + 1) = y.toNat / 2 ^ k / 2 := by rw [Nat.pow_succ, Nat.div_div_eq_div_mul]
  have h4 : y.toNat / 2 ^ k < 2 ^ 32 := Nat.lt_of_le_of_lt (Nat.div_le_self _ _) hlt
  apply BitVec.eq_of_toNat_eq
  by_cases h5 : y.getLsbD k = true
  · rw [if_pos h5]
    simp only [BitVec.toNat_add, BitVec.toNat_mul, BitVec.toNat_ushiftRight, Nat.shiftRight_eq_div_pow, h3]
    have := h2.1 h5
    simp
    omega
  · rw [if_neg h5]
    simp only [BitVec.toNat_mul, BitVec.toNat_ushiftRight, Nat.shiftRight_eq_div_pow, h3]
    have : ¬ y.toNat / 2 ^ k % 2 = 1 := fun e => h5 (h2.2 e)
    simp
    omega
theorem crcOf_bits (l : List B8) : crcOf l = ~~~ ((bitsOf l).foldl bitStep (~~~ 0#32)) := by rw [crcOf, crcMore, run_bits]
/-- the register behind the first k bits -/
def reg (r : List Bool) : List Bool → List Bool
  | [] => r
  | b :: l => reg (if !(r.getD 0 false == b) then turnAll (sh r) else sh r) l
theorem reg_append (l m : List Bool) : ∀ r, reg r (l ++ m) = reg (reg r l) m := by
  induction l with
  | nil => intro r; rfl
  | cons b l ih => intro r; simp only [List.cons_append, reg, ih]
theorem reg_rep {x : B32} (l : List Bool) : ∀ {r : List Bool} {x : B32}, Rep r x → Rep (reg r l) (l.foldl bitStep x) := by
  induction l with
  | nil => intro r x h; exact h
  | cons b l ih => intro r x h; simp only [reg, List.foldl_cons]; exact ih (ref_step h b)

end Go.Sum
