/-
  The plain law of the sum: what the program reckons, on vectors of bits; no program in sight.
-/
namespace Go.Sum

abbrev B32 := BitVec 32
abbrev B8 := BitVec 8

/-- one bit -/
def crcStep (r : B32) : B32 := if r &&& 1#32 = 1#32 then r >>> 1 ^^^ 0xedb88320#32 else r >>> 1
def crcSteps : Nat → B32 → B32
  | 0, r => r
  | k + 1, r => crcStep (crcSteps k r)
/-- a byte -/
def crcByte (r : B32) (c : B8) : B32 := crcSteps 8 (r ^^^ c.setWidth 32)
def crcRun (r : B32) (l : List B8) : B32 := l.foldl crcByte r
def crcMore (s : B32) (l : List B8) : B32 := ~~~ (crcRun (~~~ s) l)
def crcOf (l : List B8) : B32 := crcMore 0#32 l

theorem crcRun_take_succ (r : B32) (l : List B8) (k : Nat) (h : k < l.length) : crcRun r (l.take (k + 1)) = crcByte (crcRun r (l.take k)) l[k] := by
  unfold crcRun
  rw [List.take_succ_eq_append_getElem h, List.foldl_append]
  rfl

/-! the step is linear -/
theorem and_one (r : B32) : (r &&& 1#32 = 1#32) ↔ r.getLsbD 0 = true := by
  constructor
  · intro h
    have := congrArg (fun x => x.getLsbD 0) h
    simpa using this
  · intro h
    apply BitVec.eq_of_getLsbD_eq
    intro i hi
    by_cases h0 : i = 0
    · subst h0; simp [h]
    · simp [BitVec.getLsbD_one, h0]
theorem crcStep_eq (r : B32) : crcStep r = r >>> 1 ^^^ (if r.getLsbD 0 then 0xedb88320#32 else 0#32) := by
  unfold crcStep
  by_cases h : r.getLsbD 0 = true
  · rw [if_pos ((and_one r).2 h), if_pos h]
  · rw [if_neg (fun e => h ((and_one r).1 e)), if_neg h]; simp
theorem crcStep_xor (x y : B32) : crcStep (x ^^^ y) = crcStep x ^^^ crcStep y := by
  rw [crcStep_eq, crcStep_eq, crcStep_eq, BitVec.getLsbD_xor, BitVec.ushiftRight_xor_distrib]
  cases x.getLsbD 0 <;> cases y.getLsbD 0 <;> simp only [Bool.xor_false, Bool.xor_true, Bool.not_false, Bool.not_true, if_true, Bool.false_eq_true, if_false, BitVec.xor_zero]
  · ac_rfl
  · ac_rfl
  · have : (x >>> 1 ^^^ 3988292384#32) ^^^ (y >>> 1 ^^^ 3988292384#32) = (x >>> 1 ^^^ y >>> 1) ^^^ (3988292384#32 ^^^ 3988292384#32) := by ac_rfl
    rw [this, BitVec.xor_self, BitVec.xor_zero]
theorem crcSteps_xor (k : Nat) (x y : B32) : crcSteps k (x ^^^ y) = crcSteps k x ^^^ crcSteps k y := by
  induction k with
  | zero => rfl
  | succ k ih => simp only [crcSteps, ih, crcStep_xor]
theorem crcSteps_zero (k : Nat) : crcSteps k 0#32 = 0#32 := by
  induction k with
  | zero => rfl
  | succ k ih => simp only [crcSteps, ih]; decide
theorem crcSteps_add (j k : Nat) (x : B32) : crcSteps (j + k) x = crcSteps j (crcSteps k x) := by
  induction j with
  | zero => simp [crcSteps]
  | succ j ih => rw [show j + 1 + k = (j + k) + 1 by omega]; simp only [crcSteps, ih]

/-! a table that stands for a linear map -/
def tabK (m : List B32) (r : B32) : Nat → B32
  | 0 => 0#32
  | k + 1 => if (r >>> k) &&& 1#32 = 1#32 then tabK m r k ^^^ m.getD k 0#32 else tabK m r k
def tab (m : List B32) (r : B32) : B32 := tabK m r 32

structure Stands (m : List B32) (f : B32 → B32) : Prop where
  len : m.length = 32
  bit : ∀ i, i < 32 → m.getD i 0#32 = f (1#32 <<< i)
structure Linear (f : B32 → B32) : Prop where
  zero : f 0#32 = 0#32
  xor : ∀ x y, f (x ^^^ y) = f x ^^^ f y

/-- the lowest k bits -/
def low (k : Nat) (r : B32) : B32 := r &&& BitVec.ofNat 32 (2 ^ k - 1)
theorem getLsbD_low (k i : Nat) (r : B32) (hi : i < 32) : (low k r).getLsbD i = (decide (i < k) && r.getLsbD i) := by
  simp only [low, BitVec.getLsbD_and, BitVec.getLsbD_ofNat, Nat.testBit_two_pow_sub_one, hi, decide_true, Bool.true_and]
  rw [Bool.and_comm]
theorem bit_at (r : B32) (k : Nat) : ((r >>> k) &&& 1#32 = 1#32) ↔ r.getLsbD k = true := by
  rw [and_one]; simp
theorem low_succ (k : Nat) (r : B32) (hk : k < 32) : low (k + 1) r = if r.getLsbD k then low k r ^^^ (1#32 <<< k) else low k r := by
  apply BitVec.eq_of_getLsbD_eq
  intro i hi
  rw [getLsbD_low _ _ _ hi]
  by_cases h : r.getLsbD k = true
  · rw [if_pos h, BitVec.getLsbD_xor, getLsbD_low _ _ _ hi]
    simp only [BitVec.getLsbD_shiftLeft, hi, decide_true, Bool.true_and, BitVec.getLsbD_one]
    by_cases h1 : i < k
    · have h2 : ¬ (k ≤ i) := by omega
      simp [h1, show i < k + 1 by omega]
    · by_cases h2 : i = k
      · subst h2; simp [h]
      · simp [h1, show ¬ i < k + 1 by omega, show ¬ (i - k = 0) by omega]
  · rw [if_neg h, getLsbD_low _ _ _ hi]
    by_cases h2 : i = k
    · subst h2; simp [h]
    · by_cases h1 : i < k
      · simp [h1, show i < k + 1 by omega]
      · simp [h1, show ¬ i < k + 1 by omega]
theorem low_all (r : B32) : low 32 r = r := by
  apply BitVec.eq_of_getLsbD_eq
  intro i hi
  rw [getLsbD_low _ _ _ hi]
  simp [hi]
theorem tabK_low {m : List B32} {f : B32 → B32} (hm : Stands m f) (hf : Linear f) (r : B32) : ∀ k, k ≤ 32 → tabK m r k = f (low k r)
  | 0, _ => by
    have : low 0 r = 0#32 := by simp [low]
    rw [this, hf.zero]; rfl
  | k + 1, hk => by
    have ih := tabK_low hm hf r k (by omega)
    rw [low_succ k r (by omega)]
    simp only [tabK]
    by_cases h : r.getLsbD k = true
    · rw [if_pos ((bit_at r k).2 h), if_pos h, ih, hm.bit k (by omega), hf.xor]
    · rw [if_neg (fun e => h ((bit_at r k).1 e)), if_neg h, ih]
theorem tab_stands {m : List B32} {f : B32 → B32} (hm : Stands m f) (hf : Linear f) (r : B32) : tab m r = f r := by
  rw [tab, tabK_low hm hf r 32 (Nat.le_refl _), low_all]

theorem linear_steps (k : Nat) : Linear (crcSteps k) := ⟨crcSteps_zero k, crcSteps_xor k⟩

/-- two pieces put together -/
def crcJoin (a b : B32) (n : Nat) : B32 := crcSteps (8 * n) a ^^^ b

theorem join_odd (e : Nat) (n : BitVec 64) (a : B32) (h : n &&& 1#64 = 1#64) : crcSteps (8 * 2 ^ (e + 1) * (n >>> 1).toNat) (crcSteps (8 * 2 ^ e) a) = crcSteps (8 * 2 ^ e * n.toNat) a := by
  have h1 : n.toNat % 2 = 1 := by
    have := congrArg BitVec.toNat h
    simp [BitVec.toNat_and, Nat.and_one_is_mod] at this
    exact this
  rw [← crcSteps_add]
  congr 1
  rw [BitVec.toNat_ushiftRight, Nat.shiftRight_eq_div_pow, Nat.pow_succ]
  have : n.toNat = 2 * (n.toNat / 2 ^ 1) + 1 := by omega
  generalize n.toNat / 2 ^ 1 = q at this ⊢
  rw [this]
  generalize 2 ^ e = p
  rw [Nat.mul_add, Nat.mul_one, ← Nat.mul_assoc, ← Nat.mul_assoc, Nat.mul_assoc 8 p 2]
theorem join_even (e : Nat) (n : BitVec 64) (a : B32) (h : ¬ (n &&& 1#64 = 1#64)) : crcSteps (8 * 2 ^ (e + 1) * (n >>> 1).toNat) a = crcSteps (8 * 2 ^ e * n.toNat) a := by
  have h1 : n.toNat % 2 = 0 := by
    rcases Nat.mod_two_eq_zero_or_one n.toNat with h0 | h0
    · exact h0
    · refine absurd (BitVec.eq_of_toNat_eq ?_) h
      simp [BitVec.toNat_and, Nat.and_one_is_mod, h0]
  congr 1
  rw [BitVec.toNat_ushiftRight, Nat.shiftRight_eq_div_pow, Nat.pow_succ]
  have : n.toNat = 2 * (n.toNat / 2 ^ 1) := by omega
  generalize n.toNat / 2 ^ 1 = q at this ⊢
  rw [this]
  generalize 2 ^ e = p
  rw [← Nat.mul_assoc, ← Nat.mul_assoc, Nat.mul_assoc 8 p 2]

/-- the bytes of a sum, the lowest first -/
def le4 (s : B32) : List B8 := [s.setWidth 8, (s >>> 8).setWidth 8, (s >>> 16).setWidth 8, (s >>> 24).setWidth 8]
/-- bytes with their sum behind them -/
def crcHolds (l : List B8) : Bool := decide (4 ≤ l.length) && decide (l.drop (l.length - 4) = le4 (crcOf (l.take (l.length - 4))))
theorem crcHolds_short {l : List B8} (h : l.length < 4) : crcHolds l = false := by
  unfold crcHolds; simp; intro h2; omega
theorem crcHolds_eq {l : List B8} {k : Nat} (h : l.length = k + 4) (s : B32) (hs : s = crcOf (l.take k)) :
    crcHolds l = (decide (l[k] = s.setWidth 8) && decide (l[k + 1] = (s >>> 8).setWidth 8) && decide (l[k + 2] = (s >>> 16).setWidth 8) && decide (l[k + 3] = (s >>> 24).setWidth 8)) := by
  subst hs
  have e : l.drop k = [l[k], l[k + 1], l[k + 2], l[k + 3]] := by
    apply List.ext_getElem
    · simp; omega
    · intro i h1 h2
      simp at h2
      have : i = 0 ∨ i = 1 ∨ i = 2 ∨ i = 3 := by omega
      rcases this with rfl | rfl | rfl | rfl <;> simp
  unfold crcHolds
  rw [show l.length - 4 = k by omega, e, le4]
  simp [h, Bool.and_assoc]

theorem join_none (a : B32) : crcJoin a 0#32 (0#64).toNat = a := by simp [crcJoin, crcSteps]
theorem join_first (b : B32) (n : Nat) : crcJoin 0#32 b n = b := by simp [crcJoin, crcSteps_zero]
theorem join_join (a b c : B32) (n m : Nat) : crcJoin (crcJoin a b n) c m = crcJoin a (crcJoin b c m) (n + m) := by
  simp only [crcJoin, crcSteps_xor]
  rw [← crcSteps_add, show 8 * m + 8 * n = 8 * (n + m) by omega, BitVec.xor_assoc]
theorem joins_assoc (a b c : B32) (n m : BitVec 64) : crcJoin (crcJoin a b (n >>> 2).toNat) c (m >>> 2).toNat = crcJoin a (crcJoin b c (m >>> 2).toNat) (n >>> 2 + m >>> 2).toNat := by
  rw [join_join]
  congr 1
  rw [BitVec.toNat_add, Nat.mod_eq_of_lt]
  simp only [BitVec.toNat_ushiftRight, Nat.shiftRight_eq_div_pow]
  have := n.isLt
  have := m.isLt
  omega

end Go.Sum
