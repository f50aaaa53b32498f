/-
  The plain law of the sum, continued: pieces, exclusive or, turned bits, sums that hold.
-/
import Derived.Test.YtfacofbobmlmiaaSumRef
set_option linter.unusedVariables false
set_option linter.unusedSimpArgs false
namespace Go.Sum

/-! pieces -/
theorem crcRun_append (r : B32) (a b : List B8) : crcRun r (a ++ b) = crcRun (crcRun r a) b := by simp [crcRun, List.foldl_append]
theorem crcMore_append (s : B32) (a b : List B8) : crcMore (crcMore s a) b = crcMore s (a ++ b) := by
  simp only [crcMore, BitVec.not_not, crcRun_append]
theorem crcByte_xor (r s : B32) (c d : B8) : crcByte (r ^^^ s) (c ^^^ d) = crcByte r c ^^^ crcByte s d := by
  unfold crcByte
  rw [← crcSteps_xor]
  congr 1
  rw [BitVec.setWidth_xor]
  ac_rfl
theorem crcRun_xor : ∀ (a b : List B8) (r s : B32), a.length = b.length → crcRun (r ^^^ s) (List.zipWith (· ^^^ ·) a b) = crcRun r a ^^^ crcRun s b
  | [], [], _, _, _ => rfl
  | [], _ :: _, _, _, h => by simp at h
  | _ :: _, [], _, _, h => by simp at h
  | c :: a, d :: b, r, s, h => by
    simp only [crcRun, List.zipWith_cons_cons, List.foldl_cons]
    rw [crcByte_xor]
    exact crcRun_xor a b _ _ (by simpa using h)
/-- a run over so many noughts -/
theorem crcRun_noughts (r : B32) (n : Nat) : crcRun r (List.replicate n 0#8) = crcSteps (8 * n) r := by
  induction n generalizing r with
  | zero => rfl
  | succ n ih =>
    simp only [crcRun, List.replicate_succ, List.foldl_cons] at *
    rw [ih, show 8 * (n + 1) = 8 * n + 8 by omega, crcSteps_add]
    congr 1
    simp [crcByte]
theorem zip_noughts (a : List B8) : List.zipWith (· ^^^ ·) (List.replicate a.length 0#8) a = a := by
  induction a with
  | nil => rfl
  | cons c a ih => simp only [List.length_cons, List.replicate_succ, List.zipWith_cons_cons, ih]; simp
/-- what the register was goes on by itself -/
theorem crcRun_split (r : B32) (a : List B8) : crcRun r a = crcSteps (8 * a.length) r ^^^ crcRun 0#32 a := by
  have := crcRun_xor (List.replicate a.length 0#8) a r 0#32 (by simp)
  rw [zip_noughts, BitVec.xor_zero, crcRun_noughts] at this
  exact this
theorem join_pieces (a b : List B8) : crcJoin (crcOf a) (crcOf b) b.length = crcOf (a ++ b) := by
  simp only [crcJoin, crcOf, crcMore]
  rw [crcRun_append, crcRun_split (crcRun _ a) b, crcRun_split (~~~ 0#32) b]
  have e : ~~~ (crcRun (~~~ 0#32) a) = ~~~ 0#32 ^^^ crcRun (~~~ 0#32) a := by
    rw [show (~~~ 0#32 : B32) = BitVec.allOnes 32 by decide, BitVec.allOnes_xor]
  rw [e, crcSteps_xor]
  generalize crcSteps (8 * b.length) (~~~ 0#32) = u
  generalize crcSteps (8 * b.length) (crcRun (~~~ 0#32) a) = v
  generalize crcRun 0#32 b = w
  apply BitVec.eq_of_getLsbD_eq
  intro i hi
  simp only [BitVec.getLsbD_xor, BitVec.getLsbD_not, hi, decide_true, Bool.true_and]
  cases u.getLsbD i <;> cases v.getLsbD i <;> cases w.getLsbD i <;> rfl
theorem linear (a b : List B8) (h : a.length = b.length) : crcOf a ^^^ crcOf b ^^^ crcOf (List.zipWith (· ^^^ ·) a b) ^^^ crcOf (List.replicate a.length 0#8) = 0#32 := by
  simp only [crcOf, crcMore]
  rw [crcRun_split (~~~ 0#32) a, crcRun_split (~~~ 0#32) b, crcRun_split (~~~ 0#32) (List.zipWith _ a b), crcRun_split (~~~ 0#32) (List.replicate _ _)]
  have h1 : (List.zipWith (· ^^^ ·) a b).length = a.length := by simp [h]
  have h2 := crcRun_xor a b 0#32 0#32 h
  rw [BitVec.xor_self] at h2
  rw [h1, h2, crcRun_noughts, crcSteps_zero, List.length_replicate, ← h]
  generalize crcSteps (8 * a.length) (~~~ 0#32) = u
  generalize crcRun 0#32 a = v
  generalize crcRun 0#32 b = w
  apply BitVec.eq_of_getLsbD_eq
  intro i hi
  simp only [BitVec.getLsbD_xor, BitVec.getLsbD_not, hi, decide_true, Bool.true_and, BitVec.getLsbD_zero]
  cases u.getLsbD i <;> cases v.getLsbD i <;> cases w.getLsbD i <;> rfl

/-! no step loses anything -/
theorem crcStep_inj {x : B32} (h : crcStep x = 0#32) : x = 0#32 := by
  rw [crcStep_eq] at h
  cases h0 : x.getLsbD 0 with
  | true =>
    rw [h0] at h
    have := congrArg (fun y => y.getLsbD 31) h
    simp [BitVec.getLsbD_xor] at this
  | false =>
    rw [h0] at h
    simp at h
    apply BitVec.eq_of_getLsbD_eq
    intro i hi
    cases i with
    | zero => simpa using h0
    | succ i =>
      have := congrArg (fun y => y.getLsbD i) h
      simp only [BitVec.getLsbD_ushiftRight, BitVec.getLsbD_zero] at this
      rw [Nat.add_comm] at this
      simpa using this
theorem crcSteps_inj {x : B32} (k : Nat) (h : crcSteps k x = 0#32) : x = 0#32 := by
  induction k with
  | zero => exact h
  | succ k ih => exact ih (crcStep_inj h)
theorem crcSteps_inj2 {x y : B32} (k : Nat) (h : crcSteps k x = crcSteps k y) : x = y := by
  have : crcSteps k (x ^^^ y) = 0#32 := by rw [crcSteps_xor, h, BitVec.xor_self]
  have := crcSteps_inj k this
  have e : x ^^^ y ^^^ y = 0#32 ^^^ y := by rw [this]
  rw [BitVec.xor_assoc, BitVec.xor_self, BitVec.xor_zero, BitVec.zero_xor] at e
  exact e

/-! turned bits -/
/-- a bit is turned over -/
def flip (l : List B8) (k : Nat) : List B8 := l.set (k / 8) (l.getD (k / 8) 0#8 ^^^ (1#8 <<< (k % 8)))
theorem flip_length (l : List B8) (k : Nat) : (flip l k).length = l.length := by simp [flip]
theorem flip_run : ∀ (l : List B8) (k : Nat) (r : B32), k < 8 * l.length → crcRun r (flip l k) = crcRun r l ^^^ crcSteps (8 * l.length - k) 1#32
  | [], k, r, h => by simp at h
  | c :: l, k, r, h => by
    by_cases hk : k < 8
    · have e : flip (c :: l) k = (c ^^^ (1#8 <<< k)) :: l := by
        simp [flip, Nat.div_eq_of_lt hk, Nat.mod_eq_of_lt hk]
      rw [e]
      simp only [crcRun, List.foldl_cons]
      have h1 : crcByte r (c ^^^ 1#8 <<< k) = crcByte r c ^^^ crcSteps (8 - k) 1#32 := by
        have := crcByte_xor r 0#32 c (1#8 <<< k)
        rw [BitVec.xor_zero] at this
        rw [this]
        congr 1
        unfold crcByte
        rw [BitVec.zero_xor]
        have e2 : (1#8 <<< k).setWidth 32 = 1#32 <<< k := by
          apply BitVec.eq_of_getLsbD_eq
          intro i hi
          simp only [BitVec.getLsbD_setWidth, BitVec.getLsbD_shiftLeft, BitVec.getLsbD_one, hi, decide_true, Bool.true_and]
          by_cases h5 : i - k = 0
          · by_cases h6 : i < k
            · simp [h6]
            · have : i < 8 := by omega
              simp [this]
          · simp [h5]
        rw [e2, show (8 : Nat) = 8 - k + k by omega, crcSteps_add, steps_bit k (by omega)]
        congr 1
        omega
      have h2 := crcRun_split (crcByte r (c ^^^ 1#8 <<< k)) l
      have h3 := crcRun_split (crcByte r c) l
      simp only [crcRun] at h2 h3
      rw [h2, h3, h1, crcSteps_xor, ← crcSteps_add]
      rw [show 8 * l.length + (8 - k) = 8 * (c :: l).length - k by simp only [List.length_cons]; omega]
      ac_rfl
    · have e : flip (c :: l) k = c :: flip l (k - 8) := by
        have h1 : k / 8 = (k - 8) / 8 + 1 := by omega
        have h2 : k % 8 = (k - 8) % 8 := by omega
        simp [flip, h1, h2]
      rw [e]
      simp only [crcRun, List.foldl_cons]
      have := flip_run l (k - 8) (crcByte r c) (by simp only [List.length_cons] at h; omega)
      simp only [crcRun] at this
      rw [this]
      congr 2
      simp only [List.length_cons]
      omega

/-- what of a word's bits is turned, from a place on, in bytes of so many bits -/
def turnedK (l : List B8) (start : Nat) (by_ : B32) : Nat → List B8 × Bool
  | 0 => (l, false)
  | i + 1 => if start + i < 8 * l.length ∧ (by_ >>> i) &&& 1#32 = 1#32 then (flip (turnedK l start by_ i).1 (start + i), true) else turnedK l start by_ i
def turnedAll (l : List B8) (start : Nat) (by_ : B32) : List B8 × Bool := turnedK l start by_ 32
theorem turnedK_length (l : List B8) (start : Nat) (by_ : B32) : ∀ i, (turnedK l start by_ i).1.length = l.length
  | 0 => rfl
  | i + 1 => by
    simp only [turnedK]
    split
    · rw [flip_length, turnedK_length l start by_ i]
    · exact turnedK_length l start by_ i
theorem turnedK_past (l : List B8) (start : Nat) (by_ : B32) (k : Nat) (h : 8 * l.length ≤ start + k) : ∀ j, k ≤ j → turnedK l start by_ j = turnedK l start by_ k
  | 0, hj => by have : k = 0 := by omega
                subst this; rfl
  | j + 1, hj => by
    by_cases e : k = j + 1
    · subst e; rfl
    · rw [← turnedK_past l start by_ k h j (by omega)]
      simp only [turnedK]
      rw [if_neg (by omega)]
/-- the word that is turned -/
def word (n start : Nat) (by_ : B32) : Nat → B32
  | 0 => 0#32
  | i + 1 => if start + i < 8 * n ∧ (by_ >>> i) &&& 1#32 = 1#32 then word n start by_ i ^^^ 1#32 <<< i else word n start by_ i
theorem word_bit (n start : Nat) (by_ : B32) : ∀ k, k ≤ 32 → ∀ i, i < 32 → (word n start by_ k).getLsbD i = (decide (i < k) && decide (start + i < 8 * n) && by_.getLsbD i)
  | 0, _, i, _ => by simp [word]
  | k + 1, hk, i, hi => by
    have ih := word_bit n start by_ k (by omega) i hi
    have hb := bit_at by_ k
    simp only [word]
    by_cases hc : start + k < 8 * n ∧ (by_ >>> k) &&& 1#32 = 1#32
    · rw [if_pos hc, BitVec.getLsbD_xor, ih]
      simp only [BitVec.getLsbD_shiftLeft, hi, decide_true, Bool.true_and, BitVec.getLsbD_one]
      by_cases h1 : i = k
      · subst h1; simp [hc.1, hb.1 hc.2]
      · by_cases h2 : i < k
        · simp [h2, show i < k + 1 by omega]
        · simp [h2, show ¬ i < k + 1 by omega, show ¬ i - k = 0 by omega]
    · rw [if_neg hc, ih]
      by_cases h1 : i = k
      · subst h1
        have : ¬ (start + i < 8 * n ∧ by_.getLsbD i = true) := fun e => hc ⟨e.1, hb.2 e.2⟩
        simp
        intro e
        cases h : by_.getLsbD i
        · rfl
        · exact absurd ⟨e, h⟩ this
      · by_cases h2 : i < k
        · simp [h2, show i < k + 1 by omega]
        · simp [h2, show ¬ i < k + 1 by omega]
theorem turnedK_was (l : List B8) (start : Nat) (by_ : B32) : ∀ k, k ≤ 32 → ((turnedK l start by_ k).2 = true ↔ word l.length start by_ k ≠ 0#32)
  | 0, _ => by simp [turnedK, word]
  | k + 1, hk => by
    have ih := turnedK_was l start by_ k (by omega)
    simp only [turnedK, word]
    by_cases hc : start + k < 8 * l.length ∧ (by_ >>> k) &&& 1#32 = 1#32
    · rw [if_pos hc, if_pos hc]
      simp only [true_iff]
      intro e
      have := congrArg (fun x => x.getLsbD k) e
      simp only [BitVec.getLsbD_xor, word_bit _ _ _ k (by omega) k (by omega)] at this
      simp [BitVec.getLsbD_shiftLeft, show k < 32 by omega] at this
    · rw [if_neg hc, if_neg hc]; exact ih
theorem turnedK_run (l : List B8) (start : Nat) (by_ : B32) (r : B32) (hs : start < 8 * l.length) : ∀ k, k ≤ 32 → crcRun r (turnedK l start by_ k).1 = crcRun r l ^^^ crcSteps (8 * l.length - start) (word l.length start by_ k)
  | 0, _ => by simp [turnedK, word, crcSteps_zero]
  | k + 1, hk => by
    have ih := turnedK_run l start by_ r hs k (by omega)
    simp only [turnedK, word]
    by_cases hc : start + k < 8 * l.length ∧ (by_ >>> k) &&& 1#32 = 1#32
    · rw [if_pos hc, if_pos hc, flip_run _ _ _ (by rw [turnedK_length]; exact hc.1), ih, turnedK_length, crcSteps_xor]
      have : crcSteps (8 * l.length - start) (1#32 <<< k) = crcSteps (8 * l.length - (start + k)) 1#32 := by
        rw [show 8 * l.length - start = 8 * l.length - (start + k) + k by omega, crcSteps_add, steps_bit k (by omega)]
      rw [this, BitVec.xor_assoc]
    · rw [if_neg hc, if_neg hc]; exact ih
/-- bits turned within 32 in a row turn what a run comes to; it stays only where none was turned -/
theorem bursts (l : List B8) (start : Nat) (by_ : B32) (r : B32) (hs : start < 8 * l.length) : crcRun r (turnedAll l start by_).1 = crcRun r l ↔ (turnedAll l start by_).2 = false := by
  unfold turnedAll
  have hw := turnedK_was l start by_ 32 (by omega)
  rw [turnedK_run l start by_ r hs 32 (by omega)]
  constructor
  · intro h
    have : crcSteps (8 * l.length - start) (word l.length start by_ 32) = 0#32 := by
      have e := congrArg (fun x => crcRun r l ^^^ x) h
      simp only [← BitVec.xor_assoc, BitVec.xor_self, BitVec.zero_xor] at e
      exact e
    have := crcSteps_inj _ this
    cases hb : (turnedK l start by_ 32).2
    · rfl
    · exact absurd this (hw.1 hb)
  · intro h
    have : word l.length start by_ 32 = 0#32 := by
      apply Classical.byContradiction
      intro e
      rw [hw.2 e] at h
      cases h
    rw [this, crcSteps_zero, BitVec.xor_zero]
theorem not_inj {x y : B32} : (~~~x = ~~~y) ↔ x = y := ⟨fun h => by rw [← BitVec.not_not (b := x), h, BitVec.not_not], fun h => by rw [h]⟩
theorem bursts_sum (l : List B8) (start : Nat) (by_ : B32) (hs : start < 8 * l.length) : decide (crcOf (turnedAll l start by_).1 ≠ crcOf l) = (turnedAll l start by_).2 := by
  have := bursts l start by_ (~~~ 0#32) hs
  simp only [crcOf, crcMore, ne_eq, not_inj, this]
  cases (turnedAll l start by_).2 <;> simp

/-! sums that hold -/
/-- what a run over bytes and their sum comes to -/
def residue : B32 := crcSteps 32 (~~~ 0#32)
theorem word_le4 (s : B32) (r : B32) : crcRun r (le4 s) = crcSteps 32 (r ^^^ s) := by
  have hb : bitsOf (le4 s) = (List.range 32).map fun i => s.getLsbD i := by
    have hr : List.range 32 = List.range 8 ++ (List.range 8).map (8 + ·) ++ (List.range 8).map (16 + ·) ++ (List.range 8).map (24 + ·) := by decide
    rw [hr]
    simp only [bitsOf, le4, List.flatMap_cons, List.flatMap_nil, bits8_eq, List.map_append, List.map_map, List.append_nil, List.append_assoc]
    congr 1
    · apply List.map_congr_left
      intro i hi
      have := List.mem_range.1 hi
      simp [this]
    · congr 1
      · apply List.map_congr_left
        intro i hi
        have := List.mem_range.1 hi
        simp [this]
      · congr 1
        · apply List.map_congr_left
          intro i hi
          have := List.mem_range.1 hi
          simp [this]
        · apply List.map_congr_left
          intro i hi
          have := List.mem_range.1 hi
          simp [this]
  rw [run_bits, hb]
  exact (steps_bits (fun i => s.getLsbD i) r 32 (by omega) s (fun i hi => by simp [hi])).symm
theorem le4_inj {s t : B32} (h : le4 s = le4 t) : s = t := by
  have h1 := word_le4 s 0#32
  rw [h, word_le4] at h1
  have := crcSteps_inj2 32 h1
  rw [BitVec.zero_xor, BitVec.zero_xor] at this
  exact this.symm
theorem four_le4 {l : List B8} (h : l.length = 4) : ∃ s, l = le4 s := by
  match l, h with
  | [a, b, c, d], _ =>
    refine ⟨a.setWidth 32 ^^^ (b.setWidth 32 <<< 8) ^^^ (c.setWidth 32 <<< 16) ^^^ (d.setWidth 32 <<< 24), ?_⟩
    unfold le4
    have e : ∀ (i : Nat) (x y : B8), (∀ j, j < 8 → x.getLsbD j = y.getLsbD j) → x = y := fun _ x y h => BitVec.eq_of_getLsbD_eq fun j hj => h j hj
    congr 1
    · refine e 0 _ _ fun j hj => ?_
      simp [hj, show j < 32 by omega, show j < 16 by omega, show j < 24 by omega]
    congr 1
    · refine e 0 _ _ fun j hj => ?_
      simp [hj, show 8 + j < 32 by omega, show 8 + j < 16 by omega, show 8 + j < 24 by omega, BitVec.getLsbD_of_ge a (8 + j) (by omega)]
    congr 1
    · refine e 0 _ _ fun j hj => ?_
      simp [hj, show 16 + j < 32 by omega, show ¬ 16 + j < 16 by omega, show 16 + j < 24 by omega, BitVec.getLsbD_of_ge a (16 + j) (by omega), BitVec.getLsbD_of_ge b (16 + j - 8) (by omega)]
    congr 1
    · refine e 0 _ _ fun j hj => ?_
      simp [hj, show 24 + j < 32 by omega, BitVec.getLsbD_of_ge a (24 + j) (by omega), BitVec.getLsbD_of_ge b (24 + j - 8) (by omega), BitVec.getLsbD_of_ge c (24 + j - 16) (by omega)]
theorem holds_iff (l : List B8) (h : 4 ≤ l.length) : crcHolds l = true ↔ crcRun (~~~ 0#32) l = residue := by
  obtain ⟨s, hs⟩ := four_le4 (l := l.drop (l.length - 4)) (by simp; omega)
  have hl : l = l.take (l.length - 4) ++ le4 s := by rw [← hs, List.take_append_drop]
  have h1 : crcRun (~~~ 0#32) l = crcSteps 32 (crcRun (~~~ 0#32) (l.take (l.length - 4)) ^^^ s) := by
    conv => lhs; rw [hl]
    rw [crcRun_append, word_le4]
  rw [h1]
  unfold crcHolds residue
  simp only [h, decide_true, Bool.true_and, decide_eq_true_eq, hs]
  have hc : crcOf (l.take (l.length - 4)) = ~~~ crcRun (~~~ 0#32) (l.take (l.length - 4)) := rfl
  rw [hc]
  generalize crcRun (~~~ 0#32) (l.take (l.length - 4)) = r
  have hx : ∀ t : B32, r ^^^ t = ~~~ 0#32 ↔ t = ~~~ r := fun t => by
    rw [show (~~~ 0#32 : B32) = BitVec.allOnes 32 by decide]
    constructor
    · intro e
      have : r ^^^ (r ^^^ t) = r ^^^ BitVec.allOnes 32 := by rw [e]
      rw [← BitVec.xor_assoc, BitVec.xor_self, BitVec.zero_xor, BitVec.xor_allOnes] at this
      exact this
    · intro e
      rw [e, ← BitVec.allOnes_xor, BitVec.xor_comm, BitVec.xor_assoc, BitVec.xor_self, BitVec.xor_zero]
  constructor
  · intro e
    rw [(hx s).2 (le4_inj e)]
  · intro e
    rw [(hx s).1 (crcSteps_inj2 32 e)]
theorem le4_length (s : B32) : (le4 s).length = 4 := rfl
theorem holds_own (l : List B8) (s : B32) : crcHolds (l ++ le4 s) = decide (s = crcOf l) := by
  have h1 : (l ++ le4 s).length = l.length + 4 := by simp [le4]
  unfold crcHolds
  rw [h1, Nat.add_sub_cancel, List.drop_left, List.take_left]
  have : decide (4 ≤ l.length + 4) = true := by simp
  rw [this, Bool.true_and, decide_eq_decide]
  exact ⟨fun e => le4_inj e, fun e => by rw [e]⟩
theorem holds_turned (l : List B8) (start : Nat) (by_ : B32) (h4 : 4 ≤ l.length) (hh : crcHolds l = true) (hs : start < 8 * l.length) : crcHolds (turnedAll l start by_).1 = !(turnedAll l start by_).2 := by
  have hl : (turnedAll l start by_).1.length = l.length := turnedK_length l start by_ 32
  have h1 := (holds_iff l h4).1 hh
  have h2 := holds_iff (turnedAll l start by_).1 (by omega)
  have h3 := bursts l start by_ (~~~ 0#32) hs
  rw [← h1, h3] at h2
  cases h : (turnedAll l start by_).2
  · exact h2.2 h
  · cases h5 : crcHolds (turnedAll l start by_).1
    · rfl
    · have := h2.1 h5; rw [h] at this; cases this

end Go.Sum
