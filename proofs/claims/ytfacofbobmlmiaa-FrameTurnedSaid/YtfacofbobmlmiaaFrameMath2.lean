/-
  The plain law of frames, continued: what the code reads at a place is the frame that stands there.
-/
import Derived.Test.YtfacofbobmlmiaaFrameMath
set_option linter.unusedVariables false
set_option linter.unusedSimpArgs false
namespace Go.Sum

theorem ite_iff {α : Type} {p q : Prop} [Decidable p] [Decidable q] (h : p ↔ q) (x y : α) : (if p then x else y) = if q then x else y := by
  by_cases hp : p
  · rw [if_pos hp, if_pos (h.1 hp)]
  · rw [if_neg hp, if_neg (fun hq => hp (h.2 hq))]
theorem step_nat (n : BitVec 64) (c : B8) (h : n.toNat < 72057594037927936) : ((n <<< 8) ||| c.setWidth 64).toNat = n.toNat * 256 + c.toNat := by
  have hc : c.toNat < 256 := c.isLt
  have h1 : (n <<< 8).toNat = n.toNat * 256 := by
    rw [BitVec.toNat_shiftLeft, Nat.shiftLeft_eq]
    omega
  rw [BitVec.toNat_or, h1, BitVec.toNat_setWidth]
  rw [Nat.mod_eq_of_lt (by omega)]
  have := Nat.shiftLeft_add_eq_or_of_lt (i := 8) (b := c.toNat) (by omega) n.toNat
  rw [Nat.shiftLeft_eq] at this
  exact this.symm
theorem beN2 (a b : B8) : (beN [a, b]).toNat = a.toNat * 256 + b.toNat := by
  have ha := a.isLt
  have h1 : ((0#64 <<< 8) ||| a.setWidth 64).toNat = a.toNat := by rw [step_nat _ _ (by decide)]; simp
  show (((0#64 <<< 8 ||| a.setWidth 64) <<< 8) ||| b.setWidth 64).toNat = _
  rw [step_nat _ _ (by omega), h1]
theorem beN4 (a b c d : B8) : (beN [a, b, c, d]).toNat = ((a.toNat * 256 + b.toNat) * 256 + c.toNat) * 256 + d.toNat := by
  have ha := a.isLt
  have hb := b.isLt
  have hc := c.isLt
  have h2 := beN2 a b
  have h3 : (((beN [a, b]) <<< 8) ||| c.setWidth 64).toNat = (a.toNat * 256 + b.toNat) * 256 + c.toNat := by rw [step_nat _ _ (by omega), h2]
  show ((((beN [a, b]) <<< 8 ||| c.setWidth 64) <<< 8) ||| d.setWidth 64).toNat = _
  rw [step_nat _ _ (by omega), h3]
theorem be4_eq (s : B32) : be4 s = [(s >>> 24).setWidth 8, (s >>> 16).setWidth 8, (s >>> 8).setWidth 8, s.setWidth 8] := by
  have h : ∀ k, k ≤ 24 → ((s.setWidth 64) >>> k).setWidth 8 = (s >>> k).setWidth 8 := by
    intro k hk
    apply BitVec.eq_of_getLsbD_eq
    intro i hi
    simp only [BitVec.getLsbD_setWidth, BitVec.getLsbD_ushiftRight, hi, decide_true, Bool.true_and]
    simp
    intro h9; omega
  show [(s.setWidth 64 >>> 24).setWidth 8, (s.setWidth 64 >>> 16).setWidth 8, (s.setWidth 64 >>> 8).setWidth 8, (s.setWidth 64 >>> 0).setWidth 8] = _
  rw [h 24 (by omega), h 16 (by omega), h 8 (by omega), h 0 (by omega)]
  simp
theorem be4_iff (s : B32) (a b c d : B8) : be4 s = [a, b, c, d] ↔ (beN [a, b, c, d]).setWidth 32 = s := by
  rw [be4_eq]
  have ha := a.isLt
  have hb := b.isLt
  have hc := c.isLt
  have hd := d.isLt
  have hs := s.isLt
  constructor
  · intro h
    simp only [List.cons.injEq, and_true] at h
    obtain ⟨h1, h2, h3, h4⟩ := h
    subst h1 h2 h3 h4
    apply BitVec.eq_of_toNat_eq
    rw [BitVec.toNat_setWidth, beN4]
    simp only [BitVec.toNat_setWidth, BitVec.toNat_ushiftRight, Nat.shiftRight_eq_div_pow]
    omega
  · intro h
    have h' := congrArg BitVec.toNat h
    rw [BitVec.toNat_setWidth, beN4] at h'
    simp only [List.cons.injEq, and_true]
    refine ⟨?_, ?_, ?_, ?_⟩ <;> apply BitVec.eq_of_toNat_eq <;> simp only [BitVec.toNat_setWidth, BitVec.toNat_ushiftRight, Nat.shiftRight_eq_div_pow] <;> omega
theorem be2_of (a b : B8) : be2 (a.toNat * 256 + b.toNat) = [a, b] := by
  rw [beW2]
  have ha := a.isLt
  have hb := b.isLt
  simp only [List.cons.injEq, and_true]
  refine ⟨?_, ?_⟩ <;> apply BitVec.eq_of_toNat_eq <;> simp only [BitVec.toNat_setWidth, BitVec.toNat_ushiftRight, Nat.shiftRight_eq_div_pow, BitVec.toNat_ofNat] <;> omega
theorem be2_get (n : Nat) (h : n ≤ 2000) : ∃ a b : B8, be2 n = [a, b] ∧ a.toNat * 256 + b.toNat = n := by
  refine ⟨_, _, beW2 n, ?_⟩
  simp only [BitVec.toNat_setWidth, BitVec.toNat_ushiftRight, Nat.shiftRight_eq_div_pow, BitVec.toNat_ofNat]
  omega

theorem eight {l : List B8} (h : 8 ≤ l.length) : ∃ a b c d e f g i t, l = a :: b :: c :: d :: e :: f :: g :: i :: t := by
  match l, h with
  | a :: b :: c :: d :: e :: f :: g :: i :: t, _ => exact ⟨a, b, c, d, e, f, g, i, t, rfl⟩

/-- what the code reads of a rest -/
def codeAt (b : List B8) : Option (List B8) :=
  let n := ((beN ((b.drop 2).take 2)).setWidth 16).toNat
  if 8 ≤ b.length ∧ (beN (b.take 2)).setWidth 16 = 55206#16 ∧ n ≤ 2000 ∧ 8 + n ≤ b.length ∧ crcMore (crcOf ((b.drop 2).take 2)) ((b.drop 8).take n) = (beN ((b.drop 4).take 4)).setWidth 32 then some ((b.drop 8).take n) else none
theorem codeAt_eq (b : List B8) : codeAt b = bodyAt b := by
  by_cases h8 : 8 ≤ b.length
  · obtain ⟨a0, a1, a2, a3, a4, a5, a6, a7, t, rfl⟩ := eight h8
    have hn : ((beN [a2, a3]).setWidth 16).toNat = a2.toNat * 256 + a3.toNat := by
      rw [BitVec.toNat_setWidth, beN2]
      have := a2.isLt
      have := a3.isLt
      omega
    obtain ⟨n, hn2⟩ : ∃ n, n = a2.toNat * 256 + a3.toNat := ⟨_, rfl⟩
    have hm : ((beN [a0, a1]).setWidth 16 = 55206#16) ↔ (a0 = 215#8 ∧ a1 = 166#8) := by
      have h0 := a0.isLt
      have h1 := a1.isLt
      constructor
      · intro h
        have h' := congrArg BitVec.toNat h
        rw [BitVec.toNat_setWidth, beN2] at h'
        have e : (55206#16).toNat = 55206 := rfl
        rw [e] at h'
        constructor <;> apply BitVec.eq_of_toNat_eq <;> simp <;> omega
      · rintro ⟨rfl, rfl⟩; decide
    have hc : codeAt (a0 :: a1 :: a2 :: a3 :: a4 :: a5 :: a6 :: a7 :: t) = if (a0 = 215#8 ∧ a1 = 166#8) ∧ n ≤ 2000 ∧ n ≤ t.length ∧ crcOf ([a2, a3] ++ t.take n) = (beN [a4, a5, a6, a7]).setWidth 32 then some (t.take n) else none := by
      unfold codeAt
      simp only [List.drop_succ_cons, List.drop_zero, List.take_succ_cons, List.take_zero, List.length_cons]
      rw [hn, ← hn2, show ∀ x y, crcMore (crcOf x) y = crcOf (x ++ y) from fun x y => crcMore_append 0#32 x y]
      refine ite_iff ?_ _ _
      constructor
      · rintro ⟨_, h2, h3, h4, h5⟩; exact ⟨hm.1 h2, h3, by omega, h5⟩
      · rintro ⟨h2, h3, h4, h5⟩; exact ⟨by omega, hm.2 h2, h3, by omega, h5⟩
    have hb : bodyAt (a0 :: a1 :: a2 :: a3 :: a4 :: a5 :: a6 :: a7 :: t) = if n ≤ t.length ∧ n ≤ 2000 ∧ frameOf (t.take n) = a0 :: a1 :: a2 :: a3 :: a4 :: a5 :: a6 :: a7 :: t.take n then some (t.take n) else none := by
      unfold bodyAt
      have e2 : ((a0 :: a1 :: a2 :: a3 :: a4 :: a5 :: a6 :: a7 :: t).getD 2 0#8) = a2 := rfl
      have e3 : ((a0 :: a1 :: a2 :: a3 :: a4 :: a5 :: a6 :: a7 :: t).getD 3 0#8) = a3 := rfl
      simp only [e2, e3, ← hn2]
      have e8 : ((a0 :: a1 :: a2 :: a3 :: a4 :: a5 :: a6 :: a7 :: t).drop 8) = t := rfl
      have et : ((a0 :: a1 :: a2 :: a3 :: a4 :: a5 :: a6 :: a7 :: t).take (8 + n)) = a0 :: a1 :: a2 :: a3 :: a4 :: a5 :: a6 :: a7 :: t.take n := by
        rw [Nat.add_comm]; rfl
      rw [e8, et]
      refine ite_iff ?_ _ _
      constructor
      · rintro ⟨h1, h2⟩; exact ⟨by simp only [List.length_cons] at *; omega, h2⟩
      · rintro ⟨h1, h2⟩; exact ⟨by simp only [List.length_cons] at *; omega, h2⟩
    rw [hc, hb]
    refine ite_iff ?_ _ _
    constructor
    · rintro ⟨⟨rfl, rfl⟩, h3, h4, h5⟩
      refine ⟨h4, h3, ?_⟩
      have hl : (t.take n).length = n := by simp; omega
      rw [frameOf, hl, hn2, be2_of, ← hn2, h5]
      rw [(be4_iff _ a4 a5 a6 a7).2 rfl]
      rfl
    · rintro ⟨h3, h4, h5⟩
      have hl : (t.take n).length = n := by simp; omega
      rw [frameOf, hl, hn2, be2_of, ← hn2] at h5
      obtain ⟨b0, b1, b2, b3, hb4⟩ : ∃ b0 b1 b2 b3, be4 (crcOf ([a2, a3] ++ t.take n)) = [b0, b1, b2, b3] := ⟨_, _, _, _, be4_eq _⟩
      rw [hb4] at h5
      simp only [List.cons_append, List.nil_append, List.cons.injEq] at h5
      obtain ⟨h6, h7, _, _, h8', h9, h10, h11, _⟩ := h5
      subst h8' h9 h10 h11
      exact ⟨⟨h6.symm, h7.symm⟩, h4, h3, ((be4_iff _ _ _ _ _).1 hb4).symm⟩
  · unfold codeAt bodyAt
    rw [if_neg (fun h => h8 h.1), if_neg (fun h => h8 (by have := h.1; omega))]

end Go.Sum
