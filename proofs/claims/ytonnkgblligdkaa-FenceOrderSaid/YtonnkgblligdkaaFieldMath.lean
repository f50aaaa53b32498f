/-
  The plain law of fields: numbers' bytes, texts' bytes, a reader's state.
-/
import Derived.Test.YtonnkgblligdkaaSLMore9
set_option linter.unusedVariables false
set_option linter.unusedSimpArgs false
namespace Go.SL

/-- a number's bytes, the highest first -/
def beW (n : BitVec 64) (k : Nat) : List (BitVec 8) := (List.range k).map fun i => (n >>> (8 * (k - 1 - i))).setWidth 8
theorem beW_length (n : BitVec 64) (k : Nat) : (beW n k).length = k := by simp [beW]
theorem beW_next (n : BitVec 64) (k i : Nat) (h : i < k) : (beW n k).take (i + 1) = (beW n k).take i ++ [(n >>> (8 * (k - 1 - i))).setWidth 8] := by
  rw [List.take_succ_eq_append_getElem (by rw [beW_length]; exact h)]
  simp [beW]
theorem beW_one (n : BitVec 8) : beW (n.setWidth 64) 1 = [n] := by
  simp [beW]
/-- the number of bytes -/
def beN (l : List (BitVec 8)) : BitVec 64 := l.foldl (fun n c => (n <<< 8) ||| c.setWidth 64) 0#64
theorem beN_next (l : List (BitVec 8)) (i : Nat) (h : i < l.length) : beN (l.take (i + 1)) = ((beN (l.take i)) <<< 8) ||| l[i].setWidth 64 := by
  unfold beN
  rw [List.take_succ_eq_append_getElem h, List.foldl_append]
  rfl
theorem beN_nil : beN [] = 0#64 := rfl
theorem beN_one (b : BitVec 8) : (beN [b]).setWidth 8 = b := by
  apply BitVec.eq_of_getLsbD_eq
  intro i hi
  simp [beN, BitVec.getLsbD_setWidth, hi]
theorem step_nat (n : BitVec 64) (c : BitVec 8) (h : n.toNat < 72057594037927936) : ((n <<< 8) ||| c.setWidth 64).toNat = n.toNat * 256 + c.toNat := by
  have hc := c.isLt
  have e1 : (n <<< 8).toNat = 2 ^ 8 * n.toNat := by
    simp [BitVec.toNat_shiftLeft, Nat.shiftLeft_eq]
    omega
  have e2 : (c.setWidth 64).toNat = c.toNat := by
    rw [BitVec.toNat_setWidth]
    omega
  rw [BitVec.toNat_or, e1, e2, ← Nat.two_pow_add_eq_or_of_lt (by simpa using hc)]
  omega
theorem be4_eq (s : BitVec 32) : beW (s.setWidth 64) 4 = [(s >>> 24).setWidth 8, (s >>> 16).setWidth 8, (s >>> 8).setWidth 8, s.setWidth 8] := by
  have h : ∀ k, k ≤ 24 → ((s.setWidth 64) >>> k).setWidth 8 = (s >>> k).setWidth 8 := fun k hk => by
    apply BitVec.eq_of_getLsbD_eq
    intro i hi
    simp only [BitVec.getLsbD_setWidth, BitVec.getLsbD_ushiftRight, hi, decide_true, Bool.true_and]
    simp
    try (intro h; omega)
  show [((s.setWidth 64) >>> 24).setWidth 8, ((s.setWidth 64) >>> 16).setWidth 8, ((s.setWidth 64) >>> 8).setWidth 8, ((s.setWidth 64) >>> 0).setWidth 8] = _
  rw [h 24 (by omega), h 16 (by omega), h 8 (by omega), h 0 (by omega), BitVec.ushiftRight_zero]
theorem beN2 (a b : BitVec 8) : (beN [a, b]).toNat = a.toNat * 256 + b.toNat := by
  have ha := a.isLt
  have h1 : ((0#64 <<< 8) ||| a.setWidth 64).toNat = a.toNat := by rw [step_nat _ _ (by decide)]; simp
  show (((0#64 <<< 8 ||| a.setWidth 64) <<< 8) ||| b.setWidth 64).toNat = _
  rw [step_nat _ _ (by omega), h1]
theorem beN4 (a b c d : BitVec 8) : (beN [a, b, c, d]).toNat = ((a.toNat * 256 + b.toNat) * 256 + c.toNat) * 256 + d.toNat := by
  have ha := a.isLt
  have hb := b.isLt
  have hc := c.isLt
  have h2 := beN2 a b
  have h3 : (((beN [a, b]) <<< 8) ||| c.setWidth 64).toNat = (a.toNat * 256 + b.toNat) * 256 + c.toNat := by rw [step_nat _ _ (by omega), h2]
  show ((((beN [a, b]) <<< 8 ||| c.setWidth 64) <<< 8) ||| d.setWidth 64).toNat = _
  rw [step_nat _ _ (by omega), h3]
theorem be4_back (s : BitVec 32) : (beN (beW (s.setWidth 64) 4)).setWidth 32 = s := by
  rw [be4_eq]
  apply BitVec.eq_of_toNat_eq
  rw [BitVec.toNat_setWidth, beN4]
  have := s.isLt
  simp only [BitVec.toNat_setWidth, BitVec.toNat_ushiftRight, Nat.shiftRight_eq_div_pow]
  omega
theorem be4_fore (a b c d : BitVec 8) : beW (((beN [a, b, c, d]).setWidth 32).setWidth 64) 4 = [a, b, c, d] := by
  rw [be4_eq]
  have h := beN4 a b c d
  have ha := a.isLt; have hb := b.isLt; have hc := c.isLt; have hd := d.isLt
  have e : ((beN [a, b, c, d]).setWidth 32).toNat = ((a.toNat * 256 + b.toNat) * 256 + c.toNat) * 256 + d.toNat := by
    rw [BitVec.toNat_setWidth, h]; omega
  congr 1
  · apply BitVec.eq_of_toNat_eq
    simp only [BitVec.toNat_setWidth, BitVec.toNat_ushiftRight, Nat.shiftRight_eq_div_pow] at e ⊢
    omega
  congr 1
  · apply BitVec.eq_of_toNat_eq
    simp only [BitVec.toNat_setWidth, BitVec.toNat_ushiftRight, Nat.shiftRight_eq_div_pow] at e ⊢
    omega
  congr 1
  · apply BitVec.eq_of_toNat_eq
    simp only [BitVec.toNat_setWidth, BitVec.toNat_ushiftRight, Nat.shiftRight_eq_div_pow] at e ⊢
    omega
  congr 1
  apply BitVec.eq_of_toNat_eq
  simp only [BitVec.toNat_setWidth] at e ⊢
  omega
/-! a reader's state: what is left, and whether it fell short -/
def rdShort (bs : List (BitVec 8)) (sh : Bool) (k : Nat) : Bool := sh || decide (bs.length < k)
def rdGot (bs : List (BitVec 8)) (sh : Bool) (k : Nat) : List (BitVec 8) := if rdShort bs sh k then [] else bs.take k
def rdRest (bs : List (BitVec 8)) (sh : Bool) (k : Nat) : List (BitVec 8) := if rdShort bs sh k then bs else bs.drop k
theorem rdGot_len (bs : List (BitVec 8)) (sh : Bool) (k : Nat) : (rdGot bs sh k).length ≤ k := by
  unfold rdGot; split <;> simp; omega
theorem rdRest_len (bs : List (BitVec 8)) (sh : Bool) (k : Nat) : (rdRest bs sh k).length ≤ bs.length := by
  unfold rdRest; split <;> simp
/-- how many bytes a text takes -/
def txN (bs : List (BitVec 8)) : Nat := 1 + (bs.headD 0#8).toNat
theorem txN_le (bs : List (BitVec 8)) : txN bs ≤ 256 := by
  unfold txN
  have := (bs.headD 0#8).isLt
  omega
def txGot (bs : List (BitVec 8)) (sh : Bool) : List (BitVec 8) := (rdGot bs sh (txN bs)).drop 1
theorem txGot_len (bs : List (BitVec 8)) (sh : Bool) : (txGot bs sh).length ≤ 255 := by
  unfold txGot
  have := rdGot_len bs sh (txN bs)
  have := txN_le bs
  rw [List.length_drop]; omega
/-- a reader's state behind a reading -/
structure Rst where
  bs : List (BitVec 8)
  sh : Bool
def Rst.got (r : Rst) (k : Nat) : List (BitVec 8) := rdGot r.bs r.sh k
def Rst.on (r : Rst) (k : Nat) : Rst := ⟨rdRest r.bs r.sh k, rdShort r.bs r.sh k⟩
def Rst.u8 (r : Rst) : BitVec 8 := (beN (r.got 1)).setWidth 8
def Rst.u32 (r : Rst) : BitVec 32 := (beN (r.got 4)).setWidth 32
def Rst.text (r : Rst) : List (BitVec 8) := txGot r.bs r.sh
def Rst.onT (r : Rst) : Rst := r.on (txN r.bs)
theorem Rst.on_len (r : Rst) (k : Nat) : (r.on k).bs.length ≤ r.bs.length := rdRest_len _ _ _
/-- a text's bytes -/
def tb (s : List (BitVec 8)) : List (BitVec 8) := BitVec.ofInt 8 s.length :: s
/-! reading what was written -/
theorem Rst.got_app {a b : List (BitVec 8)} {k : Nat} (h : a.length = k) : (Rst.mk (a ++ b) false).got k = a ∧ (Rst.mk (a ++ b) false).on k = ⟨b, false⟩ := by
  have hs : rdShort (a ++ b) false k = false := by simp [rdShort]; omega
  constructor
  · show rdGot _ _ _ = _
    unfold rdGot
    rw [hs, if_neg (by decide), List.take_append_of_le_length (by omega), List.take_of_length_le (by omega)]
  · show Rst.mk (rdRest _ _ _) (rdShort _ _ _) = _
    unfold rdRest
    rw [hs, if_neg (by decide), List.drop_append_of_le_length (by omega), List.drop_of_length_le (by omega)]
    rfl
theorem Rst.u8_app (x : BitVec 8) (b : List (BitVec 8)) : (Rst.mk (x :: b) false).u8 = x ∧ (Rst.mk (x :: b) false).on 1 = ⟨b, false⟩ := by
  have h := Rst.got_app (a := [x]) (b := b) (k := 1) rfl
  rw [List.singleton_append] at h
  refine ⟨?_, h.2⟩
  unfold Rst.u8
  rw [h.1, beN_one]
theorem Rst.u32_app (x : BitVec 32) (b : List (BitVec 8)) : (Rst.mk (beW (x.setWidth 64) 4 ++ b) false).u32 = x ∧ (Rst.mk (beW (x.setWidth 64) 4 ++ b) false).on 4 = ⟨b, false⟩ := by
  have h := Rst.got_app (a := beW (x.setWidth 64) 4) (b := b) (k := 4) (beW_length _ _)
  refine ⟨?_, h.2⟩
  unfold Rst.u32
  rw [h.1, be4_back]
theorem len8 {s : List (BitVec 8)} (h : s.length ≤ 255) : (BitVec.ofInt 8 (s.length : Int)).toNat = s.length := by
  rw [BitVec.toNat_ofInt]
  omega
theorem Rst.text_app {s : List (BitVec 8)} (hs : s.length ≤ 255) (b : List (BitVec 8)) : (Rst.mk (tb s ++ b) false).text = s ∧ (Rst.mk (tb s ++ b) false).onT = ⟨b, false⟩ := by
  have hn : txN (tb s ++ b) = 1 + s.length := by
    unfold txN tb
    rw [List.cons_append, List.headD_cons, len8 hs]
  have h := Rst.got_app (a := tb s) (b := b) (k := 1 + s.length) (by simp [tb]; omega)
  constructor
  · show (rdGot _ _ (txN _)).drop 1 = s
    rw [hn]
    have h1 := h.1
    unfold Rst.got at h1
    simp only at h1
    rw [h1]
    rfl
  · show (Rst.mk (tb s ++ b) false).on (txN (tb s ++ b)) = _
    rw [hn]
    exact h.2
/-! what was read whole was so written -/
theorem Rst.on_whole {r : Rst} {k : Nat} (h : (r.on k).sh = false) : r.sh = false ∧ r.bs = r.got k ++ (r.on k).bs ∧ (r.got k).length = k := by
  have h' : rdShort r.bs r.sh k = false := h
  have h1 : r.sh = false ∧ ¬ r.bs.length < k := by
    simpa [rdShort] using h'
  refine ⟨h1.1, ?_, ?_⟩
  · show r.bs = rdGot _ _ _ ++ rdRest _ _ _
    unfold rdGot rdRest
    rw [h', if_neg (by decide), if_neg (by decide), List.take_append_drop]
  · show (rdGot _ _ _).length = k
    unfold rdGot
    rw [h', if_neg (by decide), List.length_take]
    omega
theorem Rst.u8_whole {r : Rst} (h : (r.on 1).sh = false) : r.sh = false ∧ r.bs = r.u8 :: (r.on 1).bs := by
  obtain ⟨h1, h2, h3⟩ := Rst.on_whole h
  refine ⟨h1, ?_⟩
  obtain ⟨x, hx⟩ : ∃ x, r.got 1 = [x] := by
    match hg : r.got 1, h3 with
    | [x], _ => exact ⟨x, rfl⟩
  rw [hx] at h2
  unfold Rst.u8
  rw [hx, beN_one]
  exact h2
theorem Rst.u32_whole {r : Rst} (h : (r.on 4).sh = false) : r.sh = false ∧ r.bs = beW (r.u32.setWidth 64) 4 ++ (r.on 4).bs := by
  obtain ⟨h1, h2, h3⟩ := Rst.on_whole h
  refine ⟨h1, ?_⟩
  unfold Rst.u32
  generalize r.got 4 = g at h2 h3 ⊢
  match g, h3 with
  | [a, b, c, d], _ => rw [be4_fore]; exact h2
theorem Rst.text_whole {r : Rst} (h : r.onT.sh = false) : r.sh = false ∧ r.bs = tb r.text ++ r.onT.bs ∧ r.text.length ≤ 255 := by
  obtain ⟨h1, h2, h3⟩ := Rst.on_whole (k := txN r.bs) h
  refine ⟨h1, ?_, txGot_len _ _⟩
  have e : r.got (txN r.bs) = tb r.text := by
    have e1 : r.text = (r.got (txN r.bs)).drop 1 := rfl
    unfold tb
    rw [e1]
    generalize hg : r.got (txN r.bs) = g at h2 h3 ⊢
    cases g with
    | nil =>
      simp [txN] at h3
      omega
    | cons x g =>
      simp only [List.drop_one, List.tail_cons]
      congr 1
      have hx : (r.bs.headD 0#8) = x := by rw [h2]; rfl
      have hl : g.length = x.toNat := by
        unfold txN at h3
        rw [hx] at h3
        simp at h3
        omega
      rw [hl]
      apply BitVec.eq_of_toNat_eq
      rw [BitVec.toNat_ofInt]
      have := x.isLt
      omega
  rw [← e]
  exact h2
end Go.SL
