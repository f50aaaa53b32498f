/-
  The plain stock, continued: calls.
-/
import Derived.Test.YtdbbkodjhmfjfaaStockMath
set_option linter.unusedVariables false
set_option linter.unusedSimpArgs false
namespace Go.SL

structure Ac9 where
  k : Int
  o : BitVec 32
  name : ByteArray
  n : Int
deriving DecidableEq
def cellsA (a : Ac9) : List Value := [.int .i64 a.k, .int .u32 a.o.toNat, .string a.name, .int .i64 a.n]
theorem cellsA_len (a : Ac9) : (cellsA a).length = 4 := rfl
def isHold (a : Ac9) : Bool := decide (a.k = 0) || decide (a.k = 1)
def actV (K : List Gd) (L : List Ho) (a : Ac9) : Int := if isHold a then vd (holdB K L a.o a.name a.n) else vd (findK Ho.o L a.o).isSome
def actKs (K : List Gd) (L : List Ho) (a : Ac9) : List Gd := if isHold a then holdKs K L a.o a.name a.n else if a.k = 2 then leaveKs K L a.o false else leaveKs K L a.o true
def actLs (K : List Gd) (L : List Ho) (a : Ac9) : List Ho := if isHold a then holdLs K L a.o a.name a.n else delK Ho.o L a.o
theorem SInv.act {first K : List Gd} {L : List Ho} (h : SInv first K L) (a : Ac9) : SInv first (actKs K L a) (actLs K L a) := by
  unfold actKs actLs
  cases isHold a
  · simp only [Bool.false_eq_true, if_false]
    split
    · exact h.leave a.o false
    · exact h.leave a.o true
  · exact h.hold a.o a.name a.n
theorem actV_or (K : List Gd) (L : List Ho) (a : Ac9) : actV K L a = 1 ∨ (actV K L a = 2 ∧ actKs K L a = K ∧ actLs K L a = L) := by
  unfold actV actKs actLs
  cases isHold a
  · simp only [Bool.false_eq_true, if_false]
    cases hf : findK Ho.o L a.o with
    | none =>
      right
      refine ⟨rfl, ?_, delK_none hf⟩
      unfold leaveKs
      rw [hf]
      split <;> rfl
    | some x => exact .inl rfl
  · simp only [if_true]
    unfold holdKs holdLs
    cases holdB K L a.o a.name a.n
    · exact .inr ⟨rfl, rfl, rfl⟩
    · exact .inl rfl
open Classical in
noncomputable def longB (gs : List Gd) (acs : List Ac9) : Bool := decide (200 < gs.length ∨ (∃ g ∈ gs, 1000 < g.name.size) ∨ ∃ (j : Nat) (h : j < acs.length), j < 200 ∧ 1000 < acs[j].name.size)
theorem long_yes {gs : List Gd} {acs : List Ac9} (h : 200 < gs.length ∨ (∃ g ∈ gs, 1000 < g.name.size) ∨ ∃ (j : Nat) (h : j < acs.length), j < 200 ∧ 1000 < acs[j].name.size) : longB gs acs = true := by
  unfold longB; exact decide_eq_true h
theorem long_no {gs : List Gd} {acs : List Ac9} (h1 : gs.length ≤ 200) (h2 : ∀ (j : Nat) (h : j < gs.length), gs[j].name.size ≤ 1000) (h3 : ∀ (j : Nat) (h : j < acs.length), j < 200 → acs[j].name.size ≤ 1000) : longB gs acs = false := by
  unfold longB
  apply decide_eq_false
  rintro (h | ⟨g, hg, h⟩ | ⟨j, hj, h4, h⟩)
  · omega
  · obtain ⟨j, hj, rfl⟩ := List.getElem_of_mem hg
    have := h2 j hj; omega
  · have := h3 j hj h4; omega
theorem cell_at2 {α : Type} {enc : α → List Value} {k : Nat} (hk : ∀ x, (enc x).length = k) {L : List α} {cs : List Value} {o i c : Nat} (hcs : (cs.drop o).take (L.flatMap enc).length = L.flatMap enc) (hi : i < L.length) (hc : c < k) : cs[o + (i : Int).toNat * k + c]? = (enc L[i])[c]? := by
  have h1 := flat_get enc k hk L i c hc
  rw [List.getElem?_eq_getElem hi, Option.bind_some] at h1
  rw [← h1, Int.toNat_natCast]
  have h2 : i * k + c < (L.flatMap enc).length := by
    rw [flat_len enc k hk]
    have := Nat.mul_le_mul_right k (show i + 1 ≤ L.length from hi)
    rw [Nat.add_mul, Nat.one_mul] at this
    omega
  conv => rhs; rw [← hcs]
  rw [List.getElem?_take_of_lt h2, List.getElem?_drop]
  congr 1
  omega
/-- what is told of a good -/
def g2 (g : Gd) : ByteArray × Int := (g.name, g.free)
theorem same_gd (x y : Gd) : cellsEq [1, 0] (cellsG x) (cellsG y) = some (decide (g2 x = g2 y)) := by
  cases x with | mk a b c =>
  cases y with | mk a' b' c' =>
  simp only [cellsEq, cellEq, cellsG, if_true, Option.bind_some, Option.map_some, Option.some.injEq, g2, Prod.mk.injEq]
  rw [Bool.eq_iff_iff]
  simp only [Bool.and_eq_true, decide_eq_true_eq, Bool.and_true]
theorem same_ho (x y : Ho) : cellsEq [0, 1, 0] (cellsH x) (cellsH y) = some (decide (x = y)) := by
  cases x with | mk a b c =>
  cases y with | mk a' b' c' =>
  simp only [cellsEq, cellEq, cellsH, if_true, Option.bind_some, Option.map_some, Option.some.injEq, Ho.mk.injEq]
  rw [Bool.eq_iff_iff]
  simp only [Bool.and_eq_true, decide_eq_true_eq, Bool.and_true]
  constructor
  · rintro ⟨h1, rfl, rfl⟩
    exact ⟨BitVec.eq_of_toNat_eq (by omega), rfl, rfl⟩
  · rintro ⟨rfl, rfl, rfl⟩
    exact ⟨rfl, rfl, rfl⟩
theorem Gr.get {A B : List Ck} {c : Ck} (h : ∀ x ∈ A, x ∈ B) (hm : c ∈ A) : c ∈ B := h c hm

end Go.SL
