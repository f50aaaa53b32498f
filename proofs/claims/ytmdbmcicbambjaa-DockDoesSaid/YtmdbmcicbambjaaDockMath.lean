/-
  The plain dock.
-/
import Derived.Test.YtmdbmcicbambjaaSLMap
set_option linter.unusedVariables false
set_option linter.unusedSimpArgs false
namespace Go.SL

/-- a booking -/
structure Bk where
  o : BitVec 32
  day : Nat
  n : Int
deriving DecidableEq
def Bk.val (b : Bk) : Value := .agg #[.int .u32 b.o.toNat, .int .i64 b.day, .int .i64 b.n]
def bks (L : List Bk) : List (Int × Value) := L.map fun b => ((b.o.toNat : Int), b.val)
def findB (L : List Bk) (o : BitVec 32) : Option Bk := L.find? fun b => decide (o = b.o)
theorem getM_bks (L : List Bk) (o : BitVec 32) : getM (bks L) (o.toNat : Int) = (findB L o).map Bk.val := by
  induction L with
  | nil => rfl
  | cons b L ih =>
    have h : ((o.toNat : Int) = (b.o.toNat : Int)) ↔ o = b.o := by
      constructor
      · intro e; exact BitVec.eq_of_toNat_eq (by omega)
      · rintro rfl; rfl
    by_cases e : o = b.o
    · simp [getM, bks, findB, e]
    · have e2 : ¬ ((o.toNat : Int) = (b.o.toNat : Int)) := fun x => e (h.1 x)
      have h1 : getM (bks (b :: L)) (o.toNat : Int) = getM (bks L) (o.toNat : Int) := by
        simp only [getM, bks, List.map_cons]
        rw [List.find?_cons_of_neg (by simpa using e2)]
      have h2 : findB (b :: L) o = findB L o := by
        simp only [findB]
        rw [List.find?_cons_of_neg (by simpa using e)]
      rw [h1, h2, ih]
theorem getD_val (L : List Bk) (o : BitVec 32) : (getM (bks L) (o.toNat : Int)).getD (.agg #[.int .u32 0, .int .i64 0, .int .i64 0]) = ((findB L o).getD ⟨0#32, 0, 0⟩).val := by
  rw [getM_bks]
  cases findB L o <;> rfl
theorem isSome_val (L : List Bk) (o : BitVec 32) : (getM (bks L) (o.toNat : Int)).isSome = (findB L o).isSome := by
  rw [getM_bks]
  cases findB L o <;> rfl
theorem bks_snoc (L : List Bk) (b : Bk) : bks L ++ [((b.o.toNat : Int), b.val)] = bks (L ++ [b]) := by simp [bks]
theorem nodup_snoc {L : List Bk} {b : Bk} (h : (L.map (·.o)).Nodup) (hn : findB L b.o = none) : ((L ++ [b]).map (·.o)).Nodup := by
  rw [List.map_append, List.nodup_append]
  refine ⟨h, by simp, ?_⟩
  intro x hx y hy
  obtain ⟨c, hc, rfl⟩ := List.mem_map.1 hx
  simp at hy
  subst hy
  have := List.find?_eq_none.1 hn c hc
  intro e
  simp at this
  exact this e.symm
def delB (L : List Bk) (o : BitVec 32) : List Bk := L.filter fun b => decide (o ≠ b.o)
theorem delM_bks (L : List Bk) (o : BitVec 32) : delM (bks L) (o.toNat : Int) = bks (delB L o) := by
  induction L with
  | nil => rfl
  | cons b L ih =>
    have h : ((o.toNat : Int) = (b.o.toNat : Int)) ↔ o = b.o := by
      constructor
      · intro e; exact BitVec.eq_of_toNat_eq (by omega)
      · rintro rfl; rfl
    have e1 : bks (b :: L) = ((b.o.toNat : Int), b.val) :: bks L := rfl
    rw [e1]
    by_cases e : o = b.o
    · have h1 : delM (((b.o.toNat : Int), b.val) :: bks L) (o.toNat : Int) = delM (bks L) (o.toNat : Int) := by
        unfold delM; rw [List.filter_cons_of_neg (by simp [e])]
      have h2 : delB (b :: L) o = delB L o := by unfold delB; rw [List.filter_cons_of_neg (by simp [e])]
      rw [h1, h2, ih]
    · have e2 : ¬ ((o.toNat : Int) = (b.o.toNat : Int)) := fun x => e (h.1 x)
      have h1 : delM (((b.o.toNat : Int), b.val) :: bks L) (o.toNat : Int) = ((b.o.toNat : Int), b.val) :: delM (bks L) (o.toNat : Int) := by
        unfold delM; rw [List.filter_cons_of_pos (by simpa using e2)]
      have h2 : delB (b :: L) o = b :: delB L o := by unfold delB; rw [List.filter_cons_of_pos (by simpa using e)]
      rw [h1, h2, ih]
      rfl
theorem delB_nodup {L : List Bk} (o : BitVec 32) (h : (L.map (·.o)).Nodup) : ((delB L o).map (·.o)).Nodup := h.sublist (List.filter_sublist.map _)
/-- the rooms are counts -/
def RoomsOk (rs : List Int) : Prop := ∀ j, 0 ≤ rs.getD j 0 ∧ rs.getD j 0 ≤ 1000000
def roomOf (rs : List Int) (day : Int) : Int := if 0 ≤ day ∧ day < rs.length then rs.getD day.toNat 0 else 0
/-- the day that a booking gets -/
def dayOf (rs : List Int) (from_ : Int) (n : Int) : Option Nat := (List.range rs.length).find? fun d => decide (from_ ≤ (d : Int)) && decide (n ≤ rs.getD d 0)
def bookOf (rs : List Int) (L : List Bk) (o : BitVec 32) (from_ n : Int) : Option Nat :=
  if o = 0#32 ∨ n < 1 ∨ from_ < 0 ∨ (findB L o).isSome then none else dayOf rs from_ n
theorem dayOf_yes (rs : List Int) (from_ n : Int) (d : Nat) (hd : d < rs.length) (h1 : from_ ≤ d) (h2 : n ≤ rs.getD d 0) (hno : ∀ j, j < d → ¬ (from_ ≤ (j : Int) ∧ n ≤ rs.getD j 0)) : dayOf rs from_ n = some d := by
  unfold dayOf
  rw [List.find?_eq_some_iff_getElem]
  refine ⟨by simp [h1]; simpa using h2, d, by simpa using hd, by simp, fun j hj => ?_⟩
  have := hno j hj
  simp only [List.getElem_range]
  simp only [Bool.not_eq_true', Bool.and_eq_false_iff, decide_eq_false_iff_not]
  by_cases h : from_ ≤ (j : Int)
  · right; intro h3; exact this ⟨h, h3⟩
  · left; exact h
theorem dayOf_no (rs : List Int) (from_ n : Int) (hno : ∀ j, j < rs.length → ¬ (from_ ≤ (j : Int) ∧ n ≤ rs.getD j 0)) : dayOf rs from_ n = none := by
  unfold dayOf
  rw [List.find?_eq_none]
  intro j hj
  have := hno j (by simpa using hj)
  simp only [Bool.and_eq_true, decide_eq_true_eq]
  exact this
theorem ic_set (l : List Int) (i : Nat) (x : Int) : (ic l).set i (.int .i64 x) = ic (l.set i x) := by simp [ic, List.map_set]
/-- a dock that lies at p -/
def DockAt (TD TI p : Nat) (rs : List Int) (L : List Bk) (C : List Ck) : Prop :=
  ∃ vr Cr bm Cm, C = row p [vr, .map (some bm)] TD :: (Cr ++ Cm) ∧ Own vr rs.length (ic rs) TI 1 Cr ∧ Mp bm .u32 (bks L) Cm ∧ (L.map (·.o)).Nodup
theorem keys_nodup {L : List Bk} (h : (L.map (·.o)).Nodup) : ((bks L).map (·.1)).Nodup := by
  have e : (bks L).map (·.1) = (L.map (·.o)).map fun o => (o.toNat : Int) := by simp [bks]
  rw [e]
  unfold List.Nodup at *
  rw [List.pairwise_map]
  exact h.imp fun {a b} hab e => hab (BitVec.eq_of_toNat_eq (by omega))

theorem run_equal_nilS {P : Program} {T e : TypeId} (hT : P.underlying T = some (.slice e)) (ao : Option Addr) (n c : Nat) (w : World) : (Op.equal T (.slice ao n c) (.slice none 0 0)).run P w = .ok ao.isNone w := by
  have h : ∀ d, (Op.equalIn (d + 1) T (.slice ao n c) (.slice none 0 0)).run P w = .ok ao.isNone w := fun d => by cases ao <;> simp [Op.equalIn, run_underlying hT]
  exact h 9999
theorem Yd.eqlNilS {P : Program} {l : Sl} {d : Option Nat} {ty : TypeId} {pos : String} {aft : Array Edge} {g : Option (Nat × Bool)} {T T' e : TypeId} {x y : Operand} {ao : Option Addr} {n c : Nat} (hT : P.underlying T = some (.slice e)) (hx : ev l x = some (.slice ao n c)) (hy : ev l y = some (.slice none 0 0)) : Yd P ⟨d, .binOp .eql T x y T', ty, pos, aft, g⟩ l (.bool ao.isNone) := fun a kn w => by
  have : (eqGuard .eql T x y (.slice ao n c) (.slice none 0 0)).run P w = .ok () w := by unfold eqGuard; simp
  cases ao <;> simp [execOp, kn.ev hx, kn.ev hy, this, binOp, run_equal_nilS hT]

/-! a call's answer and the state behind it -/
def resOf (r : Option Nat) : Int × Int := match r with | none => (0, 2) | some d => ((d : Int), 1)
def roomsB (rs : List Int) (r : Option Nat) (n : Int) : List Int := match r with | none => rs | some d => rs.set d (rs.getD d 0 - n)
def listB (L : List Bk) (r : Option Nat) (o : BitVec 32) (n : Int) : List Bk := match r with | none => L | some d => L ++ [⟨o, d, n⟩]
def resC (b : Option Bk) : Int := match b with | none => 2 | some _ => 1
def roomsC (rs : List Int) (b : Option Bk) : List Int := match b with | none => rs | some b => rs.set b.day (rs.getD b.day 0 + b.n)
def listC (L : List Bk) (b : Option Bk) (o : BitVec 32) : List Bk := match b with | none => L | some _ => delB L o
theorem roomsOk_of {rs : List Int} (h : rs.all (fun x => decide (0 ≤ x) && decide (x ≤ 1000000)) = true) : RoomsOk rs := by
  intro j
  by_cases hj : j < rs.length
  · have := List.all_eq_true.1 h rs[j] (List.getElem_mem hj)
    simp only [List.getD, List.getElem?_eq_getElem hj, Option.getD_some]
    simpa using this
  · have e : rs[j]? = none := List.getElem?_eq_none (by omega)
    simp [List.getD, e]
theorem dayOf_spec {rs : List Int} {from_ n : Int} {d : Nat} (h : dayOf rs from_ n = some d) : d < rs.length ∧ from_ ≤ d ∧ n ≤ rs.getD d 0 ∧ ∀ j, j < d → ¬ (from_ ≤ (j : Int) ∧ n ≤ rs.getD j 0) := by
  unfold dayOf at h
  rw [List.find?_eq_some_iff_getElem] at h
  obtain ⟨h1, i, hi, h2, h3⟩ := h
  simp only [List.getElem_range] at h2
  subst h2
  simp only [List.length_range] at hi
  simp only [Bool.and_eq_true, decide_eq_true_eq] at h1
  refine ⟨hi, h1.1, h1.2, fun j hj hh => ?_⟩
  have := h3 j hj
  simp only [List.getElem_range] at this
  simp [hh.1] at this
  have := hh.2
  simp only [List.getD] at this
  omega
theorem dayOf_none {rs : List Int} {from_ n : Int} (h : dayOf rs from_ n = none) (j : Nat) (hj : j < rs.length) : ¬ (from_ ≤ (j : Int) ∧ n ≤ rs.getD j 0) := by
  unfold dayOf at h
  have := List.find?_eq_none.1 h j (by simpa using hj)
  simp only [Bool.and_eq_true, decide_eq_true_eq] at this
  exact this
/-- who asks later, or for more, is never earlier -/
theorem later_law (rs : List Int) (o : BitVec 32) (a b n m : Int) (hw : (resOf (bookOf rs [] o (max a b) (max n m))).2 = 1) (ha : 0 ≤ min a b) (hn : 1 ≤ min n m) :
    (resOf (bookOf rs [] o (min a b) (min n m))).2 = 1 ∧ (resOf (bookOf rs [] o (min a b) (min n m))).1 ≤ (resOf (bookOf rs [] o (max a b) (max n m))).1 ∧ max a b ≤ (resOf (bookOf rs [] o (max a b) (max n m))).1 := by
  cases h1 : bookOf rs [] o (max a b) (max n m) with
  | none => rw [h1] at hw; cases hw
  | some y =>
    have hcond : ¬ (o = 0#32 ∨ max n m < 1 ∨ max a b < 0 ∨ (findB [] o).isSome = true) := by
      intro hc
      rw [bookOf, if_pos hc] at h1
      cases h1
    have hd : dayOf rs (max a b) (max n m) = some y := by rw [bookOf, if_neg hcond] at h1; exact h1
    obtain ⟨g1, g2, g3, g4⟩ := dayOf_spec hd
    have hcond2 : ¬ (o = 0#32 ∨ min n m < 1 ∨ min a b < 0 ∨ (findB [] o).isSome = true) := by
      rintro (h | h | h | h)
      · exact hcond (.inl h)
      · omega
      · omega
      · cases h
    cases h2 : dayOf rs (min a b) (min n m) with
    | none => exact absurd ⟨by omega, by omega⟩ (dayOf_none h2 y g1)
    | some x =>
      have hb : bookOf rs [] o (min a b) (min n m) = some x := by rw [bookOf, if_neg hcond2]; exact h2
      obtain ⟨k1, k2, k3, k4⟩ := dayOf_spec h2
      rw [hb]
      refine ⟨rfl, ?_, ?_⟩
      · show (x : Int) ≤ (y : Int)
        by_cases hxy : x ≤ y
        · omega
        · exact absurd ⟨by omega, by omega⟩ (k4 y (by omega))
      · show max a b ≤ (y : Int)
        exact g2

end Go.SL
