/-
  The plain dock, continued: a call's outcome; sums of what is told.
-/
import Derived.Test.YtmdbmcicbambjaaDockSort
set_option linter.unusedVariables false
set_option linter.unusedSimpArgs false
namespace Go.SL

def isBook (k : Int) : Bool := decide (0 ≤ k) && decide (k ≤ 2)
/-- what a call answers -/
def actR (rs : List Int) (L : List Bk) (k : Int) (o : BitVec 32) (f n : Int) : Int × Int := if isBook k then resOf (bookOf rs L o f n) else (0, resC (findB L o))
def actRs (rs : List Int) (L : List Bk) (k : Int) (o : BitVec 32) (f n : Int) : List Int := if isBook k then roomsB rs (bookOf rs L o f n) n else roomsC rs (findB L o)
def actL (rs : List Int) (L : List Bk) (k : Int) (o : BitVec 32) (f n : Int) : List Bk := if isBook k then listB L (bookOf rs L o f n) o n else listC L (findB L o) o
theorem DInv.act {first rs : List Int} {L : List Bk} (h : DInv first rs L) (k : Int) (o : BitVec 32) (f n : Int) : DInv first (actRs rs L k o f n) (actL rs L k o f n) := by
  unfold actRs actL
  cases isBook k
  · exact h.cancel o
  · exact h.book o f n
theorem act_v (rs : List Int) (L : List Bk) (k : Int) (o : BitVec 32) (f n : Int) : (actR rs L k o f n).2 = 1 ∨ ((actR rs L k o f n).2 = 2 ∧ actRs rs L k o f n = rs ∧ actL rs L k o f n = L) := by
  unfold actR actRs actL
  cases isBook k
  · simp only [Bool.false_eq_true, if_false]
    cases findB L o
    · exact .inr ⟨rfl, rfl, rfl⟩
    · exact .inl rfl
  · simp only [if_true]
    cases bookOf rs L o f n
    · exact .inr ⟨rfl, rfl, rfl⟩
    · exact .inl rfl
theorem sumDay_perm {S L : List Bk} (h : S.Perm L) (d : Nat) : sumDay S d = sumDay L d := by
  induction h with
  | nil => rfl
  | cons x _ ih => simp only [sumDay, List.map_cons, List.sum_cons] at *; rw [ih]
  | swap x y l => simp only [sumDay, List.map_cons, List.sum_cons]; omega
  | trans _ _ i1 i2 => rw [i1, i2]
theorem sumDay_take (S : List Bk) (k : Nat) (hk : k < S.length) (d : Nat) : sumDay (S.take (k + 1)) d = sumDay (S.take k) d + if S[k].day = d then S[k].n else 0 := by
  rw [← sumDay_snoc, List.take_succ_eq_append_getElem hk]
theorem sumDay_app (A B : List Bk) (d : Nat) : sumDay (A ++ B) d = sumDay A d + sumDay B d := by simp [sumDay]
theorem sumDay_part {S : List Bk} (h : ∀ b ∈ S, 1 ≤ b.n) (k d : Nat) : 0 ≤ sumDay (S.take k) d ∧ sumDay (S.take k) d ≤ sumDay S d := by
  have h1 := sumDay_nonneg (fun b hb => h b (List.mem_of_mem_take hb)) (L := S.take k) d
  have h2 := sumDay_nonneg (fun b hb => h b (List.mem_of_mem_drop hb)) (L := S.drop k) d
  have h3 := sumDay_app (S.take k) (S.drop k) d
  rw [List.take_append_drop] at h3
  omega

theorem find_snoc (L : List Bk) (b : Bk) (h : findB L b.o = none) : findB (L ++ [b]) b.o = some b := by
  unfold findB at *
  rw [List.find?_append, h]
  simp
theorem bookOf_again (rs : List Int) (L : List Bk) (b : Bk) (h : findB L b.o = none) (f n : Int) : bookOf rs (L ++ [b]) b.o f n = none := by
  rw [bookOf, if_pos]
  exact .inr (.inr (.inr (by rw [find_snoc L b h]; rfl)))
theorem del_snoc (L : List Bk) (b : Bk) (h : findB L b.o = none) : delB (L ++ [b]) b.o = L := by
  unfold delB
  rw [List.filter_append]
  have h1 : (L.filter fun c => decide (b.o ≠ c.o)) = L := by
    rw [List.filter_eq_self]
    intro c hc
    have := List.find?_eq_none.1 h c hc
    simpa using this
  rw [h1]
  simp
theorem set_back (rs : List Int) (o : BitVec 32) (d : Nat) (n : Int) (h : d < rs.length) : roomsC (rs.set d (rs.getD d 0 - n)) (some ⟨o, d, n⟩) = rs := by
  simp only [roomsC]
  apply List.ext_getElem
  · simp
  · intro i h1 h2
    simp only [List.getElem_set, List.getD, List.getElem?_set, h]
    by_cases e : d = i
    · subst e; simp [h]
    · simp [e]
theorem bookOf_some {rs : List Int} {L : List Bk} {o : BitVec 32} {f n : Int} {d : Nat} (h : bookOf rs L o f n = some d) : d < rs.length ∧ findB L o = none := by
  unfold bookOf at h
  split at h
  · cases h
  · rename_i hc
    refine ⟨(dayOf_spec h).1, ?_⟩
    cases e : findB L o with
    | none => rfl
    | some b => exact absurd (.inr (.inr (.inr (by rw [e]; rfl)))) hc

end Go.SL
