/-
  The plain law of 'what comes out is its owner's': the patterns that are written.
-/
import Derived.Test.YtfacofbobmlmiaaSumMath
set_option linter.unusedVariables false
set_option linter.unusedSimpArgs false
namespace Go.Sum

def patB (i k : Nat) : B8 := BitVec.ofInt 8 ((i : Int) * 31 + (k : Int) % 7)
def pat (i n : Nat) : List B8 := (List.range n).map (patB i)
def extB (i k : Nat) : B8 := BitVec.ofInt 8 (200 + (i : Int) * 5 + (k : Int))
def ext (i n : Nat) : List B8 := (List.range n).map (extB i)
theorem pat_length (i n : Nat) : (pat i n).length = n := by simp [pat]
theorem ext_length (i n : Nat) : (ext i n).length = n := by simp [ext]
theorem ext_next (i k : Nat) : ext i (k + 1) = ext i k ++ [extB i k] := by simp [ext, List.range_succ]
theorem pat_get (i n k : Nat) (h : k < n) : (pat i n)[k]? = some (patB i k) := by simp [pat, h]
theorem ext_get (i n k : Nat) (h : k < n) : (ext i n)[k]? = some (extB i k) := by simp [ext, h]
/-- the lists' lengths -/
def lenAt (ls : List (List B8)) (j : Nat) : Nat := (ls.getD j []).length
/-- the lists, the first i filled, and of the next one the first k -/
def fillL (ls : List (List B8)) (i k : Nat) : List (List B8) := (List.range ls.length).map fun j => if j < i then pat j (lenAt ls j) else if j = i then (pat i (lenAt ls i)).take k ++ (ls.getD i []).drop k else ls.getD j []
theorem fillL_length (ls : List (List B8)) (i k : Nat) : (fillL ls i k).length = ls.length := by simp [fillL]
theorem fillL_zero (ls : List (List B8)) : fillL ls 0 0 = ls := by
  apply List.ext_getElem
  · simp [fillL]
  · intro j h1 h2
    simp only [fillL, List.getElem_map, List.getElem_range]
    by_cases h : j = 0
    · subst h; simp [List.getD, h2]
    · simp [h, List.getD, h2]
theorem fillL_at (ls : List (List B8)) (i k : Nat) (h : i < ls.length) : (fillL ls i k)[i]'(by rw [fillL_length]; exact h) = (pat i (lenAt ls i)).take k ++ (ls.getD i []).drop k := by
  simp [fillL]
theorem fillL_at_length (ls : List (List B8)) (i k : Nat) (h : i < ls.length) (hk : k ≤ lenAt ls i) : ((fillL ls i k)[i]'(by rw [fillL_length]; exact h)).length = lenAt ls i := by
  rw [fillL_at ls i k h, List.length_append, List.length_take, pat_length, List.length_drop]
  unfold lenAt at *
  omega
theorem fillL_set (ls : List (List B8)) (i k : Nat) (h : i < ls.length) (hk : k < lenAt ls i) : (fillL ls i k).set i (((fillL ls i k)[i]'(by rw [fillL_length]; exact h)).set k (patB i k)) = fillL ls i (k + 1) := by
  have e : ((pat i (lenAt ls i)).take k ++ (ls.getD i []).drop k).set k (patB i k) = (pat i (lenAt ls i)).take (k + 1) ++ (ls.getD i []).drop (k + 1) := by
    have hd : (ls.getD i []).drop k = (ls.getD i [])[k]'hk :: (ls.getD i []).drop (k + 1) := List.drop_eq_getElem_cons hk
    have ht : (pat i (lenAt ls i)).take (k + 1) = (pat i (lenAt ls i)).take k ++ [patB i k] := by
      rw [List.take_add_one, pat_get _ _ _ hk]; rfl
    have hl : ((pat i (lenAt ls i)).take k).length = k := by rw [List.length_take, pat_length]; omega
    rw [hd, ht, List.set_append_right _ _ (by omega), hl, Nat.sub_self, List.set_cons_zero, List.append_assoc]
    rfl
  rw [fillL_at ls i k h, e]
  apply List.ext_getElem
  · simp [fillL]
  · intro j h1 h2
    rw [List.getElem_set]
    by_cases hj : i = j
    · subst hj; simp [fillL]
    · rw [if_neg hj]
      simp only [fillL, List.getElem_map, List.getElem_range]
      rw [if_neg (show ¬ j = i by omega), if_neg (show ¬ j = i by omega)]
theorem fillL_row (ls : List (List B8)) (i : Nat) (h : i < ls.length) : fillL ls i (lenAt ls i) = fillL ls (i + 1) 0 := by
  apply List.ext_getElem
  · simp [fillL]
  · intro j h1 h2
    simp only [fillL, List.getElem_map, List.getElem_range]
    by_cases hj : j = i
    · subst hj
      rw [if_neg (by omega), if_pos rfl, if_pos (by omega)]
      rw [List.take_of_length_le (by rw [pat_length]; omega), List.drop_of_length_le (by unfold lenAt; omega)]
      simp
    · by_cases h3 : j < i
      · rw [if_pos h3, if_pos (by omega)]
      · rw [if_neg h3, if_neg hj, if_neg (by omega)]
        by_cases h4 : j = i + 1
        · subst h4; simp
        · rw [if_neg h4]
/-- all filled -/
def filled (ls : List (List B8)) : List (List B8) := fillL ls ls.length 0
theorem filled_length (ls : List (List B8)) : (filled ls).length = ls.length := fillL_length _ _ _
theorem filled_at (ls : List (List B8)) (i : Nat) (h : i < ls.length) : (filled ls)[i]'(by rw [filled_length]; exact h) = pat i (lenAt ls i) := by
  simp [filled, fillL, h]
theorem lenAt_le {ls : List (List B8)} {m : Nat} (h : ∀ l ∈ ls, l.length ≤ m) (i : Nat) : lenAt ls i ≤ m := by
  unfold lenAt
  by_cases hi : i < ls.length
  · simp only [List.getD, List.getElem?_eq_getElem hi, Option.getD_some]
    exact h _ (List.getElem_mem hi)
  · have e : ls[i]? = none := List.getElem?_eq_none (by omega)
    simp [List.getD, e]

end Go.Sum
