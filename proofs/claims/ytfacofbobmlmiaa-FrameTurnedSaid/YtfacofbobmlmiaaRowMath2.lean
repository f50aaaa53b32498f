/-
  The plain law of rows of frames, continued: each by itself, cut rows, frames that are apart.
-/
import Derived.Test.YtfacofbobmlmiaaRowMath
set_option linter.unusedVariables false
set_option linter.unusedSimpArgs false
namespace Go.Sum

theorem flat_split (good : List (List B8)) (i : Nat) (h : i < good.length) : flat good = flat (good.take i) ++ (frameOf good[i] ++ flat (good.drop (i + 1))) := by
  have e : good = good.take i ++ (good[i] :: good.drop (i + 1)) := by rw [← List.drop_eq_getElem_cons h, List.take_append_drop]
  conv => lhs; rw [e]
  rw [flat_append, flat_cons]
theorem flat_take_next (good : List (List B8)) (i : Nat) (h : i < good.length) : (flat (good.take (i + 1))).length = (flat (good.take i)).length + (good[i].length + 8) := by
  rw [List.take_succ_eq_append_getElem h, flat_append, flat_one, List.length_append, frameOf_length]
theorem getOf_row (good : List (List B8)) (rest : List B8) (hs : Short good) (i : Nat) (h : i < good.length) : getOf (flat good ++ rest) ((flat (good.take i)).length : Nat) = (good[i], ((flat (good.take (i + 1))).length : Int), 0) := by
  have e : flat good ++ rest = flat (good.take i) ++ (frameOf good[i] ++ (flat (good.drop (i + 1)) ++ rest)) := by
    conv => lhs; rw [flat_split good i h]
    simp
  rw [e, getOf_frame _ _ _ (hs _ (List.getElem_mem h)), flat_take_next good i h]
theorem flat_take_le (good : List (List B8)) (i : Nat) : (flat (good.take i)).length ≤ (flat good).length := by
  by_cases h : i < good.length
  · rw [flat_split good i h, List.length_append]; omega
  · rw [List.take_of_length_le (by omega)]; exact Nat.le_refl _
/-- a frame that is cut is none -/
theorem bodyAt_cut (l : List B8) (hl : l.length ≤ 2000) (k : Nat) (hk : k < l.length + 8) : bodyAt ((frameOf l).take k) = none := by
  cases hb : bodyAt ((frameOf l).take k) with
  | none => rfl
  | some m =>
    exfalso
    obtain ⟨h1, h2, h3⟩ := bodyAt_length hb
    have hlen := frameOf_length l
    rw [List.length_take] at h1
    obtain ⟨a, b, c, d, e, f, g1, g2⟩ := frameOf_head l hl
    obtain ⟨a', b', c', d', e', f', g1', g2'⟩ := frameOf_head m h2
    have h4 : frameOf m = (frameOf l).take (8 + m.length) := by
      rw [h3, List.take_take]
      congr 1
      omega
    have h5 : (frameOf m).take 4 = (frameOf l).take 4 := by rw [h4, List.take_take]; congr 1; omega
    rw [g1, g1'] at h5
    simp only [List.take_succ_cons, List.take_zero, List.cons.injEq, and_true, true_and] at h5
    obtain ⟨rfl, rfl⟩ := h5
    omega
/-- a row that is cut -/
theorem allOf_cut (good : List (List B8)) (hs : Short good) (n k : Nat) (hn : n ≤ good.length) (hk : k ≤ (flat good).length) (h1 : (flat (good.take n)).length ≤ k) (h2 : n = good.length ∨ k < (flat (good.take (n + 1))).length) :
    allOf ((flat good).take k) = (good.take n, (flat (good.take n)).length, if (flat (good.take n)).length = k then 0 else 31) := by
  by_cases he : (flat (good.take n)).length = k
  · rw [if_pos he]
    have e : (flat good).take k = flat (good.take n) ++ [] := by
      rw [List.append_nil]
      have : good = good.take n ++ good.drop n := (List.take_append_drop _ _).symm
      conv => lhs; rw [this]
      rw [flat_append]
      exact take_front _ _ _ he.symm
    rw [e, allOf_stop _ _ (hs.take n) (.inl rfl)]
  · rw [if_neg he]
    have hng : n < good.length := by
      rcases h2 with h2 | h2
      · exfalso; subst h2; rw [List.take_length] at h1 he; omega
      · apply Classical.byContradiction
        intro h
        have : n = good.length := by omega
        subst this
        rw [List.take_length] at h1 he
        omega
    have h3 : k < (flat (good.take n)).length + (good[n].length + 8) := by
      rw [← flat_take_next good n hng]
      rcases h2 with h2 | h2
      · omega
      · exact h2
    have hl := hs _ (List.getElem_mem hng)
    have hlen := frameOf_length good[n]
    obtain ⟨j, hj⟩ : ∃ j, k = (flat (good.take n)).length + j := ⟨k - (flat (good.take n)).length, by omega⟩
    have e : (flat good).take k = flat (good.take n) ++ (frameOf good[n]).take j := by
      conv => lhs; rw [flat_split good n hng]
      rw [hj, List.take_length_add_append, List.take_append_of_le_length (by omega)]
    rw [e]
    obtain ⟨a, b, c, d, e', f, g1, g2⟩ := frameOf_head good[n] hl
    obtain ⟨j', rfl⟩ : ∃ j', j = j' + 1 := ⟨j - 1, by omega⟩
    refine allOf_bad _ _ (hs.take n) ?_ ?_ (bodyAt_cut _ hl _ (by omega))
    · rw [g1]; simp
    · rw [g1]; simp [List.getD]
theorem frame_apart (a b : List B8) (ha : a.length ≤ 2000) (hb : b.length ≤ 2000) (h : frameOf a = (frameOf b).take (frameOf a).length) : a = b := by
  have hla := frameOf_length a
  have hlb := frameOf_length b
  obtain ⟨x1, y1, c, d, e, f, g1, g2⟩ := frameOf_head a ha
  obtain ⟨x2, y2, c', d', e', f', g1', g2'⟩ := frameOf_head b hb
  have h5 : (frameOf a).take 4 = (frameOf b).take 4 := by
    conv => lhs; rw [h]
    rw [List.take_take]; congr 1 <;> omega
  rw [g1, g1'] at h5
  simp only [List.take_succ_cons, List.take_zero, List.cons.injEq, and_true, true_and] at h5
  obtain ⟨rfl, rfl⟩ := h5
  have hl : a.length = b.length := by omega
  rw [List.take_of_length_le (by omega)] at h
  have := congrArg (List.drop 8) h
  rw [g1, g1'] at this
  simpa using this
theorem apart_law (a b : List B8) (ha : a.length ≤ 2000) (hb : b.length ≤ 2000) : (decide (frameOf a = (frameOf b).take (frameOf a).length) == decide (a = b)) = true := by
  by_cases h : a = b
  · subst h; simp
  · have : ¬ frameOf a = (frameOf b).take (frameOf a).length := fun e => h (frame_apart a b ha hb e)
    simp [h, this]
theorem apart_law2 (a b : List B8) (h : ¬ (frameOf a).length ≤ (frameOf b).length) : (false == decide (a = b)) = true := by
  have : a ≠ b := by rintro rfl; exact h (Nat.le_refl _)
  simp [this]

end Go.Sum
