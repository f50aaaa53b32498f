/-
  The plain law of rows of frames.
-/
import Derived.Test.YtfacofbobmlmiaaFrameMath4
set_option linter.unusedVariables false
set_option linter.unusedSimpArgs false
namespace Go.Sum

/-- frames in a row -/
def flat (good : List (List B8)) : List B8 := (good.map frameOf).flatten
theorem flat_nil : flat [] = [] := rfl
theorem flat_cons (l : List B8) (good : List (List B8)) : flat (l :: good) = frameOf l ++ flat good := rfl
theorem flat_append (a b : List (List B8)) : flat (a ++ b) = flat a ++ flat b := by simp [flat]
theorem flat_one (l : List B8) : flat [l] = frameOf l := by simp [flat]
theorem flat_length_cons (l : List B8) (good : List (List B8)) : (flat (l :: good)).length = l.length + 8 + (flat good).length := by rw [flat_cons, List.length_append, frameOf_length]
theorem flat_few (good : List (List B8)) : 8 * good.length ≤ (flat good).length := by
  induction good with
  | nil => simp
  | cons l g ih => rw [flat_length_cons, List.length_cons]; omega
/-- where each of them ends -/
def endsOf (good : List (List B8)) : List Int := (List.range good.length).map fun i => ((flat (good.take (i + 1))).length : Int)
theorem endsOf_length (good : List (List B8)) : (endsOf good).length = good.length := by simp [endsOf]
theorem endsOf_snoc (good : List (List B8)) (l : List B8) : endsOf (good ++ [l]) = endsOf good ++ [((flat good ++ frameOf l).length : Int)] := by
  unfold endsOf
  rw [List.length_append, List.length_singleton, List.range_succ, List.map_append]
  congr 1
  · apply List.map_congr_left
    intro i hi
    have := List.mem_range.1 hi
    rw [List.take_append_of_le_length (by omega)]
  · simp only [List.map_cons, List.map_nil]
    rw [List.take_of_length_le (by simp), flat_append, flat_one]
theorem endsOf_get (good : List (List B8)) (i : Nat) (h : i < good.length) : (endsOf good)[i]? = some ((flat (good.take (i + 1))).length : Int) := by simp [endsOf, h]
/-- all short enough -/
def Short (good : List (List B8)) : Prop := ∀ l ∈ good, l.length ≤ 2000
theorem Short.nil : Short [] := fun l h => by cases h
theorem Short.snoc {good : List (List B8)} (h : Short good) {l : List B8} (hl : l.length ≤ 2000) : Short (good ++ [l]) := by
  intro m hm
  rcases List.mem_append.1 hm with hm | hm
  · exact h m hm
  · rw [List.mem_singleton.1 hm]; exact hl
theorem Short.take {good : List (List B8)} (h : Short good) (n : Nat) : Short (good.take n) := fun l hl => h l (List.mem_of_mem_take hl)

theorem getD_front {α : Type} (a b : List α) (d : α) : (a ++ b).getD a.length d = b.getD 0 d := by simp only [List.getD]; rw [List.getElem?_append_right (Nat.le_refl _), Nat.sub_self]
theorem take_front {α : Type} (a b : List α) (n : Nat) (h : n = a.length) : (a ++ b).take n = a := by subst h; simp
theorem drop_front {α : Type} (a b : List α) (n : Nat) (h : n = a.length) : (a ++ b).drop n = b := by subst h; simp
theorem frameOf_head (l : List B8) (hl : l.length ≤ 2000) : ∃ a b c d e f, frameOf l = 215#8 :: 166#8 :: a :: b :: c :: d :: e :: f :: l ∧ a.toNat * 256 + b.toNat = l.length := by
  obtain ⟨a, b, h1, h2⟩ := be2_get l.length hl
  obtain ⟨c, d, e, f, h4⟩ : ∃ c d e f, be4 (crcOf (be2 l.length ++ l)) = [c, d, e, f] := ⟨_, _, _, _, be4_eq _⟩
  exact ⟨a, b, c, d, e, f, by rw [frameOf, h4, h1]; rfl, h2⟩
theorem bodyAt_frame (l rest : List B8) (hl : l.length ≤ 2000) : bodyAt (frameOf l ++ rest) = some l := by
  obtain ⟨a, b, c, d, e, f, h1, h2⟩ := frameOf_head l hl
  have hlen := frameOf_length l
  have g2 : (frameOf l ++ rest).getD 2 0#8 = a := by rw [h1]; rfl
  have g3 : (frameOf l ++ rest).getD 3 0#8 = b := by rw [h1]; rfl
  have hd : (frameOf l ++ rest).drop 8 = l ++ rest := by rw [h1]; rfl
  unfold bodyAt
  simp only [g2, g3, h2, hd]
  rw [take_front l rest _ rfl, take_front (frameOf l) rest _ (by omega), if_pos]
  exact ⟨by rw [List.length_append]; omega, hl, rfl⟩
theorem frameOf_zero (l rest : List B8) (hl : l.length ≤ 2000) : (frameOf l ++ rest).getD 0 0#8 = 215#8 := by
  obtain ⟨a, b, c, d, e, f, h1, h2⟩ := frameOf_head l hl
  rw [h1]; rfl
theorem getOf_frame (pre l rest : List B8) (hl : l.length ≤ 2000) : getOf (pre ++ (frameOf l ++ rest)) pre.length = (l, ((pre.length + (l.length + 8) : Nat) : Int), 0) := by
  have hlen := frameOf_length l
  have hz : (pre ++ (frameOf l ++ rest)).getD (pre.length : Int).toNat 0#8 = 215#8 := by
    rw [← frameOf_zero l rest hl, Int.toNat_natCast, getD_front]
  rw [getOf, if_neg (by simp only [List.length_append]; omega), if_neg (by
    rintro (h | h)
    · simp only [List.length_append] at h; omega
    · rw [hz] at h; exact absurd h (by decide))]
  simp only [Int.toNat_natCast]
  rw [drop_front pre _ _ rfl, bodyAt_frame l rest hl]
  simp only
  congr 2
  omega
theorem allFrom_flat (rest : List B8) : ∀ (good : List (List B8)) (pre : List B8) (f : Nat), Short good →
    allFrom (pre ++ (flat good ++ rest)) (good.length + f) pre.length = (good ++ (allFrom (pre ++ (flat good ++ rest)) f (pre.length + (flat good).length)).1, (allFrom (pre ++ (flat good ++ rest)) f (pre.length + (flat good).length)).2)
  | [], pre, f, _ => by simp [flat_nil]
  | l :: good, pre, f, h => by
    have hl : l.length ≤ 2000 := h l List.mem_cons_self
    have e : pre ++ (flat (l :: good) ++ rest) = pre ++ (frameOf l ++ (flat good ++ rest)) := by rw [flat_cons, List.append_assoc]
    have hg := getOf_frame pre l (flat good ++ rest) hl
    rw [← e] at hg
    have ih := allFrom_flat rest good (pre ++ frameOf l) f (fun m hm => h m (List.mem_cons_of_mem _ hm))
    have e2 : (pre ++ frameOf l) ++ (flat good ++ rest) = pre ++ (flat (l :: good) ++ rest) := by rw [flat_cons]; simp
    rw [e2] at ih
    have hn : (pre ++ frameOf l).length = pre.length + (l.length + 8) := by rw [List.length_append, frameOf_length]
    rw [hn] at ih
    rw [List.length_cons, show good.length + 1 + f = (good.length + f) + 1 by omega, allFrom, hg]
    simp only [if_true, Int.toNat_natCast]
    rw [ih, flat_length_cons]
    simp only [List.cons_append, Nat.add_assoc]
theorem allFrom_stop {b : List B8} {f k : Nat} (hk : k ≤ b.length) (h : k = b.length ∨ b.getD k 0#8 = 0#8) : allFrom b (f + 1) k = ([], k, 0) := by
  have : getOf b k = ([], 0, 30) := by
    rw [getOf, if_neg (by omega), if_pos]
    rcases h with h | h
    · left; omega
    · right; simpa using h
  rw [allFrom, this]
  simp
theorem allFrom_bad {b : List B8} {f k : Nat} (hk : k < b.length) (h : b.getD k 0#8 ≠ 0#8) (hb : bodyAt (b.drop k) = none) : allFrom b (f + 1) k = ([], k, 31) := by
  have : getOf b k = ([], 0, 31) := by
    rw [getOf, if_neg (by omega), if_neg (by
      rintro (e | e)
      · omega
      · exact h (by simpa using e))]
    simp [hb]
  rw [allFrom, this]
  simp
/-- frames, and what stops -/
theorem allOf_stop (good : List (List B8)) (rest : List B8) (h : Short good) (hr : rest = [] ∨ rest.getD 0 0#8 = 0#8) : allOf (flat good ++ rest) = (good, (flat good).length, 0) := by
  have hf := flat_few good
  have := allFrom_flat rest good [] ((flat good ++ rest).length + 1 - good.length) h
  simp only [List.nil_append, List.length_nil, Nat.zero_add] at this
  rw [allOf, show (flat good ++ rest).length + 1 = good.length + ((flat good ++ rest).length + 1 - good.length) by simp only [List.length_append]; omega, this]
  obtain ⟨f, hf2⟩ : ∃ f, (flat good ++ rest).length + 1 - good.length = f + 1 := ⟨(flat good ++ rest).length - good.length, by simp only [List.length_append]; omega⟩
  rw [hf2, allFrom_stop (by simp) (by
    rcases hr with rfl | hr
    · left; simp
    · right; rw [getD_front]; exact hr)]
  simp
theorem allOf_bad (good : List (List B8)) (rest : List B8) (h : Short good) (hr : rest ≠ []) (h0 : rest.getD 0 0#8 ≠ 0#8) (hb : bodyAt rest = none) : allOf (flat good ++ rest) = (good, (flat good).length, 31) := by
  have hf := flat_few good
  have hp : 0 < rest.length := List.length_pos_iff.2 hr
  have := allFrom_flat rest good [] ((flat good ++ rest).length + 1 - good.length) h
  simp only [List.nil_append, List.length_nil, Nat.zero_add] at this
  rw [allOf, show (flat good ++ rest).length + 1 = good.length + ((flat good ++ rest).length + 1 - good.length) by simp only [List.length_append]; omega, this]
  obtain ⟨f, hf2⟩ : ∃ f, (flat good ++ rest).length + 1 - good.length = f + 1 := ⟨(flat good ++ rest).length - good.length, by simp only [List.length_append]; omega⟩
  rw [hf2, allFrom_bad (by simp only [List.length_append]; omega) (by
    intro e; apply h0; rwa [getD_front] at e) (by rw [drop_front _ _ _ rfl]; exact hb)]
  simp

end Go.Sum
