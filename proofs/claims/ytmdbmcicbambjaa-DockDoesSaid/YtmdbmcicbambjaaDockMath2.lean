/-
  The plain dock, continued: the invariant.
-/
import Derived.Test.YtmdbmcicbambjaaDockMath
set_option linter.unusedVariables false
set_option linter.unusedSimpArgs false
namespace Go.SL

/-- what is booked on a day -/
def sumDay (L : List Bk) (d : Nat) : Int := (L.map fun b => if b.day = d then b.n else 0).sum
structure DInv (first rs : List Int) (L : List Bk) : Prop where
  len : rs.length = first.length
  few : first.length ≤ 60
  ok : RoomsOk first
  bks : ∀ b ∈ L, b.day < rs.length ∧ 1 ≤ b.n ∧ b.o ≠ 0#32
  sums : ∀ d, 0 ≤ rs.getD d 0 ∧ rs.getD d 0 + sumDay L d = first.getD d 0
  keys : (L.map (·.o)).Nodup
theorem sumDay_nonneg {L : List Bk} (h : ∀ b ∈ L, 1 ≤ b.n) (d : Nat) : 0 ≤ sumDay L d := by
  induction L with
  | nil => simp [sumDay]
  | cons b L ih =>
    have h1 := ih (fun c hc => h c (List.mem_cons_of_mem _ hc))
    have h2 := h b List.mem_cons_self
    simp only [sumDay, List.map_cons, List.sum_cons] at *
    split <;> omega
theorem DInv.rooms {first rs : List Int} {L : List Bk} (h : DInv first rs L) : RoomsOk rs := fun d => by
  have h1 := h.sums d
  have h2 := h.ok d
  have h3 := sumDay_nonneg (fun b hb => (h.bks b hb).2.1) d
  omega
theorem DInv.start {first : List Int} (h : RoomsOk first) (hl : first.length ≤ 60) : DInv first first [] :=
  ⟨rfl, hl, h, fun b hb => (by cases hb), fun d => ⟨(h d).1, by simp [sumDay]⟩, by simp⟩
theorem sumDay_snoc (L : List Bk) (b : Bk) (d : Nat) : sumDay (L ++ [b]) d = sumDay L d + if b.day = d then b.n else 0 := by
  simp [sumDay]
theorem sumDay_del {L : List Bk} (hn : (L.map (·.o)).Nodup) {o : BitVec 32} {b : Bk} (hb : findB L o = some b) (d : Nat) : sumDay (delB L o) d + (if b.day = d then b.n else 0) = sumDay L d := by
  induction L with
  | nil => cases hb
  | cons c L ih =>
    simp only [List.map_cons, List.nodup_cons] at hn
    by_cases e : o = c.o
    · have h1 : findB (c :: L) o = some c := by simp [findB, e]
      rw [h1] at hb
      obtain rfl : c = b := by simpa using hb
      have h2 : delB (c :: L) o = delB L o := by unfold delB; rw [List.filter_cons_of_neg (by simp [e])]
      have h3 : delB L o = L := by
        unfold delB
        apply List.filter_eq_self.2
        intro x hx
        simp only [decide_eq_true_eq]
        intro e2
        exact hn.1 (List.mem_map.2 ⟨x, hx, by rw [← e2, e]⟩)
      rw [h2, h3]
      simp only [sumDay, List.map_cons, List.sum_cons]
      omega
    · have h1 : findB (c :: L) o = findB L o := by
        unfold findB; rw [List.find?_cons_of_neg (by simpa using e)]
      rw [h1] at hb
      have h2 : delB (c :: L) o = c :: delB L o := by unfold delB; rw [List.filter_cons_of_pos (by simpa using e)]
      have := ih hn.2 hb
      rw [h2]
      simp only [sumDay, List.map_cons, List.sum_cons] at *
      omega
theorem findB_mem {L : List Bk} {o : BitVec 32} {b : Bk} (h : findB L o = some b) : b ∈ L ∧ b.o = o := by
  have h1 := List.mem_of_find?_eq_some h
  have h2 := List.find?_some h
  exact ⟨h1, by simpa using (of_decide_eq_true h2).symm⟩
theorem getD_set (rs : List Int) (i j : Nat) (x : Int) (h : i < rs.length) : (rs.set i x).getD j 0 = if i = j then x else rs.getD j 0 := by
  simp only [List.getD, List.getElem?_set]
  by_cases e : i = j
  · subst e; simp [h]
  · simp [e]
theorem DInv.cancel {first rs : List Int} {L : List Bk} (h : DInv first rs L) (o : BitVec 32) : DInv first (roomsC rs (findB L o)) (listC L (findB L o) o) := by
  cases hf : findB L o with
  | none => exact h
  | some b =>
    obtain ⟨hm, ho⟩ := findB_mem hf
    have hb := h.bks b hm
    refine ⟨by simp [roomsC, h.len], h.few, h.ok, ?_, ?_, delB_nodup o h.keys⟩
    · intro c hc
      have := h.bks c (List.mem_filter.1 hc).1
      simpa [roomsC] using this
    · intro d
      have h1 := h.sums d
      have h2 := sumDay_del h.keys hf d
      simp only [roomsC, listC]
      rw [getD_set rs _ _ _ hb.1]
      by_cases e : b.day = d
      · subst e
        rw [if_pos rfl] at h2 ⊢
        omega
      · rw [if_neg e] at h2 ⊢
        omega
theorem DInv.book {first rs : List Int} {L : List Bk} (h : DInv first rs L) (o : BitVec 32) (from_ n : Int) : DInv first (roomsB rs (bookOf rs L o from_ n) n) (listB L (bookOf rs L o from_ n) o n) := by
  cases hf : bookOf rs L o from_ n with
  | none => exact h
  | some d =>
    have hc : ¬ (o = 0#32 ∨ n < 1 ∨ from_ < 0 ∨ (findB L o).isSome) := by
      intro hc; rw [bookOf, if_pos hc] at hf; cases hf
    have hd : dayOf rs from_ n = some d := by rw [bookOf, if_neg hc] at hf; exact hf
    obtain ⟨g1, g2, g3, g4⟩ := dayOf_spec hd
    have hnone : findB L o = none := by
      cases e : findB L o with
      | none => rfl
      | some b => exact absurd (.inr (.inr (.inr (by rw [e]; rfl)))) hc
    have hn1 : 1 ≤ n := by
      apply Classical.byContradiction
      intro h9
      exact hc (.inr (.inl (by omega)))
    have ho : o ≠ 0#32 := fun e => hc (.inl e)
    refine ⟨by simp [roomsB, h.len], h.few, h.ok, ?_, ?_, nodup_snoc h.keys hnone⟩
    · intro b hb
      simp only [listB] at hb
      rcases List.mem_append.1 hb with hb | hb
      · have := h.bks b hb; simpa [roomsB] using this
      · rw [List.mem_singleton.1 hb]; exact ⟨by simpa [roomsB] using g1, hn1, ho⟩
    · intro j
      have h1 := h.sums j
      simp only [roomsB, listB]
      rw [getD_set rs _ _ _ g1, sumDay_snoc]
      by_cases e : d = j
      · subst e
        simp only [if_true]
        omega
      · simp only [if_neg e]
        omega
theorem DInv.cancelOk {first rs : List Int} {L : List Bk} (h : DInv first rs L) (o : BitVec 32) : ∀ b, findB L o = some b → b.day < rs.length ∧ -9223372036854775808 ≤ rs.getD b.day 0 + b.n ∧ rs.getD b.day 0 + b.n ≤ 9223372036854775807 := by
  intro b hb
  obtain ⟨hm, ho⟩ := findB_mem hb
  have h1 := (h.cancel o).rooms b.day
  rw [hb] at h1
  have h2 := h.bks b hm
  simp only [roomsC] at h1
  rw [getD_set rs _ _ _ h2.1, if_pos rfl] at h1
  exact ⟨h2.1, by omega, by omega⟩

end Go.SL
