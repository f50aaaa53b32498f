/-
  Lists of records with keys as the chapters' own answers keep them: places, taking out, putting in order.
-/
import Derived.Test.YtllfnigodikbaaaKeyMap
import Derived.Test.YtllfnigodikbaaaSLSort
set_option linter.unusedVariables false
set_option linter.unusedSimpArgs false
set_option linter.unusedSectionVars false
namespace Go.SL
section
variable {ρ κ : Type} [DecidableEq κ] (key : ρ → κ)
def atK (L : List ρ) (k : κ) : Int := match L.findIdx? (fun r => decide (k = key r)) with | some i => (i : Int) | none => -1
variable {key}
theorem atK_yes (L : List ρ) (k : κ) (i : Nat) (hi : i < L.length) (h : k = key L[i]) (hno : ∀ (j : Nat) (hj : j < L.length), j < i → ¬ k = key L[j]) : atK key L k = i := by
  have : L.findIdx? (fun r => decide (k = key r)) = some i := by
    rw [List.findIdx?_eq_some_iff_getElem]
    exact ⟨hi, by simpa using h, fun j hj => by simpa using hno j (by omega) hj⟩
  simp [atK, this]
theorem atK_no (L : List ρ) (k : κ) (hno : ∀ (j : Nat) (hj : j < L.length), ¬ k = key L[j]) : atK key L k = -1 := by
  have : L.findIdx? (fun r => decide (k = key r)) = none := by
    rw [List.findIdx?_eq_none_iff]
    intro b hb
    obtain ⟨j, hj, rfl⟩ := List.getElem_of_mem hb
    simpa using hno j hj
  simp [atK, this]
theorem atK_spec (L : List ρ) (k : κ) : (atK key L k = -1 ∧ findK key L k = none) ∨ ∃ (i : Nat) (hi : i < L.length), atK key L k = i ∧ k = key L[i] ∧ findK key L k = some L[i] := by
  cases h : L.findIdx? (fun r => decide (k = key r)) with
  | none =>
    left
    refine ⟨by simp [atK, h], ?_⟩
    unfold findK
    rw [List.find?_eq_none]
    intro b hb
    have := List.findIdx?_eq_none_iff.1 h b hb
    simpa using this
  | some i =>
    right
    obtain ⟨hi, h1, h2⟩ := List.findIdx?_eq_some_iff_getElem.1 h
    refine ⟨i, hi, by simp [atK, h], by simpa using h1, ?_⟩
    unfold findK
    rw [List.find?_eq_some_iff_getElem]
    exact ⟨h1, i, hi, rfl, fun j hj => by simpa using h2 j hj⟩
theorem eraseK : ∀ {L : List ρ} (hn : (L.map key).Nodup) {i : Nat} (hi : i < L.length), L.eraseIdx i = delK key L (key L[i])
  | b :: L, hn, 0, _ => by
    simp only [List.map_cons, List.nodup_cons] at hn
    simp only [List.eraseIdx_cons_zero, List.getElem_cons_zero, delK]
    rw [List.filter_cons_of_neg (by simp), eq_comm, List.filter_eq_self]
    intro c hc
    simp only [decide_eq_true_eq]
    intro e
    exact hn.1 (List.mem_map.2 ⟨c, hc, e.symm⟩)
  | b :: L, hn, i + 1, hi => by
    simp only [List.map_cons, List.nodup_cons] at hn
    have hi' : i < L.length := by simpa using hi
    simp only [List.eraseIdx_cons_succ, List.getElem_cons_succ]
    rw [eraseK hn.2 hi']
    unfold delK
    rw [List.filter_cons_of_pos]
    simp only [decide_eq_true_eq]
    intro e
    exact hn.1 (List.mem_map.2 ⟨L[i], List.getElem_mem hi', e⟩)
end
section
variable {α : Type}
theorem erase_skip (L : List α) (i k : Nat) (hi : i < L.length) (h : i ≠ k) : (L.take (i + 1)).eraseIdx k = (L.take i).eraseIdx k ++ [L[i]] := by
  rw [List.take_succ_eq_append_getElem hi]
  rcases Nat.lt_or_ge k i with h1 | h1
  · rw [List.eraseIdx_append_of_lt_length (by rw [List.length_take]; omega)]
  · rw [List.eraseIdx_of_length_le (by rw [List.length_append, List.length_take]; simp; omega), List.eraseIdx_of_length_le (by rw [List.length_take]; omega)]
theorem erase_here (L : List α) (k : Nat) (hi : k < L.length) : (L.take (k + 1)).eraseIdx k = (L.take k).eraseIdx k := by
  have hl : (L.take k).length = k := by rw [List.length_take]; omega
  rw [List.take_succ_eq_append_getElem hi, List.eraseIdx_append_of_length_le (by rw [hl]; exact Nat.le_refl _), hl, Nat.sub_self, List.eraseIdx_cons_zero, List.append_nil]
  exact (List.eraseIdx_of_length_le (by rw [hl]; exact Nat.le_refl _)).symm
theorem flat_takeE (enc : α → List Value) (s : Nat) (hs : ∀ x, (enc x).length = s) (L : List α) (k : Nat) : (L.take k).flatMap enc = (L.flatMap enc).take (k * s) := by
  induction L generalizing k with
  | nil => simp
  | cons b L ih =>
    cases k with
    | zero => simp
    | succ k =>
      rw [List.take_succ_cons, List.flatMap_cons, List.flatMap_cons, ih, show (k + 1) * s = (enc b).length + k * s by rw [hs, Nat.add_mul, Nat.one_mul, Nat.add_comm], List.take_length_add_append]
theorem flat_dropE (enc : α → List Value) (s : Nat) (hs : ∀ x, (enc x).length = s) (L : List α) (k : Nat) : (L.drop k).flatMap enc = (L.flatMap enc).drop (k * s) := by
  induction L generalizing k with
  | nil => simp
  | cons b L ih =>
    cases k with
    | zero => simp
    | succ k =>
      rw [List.drop_succ_cons, List.flatMap_cons, ih, show (k + 1) * s = (enc b).length + k * s by rw [hs, Nat.add_mul, Nat.one_mul, Nat.add_comm], List.drop_length_add_append]
theorem put_flatE (enc : α → List Value) (s : Nat) (hs : ∀ x, (enc x).length = s) (T : List α) (b : α) (k : Nat) : (T.take k).flatMap enc ++ enc b ++ ((T.flatMap enc).drop (k * s)).take ((T.length - k) * s) = (T.take k ++ b :: T.drop k).flatMap enc := by
  rw [List.flatMap_append, List.flatMap_cons, flat_dropE enc s hs, List.append_assoc]
  congr 2
  rw [List.take_of_length_le]
  rw [List.length_drop, flat_len enc s hs, Nat.sub_mul]
  exact Nat.le_refl _
theorem one_partE (enc : α → List Value) (h1 : ∀ x, ∀ u ∈ enc x, u.oneCell' = true) (T : List α) (a b : Nat) : ∀ u ∈ ((T.flatMap enc).drop a).take b, u.oneCell' = true := fun u hu => flat_one h1 T u (List.mem_of_mem_drop (List.mem_of_mem_take hu))
end
section
variable {ρ κ : Type} [DecidableEq κ] {key : ρ → κ} {lt : κ → κ → Bool}
theorem ToldK.put (htrans : ∀ a b c, lt a b = true → lt b c = true → lt a c = true) (hirr : ∀ a, lt a a = false) (htri : ∀ a b, lt a b = true ∨ a = b ∨ lt b a = true) {L T : List ρ} {i k : Nat} (h : ToldK key lt (L.take i) T) (hi : i < L.length) (hk : k ≤ T.length) (hlt : ∀ (j : Nat) (hj : j < T.length), j < k → lt (key T[j]) (key L[i]) = true) (hge : ∀ h : k < T.length, lt (key T[k]) (key L[i]) = false) :
    ToldK key lt (L.take (i + 1)) (T.take k ++ L[i] :: T.drop k) := by
  constructor
  · rw [List.take_succ_eq_append_getElem hi]
    have h1 : (T.take k ++ L[i] :: T.drop k).Perm (L[i] :: (T.take k ++ T.drop k)) := List.perm_middle
    rw [List.take_append_drop] at h1
    exact h1.trans ((h.perm.cons L[i]).trans (List.perm_append_singleton L[i] _).symm)
  · rw [List.pairwise_append]
    have hs := h.sorted
    have hge2 : ∀ y ∈ T.drop k, lt (key y) (key L[i]) = false := by
      intro y hy
      obtain ⟨j, hj, rfl⟩ := List.getElem_of_mem hy
      simp only [List.length_drop] at hj
      have h2 := hge (by omega)
      rw [List.getElem_drop]
      rcases Nat.eq_zero_or_pos j with e | e
      · subst e; simpa using h2
      · have h3 := List.pairwise_iff_getElem.1 hs k (k + j) (by omega) (by omega) (by omega)
        cases h4 : lt (key T[k + j]) (key L[i]) with
        | false => rfl
        | true =>
          rcases htri (key T[k]) (key T[k + j]) with h5 | h5 | h5
          · rw [htrans _ _ _ h5 h4] at h2; cases h2
          · rw [h5, h4] at h2; cases h2
          · rw [h3] at h5; cases h5
    have hlt2 : ∀ x ∈ T.take k, lt (key x) (key L[i]) = true := by
      intro x hx
      obtain ⟨j, hj, rfl⟩ := List.getElem_of_mem hx
      simp only [List.length_take] at hj
      rw [List.getElem_take]
      exact hlt j (by omega) (by omega)
    refine ⟨hs.sublist (List.take_sublist k T), List.pairwise_cons.2 ⟨hge2, hs.sublist (List.drop_sublist k T)⟩, ?_⟩
    intro x hx y hy
    have h1 := hlt2 x hx
    rcases List.mem_cons.1 hy with rfl | hy
    · cases h2 : lt (key L[i]) (key x) with
      | false => rfl
      | true => have := htrans _ _ _ h1 h2; rw [hirr] at this; cases this
    · have h3 := hge2 y hy
      cases h2 : lt (key y) (key x) with
      | false => rfl
      | true => rw [htrans _ _ _ h2 h1] at h3; cases h3
/-- where it would stand, it does not stand: it is not there -/
theorem ToldK.free (htrans : ∀ a b c, lt a b = true → lt b c = true → lt a c = true) (hirr : ∀ a, lt a a = false) (htri : ∀ a b, lt a b = true ∨ a = b ∨ lt b a = true) {L T : List ρ} (h : ToldK key lt L T) (hn : (L.map key).Nodup) (g : κ) {k : Nat} (hk : k ≤ T.length) (hlt : ∀ (j : Nat) (hj : j < T.length), j < k → lt (key T[j]) g = true) (hge : ∀ h : k < T.length, lt (key T[k]) g = false) (hne : ∀ h : k < T.length, key T[k] ≠ g) : findK key L g = none := by
  cases hf : findK key L g with
  | none => rfl
  | some r =>
    obtain ⟨h1, h2⟩ := findK_mem hf
    obtain ⟨j, hj, rfl⟩ := List.getElem_of_mem (h.perm.mem_iff.2 h1)
    rcases Nat.lt_trichotomy j k with h3 | h3 | h3
    · have := hlt j hj h3
      rw [h2, hirr] at this; cases this
    · subst h3
      exact absurd h2 (hne hj)
    · have h4 := List.pairwise_iff_getElem.1 (h.strict htri hn) k j (by omega) hj h3
      rw [h2] at h4
      rw [hge (by omega)] at h4; cases h4
end

theorem Own.set1 {so : Option Addr} {n c : Nat} {xs : List Value} {T : TypeId} {sz : Nat} {C : List Ck} (h : Own (.slice so n c) n xs T sz C) (hn : 0 < n) (j : Nat) (hj : j < n * sz) (v : Value) :
    ∃ b extra, so = some ⟨b, 0, none⟩ ∧ C = [row b (xs ++ extra) T] ∧ (xs ++ extra).set (0 + j) v = xs.set j v ++ extra ∧ Own (.slice so n c) n (xs.set j v) T sz [row b (xs.set j v ++ extra) T] := by
  rcases h with ⟨_, h0, _⟩ | ⟨b, cap, extra, he, hc1, hc2, hx1, hx2, hC⟩
  · omega
  · simp only [Value.slice.injEq] at he
    obtain ⟨rfl, _, rfl⟩ := he
    exact ⟨b, extra, rfl, hC, by rw [Nat.zero_add, set_front _ _ _ _ (by omega)], .inr ⟨b, c, extra, rfl, hc1, hc2, by rw [List.length_set]; exact hx1, hx2, rfl⟩⟩


end Go.SL
