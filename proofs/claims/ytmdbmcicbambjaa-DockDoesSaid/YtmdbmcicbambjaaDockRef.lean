/-
  The chapter's own dock: plain.
-/
import Derived.Test.YtmdbmcicbambjaaDockAct
import Derived.Test.YtmdbmcicbambjaaSLMore7
set_option linter.unusedVariables false
set_option linter.unusedSimpArgs false
namespace Go.SL

def atOf (L : List Bk) (o : BitVec 32) : Int := match L.findIdx? (fun b => decide (o = b.o)) with | some i => (i : Int) | none => -1
theorem at_yes (L : List Bk) (o : BitVec 32) (i : Nat) (hi : i < L.length) (h : o = L[i].o) (hno : ∀ (j : Nat) (hj : j < L.length), j < i → ¬ o = L[j].o) : atOf L o = i := by
  have : L.findIdx? (fun b => decide (o = b.o)) = some i := by
    rw [List.findIdx?_eq_some_iff_getElem]
    exact ⟨hi, by simpa using h, fun j hj => by simpa using hno j (by omega) hj⟩
  simp [atOf, this]
theorem at_no (L : List Bk) (o : BitVec 32) (hno : ∀ (j : Nat) (hj : j < L.length), ¬ o = L[j].o) : atOf L o = -1 := by
  have : L.findIdx? (fun b => decide (o = b.o)) = none := by
    rw [List.findIdx?_eq_none_iff]
    intro b hb
    obtain ⟨j, hj, rfl⟩ := List.getElem_of_mem hb
    simpa using hno j hj
  simp [atOf, this]
theorem at_spec (L : List Bk) (o : BitVec 32) : (atOf L o = -1 ∧ findB L o = none) ∨ ∃ (i : Nat) (hi : i < L.length), atOf L o = i ∧ o = L[i].o ∧ findB L o = some L[i] := by
  cases h : L.findIdx? (fun b => decide (o = b.o)) with
  | none =>
    left
    refine ⟨by simp [atOf, h], ?_⟩
    unfold findB
    rw [List.find?_eq_none]
    intro b hb
    have := List.findIdx?_eq_none_iff.1 h b hb
    simpa using this
  | some i =>
    right
    obtain ⟨hi, h1, h2⟩ := List.findIdx?_eq_some_iff_getElem.1 h
    refine ⟨i, hi, by simp [atOf, h], by simpa using h1, ?_⟩
    unfold findB
    rw [List.find?_eq_some_iff_getElem]
    exact ⟨h1, i, hi, rfl, fun j hj => by simpa using h2 j hj⟩
theorem erase_at : ∀ {L : List Bk} (hn : (L.map (·.o)).Nodup) {i : Nat} (hi : i < L.length), L.eraseIdx i = delB L L[i].o
  | b :: L, hn, 0, _ => by
    simp only [List.map_cons, List.nodup_cons] at hn
    simp only [List.eraseIdx_cons_zero, List.getElem_cons_zero, delB]
    rw [List.filter_cons_of_neg (by simp), eq_comm, List.filter_eq_self]
    intro c hc
    simp only [decide_eq_true_eq]
    intro e
    exact hn.1 (List.mem_map.2 ⟨c, hc, e.symm⟩)
  | b :: L, hn, i + 1, hi => by
    simp only [List.map_cons, List.nodup_cons] at hn
    have hi' : i < L.length := by simpa using hi
    simp only [List.eraseIdx_cons_succ, List.getElem_cons_succ]
    rw [erase_at hn.2 hi']
    unfold delB
    rw [List.filter_cons_of_pos]
    simp only [decide_eq_true_eq]
    intro e
    exact hn.1 (List.mem_map.2 ⟨L[i], List.getElem_mem hi', e⟩)
theorem erase_skip (L : List Bk) (i k : Nat) (hi : i < L.length) (h : i ≠ k) : (L.take (i + 1)).eraseIdx k = (L.take i).eraseIdx k ++ [L[i]] := by
  rw [List.take_succ_eq_append_getElem hi]
  rcases Nat.lt_or_ge k i with h1 | h1
  · rw [List.eraseIdx_append_of_lt_length (by rw [List.length_take]; omega)]
  · rw [List.eraseIdx_of_length_le (by rw [List.length_append, List.length_take]; simp; omega), List.eraseIdx_of_length_le (by rw [List.length_take]; omega)]
theorem erase_here (L : List Bk) (k : Nat) (hi : k < L.length) : (L.take (k + 1)).eraseIdx k = (L.take k).eraseIdx k := by
  have hl : (L.take k).length = k := by rw [List.length_take]; omega
  rw [List.take_succ_eq_append_getElem hi, List.eraseIdx_append_of_length_le (by rw [hl]; exact Nat.le_refl _), hl, Nat.sub_self, List.eraseIdx_cons_zero, List.append_nil]
  exact (List.eraseIdx_of_length_le (by rw [hl]; exact Nat.le_refl _)).symm
/-- a day's bookings, by their orders -/
structure DayL (d : Nat) (L T : List Bk) : Prop where
  perm : T.Perm (L.filter fun b => decide (b.day = d))
  sorted : T.Pairwise fun x y => x.o.toNat ≤ y.o.toNat
theorem DayL.start (d : Nat) (L : List Bk) : DayL d (L.take 0) [] := ⟨by simp, List.Pairwise.nil⟩
theorem DayL.skip {d : Nat} {L T : List Bk} {i : Nat} (h : DayL d (L.take i) T) (hi : i < L.length) (hd : L[i].day ≠ d) : DayL d (L.take (i + 1)) T := by
  refine ⟨?_, h.sorted⟩
  rw [List.take_succ_eq_append_getElem hi, List.filter_append, List.filter_cons_of_neg (by simpa using hd), List.filter_nil, List.append_nil]
  exact h.perm
theorem DayL.put {d : Nat} {L T : List Bk} {i k : Nat} (h : DayL d (L.take i) T) (hi : i < L.length) (hd : L[i].day = d) (hk : k ≤ T.length) (hlt : ∀ (j : Nat) (hj : j < T.length), j < k → T[j].o.toNat < L[i].o.toNat) (hge : ∀ h : k < T.length, ¬ T[k].o.toNat < L[i].o.toNat) :
    DayL d (L.take (i + 1)) (T.take k ++ L[i] :: T.drop k) := by
  constructor
  · rw [List.take_succ_eq_append_getElem hi, List.filter_append, List.filter_cons_of_pos (by simpa using hd), List.filter_nil]
    have h1 : (T.take k ++ L[i] :: T.drop k).Perm (L[i] :: (T.take k ++ T.drop k)) := List.perm_middle
    rw [List.take_append_drop] at h1
    exact h1.trans ((h.perm.cons L[i]).trans (List.perm_append_singleton L[i] _).symm)
  · rw [List.pairwise_append]
    have hs := h.sorted
    have hge2 : ∀ y ∈ T.drop k, L[i].o.toNat ≤ y.o.toNat := by
      intro y hy
      obtain ⟨j, hj, rfl⟩ := List.getElem_of_mem hy
      simp only [List.length_drop] at hj
      have h2 := hge (by omega)
      rw [List.getElem_drop]
      rcases Nat.eq_zero_or_pos j with e | e
      · subst e; simp only [Nat.add_zero]; omega
      · have := List.pairwise_iff_getElem.1 hs k (k + j) (by omega) (by omega) (by omega)
        omega
    have hlt2 : ∀ x ∈ T.take k, x.o.toNat < L[i].o.toNat := by
      intro x hx
      obtain ⟨j, hj, rfl⟩ := List.getElem_of_mem hx
      simp only [List.length_take] at hj
      rw [List.getElem_take]
      exact hlt j (by omega) (by omega)
    refine ⟨hs.sublist (List.take_sublist k T), List.pairwise_cons.2 ⟨hge2, hs.sublist (List.drop_sublist k T)⟩, ?_⟩
    intro x hx y hy
    have h1 := hlt2 x hx
    rcases List.mem_cons.1 hy with rfl | hy
    · omega
    · have := hge2 y hy; omega
/-- the bookings of the days below K, as they are told -/
structure OutL (K : Nat) (L S : List Bk) : Prop where
  perm : S.Perm (L.filter fun b => decide (b.day < K))
  sorted : S.Pairwise leB
theorem OutL.start (L : List Bk) : OutL 0 L [] := ⟨by simp, List.Pairwise.nil⟩
theorem filter_next (K : Nat) : ∀ L : List Bk, (L.filter (fun b => decide (b.day < K)) ++ L.filter fun b => decide (b.day = K)).Perm (L.filter fun b => decide (b.day < K + 1))
  | [] => List.Perm.refl _
  | b :: L => by
    have ih := filter_next K L
    rcases Nat.lt_trichotomy b.day K with h | h | h
    · rw [List.filter_cons_of_pos (by simpa using h), List.filter_cons_of_neg (by simp; omega), List.filter_cons_of_pos (by simp; omega)]
      exact ih.cons b
    · rw [List.filter_cons_of_neg (by simp; omega), List.filter_cons_of_pos (by simpa using h), List.filter_cons_of_pos (by simp; omega)]
      exact List.perm_middle.trans (ih.cons b)
    · rw [List.filter_cons_of_neg (by simp; omega), List.filter_cons_of_neg (by simp; omega), List.filter_cons_of_neg (by simp; omega)]
      exact ih
theorem OutL.next {K : Nat} {L S T : List Bk} (h : OutL K L S) (hT : DayL K L T) : OutL (K + 1) L (S ++ T) := by
  refine ⟨(h.perm.append hT.perm).trans (filter_next K L), ?_⟩
  rw [List.pairwise_append]
  have hS : ∀ x ∈ S, x.day < K := fun x hx => by
    have := (List.mem_filter.1 (h.perm.mem_iff.1 hx)).2
    simpa using this
  have hT2 : ∀ y ∈ T, y.day = K := fun y hy => by
    have := (List.mem_filter.1 (hT.perm.mem_iff.1 hy)).2
    simpa using this
  refine ⟨h.sorted, ?_, fun x hx y hy => ?_⟩
  · rw [List.pairwise_iff_getElem]
    intro i j hi hj hij
    have h1 := List.pairwise_iff_getElem.1 hT.sorted i j hi hj hij
    have h2 := hT2 _ (List.getElem_mem hi)
    have h3 := hT2 _ (List.getElem_mem hj)
    unfold leB
    omega
  · have h2 := hS x hx
    have h3 := hT2 y hy
    unfold leB
    omega
theorem OutL.told {K : Nat} {L S : List Bk} (h : OutL K L S) (hK : ∀ b ∈ L, b.day < K) : ToldB L S := by
  refine ⟨?_, h.sorted⟩
  have e : (L.filter fun b => decide (b.day < K)) = L := List.filter_eq_self.2 fun b hb => by simpa using hK b hb
  have := h.perm
  rwa [e] at this
theorem OutL.len {K : Nat} {L S : List Bk} (h : OutL K L S) : S.length ≤ L.length := by
  rw [h.perm.length_eq]; exact List.length_filter_le _ _
theorem DayL.len {K : Nat} {L T : List Bk} (h : DayL K L T) : T.length ≤ L.length := by
  rw [h.perm.length_eq]; exact List.length_filter_le _ _
/-- the chapter's dock that lies at p -/
def RfAt (TD TI TB p : Nat) (fs : List Int) (L : List Bk) (C : List Ck) : Prop :=
  ∃ vf vl Cf Cl, C = row p [vf, vl] TD :: (Cf ++ Cl) ∧ Own vf fs.length (ic fs) TI 1 Cf ∧ Own vl L.length (L.flatMap encB) TB 3 Cl
theorem bk_rs {L : List Bk} {cs : List Value} {o k c : Nat} (hcs : (cs.drop o).take (L.flatMap encB).length = L.flatMap encB) (hk : k < L.length) (hc : c < 3) : cs[o + (k : Int).toNat * 3 + c]? = (encB L[k])[c]? := by
  have h1 := flat_get encB 3 encB_len L k c hc
  rw [List.getElem?_eq_getElem hk, Option.bind_some] at h1
  rw [← h1, Int.toNat_natCast]
  have h2 : k * 3 + c < (L.flatMap encB).length := by rw [flat_len encB 3 encB_len]; omega
  conv => rhs; rw [← hcs]
  rw [List.getElem?_take_of_lt h2, List.getElem?_drop]
  congr 1
  omega
theorem Gr.get {A B : List Ck} {c : Ck} (h : ∀ x ∈ A, x ∈ B) (hm : c ∈ A) : c ∈ B := h c hm
theorem flat_take (L : List Bk) (k : Nat) : (L.take k).flatMap encB = (L.flatMap encB).take (k * 3) := by
  induction L generalizing k with
  | nil => simp
  | cons b L ih =>
    cases k with
    | zero => simp
    | succ k =>
      rw [List.take_succ_cons, List.flatMap_cons, List.flatMap_cons, ih, show (k + 1) * 3 = (encB b).length + k * 3 by rw [encB_len]; omega, List.take_length_add_append]
theorem flat_drop (L : List Bk) (k : Nat) : (L.drop k).flatMap encB = (L.flatMap encB).drop (k * 3) := by
  induction L generalizing k with
  | nil => simp
  | cons b L ih =>
    cases k with
    | zero => simp
    | succ k =>
      rw [List.drop_succ_cons, List.flatMap_cons, ih, show (k + 1) * 3 = (encB b).length + k * 3 by rw [encB_len]; omega, List.drop_length_add_append]
theorem sumDay_mid {first rs : List Int} {L : List Bk} (h : DInv first rs L) (d : Nat) (hd : d < first.length) (k : Nat) (hk : k < L.length) : 0 ≤ first.getD d 0 ∧ first.getD d 0 ≤ 1000000 ∧ rs.getD d 0 + sumDay L d = first.getD d 0 ∧ 0 ≤ rs.getD d 0 ∧ 0 ≤ sumDay (L.take k) d ∧ 0 ≤ sumDay (L.take (k + 1)) d ∧ sumDay (L.take (k + 1)) d ≤ sumDay L d ∧ sumDay (L.take k) d ≤ sumDay L d ∧ sumDay (L.take (k + 1)) d = sumDay (L.take k) d + if L[k].day = d then L[k].n else 0 := by
  have h1 := h.ok d
  have h2 := h.sums d
  have hn : ∀ b ∈ L, 1 ≤ b.n := fun b hb => (h.bks b hb).2.1
  have h3 := sumDay_part hn k d
  have h4 := sumDay_part hn (k + 1) d
  exact ⟨h1.1, h1.2, h2.2, h2.1, h3.1, h4.1, h4.2, h3.2, sumDay_take L k hk d⟩

theorem put_flat (T : List Bk) (b : Bk) (k : Nat) : (T.take k).flatMap encB ++ encB b ++ ((T.flatMap encB).drop (k * 3)).take ((T.length - k) * 3) = (T.take k ++ b :: T.drop k).flatMap encB := by
  rw [List.flatMap_append, List.flatMap_cons, flat_drop, List.append_assoc]
  congr 2
  rw [List.take_of_length_le]
  rw [List.length_drop, flat_len encB 3 encB_len]
  omega
theorem one_part (T : List Bk) (a b : Nat) : ∀ u ∈ ((T.flatMap encB).drop a).take b, u.oneCell' = true := fun u hu => flat_one encB_one T u (List.mem_of_mem_drop (List.mem_of_mem_take hu))

theorem own_set (xs : List Int) (extra : List Value) (i : Nat) (x : Int) (h : i < xs.length) : (ic xs ++ extra).set (0 + (i : Int).toNat * 1) (.int .i64 x) = ic (xs.set i x) ++ extra := by
  rw [Nat.zero_add, Int.toNat_natCast, Nat.mul_one, set_front _ _ _ _ (by rw [ic_length]; exact h), ic_set]
theorem Own.set1 {so : Option Addr} {n c : Nat} {xs : List Value} {T : TypeId} {sz : Nat} {C : List Ck} (h : Own (.slice so n c) n xs T sz C) (hn : 0 < n) (j : Nat) (hj : j < n * sz) (v : Value) :
    ∃ b extra, so = some ⟨b, 0, none⟩ ∧ C = [row b (xs ++ extra) T] ∧ (xs ++ extra).set (0 + j) v = xs.set j v ++ extra ∧ Own (.slice so n c) n (xs.set j v) T sz [row b (xs.set j v ++ extra) T] := by
  rcases h with ⟨_, h0, _⟩ | ⟨b, cap, extra, he, hc1, hc2, hx1, hx2, hC⟩
  · omega
  · simp only [Value.slice.injEq] at he
    obtain ⟨rfl, _, rfl⟩ := he
    exact ⟨b, extra, rfl, hC, by rw [Nat.zero_add, set_front _ _ _ _ (by omega)], .inr ⟨b, c, extra, rfl, hc1, hc2, by rw [List.length_set]; exact hx1, hx2, rfl⟩⟩

end Go.SL
