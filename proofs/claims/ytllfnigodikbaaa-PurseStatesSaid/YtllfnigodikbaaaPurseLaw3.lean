/-
  The plain purse: states go on.
-/
import Derived.Test.YtllfnigodikbaaaPurseLaw2
set_option linter.unusedVariables false
set_option linter.unusedSimpArgs false
namespace Go.SL
def oldP (L : List Py) (y : Py) : Bool := (findK Py.o L y.o).isSome
def chgP (L : List Py) (y : Py) : Bool := oldP L y && decide (findK Py.o L y.o ≠ some y)
def cntP (L M : List Py) : Int := (M.map fun y => if chgP L y = true then (1 : Int) else 0).sum
theorem old_mem {L : List Py} (hn : (L.map Py.o).Nodup) {y : Py} (hy : y ∈ L) : oldP L y = true := by unfold oldP; rw [findK_of hn hy]; rfl
theorem chg_mem {L : List Py} (hn : (L.map Py.o).Nodup) {y : Py} (hy : y ∈ L) : chgP L y = false := by unfold chgP; rw [findK_of hn hy]; simp
theorem cnt_zero {L M : List Py} (h : ∀ y ∈ M, chgP L y = false) : cntP L M = 0 := sum_zeroP _ M fun y hy => by rw [h y hy]; rfl
structure StatesL (L L3 : List Py) (a : Aq) (d : Int) : Prop where
  recs : ∀ y ∈ L3, (∃ x ∈ L, x.o = y.o ∧ x.name = y.name ∧ x.n = y.n ∧ x.st ≤ y.st ∧ y.st ≤ 3) ∨ (findK Py.o L y.o = none ∧ y = ⟨a.o, a.name, a.n, 1⟩)
  keys : (L3.filter (oldP L)).map Py.o = L.map Py.o
  cnt : (L3.length : Int) - L.length + cntP L L3 = d
theorem states_same {first K : List Au} {L : List Py} (inv : PInv first K L) (a : Aq) : StatesL L L a 0 := by
  refine ⟨fun y hy => .inl ⟨y, hy, rfl, rfl, rfl, Int.le_refl _, (inv.pays y hy).2.2.2.2.2⟩, ?_, ?_⟩
  · rw [List.filter_eq_self.2 fun y hy => old_mem inv.keys hy]
  · rw [cnt_zero fun y hy => chg_mem inv.keys hy]; omega
theorem states_auth {first K : List Au} {L : List Py} (inv : PInv first K L) (a : Aq) (hf : findK Py.o L a.o = none) : StatesL L (L ++ [⟨a.o, a.name, a.n, 1⟩]) a 1 := by
  have hnew : oldP L ⟨a.o, a.name, a.n, 1⟩ = false := by unfold oldP; rw [hf]; rfl
  refine ⟨fun y hy => ?_, ?_, ?_⟩
  · rcases List.mem_append.1 hy with hy | hy
    · exact .inl ⟨y, hy, rfl, rfl, rfl, Int.le_refl _, (inv.pays y hy).2.2.2.2.2⟩
    · rw [List.mem_singleton.1 hy]; exact .inr ⟨hf, rfl⟩
  · rw [List.filter_append, List.filter_eq_self.2 fun y hy => old_mem inv.keys hy, List.filter_cons_of_neg (by rw [hnew]; simp), List.filter_nil, List.append_nil]
  · rw [cnt_zero fun y hy => ?_]
    · simp only [List.length_append, List.length_cons, List.length_nil]; omega
    · rcases List.mem_append.1 hy with hy | hy
      · exact chg_mem inv.keys hy
      · rw [List.mem_singleton.1 hy]; unfold chgP; rw [hnew]; rfl
theorem states_turn {first K : List Au} {L : List Py} (inv : PInv first K L) (a : Aq) {o : BitVec 32} {s t : Int} (hst : s < t) (ht : t ≤ 3) (hb : turnB L o s = true) : StatesL L (turnLs L o s t) a 1 := by
  obtain ⟨x, hx, hxo, hxs, hf, _, eL⟩ := turn_yes (K := K) t 0 0 hb
  rw [eL]
  have hkeys := putP_keys inv.keys hx ⟨x.o, x.name, x.n, t⟩ rfl
  have hfx := findK_of inv.keys hx
  have hlen : (putK Py.o L ⟨x.o, x.name, x.n, t⟩).length = L.length := by simpa using congrArg List.length hkeys
  refine ⟨fun y hy => ?_, ?_, ?_⟩
  · rcases putK_mem hy with rfl | ⟨hy, _⟩ | ⟨hy, _⟩
    · exact .inl ⟨x, hx, rfl, rfl, rfl, by show x.st ≤ t; omega, ht⟩
    · exact .inl ⟨y, hy, rfl, rfl, rfl, Int.le_refl _, (inv.pays y hy).2.2.2.2.2⟩
    · exact .inl ⟨y, hy, rfl, rfl, rfl, Int.le_refl _, (inv.pays y hy).2.2.2.2.2⟩
  · rw [List.filter_eq_self.2 fun y hy => ?_]
    · exact hkeys
    · rcases putK_mem hy with rfl | ⟨hy, _⟩ | ⟨hy, _⟩
      · unfold oldP; rw [hfx]; rfl
      · exact old_mem inv.keys hy
      · exact old_mem inv.keys hy
  · have h1 := putP_here inv.keys (y := ⟨x.o, x.name, x.n, t⟩) hx rfl fun y => if chgP L y = true then (1 : Int) else 0
    have h2 : (L.map fun y => if chgP L y = true then (1 : Int) else 0).sum = 0 := cnt_zero (L := L) fun y hy => chg_mem inv.keys hy
    have h3 : chgP L x = false := chg_mem inv.keys hx
    have h4 : chgP L ⟨x.o, x.name, x.n, t⟩ = true := by
      unfold chgP oldP
      rw [hfx]
      simp only [Option.isSome_some, Bool.true_and, decide_eq_true_eq]
      intro e
      have := congrArg Py.st (Option.some.inj e)
      simp only at this
      omega
    rw [h2, h3, h4] at h1
    unfold cntP
    rw [h1, hlen]
    simp
theorem act_states {first K : List Au} {L : List Py} (inv : PInv first K L) (a : Aq) : StatesL L (actLP K L a) a (if actVP K L a = 1 then 1 else 0) := by
  have turn : ∀ (s t : Int), s < t → t ≤ 3 → StatesL L (turnLs L a.o s t) a (if vdP (turnB L a.o s) = 1 then 1 else 0) := fun s t h1 h2 => by
    cases hb : turnB L a.o s with
    | true => exact states_turn inv a h1 h2 hb
    | false => rw [(turn_no (K := K) t 0 0 hb).2]; exact states_same inv a
  unfold actLP actVP
  cases isAuth a
  · simp only [Bool.false_eq_true, if_false]
    by_cases e2 : a.k = 2
    · simp only [if_pos e2]; exact turn 1 2 (by decide) (by decide)
    · simp only [if_neg e2]
      by_cases e3 : a.k = 3
      · simp only [if_pos e3]; exact turn 1 3 (by decide) (by decide)
      · simp only [if_neg e3]; exact turn 2 3 (by decide) (by decide)
  · simp only [if_true]
    cases hb : authB K L a.o a.name a.n with
    | false => rw [(auth_no hb).2]; exact states_same inv a
    | true => rw [(auth_yes hb).2]; exact states_auth inv a (authB_parts hb).2.2.1

/-! the old ones among the new ones -/
theorem merge_keys {L L3 T4 T5 : List Py} {a : Aq} {d : Int} (hn : (L.map Py.o).Nodup) (hs : StatesL L L3 a d) (h4 : ToldK Py.o uLt L T4) (h5 : ToldK Py.o uLt L3 T5) : (T5.filter (oldP L)).map Py.o = T4.map Py.o :=
  ToldK.unique (key := fun x : BitVec 32 => x) (lt := uLt) (L := L.map Py.o) uLt_irrefl uLt_trans uLt_tri (by rw [List.map_id']; exact hn)
    ⟨by rw [← hs.keys]; exact (h5.perm.filter _).map _, List.pairwise_map.2 (h5.sorted.sublist List.filter_sublist)⟩ ⟨h4.perm.map _, List.pairwise_map.2 h4.sorted⟩
theorem merge_old {L T4 T5 : List Py} (hk : (T5.filter (oldP L)).map Py.o = T4.map Py.o) {j : Nat} (hj : j < T5.length) (ho : oldP L T5[j] = true) : ∃ h : ((T5.take j).filter (oldP L)).length < T4.length, T4[((T5.take j).filter (oldP L)).length].o = T5[j].o := by
  have e : T5 = T5.take j ++ (T5[j] :: T5.drop (j + 1)) := by
    rw [← List.drop_eq_getElem_cons hj, List.take_append_drop]
  have h1 := congrArg (fun l => l[((T5.take j).filter (oldP L)).length]?) hk
  have h2 : (T5.filter (oldP L)) = (T5.take j).filter (oldP L) ++ (T5[j] :: (T5.drop (j + 1)).filter (oldP L)) := by
    conv => lhs; rw [e]
    rw [List.filter_append, List.filter_cons_of_pos ho]
  rw [h2, List.map_append, List.getElem?_append_right (by simp), List.length_map, Nat.sub_self, List.map_cons, List.getElem?_cons_zero, List.getElem?_map] at h1
  cases h3 : T4[((T5.take j).filter (oldP L)).length]? with
  | none => rw [h3] at h1; cases h1
  | some y =>
    rw [h3] at h1
    obtain ⟨h4, h5⟩ := List.getElem?_eq_some_iff.1 h3
    refine ⟨h4, ?_⟩
    rw [h5]
    simpa using h1.symm
theorem merge_new {L T4 : List Py} (hn : (L.map Py.o).Nodup) (h4 : ToldK Py.o uLt L T4) {y : Py} (ho : oldP L y = false) {k : Nat} (hk : k < T4.length) : T4[k].o ≠ y.o := fun e => by
  unfold oldP at ho
  rw [← e, findK_of hn (h4.perm.mem_iff.1 (List.getElem_mem hk))] at ho
  cases ho
theorem merge_end {L T4 T5 : List Py} (hk : (T5.filter (oldP L)).map Py.o = T4.map Py.o) : (T5.filter (oldP L)).length = T4.length := by simpa using congrArg List.length hk
theorem merge_step (L : List Py) {T5 : List Py} {j : Nat} (hj : j < T5.length) : ((T5.take (j + 1)).filter (oldP L)).length = ((T5.take j).filter (oldP L)).length + (if oldP L T5[j] = true then 1 else 0) ∧ cntP L (T5.take (j + 1)) = cntP L (T5.take j) + (if chgP L T5[j] = true then 1 else 0) := by
  rw [List.take_succ_eq_append_getElem hj]
  constructor
  · rw [List.filter_append, List.length_append]
    congr 1
    by_cases h : oldP L T5[j] = true
    · rw [if_pos h, List.filter_cons_of_pos h]; rfl
    · rw [if_neg h, List.filter_cons_of_neg h]; rfl
  · simp only [cntP, List.map_append, List.sum_append, List.map_cons, List.map_nil, List.sum_cons, List.sum_nil]
    omega
theorem chg_at {L T4 : List Py} (hn : (L.map Py.o).Nodup) (h4 : ToldK Py.o uLt L T4) {y : Py} {k : Nat} (hk : k < T4.length) (e : T4[k].o = y.o) : chgP L y = !decide (y = T4[k]) := by
  unfold chgP oldP
  rw [← e, findK_of hn (h4.perm.mem_iff.1 (List.getElem_mem hk))]
  simp only [Option.isSome_some, Bool.true_and, ne_eq, Option.some.injEq]
  rw [Bool.eq_iff_iff]
  simp only [decide_eq_true_eq, Bool.not_eq_true', decide_eq_false_iff_not]
  exact ⟨fun h h2 => h h2.symm, fun h h2 => h h2.symm⟩
theorem rec_at {L L3 T4 : List Py} {a : Aq} {d : Int} (hn : (L.map Py.o).Nodup) (hs : StatesL L L3 a d) (h4 : ToldK Py.o uLt L T4) {y : Py} (hy : y ∈ L3) {k : Nat} (hk : k < T4.length) (e : T4[k].o = y.o) : (⟨y.o, y.name, y.n, T4[k].st⟩ : Py) = T4[k] ∧ T4[k].st ≤ y.st ∧ y.st ≤ 3 := by
  have hm := h4.perm.mem_iff.1 (List.getElem_mem hk)
  rcases hs.recs y hy with ⟨x, hx, h1, h2, h3, h5, h6⟩ | ⟨h1, _⟩
  · have hx2 : x = T4[k] := by
      have a1 := findK_of hn hx
      have a2 := findK_of hn hm
      rw [h1, ← e, a2] at a1
      exact (Option.some.inj a1).symm
    subst hx2
    refine ⟨?_, h5, h6⟩
    rw [← h1, ← h2, ← h3]
  · rw [← e, findK_of hn hm] at h1; cases h1
theorem new_at {L L3 : List Py} {a : Aq} {d : Int} (hs : StatesL L L3 a d) (hn : (L.map Py.o).Nodup) {y : Py} (hy : y ∈ L3) (ho : oldP L y = false) : y = ⟨a.o, a.name, a.n, 1⟩ := by
  rcases hs.recs y hy with ⟨x, hx, h1, _⟩ | ⟨_, h⟩
  · unfold oldP at ho
    rw [← h1, findK_of hn hx] at ho
    cases ho
  · exact h

theorem cnt_permP (L : List Py) {M N : List Py} (p : M.Perm N) : cntP L M = cntP L N := sum_permP _ p
theorem cnt_bound (L M : List Py) : 0 ≤ cntP L M ∧ cntP L M ≤ M.length := by
  induction M with
  | nil => simp [cntP]
  | cons y M ih =>
    simp only [cntP, List.map_cons, List.sum_cons, List.length_cons] at *
    split <;> omega

end Go.SL
