/-
  Lists of records with keys: what maps hold, found, put, taken out, told in order.
-/
import Derived.Test.YtllfnigodikbaaaStrOrd
set_option linter.unusedVariables false
set_option linter.unusedSimpArgs false
set_option linter.unusedSectionVars false
namespace Go.SL

section
variable {ρ κ : Type} [DecidableEq κ] (key : ρ → κ)
def findK (L : List ρ) (k : κ) : Option ρ := L.find? fun r => decide (k = key r)
def putK (L : List ρ) (r : ρ) : List ρ := if (findK key L (key r)).isSome then L.map (fun x => if key r = key x then r else x) else L ++ [r]
def delK (L : List ρ) (k : κ) : List ρ := L.filter fun r => decide (k ≠ key r)
def kvs (enc : ρ → Value) (L : List ρ) : List (κ × Value) := L.map fun r => (key r, enc r)
variable {key}
theorem findK_mem {L : List ρ} {k : κ} {r : ρ} (h : findK key L k = some r) : r ∈ L ∧ key r = k := by
  have h1 := List.mem_of_find?_eq_some h
  have h2 := List.find?_some h
  exact ⟨h1, by simpa using (of_decide_eq_true h2).symm⟩
theorem findK_none {L : List ρ} {k : κ} (h : findK key L k = none) : ∀ r ∈ L, key r ≠ k := by
  intro r hr e
  have := List.find?_eq_none.1 h r hr
  simp [e] at this
theorem findK_of {L : List ρ} (hn : (L.map key).Nodup) {r : ρ} (hr : r ∈ L) : findK key L (key r) = some r := by
  induction L with
  | nil => cases hr
  | cons x L ih =>
    simp only [List.map_cons, List.nodup_cons] at hn
    rcases List.mem_cons.1 hr with rfl | hr
    · simp [findK]
    · have hne : key r ≠ key x := fun e => hn.1 (List.mem_map.2 ⟨r, hr, e⟩)
      unfold findK
      rw [List.find?_cons_of_neg (by simpa using hne)]
      exact ih hn.2 hr
theorem getG_kvs (enc : ρ → Value) (L : List ρ) (k : κ) : getG (kvs key enc L) k = (findK key L k).map enc := by
  induction L with
  | nil => rfl
  | cons r L ih =>
    by_cases h : k = key r
    · simp [getG, kvs, findK, h]
    · simp only [getG, kvs, findK, List.map_cons] at *
      rw [List.find?_cons_of_neg (by simpa using h), List.find?_cons_of_neg (by simpa using h)]
      exact ih
theorem setG_kvs (enc : ρ → Value) (L : List ρ) (r : ρ) (k : κ) (v : Value) (hk : k = key r) (hv : v = enc r) : setG (kvs key enc L) k v = kvs key enc (putK key L r) := by
  subst hk hv
  unfold setG putK
  rw [getG_kvs]
  simp only [Option.isSome_map]
  split
  · simp only [kvs, List.map_map]
    apply List.map_congr_left
    intro x _
    simp only [Function.comp]
    by_cases h : key r = key x
    · simp [h]
    · simp [h]
  · simp [kvs]
theorem delG_kvs (enc : ρ → Value) (L : List ρ) (k : κ) : delG (kvs key enc L) k = kvs key enc (delK key L k) := by
  induction L with
  | nil => rfl
  | cons r L ih =>
    simp only [delG, kvs, delK, List.map_cons] at *
    by_cases h : k = key r
    · rw [List.filter_cons_of_neg (by simp [h]), List.filter_cons_of_neg (by simp [h])]; exact ih
    · rw [List.filter_cons_of_pos (by simpa using h), List.filter_cons_of_pos (by simpa using h), List.map_cons]; rw [ih]
theorem kvs_keys (enc : ρ → Value) (L : List ρ) : (kvs key enc L).map (·.1) = L.map key := by simp [kvs, Function.comp_def]
theorem putK_keys (L : List ρ) (r : ρ) : (putK key L r).map key = if (findK key L (key r)).isSome then L.map key else L.map key ++ [key r] := by
  unfold putK
  split
  · rw [List.map_map]
    apply List.map_congr_left
    intro x _
    simp only [Function.comp]
    split
    · assumption
    · rfl
  · simp
theorem putK_nodup {L : List ρ} (h : (L.map key).Nodup) (r : ρ) : ((putK key L r).map key).Nodup := by
  rw [putK_keys]
  split
  · exact h
  · rename_i hn
    rw [List.nodup_append]
    refine ⟨h, by simp, ?_⟩
    intro x hx y hy
    obtain ⟨c, hc, rfl⟩ := List.mem_map.1 hx
    simp only [List.mem_singleton] at hy
    subst hy
    exact findK_none (by simpa using hn) c hc
theorem delK_nodup {L : List ρ} (h : (L.map key).Nodup) (k : κ) : ((delK key L k).map key).Nodup := h.sublist (List.filter_sublist.map _)
theorem map_find (r : ρ) (k : κ) : ∀ L : List ρ, findK key (L.map fun x => if key r = key x then r else x) k = if k = key r then (if (findK key L (key r)).isSome then some r else none) else findK key L k
  | [] => by simp [findK]
  | x :: L => by
    have ih := map_find r k L
    unfold findK at *
    by_cases h : key r = key x
    · rw [List.map_cons, if_pos h]
      by_cases hk : k = key r
      · rw [List.find?_cons_of_pos (by simpa using hk), if_pos hk, List.find?_cons_of_pos (by simpa using h)]
        rfl
      · rw [List.find?_cons_of_neg (by simpa using hk), ih, if_neg hk, if_neg hk, List.find?_cons_of_neg (by rw [← h]; simpa using hk)]
    · rw [List.map_cons, if_neg h]
      by_cases hk : k = key x
      · have hkr : k ≠ key r := fun e => h (by rw [← e, hk])
        rw [List.find?_cons_of_pos (by simpa using hk), if_neg hkr, List.find?_cons_of_pos (by simpa using hk)]
      · rw [List.find?_cons_of_neg (by simpa using hk), ih, List.find?_cons_of_neg (by simpa using h), List.find?_cons_of_neg (by simpa using hk)]
theorem putK_find (L : List ρ) (r : ρ) (k : κ) : findK key (putK key L r) k = if k = key r then some r else findK key L k := by
  unfold putK
  cases hf : findK key L (key r) with
  | some x =>
    simp only [Option.isSome_some, if_true]
    rw [map_find, hf]
    rfl
  | none =>
    simp only [Option.isSome_none, Bool.false_eq_true, if_false]
    unfold findK at *
    rw [List.find?_append]
    by_cases hk : k = key r
    · subst hk
      rw [hf, if_pos rfl]
      simp
    · rw [if_neg hk, List.find?_cons_of_neg (by simpa using hk)]
      simp
theorem delK_find (L : List ρ) (k k' : κ) : findK key (delK key L k) k' = if k' = k then none else findK key L k' := by
  induction L with
  | nil => simp [findK, delK]
  | cons r L ih =>
    unfold findK delK at *
    by_cases h : k = key r
    · rw [List.filter_cons_of_neg (by simp [h]), ih]
      by_cases hk : k' = k
      · rw [if_pos hk, if_pos hk]
      · rw [if_neg hk, if_neg hk, List.find?_cons_of_neg (by rw [← h]; simpa using hk)]
    · rw [List.filter_cons_of_pos (by simpa using h)]
      by_cases hk : k' = key r
      · rw [List.find?_cons_of_pos (by simpa using hk), List.find?_cons_of_pos (by simpa using hk), if_neg (fun e => h (by rw [← e, hk]))]
      · rw [List.find?_cons_of_neg (by simpa using hk), ih, List.find?_cons_of_neg (by simpa using hk)]
theorem delK_mem {L : List ρ} {k : κ} {r : ρ} : r ∈ delK key L k ↔ r ∈ L ∧ key r ≠ k := by
  unfold delK
  rw [List.mem_filter, decide_eq_true_eq]
  exact ⟨fun h => ⟨h.1, fun e => h.2 e.symm⟩, fun h => ⟨h.1, fun e => h.2 e.symm⟩⟩
theorem putK_mem {L : List ρ} {r x : ρ} (h : x ∈ putK key L r) : x = r ∨ (x ∈ L ∧ key x ≠ key r) ∨ (x ∈ L ∧ findK key L (key r) = none) := by
  unfold putK at h
  split at h
  · obtain ⟨y, hy, rfl⟩ := List.mem_map.1 h
    split
    · exact .inl rfl
    · rename_i hne
      exact .inr (.inl ⟨hy, fun e => hne e.symm⟩)
  · rename_i hn
    rcases List.mem_append.1 h with h | h
    · exact .inr (.inr ⟨h, by simpa using hn⟩)
    · exact .inl (List.mem_singleton.1 h)

/-! what a map is seen to hold, in whatever order -/
variable {k0 : Kk κ} {enc : ρ → Value}
theorem entsK {es : Array MapEntry} {L : List ρ} (h : EntsG k0 es (kvs key enc L)) : es.toList.map (fun e => (e.key, e.val)) = L.map fun r => (k0.kv (key r), enc r) := by
  unfold EntsG kvs at h
  rw [h, List.map_map]
  rfl
theorem entsK_one {es : Array MapEntry} {L : List ρ} (h : EntsG k0 es (kvs key enc L)) {e : MapEntry} (he : e ∈ es.toList) : ∃ r ∈ L, e.key = k0.kv (key r) ∧ e.val = enc r := by
  have h1 : (e.key, e.val) ∈ es.toList.map (fun e => (e.key, e.val)) := List.mem_map.2 ⟨e, he, rfl⟩
  rw [entsK h] at h1
  obtain ⟨r, hr, e2⟩ := List.mem_map.1 h1
  simp only [Prod.mk.injEq] at e2
  exact ⟨r, hr, e2.1.symm, e2.2.symm⟩
theorem map_inj_eq {α β : Type} (f : α → β) (hf : ∀ a b, f a = f b → a = b) : ∀ (A B : List α), A.map f = B.map f → A = B
  | [], [], _ => rfl
  | [], _ :: _, h => by simp at h
  | _ :: _, [], h => by simp at h
  | a :: A, b :: B, h => by
    simp only [List.map_cons, List.cons.injEq] at h
    rw [hf a b h.1, map_inj_eq f hf A B h.2]
theorem entsK_all {es : Array MapEntry} {L B : List ρ} {col : List MapEntry} (hinj : ∀ a b : ρ, (k0.kv (key a), enc a) = (k0.kv (key b), enc b) → a = b) (h : EntsG k0 es (kvs key enc L)) (hp : col.Perm es.toList) (hB : col.map (fun e => (e.key, e.val)) = B.map fun r => (k0.kv (key r), enc r)) : B.Perm L := by
  obtain ⟨m, hm, e⟩ := perm_map_of (fun e : MapEntry => (e.key, e.val)) (fun r => (k0.kv (key r), enc r)) hp L (entsK h)
  rw [hB] at e
  rw [map_inj_eq _ hinj B m e]; exact hm
end

/-! told in order -/
section
variable {ρ κ : Type} (key : ρ → κ) (lt : κ → κ → Bool)
structure ToldK (L S : List ρ) : Prop where
  perm : S.Perm L
  sorted : S.Pairwise fun x y => lt (key y) (key x) = false
variable {key lt}
theorem ToldK.strict (htri : ∀ a b, lt a b = true ∨ a = b ∨ lt b a = true) {L S : List ρ} (h : ToldK key lt L S) (hn : (L.map key).Nodup) : S.Pairwise fun x y => lt (key x) (key y) = true := by
  have hS : (S.map key).Nodup := (h.perm.map key).nodup_iff.2 hn
  unfold List.Nodup at hS
  rw [List.pairwise_map] at hS
  refine (h.sorted.and hS).imp ?_
  rintro a b ⟨h1, h2⟩
  rcases htri (key a) (key b) with h3 | h3 | h3
  · exact h3
  · exact absurd h3 h2
  · rw [h1] at h3; cases h3
theorem ToldK.unique (hirr : ∀ a, lt a a = false) (htrans : ∀ a b c, lt a b = true → lt b c = true → lt a c = true) (htri : ∀ a b, lt a b = true ∨ a = b ∨ lt b a = true) {L S S' : List ρ} (hn : (L.map key).Nodup) (h : ToldK key lt L S) (h' : ToldK key lt L S') : S = S' := by
  have h1 := h.strict htri hn
  have h2 := h'.strict htri hn
  have hp : S.Perm S' := h.perm.trans h'.perm.symm
  clear h h' hn
  induction S generalizing S' with
  | nil => exact hp.nil_eq
  | cons a S ih =>
    cases S' with
    | nil => exact absurd hp.length_eq (by simp)
    | cons b S' =>
      have ha := List.pairwise_cons.1 h1
      have hb := List.pairwise_cons.1 h2
      have hab : a = b := by
        have g1 : a ∈ b :: S' := hp.mem_iff.1 List.mem_cons_self
        have g2 : b ∈ a :: S := hp.mem_iff.2 List.mem_cons_self
        rcases List.mem_cons.1 g1 with g1 | g1
        · exact g1
        · rcases List.mem_cons.1 g2 with g2 | g2
          · exact g2.symm
          · have := htrans _ _ _ (hb.1 a g1) (ha.1 b g2)
            rw [hirr] at this; cases this
      subst hab
      rw [ih ha.2 hb.2 ((List.perm_cons a).1 hp)]
end

end Go.SL
