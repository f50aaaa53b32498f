/-
  More rules: a map gone through, its entries taken; two-element slices.
-/
import Derived.Test.YtonnkgblligdkaaSLMore5
set_option linter.unusedVariables false
set_option linter.unusedSimpArgs false
namespace Go.SL

variable {P : Program} {l : Sl} {H : List Ck} {d : Option Nat} {ty : TypeId} {pos : String} {aft : Array Edge} {g : Option (Nat × Bool)} {K : Next → List Ck → Prop}

theorem find_born {es : List MapEntry} (hn : (es.map (·.born)).Nodup) {e : MapEntry} (he : e ∈ es) : es.find? (fun x => x.born == e.born) = some e := by
  induction es with
  | nil => cases he
  | cons x es ih =>
    simp only [List.map_cons, List.nodup_cons] at hn
    rcases List.mem_cons.1 he with rfl | he
    · simp
    · have hne : x.born ≠ e.born := fun h => hn.1 (List.mem_map.2 ⟨e, he, h.symm⟩)
      rw [List.find?_cons_of_neg (by simpa using hne)]
      exact ih hn.2 he
/-- the entry that was stepped on last -/
theorem Hd.entryM {x : Operand} {i b clock since : Nat} {es : Array MapEntry} {seen : Array Nat} {e : MapEntry} (hx : ev l x = some (.pointer (some ⟨i, 0, none⟩))) (hm : (⟨i, .mapIter (some b) since (seen.push e.born) clock, true⟩ : Ck) ∈ H) (hM : (⟨b, .map es clock, true⟩ : Ck) ∈ H)
    (hn : (es.toList.map (·.born)).Nodup) (he : e ∈ es.toList) (k : K (.value (.tuple #[e.key, e.val])) H) : Hd P ⟨d, .entry x, ty, pos, aft, g⟩ l H K := fun a w R kn s => by
  have h1 := s.holds _ (List.mem_append_left R hm)
  have h2 := s.holds _ (List.mem_append_left R hM)
  have hf : es.find? (fun x => x.born == e.born) = some e := by
    rw [← Array.find?_toList]
    exact find_born hn he
  refine ⟨.value (.tuple #[e.key, e.val]), w, H, ?_, s, .refl w, k⟩
  simp [execOp, kn.ev hx, Instr.entry, getObj, Sem.run, h1, h2, hf]
/-- '[]T{x, y}', T of one cell -/
theorem Hd.build2 {T e : TypeId} {x y : Operand} {u v z : Value} (hT : sliceOf P T = some e) (hS : szOf P e = some 1) (hz : zeroOf P e = some [z]) (hx : ev l x = some u) (hy : ev l y = some v) (h1 : u.oneCell' = true) (h2 : v.oneCell' = true)
    (k : ∀ b, K (.value (.slice (some ⟨b, 0, none⟩) 2 2)) (row b [u, v] e :: H)) : Hd P ⟨d, .buildSlice T 2 #[(0, x), (1, y)], ty, pos, aft, g⟩ l H K := by
  have hu : u.cells = #[u] := by cases u <;> first | rfl | cases h1
  have hv : v.cells = #[v] := by cases v <;> first | rfl | cases h2
  refine Hd.buildSlice (parts := [(0, x), (1, y)]) (vs := [(0, u), (1, v)]) (cells := [u, v]) hT hS hz (by simp [hx, hy]) rfl ?_ k
  have h01 : Array.range 2 = #[0, 1] := rfl
  simp [Instr.fill, hu, hv, h01]
theorem perm_map_of {α β γ : Type} (f : α → γ) (h : β → γ) : ∀ {l1 l2 : List α}, l1.Perm l2 → ∀ m : List β, l2.map f = m.map h → ∃ m' : List β, m'.Perm m ∧ l1.map f = m'.map h := by
  intro l1 l2 p
  induction p with
  | nil => intro m e; exact ⟨m, List.Perm.refl _, e⟩
  | cons x _ ih =>
    intro m e
    cases m with
    | nil => simp at e
    | cons y m =>
      simp only [List.map_cons, List.cons.injEq] at e
      obtain ⟨m', hp, e'⟩ := ih m e.2
      exact ⟨y :: m', hp.cons y, by simp [e.1, e']⟩
  | swap x y l =>
    intro m e
    match m, e with
    | a :: b :: m, e =>
      simp only [List.map_cons, List.cons.injEq] at e
      exact ⟨b :: a :: m, List.Perm.swap a b m, by simp [e.1, e.2.1, e.2.2]⟩
    | [], e => simp at e
    | [a], e => simp at e
  | trans _ _ ih1 ih2 =>
    intro m e
    obtain ⟨m2, hp2, e2⟩ := ih2 m e
    obtain ⟨m1, hp1, e1⟩ := ih1 m2 e2
    exact ⟨m1, hp1.trans hp2, e1⟩
theorem nodup_of_map {α β : Type} (f : α → β) {l : List α} (h : (l.map f).Nodup) : l.Nodup := by
  unfold List.Nodup at *
  rw [List.pairwise_map] at h
  exact h.imp fun hab e => hab (by rw [e])
theorem nodup_len : ∀ (a b : List Nat), a.Nodup → (∀ x ∈ a, x ∈ b) → a.length ≤ b.length
  | [], _, _, _ => Nat.zero_le _
  | x :: a, b, h, hs => by
    have h2 := List.nodup_cons.1 h
    have hx := hs x List.mem_cons_self
    have := nodup_len a (b.erase x) h2.2 (fun y hy => (List.mem_erase_of_ne (fun e => by rw [e] at hy; exact h2.1 hy)).2 (hs y (List.mem_cons_of_mem _ hy)))
    rw [List.length_erase_of_mem hx] at this
    have h3 : 0 < b.length := List.length_pos_of_mem hx
    simp only [List.length_cons]
    omega
/-- what was seen of a map -/
structure Seen (es : Array MapEntry) (col : List MapEntry) (seen : Array Nat) : Prop where
  born : seen.toList = col.map (·.born)
  sub : ∀ e ∈ col, e ∈ es.toList
  nd : (col.map (·.born)).Nodup
theorem Seen.start (es : Array MapEntry) : Seen es [] #[] := ⟨rfl, fun e h => (by cases h), List.nodup_nil⟩
theorem Seen.next {es : Array MapEntry} {col : List MapEntry} {seen : Array Nat} (h : Seen es col seen) {e : MapEntry} (he : e ∈ (unseen es seen).toList) : Seen es (col ++ [e]) (seen.push e.born) ∧ e ∈ es.toList := by
  have h1 : e ∈ unseen es seen := by simpa using he
  obtain ⟨h2, h3⟩ := Array.mem_filter.1 h1
  have h4 : e ∈ es.toList := by simpa using h2
  have h5 : e.born ∉ col.map (·.born) := by
    rw [← h.born]
    intro hm
    simp only [Bool.not_eq_true', Array.contains_eq_mem, decide_eq_false_iff_not] at h3
    exact h3 (by simpa using hm)
  refine ⟨⟨by simp [h.born], ?_, ?_⟩, h4⟩
  · intro x hx
    rcases List.mem_append.1 hx with hx | hx
    · exact h.sub x hx
    · rw [List.mem_singleton.1 hx]; exact h4
  · rw [List.map_append, List.nodup_append]
    refine ⟨h.nd, by simp, ?_⟩
    intro x hx y hy
    simp only [List.map_cons, List.map_nil, List.mem_singleton] at hy
    subst hy
    rintro rfl
    exact h5 hx
theorem Seen.len {es : Array MapEntry} {col : List MapEntry} {seen : Array Nat} (h : Seen es col seen) (hn : (es.toList.map (·.born)).Nodup) : col.length ≤ es.size := by
  have := nodup_len (col.map (·.born)) (es.toList.map (·.born)) h.nd (fun x hx => by
    obtain ⟨e, he, rfl⟩ := List.mem_map.1 hx
    exact List.mem_map.2 ⟨e, h.sub e he, rfl⟩)
  simpa using this
theorem Seen.all {es : Array MapEntry} {col : List MapEntry} {seen : Array Nat} (h : Seen es col seen) (hn : (es.toList.map (·.born)).Nodup) (hu : unseen es seen = #[]) : col.Perm es.toList := by
  have hc : col.Nodup := nodup_of_map _ h.nd
  have he : es.toList.Nodup := nodup_of_map _ hn
  rw [List.perm_ext_iff_of_nodup hc he]
  intro e
  refine ⟨h.sub e, fun hm => ?_⟩
  have hin : seen.contains e.born = true := by
    cases hs : seen.contains e.born with
    | true => rfl
    | false =>
      have : e ∈ unseen es seen := Array.mem_filter.2 ⟨by simpa using hm, by rw [hs]; rfl⟩
      rw [hu] at this
      simp at this
  have h1 : e.born ∈ col.map (·.born) := by
    rw [← h.born]
    simpa using hin
  obtain ⟨x, hx, hxe⟩ := List.mem_map.1 h1
  have : x = e := by
    have h2 := h.sub x hx
    have hinj : ∀ (l : List MapEntry), (l.map (·.born)).Nodup → x ∈ l → e ∈ l → x = e := by
      intro l
      induction l with
      | nil => intro _ hx _; cases hx
      | cons y l ih =>
        intro hn hx he
        simp only [List.map_cons, List.nodup_cons] at hn
        rcases List.mem_cons.1 hx with h3 | hx
        · rcases List.mem_cons.1 he with h4 | he
          · rw [h3, h4]
          · exact absurd (List.mem_map.2 ⟨e, he, by rw [← hxe, h3]⟩) hn.1
        · rcases List.mem_cons.1 he with h4 | he
          · exact absurd (List.mem_map.2 ⟨x, hx, by rw [hxe, h4]⟩) hn.1
          · exact ih hn.2 hx he
    exact hinj _ hn h2 hm
  rw [← this]
  exact hx

end Go.SL
