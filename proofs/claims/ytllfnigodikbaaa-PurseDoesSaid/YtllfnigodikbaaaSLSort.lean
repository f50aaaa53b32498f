/-
  slices.SortFunc at structs, told in the walks' words: the library's contract (over any program that bears its text) as a Tells.
-/
import Derived.Test.YtllfnigodikbaaaSLMore5
import Derived.Shelf.SlSortCmp.NoneTotal
set_option linter.unusedVariables false
set_option linter.unusedSimpArgs false
namespace Go.SL
open Go.Proofs Go.Shelf Go.Lib Go.Sort

variable {P : Program}

/-- What a call that needs no block leaves: the world, grown. -/
theorem Tells.grown {f : FuncId} {args : List Value} {Post : Value → List Ck → Prop} (h : Tells P f args [] Post) (w : World) :
    Calls P f args.toArray w fun e w' => ∃ v H', e = .returned v ∧ Post v H' ∧ ∃ q os', w' = grow (w.drewN q) os' := by
  let R : List Ck := (List.range w.heap.size).map fun k => ⟨k, (w.heap[k]?).getD default, false⟩
  have hsat : Sat w ([] ++ R) := by
    refine ⟨fun c hc => ?_, ?_⟩
    · obtain ⟨k, hk, rfl⟩ := List.mem_map.1 hc
      have hk := List.mem_range.1 hk
      simp [hk]
    · have hall : ∀ c ∈ R, c.ex = false := fun c hc => by
        obtain ⟨k, hk, rfl⟩ := List.mem_map.1 hc; rfl
      rw [List.nil_append, List.pairwise_iff_forall_sublist]
      intro c d hs e
      have h1 := hall c (hs.subset (by simp))
      have h2 := hall d (hs.subset (by simp))
      rw [h1, h2] at e
      simp at e
  refine (h w R hsat).mono fun e w' ⟨v, H', he, hp, hs, hk⟩ => ⟨v, H', he, hp, w'.drawn - w.drawn, w'.heap.extract w.heap.size w'.heap.size, ?_⟩
  have hheap : w'.heap = w.heap ++ w'.heap.extract w.heap.size w'.heap.size := by
    apply Array.ext_getElem?
    intro k
    by_cases hlt : k < w.heap.size
    · have := hs.holds ⟨k, (w.heap[k]?).getD default, false⟩ (List.mem_append_right _ (List.mem_map.2 ⟨k, List.mem_range.2 hlt, rfl⟩))
      rw [this, Array.getElem?_append_left hlt]
      simp [hlt]
    · rw [Array.getElem?_append_right (by omega), Array.getElem?_extract]
      have hsz := hk.size
      by_cases h2 : k < w'.heap.size
      · rw [if_pos (by omega), show w.heap.size + (k - w.heap.size) = k by omega]
      · rw [if_neg (by omega), Array.getElem?_eq_none (by omega)]
  have e1 := hk.os
  have e2 := hk.tape
  have e3 := hk.output
  have e4 := hk.drawn
  cases w' with
  | mk heap' tape' drawn' os' output' =>
    simp only at hheap e1 e2 e3 e4
    subst e1 e2 e3
    unfold grow World.drewN
    simp only [World.mk.injEq, true_and, and_true]
    exact ⟨hheap, by omega⟩

theorem flat_get {α : Type} (enc : α → List Value) (k : Nat) (hk : ∀ x, (enc x).length = k) : ∀ (ds : List α) (i c : Nat), c < k → (ds.flatMap enc)[i * k + c]? = (ds[i]?).bind fun x => (enc x)[c]?
  | [], i, c, _ => by simp
  | d :: ds, 0, c, h => by
    rw [List.flatMap_cons, Nat.zero_mul, Nat.zero_add, List.getElem?_append_left (by rw [hk]; exact h)]
    rfl
  | d :: ds, i + 1, c, h => by
    have ih := flat_get enc k hk ds i c h
    rw [List.flatMap_cons, List.getElem?_append_right (by rw [hk, Nat.add_mul, Nat.one_mul]; omega), hk, List.getElem?_cons_succ, ← ih]
    congr 1
    rw [Nat.add_mul, Nat.one_mul]
    omega
theorem flat_len {α : Type} (enc : α → List Value) (k : Nat) (hk : ∀ x, (enc x).length = k) (ds : List α) : (ds.flatMap enc).length = ds.length * k := by
  induction ds with
  | nil => simp
  | cons d ds ih => rw [List.flatMap_cons, List.length_append, ih, hk, List.length_cons, Nat.add_mul, Nat.one_mul]; omega

variable {α : Type} [Inhabited α]
theorem flatK_list (enc : α → List Value) (k : Nat) (hk : ∀ x, (enc x).length = k) (hk0 : 0 < k) (ds : List α) : flatK enc k ds.toArray = (ds.flatMap enc).toArray := by
  apply Array.ext
  · simp [flat_len enc k hk]
  · intro t h1 h2
    have ht : t < ds.length * k := by simpa using h1
    have hi : t / k < ds.length := by rw [Nat.div_lt_iff_lt_mul hk0]; exact ht
    have hc : t % k < k := Nat.mod_lt _ hk0
    have := flat_get enc k hk ds (t / k) (t % k) hc
    rw [show t / k * k + t % k = t by rw [Nat.mul_comm]; exact Nat.div_add_mod t k, List.getElem?_eq_getElem hi] at this
    simp only [Option.bind_some] at this
    rw [List.getElem?_eq_getElem (by rw [flat_len enc k hk]; exact ht), List.getElem?_eq_getElem (by rw [hk]; exact hc)] at this
    simp only [Option.some.injEq] at this
    simp only [List.getElem_toArray, this]
    have e := get_flatK enc k ds.toArray t (by simpa using ht)
    rw [getElem!_pos _ t h1] at e
    rw [e, getElem!_pos ds.toArray (t / k) (by simpa using hi)]
    simp only [List.getElem_toArray]
    rw [getElem!_pos (enc ds[t / k]) (t % k) (by rw [hk]; exact hc)]

/-- slices.SortFunc at a slice of our own whose elements are structs: a permutation, sorted. -/
theorem sort_tells {ρ : Ren} (L : SlLaysF0.n6 P ρ) (k : Nat) (hk0 : 0 < k) (aE : ∀ w, (isAgg (ρ.t 24)).run P w = .ok true w) (zE : ∀ w, (Go.sizeOf (ρ.t 24)).run P w = .ok k w) (enc : α → List Value) (hk : ∀ x, (enc x).length = k) (h1 : ∀ x, ∀ v ∈ enc x, v.oneCell' = true) (cf : α → α → Int) (hO : SWO (ltOf cf)) (g : Nat)
    (eg : ∀ args w, (callFunc g args).run P w = .ok (.enter g args) w) (hc : ∀ x y, Tells P g [.agg (enc x).toArray, .agg (enc y).toArray] [] fun r H' => r = .int .i64 (cf x y)) {v : Value} {ds : List α} {T : TypeId} {C : List Ck} (own : Own v ds.length (ds.flatMap enc) T k C) (hsz : ds.length < 4611686018427387904) :
    Tells P (ρ.f 6) [v, .func (.func g) #[] #[]] C fun r C' => r = .tuple #[] ∧ ∃ ds' : List α, ds'.Perm ds ∧ ds'.Pairwise (fun x y => ltOf cf y x = false) ∧ Own v ds'.length (ds'.flatMap enc) T k C' := by
  intro w R s
  rcases own with ⟨rfl, h0, _, rfl⟩ | ⟨b, cap, extra, rfl, hc1, hc2, hx1, hx2, rfl⟩
  · have hd : ds = [] := List.eq_nil_of_length_eq_zero h0
    subst hd
    have h := AnyF.slices_SortFunc_none (P := P) (ρ := ρ) { L with } none 0 (.func (.func g) #[] #[]) w
    exact h.mono fun e w' ⟨he, hw⟩ => ⟨_, [], he, ⟨rfl, [], List.Perm.refl _, List.Pairwise.nil, .inl ⟨rfl, rfl, rfl, rfl⟩⟩, by rw [hw]; exact s, by rw [hw]; exact Kept.refl w⟩
  · have hg := s.holds _ (List.mem_append_left R List.mem_cons_self)
    have hblk : b < w.heap.size := s.lt (c := row b (ds.flatMap enc ++ extra) T) (List.mem_append_left R List.mem_cons_self)
    have hH : HoldsK enc k w b 0 ds.toArray := by
      unfold HoldsK
      rw [flatK_list enc k hk hk0]
      intro j hj
      have hj' : j < (ds.flatMap enc).length := by simpa using hj
      refine ⟨?_, ?_⟩
      · rw [cell_at hg, Nat.zero_add]
        simp only [List.getElem?_toArray]
        rw [List.getElem?_append_left hj', getElem!_pos _ j (by simpa using hj')]
        simp [hj']
      · simp only [World.frozen?]
        rw [show w.heap[b]? = _ from hg]
        simp
    have hcmp : CmpLays P g #[] enc k cf b 0 ds.toArray.size w := fun m os dk hdk x y => by
      have h := (hc x y).grown (sortWorldK enc k w b 0 m dk os)
      exact h.mono fun e w' ⟨v, H', he, hp, hq⟩ => ⟨by rw [he, hp], hq⟩
    have h := AnyQ.slices_SortFunc L k aE zE enc hk h1 cf hO g #[] b 0 cap ds.toArray w eg hcmp hH hblk (by simpa using hsz)
    rw [show ds.toArray.size = ds.length by simp] at h
    refine h.mono fun e w' ⟨he, d', n, os, hp, hs, hw⟩ => ?_
    obtain ⟨hsz', _, hperm⟩ := hp
    have hl : d'.toList.length = ds.length := by simpa using hsz'
    have hperm' : d'.toList.Perm ds := by
      have e1 : (d'.extract 0 ds.length).toList = d'.toList := by simp [← hl]
      have e2 : (ds.toArray.extract 0 ds.length).toList = ds := by simp
      rwa [e1, e2] at hperm
    have hpw : d'.toList.Pairwise (fun x y => ltOf cf y x = false) := by
      rw [List.pairwise_iff_getElem]
      intro i j hi hj hij
      have := hs i j (Nat.zero_le _) hij (by omega)
      rw [getElem!_pos d' i (by simpa using hi), getElem!_pos d' j (by simpa using hj)] at this
      simpa using this
    have hd' : d' = d'.toList.toArray := by simp
    have hobj : w'.heap[b]? = some (.cells (d'.toList.flatMap enc ++ extra).toArray T (0, 0)) := by
      rw [hw]
      unfold sortWorldK grow putRowK putRow mapBlock
      have hb2 : b < (w.heap.modify b (onCells (putCells id 0 (flatK enc k d')))).size := by simpa using hblk
      rw [show (Sort.ahead w n).heap = w.heap from rfl]
      rw [Array.getElem?_append_left hb2, Array.getElem?_modify, if_pos rfl, show w.heap[b]? = _ from hg]
      simp only [Option.map_some, onCells]
      congr 2
      rw [hd', flatK_list enc k hk hk0]
      have hfl : (d'.toList.flatMap enc).length = (ds.flatMap enc).length := by rw [flat_len enc k hk, flat_len enc k hk, hl]
      apply Array.ext
      · simp [putCells, hfl]
      · intro i h1 h2
        simp only [putCells, Array.getElem_mapIdx, Nat.zero_le, true_and, Nat.zero_add, List.size_toArray, Nat.sub_zero, id]
        by_cases hi : i < (d'.toList.flatMap enc).length
        · rw [if_pos (by simpa using hi)]
          rw [getElem!_pos _ i (by simpa using hi)]
          simp only [List.getElem_toArray]
          rw [List.getElem_append_left (by simpa using hi)]
        · rw [if_neg (by simpa using hi)]
          simp only [List.getElem_toArray]
          rw [List.getElem_append_right (by omega), List.getElem_append_right (by simpa using hi)]
          congr 1
          simp [hfl]
    have hother : ∀ j, j ≠ b → j < w.heap.size → w'.heap[j]? = w.heap[j]? := by
      intro j hj hlt
      rw [hw]
      unfold sortWorldK grow putRowK putRow mapBlock
      rw [show (Sort.ahead w n).heap = w.heap from rfl]
      rw [Array.getElem?_append_left (by simpa using hlt), Array.getElem?_modify, if_neg (by omega)]
    refine ⟨.tuple #[], [row b (d'.toList.flatMap enc ++ extra) T], he, ⟨rfl, d'.toList, hperm', hpw, .inr ⟨b, cap, extra, by rw [hl], by rw [hl]; exact hc1, hc2, flat_len enc k hk _, by rw [hl]; exact hx2, rfl⟩⟩, ?_, ?_⟩
    · have hpa := List.pairwise_cons.1 s.apart
      refine ⟨fun c hcm => ?_, List.pairwise_cons.2 ⟨fun d hd e => hpa.1 d hd e, hpa.2⟩⟩
      rcases List.mem_cons.1 hcm with rfl | hcm
      · exact hobj
      · have hne : b ≠ c.b := hpa.1 c hcm (.inl rfl)
        rw [hother c.b (Ne.symm hne) (s.lt (List.mem_cons_of_mem _ hcm))]
        exact s.holds c (List.mem_cons_of_mem _ hcm)
    · rw [hw]
      refine ⟨rfl, rfl, rfl, ?_, ?_⟩
      · unfold sortWorldK grow putRowK putRow mapBlock
        simp [Sort.ahead]
      · unfold sortWorldK grow putRowK putRow mapBlock
        simp [Sort.ahead]

end Go.SL
