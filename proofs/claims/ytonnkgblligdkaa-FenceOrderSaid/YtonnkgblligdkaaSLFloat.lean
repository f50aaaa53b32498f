/-
  Where the order is drawn: what only reads or computes may come whenever it is ready; only what changes memory is walked in its orders.
-/
import Derived.Test.YtonnkgblligdkaaSLQuiet2
set_option linter.unusedVariables false
set_option linter.unusedSimpArgs false
namespace Go.SL

theorem all_n {α : Type} {p : α → Prop} : ∀ x ∈ ([] : List α), p x := fun _ h => absurd h List.not_mem_nil
theorem all_c {α : Type} {p : α → Prop} {a : α} {l : List α} (h : p a) (k : ∀ x ∈ l, p x) : ∀ x ∈ a :: l, p x := List.forall_mem_cons.2 ⟨h, k⟩
abbrev Pn := List (Nat × Nat × Value)
def floatA (N : Nat) (B : List Nat) (pn : Pn) (p : Nat → Bool) : Array Bool := ((List.range N).map fun i => B.contains i || (p i && pn.any fun q => q.1 == i)).toArray
def floatV (pn : Pn) (p : Nat → Bool) : Sl := (pn.filter fun q => p q.1).map (·.2)
def unex (pn : Pn) (p : Nat → Bool) : Nat := (pn.filter fun q => !p q.1).length
def bindsOn (ops : Array Oper) (i k : Nat) : Bool := match ops[i]? with | some o => o.after.any fun e => Region.binds .any e && e.on == k | none => false
/-- what is to be checked of the order, by numbers alone -/
def floatOk (ops : Array Oper) (B : List Nat) (pd : List (Nat × Nat)) (nexts : List (Nat × List Nat)) : Bool :=
  ((List.range ops.size).all fun i => match ops[i]? with | some o => o.after.all fun e => !Region.binds .any e || decide (e.on < i) | none => true)
  && (decide ((pd.map (·.1)).Nodup) && (decide ((pd.map (·.2)).Nodup) && ((pd.all fun q => !B.contains q.1 && decide (q.1 < ops.size))
  && (((List.range ops.size).all fun i => B.contains i || (pd.any (fun q => q.1 == i) || (nexts.any (fun e => e.1 == i) || !(match ops[i]? with | some o => o.after.all fun e => !Region.binds .any e || (B.contains e.on || pd.any (fun q => q.1 == e.on)) | none => true))))
  && (nexts.all fun e => e.2.all (fun k => bindsOn ops e.1 k) && (match ops[e.1]? with | some o => pd.all (fun q => o.dst != some q.2) | none => true))))))

section
variable {P : Program} {n : Nat} {w0 : World} {R : List Ck} {Q : Exit → Act → World → Prop} {l : Sl} {H : List Ck} {ops : Array Oper} {pn : Pn} {r : Nat} {B : List Nat}
/-- what reads or computes, as it comes up -/
def QAt (P : Program) (w0 : World) (R : List Ck) (ops : Array Oper) (Q : Exit → Act → World → Prop) (o : Oper) (lu : Sl) (H : List Ck) (v : Value) : Prop :=
  ∀ a w, Kn a lu → Sat w (H ++ R) → Kept w0 w → (Region.wanted o (yielded ops a.tmps) = true ∧ o.wp P a w (fun a' w' => a' = a.put o.dst v ∧ Sat w' (H ++ R) ∧ Kept w0 w') Q) ∨ (Region.wanted o (yielded ops a.tmps) = false ∧ v = undef)
def QF (P : Program) (n : Nat) (w0 : World) (R : List Ck) (ops : Array Oper) (Q : Exit → Act → World → Prop) (pn : Pn) (l : Sl) (H : List Ck) (q : Nat × Nat × Value) : Prop :=
  ∃ (o : Oper) (ks : List Nat), ops[q.1]? = some o ∧ o.dst = some q.2.1 ∧ Nat.blt q.2.1 n = true ∧ (ks.all fun k => bindsOn ops q.1 k) = true ∧ QAt P w0 R ops Q o (floatV pn ks.contains ++ l) H q.2.2
/-- some of what reads or computes may have come up, some not -/
def WAF (P : Program) (n : Nat) (w0 : World) (R : List Ck) (ops : Array Oper) (Q : Exit → Act → World → Prop) (pn : Pn) (r : Nat) (B : List Nat) (l : Sl) (H : List Ck) : Prop :=
  ∀ (p : Nat → Bool) (fuel : Nat), r + unex pn p ≤ fuel → WA P n w0 R ops Q fuel (floatA ops.size B pn p) (floatV pn p ++ l) H
/-- what changes memory -/
def SO (P : Program) (n : Nat) (w0 : World) (R : List Ck) (ops : Array Oper) (Q : Exit → Act → World → Prop) (j : Nat) (lu : Sl) (H : List Ck) (K : Sl → List Ck → Prop) : Prop :=
  ∃ o, ops[j]? = some o ∧ ∀ a w, a.tmps.size = n → a.defers = [] → Kn a lu → Sat w (H ++ R) → Kept w0 w →
    wpOp P ops Q j (fun a' w' => ∃ dv H', K dv H' ∧ ((dv = [] ∧ a' = a) ∨ ∃ d v, o.dst = some d ∧ Nat.blt d n = true ∧ dv = [(d, v)] ∧ a' = a.put (some d) v) ∧ Sat w' (H' ++ R) ∧ Kept w0 w') a w

theorem At.sub' {l' : Sl} {a : Act} {w : World} (h : At P n w0 R l H a w) (k : Kn a l') : At P n w0 R l' H a w := ⟨h.size, h.defers, k, h.sat, h.kept⟩

/-! ### slots -/
theorem getv_float {p : Nat → Bool} {t : Nat} {v : Value} (h : getv (floatV pn p ++ l) t = some v) : (∃ q ∈ pn, p q.1 = true ∧ q.2 = (t, v)) ∨ getv l t = some v := by
  unfold floatV at h
  induction pn with
  | nil => exact .inr h
  | cons q pn ih =>
    by_cases hc : p q.1 = true
    · rw [List.filter_cons_of_pos (p := fun q : Nat × Nat × Value => p q.1) hc, List.map_cons, List.cons_append] at h
      have h' : getv ((q.2.1, q.2.2) :: (List.map (fun x => x.2) (List.filter (fun q => p q.1) pn) ++ l)) t = some v := h
      rw [getv_cons] at h'
      by_cases e : q.2.1 = t
      · rw [if_pos e, Option.some.injEq] at h'
        exact .inl ⟨q, List.mem_cons_self, hc, Prod.ext e h'⟩
      · rw [if_neg e] at h'
        rcases ih h' with ⟨q', h1, h2⟩ | h2
        · exact .inl ⟨q', List.mem_cons_of_mem _ h1, h2⟩
        · exact .inr h2
    · rw [List.filter_cons_of_neg (p := fun q : Nat × Nat × Value => p q.1) hc] at h
      rcases ih h with ⟨q', h1, h2⟩ | h2
      · exact .inl ⟨q', List.mem_cons_of_mem _ h1, h2⟩
      · exact .inr h2
theorem float_get {p : Nat → Bool} {t : Nat} {v : Value} (hdn : (pn.map fun q => q.2.1).Nodup) {q : Nat × Nat × Value} (hq : q ∈ pn) (hp : p q.1 = true) (e : q.2 = (t, v)) : getv (floatV pn p ++ l) t = some v := by
  unfold floatV
  induction pn with
  | nil => cases hq
  | cons x pn ih =>
    simp only [List.map_cons, List.nodup_cons] at hdn
    rcases List.mem_cons.1 hq with rfl | hq
    · rw [List.filter_cons_of_pos (p := fun q : Nat × Nat × Value => p q.1) hp, List.map_cons, List.cons_append]
      show getv ((q.2.1, q.2.2) :: _) t = _
      rw [getv_cons, if_pos (by rw [e]), e]
    · have ih := ih hdn.2 hq
      by_cases hc : p x.1 = true
      · rw [List.filter_cons_of_pos (p := fun q : Nat × Nat × Value => p q.1) hc, List.map_cons, List.cons_append]
        show getv ((x.2.1, x.2.2) :: _) t = _
        rw [getv_cons, if_neg (fun e2 => hdn.1 (List.mem_map.2 ⟨q, hq, by rw [e2, e]⟩))]
        exact ih
      · rw [List.filter_cons_of_neg (p := fun q : Nat × Nat × Value => p q.1) hc]
        exact ih
theorem float_past {p : Nat → Bool} {t : Nat} (h : ∀ q ∈ pn, q.2.1 ≠ t) : getv (floatV pn p ++ l) t = getv l t := by
  unfold floatV
  induction pn with
  | nil => rfl
  | cons q pn ih =>
    have ih := ih fun x hx => h x (List.mem_cons_of_mem _ hx)
    by_cases hc : p q.1 = true
    · rw [List.filter_cons_of_pos (p := fun q : Nat × Nat × Value => p q.1) hc, List.map_cons, List.cons_append]
      show getv ((q.2.1, q.2.2) :: _) t = _
      rw [getv_cons, if_neg (h q List.mem_cons_self)]
      exact ih
    · rw [List.filter_cons_of_neg (p := fun q : Nat × Nat × Value => p q.1) hc]
      exact ih
theorem float_old {p : Nat → Bool} {t : Nat} {v : Value} (hfr : ∀ q ∈ pn, getv l q.2.1 = none) (h : getv l t = some v) : getv (floatV pn p ++ l) t = some v := by
  rw [float_past fun q hq e => by rw [← e, hfr q hq] at h; cases h]
  exact h
/-- what is known where fewer have come up -/
theorem Kn.fewer {a : Act} {p p' : Nat → Bool} (hdn : (pn.map fun q => q.2.1).Nodup) (hfr : ∀ q ∈ pn, getv l q.2.1 = none) (h : ∀ q ∈ pn, p' q.1 = true → p q.1 = true) (k : Kn a (floatV pn p ++ l)) : Kn a (floatV pn p' ++ l) := fun t v hv => by
  rcases getv_float hv with ⟨q, hq, h1, h2⟩ | h1
  · exact k t v (float_get hdn hq (h q hq h1) h2)
  · exact k t v (float_old hfr h1)

/-! ### what is ready -/
theorem floatA_get {N : Nat} {p : Nat → Bool} {i : Nat} (d : Bool) (h : i < N) : (floatA N B pn p).getD i d = (B.contains i || (p i && pn.any fun q => q.1 == i)) := by
  unfold floatA
  simp [h]
theorem floatA_out {N : Nat} {p : Nat → Bool} {i : Nat} (d : Bool) (h : ¬ i < N) : (floatA N B pn p).getD i d = d := by
  unfold floatA
  simp [Nat.not_lt.1 h]
theorem any_mem {i : Nat} : (pn.any fun q => q.1 == i) = true ↔ ∃ q ∈ pn, q.1 = i := by simp

structure FOk (ops : Array Oper) (B : List Nat) (pn : Pn) (nexts : List (Nat × List Nat)) : Prop where
  back : ∀ i o, ops[i]? = some o → ∀ e ∈ o.after, Region.binds .any e = true → e.on < i
  nums : (pn.map (·.1)).Nodup
  slots : (pn.map fun q => q.2.1).Nodup
  new : ∀ q ∈ pn, B.contains q.1 = false ∧ q.1 < ops.size
  next : ∀ i o, ops[i]? = some o → B.contains i = false → (∀ q ∈ pn, q.1 ≠ i) → (∀ e ∈ o.after, Region.binds .any e = true → B.contains e.on = true ∨ ∃ q ∈ pn, q.1 = e.on) → ∃ e ∈ nexts, e.1 = i
  deps : ∀ e ∈ nexts, ∀ k ∈ e.2, bindsOn ops e.1 k = true
  dst : ∀ e ∈ nexts, ∀ o, ops[e.1]? = some o → ∀ q ∈ pn, o.dst ≠ some q.2.1
theorem FOk.of {pd : List (Nat × Nat)} {nexts : List (Nat × List Nat)} (hpd : pn.map (fun q => (q.1, q.2.1)) = pd) (h : floatOk ops B pd nexts = true) : FOk ops B pn nexts := by
  subst hpd
  simp only [floatOk, Bool.and_eq_true] at h
  obtain ⟨h1, h2, h3, h4, h5, h6⟩ := h
  refine ⟨fun i o ho e he hb => ?_, ?_, ?_, fun q hq => ?_, fun i o ho hB hn hd => ?_, fun e he k hk => ?_, fun e he o ho q hq => ?_⟩
  · have hlt : i < ops.size := (Array.getElem?_eq_some_iff.1 ho).1
    have := List.all_eq_true.1 h1 i (List.mem_range.2 hlt)
    rw [ho] at this
    have := Array.all_eq_true_iff_forall_mem.1 this e he
    rw [hb] at this
    simpa using this
  · have := of_decide_eq_true h2
    rw [List.map_map] at this
    exact this
  · have := of_decide_eq_true h3
    rw [List.map_map] at this
    exact this
  · have := List.all_eq_true.1 h4 (q.1, q.2.1) (List.mem_map.2 ⟨q, hq, rfl⟩)
    simp only [Bool.and_eq_true, Bool.not_eq_true', decide_eq_true_eq] at this
    exact this
  · have hlt : i < ops.size := (Array.getElem?_eq_some_iff.1 ho).1
    have := List.all_eq_true.1 h5 i (List.mem_range.2 hlt)
    rw [ho, hB] at this
    simp only [Bool.false_or, Bool.or_eq_true] at this
    rcases this with h | h | h
    · obtain ⟨y, hy, e⟩ := List.any_eq_true.1 h
      obtain ⟨q, hq, rfl⟩ := List.mem_map.1 hy
      exact absurd (by simpa using e) (hn q hq)
    · obtain ⟨e, he, h⟩ := List.any_eq_true.1 h
      exact ⟨e, he, by simpa using h⟩
    · exfalso
      rw [Bool.not_eq_true', Bool.eq_false_iff] at h
      refine h (Array.all_eq_true_iff_forall_mem.2 fun e he => ?_)
      cases hb : Region.binds .any e
      · rfl
      · rcases hd e he hb with h7 | ⟨q, hq, h7⟩
        · rw [h7]; rfl
        · rw [show (List.any (pn.map fun q => (q.1, q.2.1)) fun q => q.1 == e.on) = true from List.any_eq_true.2 ⟨(q.1, q.2.1), List.mem_map.2 ⟨q, hq, rfl⟩, by simpa using h7⟩]
          simp
  · have := List.all_eq_true.1 h6 e he
    rw [Bool.and_eq_true] at this
    exact List.all_eq_true.1 this.1 k hk
  · have := List.all_eq_true.1 h6 e he
    rw [Bool.and_eq_true, ho] at this
    have := List.all_eq_true.1 this.2 (q.1, q.2.1) (List.mem_map.2 ⟨q, hq, rfl⟩)
    simpa using this
theorem bindsOn_spec {i k : Nat} {o : Oper} (ho : ops[i]? = some o) (h : bindsOn ops i k = true) : ∃ e ∈ o.after, Region.binds .any e = true ∧ e.on = k := by
  unfold bindsOn at h
  rw [ho] at h
  obtain ⟨e, he, hb⟩ := Array.any_eq_true'.1 h
  simp only [Bool.and_eq_true, beq_iff_eq] at hb
  exact ⟨e, he, hb⟩
/-- what is ready waits only for what has come up -/
theorem ready_deps {p : Nat → Bool} {i k : Nat} {nexts : List (Nat × List Nat)} (F : FOk ops B pn nexts) (hi : i ∈ Region.ready .any ops (floatA ops.size B pn p)) (hk : bindsOn ops i k = true) (hq : ∃ q ∈ pn, q.1 = k) : p k = true := by
  obtain ⟨_, o, ho, hall⟩ := mem_ready.1 hi
  obtain ⟨e, he, hb, rfl⟩ := bindsOn_spec ho hk
  obtain ⟨q, hq, h1⟩ := hq
  have h2 := hall e he hb
  have h3 := F.new q hq
  rw [h1] at h3
  rw [floatA_get _ h3.2, h3.1] at h2
  simp only [Bool.false_or, Bool.and_eq_true] at h2
  exact h2.1
theorem ready_some {p : Nat → Bool} {nexts : List (Nat × List Nat)} (F : FOk ops B pn nexts) {i : Nat} (hi : i < ops.size) (hu : (floatA ops.size B pn p).getD i true = false) : Region.ready .any ops (floatA ops.size B pn p) ≠ [] := by
  have key : ∀ m i, i < ops.size → i ≤ m → (floatA ops.size B pn p).getD i true = false → ∃ j, j ∈ Region.ready .any ops (floatA ops.size B pn p) := by
    intro m
    induction m with
    | zero =>
      intro i hi him hu
      refine ⟨i, mem_ready.2 ⟨hu, ops[i], Array.getElem?_eq_getElem hi, fun e he hb => ?_⟩⟩
      have := F.back i _ (Array.getElem?_eq_getElem hi) e he hb
      omega
    | succ m ih =>
      intro i hi him hu
      by_cases h : ∀ e ∈ ops[i].after, Region.binds .any e = true → (floatA ops.size B pn p).getD e.on false = true
      · exact ⟨i, mem_ready.2 ⟨hu, ops[i], Array.getElem?_eq_getElem hi, h⟩⟩
      · have ⟨e, he, hb, hn⟩ : ∃ e ∈ ops[i].after, Region.binds .any e = true ∧ ¬ (floatA ops.size B pn p).getD e.on false = true := by
          refine Classical.byContradiction fun h2 => h fun e he hb => Classical.byContradiction fun h3 => h2 ⟨e, he, hb, h3⟩
        have hlt := F.back i _ (Array.getElem?_eq_getElem hi) e he hb
        refine ih e.on (by omega) (by omega) ?_
        rw [floatA_get _ (by omega)] at hn ⊢
        exact Bool.eq_false_iff.2 hn
  obtain ⟨j, hj⟩ := key i i hi (Nat.le_refl _) hu
  exact fun e => by rw [e] at hj; cases hj
theorem floatA_more {N : Nat} {p : Nat → Bool} {i : Nat} (hi : ∃ q ∈ pn, q.1 = i) : (floatA N B pn p).setIfInBounds i true = floatA N B pn (fun j => p j || j == i) := by
  apply Array.ext
  · simp [floatA]
  · intro j h1 h2
    have hN : j < N := by simpa [floatA] using h2
    have g1 := floatA_get (B := B) (pn := pn) (p := p) (i := j) false hN
    have g2 := floatA_get (B := B) (pn := pn) (p := fun j => p j || j == i) (i := j) false hN
    rw [Array.getD_eq_getD_getElem?, Array.getElem?_eq_getElem (by simpa [floatA] using hN)] at g1 g2
    simp only [Option.getD_some] at g1 g2
    rw [g2, Array.getElem_setIfInBounds (by simpa [floatA] using hN), g1]
    by_cases e : i = j
    · subst e
      rw [if_pos rfl, any_mem.2 hi]
      simp
    · rw [if_neg e]
      have : (j == i) = false := by simpa using fun x => e x.symm
      rw [this, Bool.or_false]
theorem unex_more {p : Nat → Bool} (hn : (pn.map (·.1)).Nodup) {q : Nat × Nat × Value} (hq : q ∈ pn) (hp : p q.1 = false) : unex pn p = unex pn (fun j => p j || j == q.1) + 1 := by
  unfold unex
  induction pn with
  | nil => cases hq
  | cons x pn ih =>
    simp only [List.map_cons, List.nodup_cons] at hn
    rcases List.mem_cons.1 hq with rfl | hq
    · rw [List.filter_cons_of_pos (by simp [hp]), List.filter_cons_of_neg (by simp), List.length_cons]
      congr 1
      congr 1
      refine List.filter_congr fun y hy => ?_
      have : (y.1 == q.1) = false := by simpa using fun e : y.1 = q.1 => hn.1 (List.mem_map.2 ⟨y, hy, e⟩)
      simp only [this, Bool.or_false]
    · have ih := ih hn.2 hq
      have hx : (x.1 == q.1) = false := by simpa using fun e : x.1 = q.1 => hn.1 (List.mem_map.2 ⟨q, hq, e.symm⟩)
      by_cases hpx : p x.1 = true
      · rw [List.filter_cons_of_neg (by simp [hpx]), List.filter_cons_of_neg (by simp [hpx])]
        exact ih
      · rw [List.filter_cons_of_pos (by simpa using hpx), List.filter_cons_of_pos (by simpa [hx] using hpx), List.length_cons, List.length_cons, ih]
theorem unex_zero {p : Nat → Bool} (h : unex pn p = 0) : ∀ q ∈ pn, p q.1 = true := fun q hq => by
  cases e : p q.1 with
  | true => rfl
  | false =>
    have : q ∈ pn.filter fun q => !p q.1 := List.mem_filter.2 ⟨hq, by rw [e]; rfl⟩
    rw [List.eq_nil_of_length_eq_zero h] at this
    cases this
/-- one of them comes up -/
theorem float_one {fuel : Nat} {p : Nat → Bool} {nexts : List (Nat × List Nat)} (F : FOk ops B pn nexts) (hfr : ∀ q ∈ pn, getv l q.2.1 = none) {q : Nat × Nat × Value} (hq : q ∈ pn) (hf : QF P n w0 R ops Q pn l H q)
    (hr : q.1 ∈ Region.ready .any ops (floatA ops.size B pn p)) {a : Act} {w : World} (at_ : At P n w0 R (floatV pn p ++ l) H a w)
    (k : WA P n w0 R ops Q fuel (floatA ops.size B pn (fun j => p j || j == q.1)) (floatV pn (fun j => p j || j == q.1) ++ l) H) :
    wpOp P ops Q q.1 (wpAny P .any ops Q fuel ((floatA ops.size B pn p).setIfInBounds q.1 true)) a w := by
  obtain ⟨o, ks, ho, hod, hd, hks, hat⟩ := hf
  have hkn : Kn a (floatV pn ks.contains ++ l) := at_.kn.fewer F.slots hfr fun x hx hc => ready_deps F hr (List.all_eq_true.1 hks _ (List.contains_iff_mem.1 hc)) ⟨x, hx, rfl⟩
  have hlt : q.2.1 < a.tmps.size := by rw [at_.size]; exact Nat.le_of_ble_eq_true hd
  have after : ∀ w', Sat w' (H ++ R) → Kept w0 w' → wpAny P .any ops Q fuel ((floatA ops.size B pn p).setIfInBounds q.1 true) (a.put o.dst q.2.2) w' := fun w' hs hk => by
    rw [floatA_more ⟨q, hq, rfl⟩, hod]
    refine k _ _ ⟨by simp [Act.put, at_.size], by simpa [Act.put] using at_.defers, fun t v hv => ?_, hs, hk⟩
    have hput := at_.kn.put q.2.2 hlt
    refine hput t v ?_
    rw [getv_cons]
    rcases getv_float hv with ⟨x, hx, h1, h2⟩ | h1
    · by_cases e : q.2.1 = t
      · rw [if_pos e]
        have : x = q := nodup_eq F.slots hx hq (by rw [h2]; exact e.symm)
        subst this
        rw [h2]
      · rw [if_neg e]
        have h3 : p x.1 = true := by
          simp only [Bool.or_eq_true, beq_iff_eq] at h1
          rcases h1 with h1 | h1
          · exact h1
          · have : x = q := nodup_eq F.nums hx hq h1
            subst this
            rw [h2] at e
            exact absurd rfl e
        exact float_get F.slots hx h3 h2
    · rw [if_neg (fun e => by rw [← e, hfr q hq] at h1; cases h1)]
      exact float_old hfr h1
  unfold wpOp
  simp only [ho]
  rcases hat a w hkn at_.sat at_.kept with ⟨h1, h2⟩ | ⟨h1, h2⟩
  · rw [if_pos h1]
    exact .inl (Oper.wp_mono (fun a' w' ⟨e, hs, hk⟩ => by subst e; exact after w' hs hk) h2)
  · rw [if_neg (by rw [h1]; simp), ← h2]
    exact after w at_.sat at_.kept
/-! ### the rules -/
theorem WA.float {N : Nat} (hN : ops.size = N) (h : WAF P n w0 R ops Q [] N [] l H) : WA P n w0 R ops Q N (Array.replicate N false) l H := by
  have := h (fun _ => false) N (by simp [unex])
  have e : floatA ops.size [] [] (fun _ => false) = Array.replicate N false := by
    subst hN
    apply Array.ext
    · simp [floatA]
    · intro j h1 h2
      simp [floatA]
  rw [e] at this
  exact this
theorem WAF.add {i d : Nat} {v : Value} (hni : (pn.all fun q => !(q.1 == i)) = true) (hq : QF P n w0 R ops Q pn l H (i, d, v)) (k : WAF P n w0 R ops Q ((i, d, v) :: pn) r B l H) : WAF P n w0 R ops Q pn (r + 1) B l H := fun p fuel hf => by
  have hne : ∀ q ∈ pn, q.1 ≠ i := fun q hq e => by
    have := List.all_eq_true.1 hni q hq
    simp [e] at this
  have := k (fun j => p j && !(j == i)) fuel (by
    unfold unex at hf ⊢
    rw [List.filter_cons_of_pos (by simp), List.length_cons]
    rw [show (pn.filter fun q => !(p q.1 && !(q.1 == i))) = pn.filter fun q => !p q.1 from List.filter_congr fun q hq => by simp [hne q hq]]
    omega)
  have e1 : floatA ops.size B ((i, d, v) :: pn) (fun j => p j && !(j == i)) = floatA ops.size B pn p := by
    unfold floatA
    congr 1
    refine List.map_congr_left fun j _ => ?_
    congr 1
    by_cases e : j = i
    · subst e
      have : (pn.any fun q => q.1 == j) = false := by
        rw [Bool.eq_false_iff]
        intro h
        obtain ⟨q, hq, e⟩ := any_mem.1 h
        exact hne q hq e
      simp [this]
    · have h1 : (j == i) = false := by simpa using e
      have h2 : (i == j) = false := by simpa using fun h => e h.symm
      simp [h1, h2]
  have e2 : floatV ((i, d, v) :: pn) (fun j => p j && !(j == i)) = floatV pn p := by
    unfold floatV
    rw [List.filter_cons_of_neg (by simp)]
    congr 1
    exact List.filter_congr fun q hq => by simp [hne q hq]
  rw [e1, e2] at this
  exact this
theorem WAF.step {pd : List (Nat × Nat)} (nexts : List (Nat × List Nat)) (hpd : pn.map (fun q => (q.1, q.2.1)) = pd) (hok : floatOk ops B pd nexts = true) (hsome : ((List.range ops.size).any fun i => !(B.contains i || pd.any fun q => q.1 == i)) = true) (hfr : ∀ q ∈ pn, getv l q.2.1 = none)
    (hq : ∀ q ∈ pn, QF P n w0 R ops Q pn l H q)
    (hs : ∀ e ∈ nexts, SO P n w0 R ops Q e.1 (floatV pn e.2.contains ++ l) H fun dv H' => WAF P n w0 R ops Q (pn.filter fun q => !e.2.contains q.1) r (e.1 :: ((pn.map (·.1)).filter e.2.contains ++ B)) (dv ++ (floatV pn e.2.contains ++ l)) H') : WAF P n w0 R ops Q pn (r + 1) B l H := by
  have F := FOk.of hpd hok
  have key : ∀ (t : Nat) (p : Nat → Bool) (fuel : Nat), unex pn p = t → r + 1 + t ≤ fuel → WA P n w0 R ops Q fuel (floatA ops.size B pn p) (floatV pn p ++ l) H := by
    intro t
    induction t using Nat.strongRecOn with
    | _ t ih =>
      intro p fuel ht hf
      obtain ⟨fuel, rfl⟩ : ∃ f, fuel = f + 1 := ⟨fuel - 1, by omega⟩
      intro a w at_
      have hne : Region.ready .any ops (floatA ops.size B pn p) ≠ [] := by
        obtain ⟨i, hi, hn⟩ := List.any_eq_true.1 hsome
        have hi := List.mem_range.1 hi
        refine ready_some F hi ?_
        rw [floatA_get _ hi]
        subst hpd
        simp only [Bool.not_eq_true', Bool.or_eq_false_iff] at hn
        rw [hn.1, show (pn.any fun q => q.1 == i) = false from by
          rw [Bool.eq_false_iff]
          intro h
          obtain ⟨q, hq, e⟩ := any_mem.1 h
          have : (List.any (pn.map fun q => (q.1, q.2.1)) fun q => q.1 == i) = true := List.any_eq_true.2 ⟨(q.1, q.2.1), List.mem_map.2 ⟨q, hq, rfl⟩, by simpa using e⟩
          rw [hn.2] at this
          cases this]
        simp
      refine ⟨fun h0 => absurd h0 hne, fun i hi => ?_⟩
      obtain ⟨hun, oi, hoi, hall⟩ := mem_ready.1 hi
      have hlt : i < ops.size := (Array.getElem?_eq_some_iff.1 hoi).1
      rw [floatA_get _ hlt, Bool.or_eq_false_iff] at hun
      by_cases hmem : ∃ q ∈ pn, q.1 = i
      · obtain ⟨q, hqm, rfl⟩ := hmem
        have hp : p q.1 = false := by
          have := hun.2
          rw [any_mem.2 ⟨q, hqm, rfl⟩, Bool.and_true] at this
          exact this
        have hu := unex_more F.nums hqm hp
        exact float_one F hfr hqm (hq q hqm) hi at_ (ih (unex pn fun j => p j || j == q.1) (by omega) _ fuel rfl (by omega))
      · obtain ⟨e, he, rfl⟩ := F.next i oi hoi hun.1 (fun q hqm e => hmem ⟨q, hqm, e⟩) (fun e he hb => by
          have h1 := hall e he hb
          have h2 := F.back i oi hoi e he hb
          rw [floatA_get _ (by omega), Bool.or_eq_true, Bool.and_eq_true] at h1
          exact h1.imp id fun h => any_mem.1 h.2)
        obtain ⟨o, ho, hso⟩ := hs e he
        obtain rfl : oi = o := by rw [hoi] at ho; exact Option.some.inj ho
        have hdep : ∀ q ∈ pn, e.2.contains q.1 = true → p q.1 = true := fun q hqm hc => ready_deps F hi (F.deps e he q.1 (List.contains_iff_mem.1 hc)) ⟨q, hqm, rfl⟩
        have hkn := at_.kn.fewer F.slots hfr hdep
        refine wpOp_mono (fun a' w' ⟨dv, H', hK, ha', hs', hk'⟩ => ?_) (hso a w at_.size at_.defers hkn at_.sat at_.kept)
        have eA : (floatA ops.size B pn p).setIfInBounds e.1 true = floatA ops.size (e.1 :: ((pn.map (·.1)).filter e.2.contains ++ B)) (pn.filter fun q => !e.2.contains q.1) p := by
          apply Array.ext
          · simp [floatA]
          · intro j h1 h2
            have hN : j < ops.size := by simpa [floatA] using h2
            have g1 := floatA_get (B := B) (pn := pn) (p := p) (i := j) false hN
            have g2 := floatA_get (B := e.1 :: ((pn.map (·.1)).filter e.2.contains ++ B)) (pn := pn.filter fun q => !e.2.contains q.1) (p := p) (i := j) false hN
            rw [Array.getD_eq_getD_getElem?, Array.getElem?_eq_getElem (by simpa [floatA] using hN)] at g1 g2
            simp only [Option.getD_some] at g1 g2
            rw [g2, Array.getElem_setIfInBounds (by simpa [floatA] using hN), g1]
            by_cases hje : e.1 = j
            · rw [if_pos hje, List.contains_cons, show (j == e.1) = true by simp [hje]]
              simp
            · rw [if_neg hje, List.contains_cons, show (j == e.1) = false by simpa using fun h => hje h.symm]
              rw [Bool.eq_iff_iff]
              simp only [Bool.or_eq_true, Bool.and_eq_true, List.contains_iff_mem, List.mem_append, List.mem_filter, List.mem_map, Bool.false_or, List.any_eq_true, beq_iff_eq, Bool.not_eq_true', Bool.false_eq_true, false_or]
              constructor
              · rintro (h | ⟨h3, q, hqm, h4⟩)
                · exact .inl (.inr h)
                · by_cases hc : j ∈ e.2
                  · exact .inl (.inl ⟨⟨q, hqm, h4⟩, hc⟩)
                  · refine .inr ⟨h3, q, ⟨hqm, ?_⟩, h4⟩
                    rw [Bool.eq_false_iff, ne_eq, List.contains_iff_mem, h4]
                    exact hc
              · rintro ((⟨⟨q, hqm, h4⟩, hc⟩ | h) | ⟨h3, q, ⟨hqm, _⟩, h4⟩)
                · refine .inr ⟨?_, q, hqm, h4⟩
                  rw [← h4] at hc ⊢
                  exact hdep q hqm (List.contains_iff_mem.2 hc)
                · exact .inl h
                · exact .inr ⟨h3, q, hqm, h4⟩
        rw [eA]
        have eU : unex (pn.filter fun q => !e.2.contains q.1) p = unex pn p := by
          unfold unex
          rw [List.filter_filter]
          congr 1
          refine List.filter_congr fun q hqm => ?_
          cases hc : e.2.contains q.1 with
          | false => simp
          | true => rw [hdep q hqm hc]; rfl
        refine hK p fuel (by omega) a' w' ?_
        have hold : ∀ t v, getv (floatV (pn.filter fun q => !e.2.contains q.1) p ++ (floatV pn e.2.contains ++ l)) t = some v → getv (floatV pn p ++ l) t = some v := fun t v hv => by
          rcases getv_float hv with ⟨q, hqm, h1, h2⟩ | h1
          · exact float_get F.slots (List.mem_filter.1 hqm).1 h1 h2
          · rcases getv_float h1 with ⟨q, hqm, h1, h2⟩ | h1
            · exact float_get F.slots hqm (hdep q hqm h1) h2
            · exact float_old hfr h1
        rcases ha' with ⟨rfl, rfl⟩ | ⟨d, v, hod, hd, rfl, rfl⟩
        · exact ⟨at_.size, at_.defers, fun t v hv => at_.kn t v (hold t v hv), hs', hk'⟩
        · have hdlt : d < a.tmps.size := by rw [at_.size]; exact Nat.le_of_ble_eq_true hd
          refine ⟨by simp [Act.put, at_.size], by simpa [Act.put] using at_.defers, fun t u hu => ?_, hs', hk'⟩
          refine at_.kn.put v hdlt t u ?_
          rw [getv_cons]
          by_cases e2 : d = t
          · rw [if_pos e2]
            subst e2
            rw [float_past (fun q hqm e3 => F.dst e he oi hoi q (List.mem_filter.1 hqm).1 (by rw [hod, e3]))] at hu
            rw [List.singleton_append, getv_cons, if_pos rfl] at hu
            exact hu
          · rw [if_neg e2]
            refine hold t u ?_
            rcases getv_float hu with ⟨q, hqm, h1, h2⟩ | h1
            · refine float_get ?_ hqm h1 h2
              exact F.slots.sublist (List.Sublist.map _ List.filter_sublist)
            · rw [List.singleton_append, getv_cons, if_neg e2] at h1
              refine float_old (fun q hqm => ?_) h1
              cases h9 : getv (floatV pn e.2.contains ++ l) q.2.1 with
              | none => rfl
              | some v9 =>
                exfalso
                rcases getv_float h9 with ⟨x, hx, h3, h4⟩ | h3
                · have : x = q := nodup_eq F.slots hx (List.mem_filter.1 hqm).1 (by rw [h4])
                  subst this
                  have := (List.mem_filter.1 hqm).2
                  rw [h3] at this
                  cases this
                · rw [hfr q (List.mem_filter.1 hqm).1] at h3
                  cases h3
  exact fun p fuel hf => key (unex pn p) p fuel rfl (by omega)
theorem WAF.done {pd : List (Nat × Nat)} (hpd : pn.map (fun q => (q.1, q.2.1)) = pd) (hok : floatOk ops B pd [] = true) (hall : ((List.range ops.size).all fun i => B.contains i || pd.any fun q => q.1 == i) = true) (hfr : ∀ q ∈ pn, getv l q.2.1 = none)
    (hq : ∀ q ∈ pn, QF P n w0 R ops Q pn l H q) (h : DN P n w0 R Q .normal (floatV pn (fun _ => true) ++ l) H) : WAF P n w0 R ops Q pn r B l H := by
  have F := FOk.of hpd hok
  have key : ∀ (t : Nat) (p : Nat → Bool) (fuel : Nat), unex pn p = t → t ≤ fuel → WA P n w0 R ops Q fuel (floatA ops.size B pn p) (floatV pn p ++ l) H := by
    intro t
    induction t using Nat.strongRecOn with
    | _ t ih =>
      intro p fuel ht hf
      by_cases hne : Region.ready .any ops (floatA ops.size B pn p) = []
      · intro a w at_
        refine wpAny_done hne (h a w (at_.sub' ?_)) fuel
        have hpall : ∀ q ∈ pn, p q.1 = true := fun q hqm => by
          cases hp : p q.1 with
          | true => rfl
          | false =>
            refine absurd hne (ready_some F (F.new q hqm).2 ?_)
            rw [floatA_get _ (F.new q hqm).2, (F.new q hqm).1, hp]
            rfl
        have e : floatV pn p = floatV pn fun _ => true := by
          unfold floatV
          rw [List.filter_congr fun q hqm => hpall q hqm]
        rw [← e]
        exact at_.kn
      · have hpos : t ≠ 0 := by
          rintro rfl
          have hp := unex_zero ht
          refine hne (List.eq_nil_iff_forall_not_mem.2 fun i hi => ?_)
          obtain ⟨hun, oi, hoi, _⟩ := mem_ready.1 hi
          have hlt : i < ops.size := (Array.getElem?_eq_some_iff.1 hoi).1
          have h1 := List.all_eq_true.1 hall i (List.mem_range.2 hlt)
          rw [floatA_get _ hlt, Bool.or_eq_false_iff] at hun
          rw [hun.1, Bool.false_or] at h1
          subst hpd
          obtain ⟨y, hy, e⟩ := List.any_eq_true.1 h1
          obtain ⟨q, hqm, rfl⟩ := List.mem_map.1 hy
          have e : q.1 = i := by simpa using e
          have h2 := hun.2
          rw [any_mem.2 ⟨q, hqm, e⟩, Bool.and_true, ← e, hp q hqm] at h2
          cases h2
        obtain ⟨fuel, rfl⟩ : ∃ f, fuel = f + 1 := ⟨fuel - 1, by omega⟩
        intro a w at_
        refine ⟨fun h0 => absurd h0 hne, fun i hi => ?_⟩
        obtain ⟨hun, oi, hoi, hal⟩ := mem_ready.1 hi
        have hlt : i < ops.size := (Array.getElem?_eq_some_iff.1 hoi).1
        rw [floatA_get _ hlt, Bool.or_eq_false_iff] at hun
        by_cases hmem : ∃ q ∈ pn, q.1 = i
        · obtain ⟨q, hqm, rfl⟩ := hmem
          have hp : p q.1 = false := by
            have := hun.2
            rw [any_mem.2 ⟨q, hqm, rfl⟩, Bool.and_true] at this
            exact this
          have hu := unex_more F.nums hqm hp
          exact float_one F hfr hqm (hq q hqm) hi at_ (ih (unex pn fun j => p j || j == q.1) (by omega) _ fuel rfl (by omega))
        · obtain ⟨e, he, rfl⟩ := F.next i oi hoi hun.1 (fun q hqm e => hmem ⟨q, hqm, e⟩) (fun e he hb => by
            have h1 := hal e he hb
            have h2 := F.back i oi hoi e he hb
            rw [floatA_get _ (by omega), Bool.or_eq_true, Bool.and_eq_true] at h1
            exact h1.imp id fun h => any_mem.1 h.2)
          cases he
  exact fun p fuel hf => key (unex pn p) p fuel rfl (by omega)

/-! renaming, cases -/
theorem WAF.ren {i d : Nat} {u v : Value} (e : u = v) (h : WAF P n w0 R ops Q ((i, d, v) :: pn) r B l H) : WAF P n w0 R ops Q ((i, d, u) :: pn) r B l H := by
  subst e; exact h
theorem WAF.part {i d : Nat} {b : Bool} (h1 : b = true → WAF P n w0 R ops Q ((i, d, .bool true) :: pn) r B l H) (h2 : b = false → WAF P n w0 R ops Q ((i, d, .bool false) :: pn) r B l H) : WAF P n w0 R ops Q ((i, d, .bool b) :: pn) r B l H := by
  cases b with
  | true => exact h1 rfl
  | false => exact h2 rfl
theorem WAF.partP {i d : Nat} {p : Prop} [Decidable p] (h1 : p → WAF P n w0 R ops Q ((i, d, .bool true) :: pn) r B l H) (h2 : ¬ p → WAF P n w0 R ops Q ((i, d, .bool false) :: pn) r B l H) : WAF P n w0 R ops Q ((i, d, .bool (decide p)) :: pn) r B l H :=
  WAF.part (fun e => h1 (of_decide_eq_true e)) (fun e => h2 (of_decide_eq_false e))
theorem WAF.renl {t : Nat} {u v : Value} (e : u = v) (h : WAF P n w0 R ops Q pn r B ((t, v) :: l) H) : WAF P n w0 R ops Q pn r B ((t, u) :: l) H := by
  subst e; exact h
theorem WAF.partl {t : Nat} {b : Bool} (h1 : b = true → WAF P n w0 R ops Q pn r B ((t, .bool true) :: l) H) (h2 : b = false → WAF P n w0 R ops Q pn r B ((t, .bool false) :: l) H) : WAF P n w0 R ops Q pn r B ((t, .bool b) :: l) H := by
  cases b with
  | true => exact h1 rfl
  | false => exact h2 rfl
theorem WAF.partlP {t : Nat} {p : Prop} [Decidable p] (h1 : p → WAF P n w0 R ops Q pn r B ((t, .bool true) :: l) H) (h2 : ¬ p → WAF P n w0 R ops Q pn r B ((t, .bool false) :: l) H) : WAF P n w0 R ops Q pn r B ((t, .bool (decide p)) :: l) H :=
  WAF.partl (fun e => h1 (of_decide_eq_true e)) (fun e => h2 (of_decide_eq_false e))
theorem WAF.perm {H' : List Ck} (s : H.Perm H') (h : WAF P n w0 R ops Q pn r B l H') : WAF P n w0 R ops Q pn r B l H := fun p fuel hf => WA.blocks H' s (h p fuel hf)

/-! what reads or computes -/
theorem QF.mk {i d : Nat} {op : Op} {ty : TypeId} {pos : String} {aft : Array Edge} {g : Option (Nat × Bool)} {v : Value} (ks : List Nat) (lu : Sl) (hi : ops[i]? = some ⟨some d, op, ty, pos, aft, g⟩) (hd : Nat.blt d n = true) (hk : (ks.all fun k => bindsOn ops i k) = true) (hlu : floatV pn ks.contains = lu)
    (h : QAt P w0 R ops Q ⟨some d, op, ty, pos, aft, g⟩ (lu ++ l) H v) : QF P n w0 R ops Q pn l H (i, d, v) := by
  subst hlu
  exact ⟨_, ks, hi, rfl, hd, hk, h⟩
theorem QF.ren {i d : Nat} {u v : Value} (e : u = v) (h : QF P n w0 R ops Q pn l H (i, d, u)) : QF P n w0 R ops Q pn l H (i, d, v) := by
  subst e; exact h
variable {lu : Sl}
theorem QAt.y {d : Nat} {op : Op} {ty : TypeId} {pos : String} {aft : Array Edge} {g : Option (Nat × Bool)} {v : Value} (hw : Wt ops lu ⟨some d, op, ty, pos, aft, g⟩) (hy : Yd P ⟨some d, op, ty, pos, aft, g⟩ lu v) : QAt P w0 R ops Q ⟨some d, op, ty, pos, aft, g⟩ lu H v := fun a w kn hs hk =>
  .inl ⟨hw a kn, by unfold Oper.wp; rw [hy a kn w]; exact ⟨rfl, hs, hk⟩⟩
theorem QAt.rd {d : Nat} {op : Op} {ty : TypeId} {pos : String} {aft : Array Edge} {g : Option (Nat × Bool)} {v : Value} (hw : Wt ops lu ⟨some d, op, ty, pos, aft, g⟩) (hr : Rd P ⟨some d, op, ty, pos, aft, g⟩ lu H v) : QAt P w0 R ops Q ⟨some d, op, ty, pos, aft, g⟩ lu H v := fun a w kn hs hk =>
  .inl ⟨hw a kn, by unfold Oper.wp; rw [hr a w R kn hs]; exact ⟨rfl, hs, hk⟩⟩
theorem QAt.rf {d : Nat} {op : Op} {ty : TypeId} {pos : String} {aft : Array Edge} {g : Option (Nat × Bool)} {f : FuncId} {args : List Value} {C D : List Ck} {v : Value} (hw : Wt ops lu ⟨some d, op, ty, pos, aft, g⟩) (he : Ent P ⟨some d, op, ty, pos, aft, g⟩ lu f args) (hs : Reads P f args C v) (hH : Sp H C D) :
    QAt P w0 R ops Q ⟨some d, op, ty, pos, aft, g⟩ lu H v := fun a w kn hsat hk =>
  .inl ⟨hw a kn, by
    unfold Oper.wp
    rw [he a kn w, Oper.upon_enter]
    have hsat' : Sat w (C ++ (D ++ R)) := by
      have := hsat.perm (hH.p.append_right R)
      simpa using this
    refine (hs w (D ++ R) hsat').mono fun e w' ⟨v', C', he', ⟨h1, h2⟩, hs', hk'⟩ => ?_
    subst he' h1 h2
    refine ⟨rfl, ?_, hk.trans hk'⟩
    have h4 : Sat w' ((C' ++ D) ++ R) := by simpa using hs'
    exact h4.perm (hH.p.symm.append_right R)⟩
theorem QAt.gn {d j dj : Nat} {b b' : Bool} {op : Op} {ty : TypeId} {pos : String} {aft : Array Edge} (hj : (ops[j]?).bind (·.dst) = some dj) (hg : getv lu dj = some (.bool b')) (hb : b' = !b) : QAt P w0 R ops Q ⟨some d, op, ty, pos, aft, some (j, b)⟩ lu H undef := fun a w kn hs hk =>
  .inr ⟨by rw [wanted_guard hj (kn dj _ hg), hb]; cases b <;> rfl, rfl⟩
theorem QAt.gu {d j dj : Nat} {b : Bool} {op : Op} {ty : TypeId} {pos : String} {aft : Array Edge} (hj : (ops[j]?).bind (·.dst) = some dj) (hg : getv lu dj = some undef) : QAt P w0 R ops Q ⟨some d, op, ty, pos, aft, some (j, b)⟩ lu H undef := fun a w kn hs hk =>
  .inr ⟨unwanted_undef hj (kn dj _ hg), rfl⟩

/-! what changes memory -/
variable {K : Sl → List Ck → Prop} {j : Nat}
theorem SO.run {o : Oper} (hi : ops[j]? = some o) (hw : Wt ops lu o)
    (h : ∀ a w, a.tmps.size = n → a.defers = [] → Kn a lu → Sat w (H ++ R) → Kept w0 w → o.wp P a w (fun a' w' => ∃ dv H', K dv H' ∧ ((dv = [] ∧ a' = a) ∨ ∃ d v, o.dst = some d ∧ Nat.blt d n = true ∧ dv = [(d, v)] ∧ a' = a.put (some d) v) ∧ Sat w' (H' ++ R) ∧ Kept w0 w') Q) : SO P n w0 R ops Q j lu H K :=
  ⟨o, hi, fun a w h1 h2 kn hs hk => by
    unfold wpOp
    simp only [hi, hw a kn, if_true]
    exact .inl (h a w h1 h2 kn hs hk)⟩
theorem SO.y {d : Nat} {op : Op} {ty : TypeId} {pos : String} {aft : Array Edge} {g : Option (Nat × Bool)} {v : Value} (hi : ops[j]? = some ⟨some d, op, ty, pos, aft, g⟩) (hw : Wt ops lu ⟨some d, op, ty, pos, aft, g⟩) (hd : Nat.blt d n = true) (hy : Yd P ⟨some d, op, ty, pos, aft, g⟩ lu v)
    (h : K [(d, v)] H) : SO P n w0 R ops Q j lu H K := SO.run hi hw fun a w _ _ kn hs hk => by
  unfold Oper.wp
  rw [hy a kn w]
  exact ⟨_, _, h, .inr ⟨d, v, rfl, hd, rfl, rfl⟩, hs, hk⟩
theorem SO.h {d : Nat} {op : Op} {ty : TypeId} {pos : String} {aft : Array Edge} {g : Option (Nat × Bool)} (hi : ops[j]? = some ⟨some d, op, ty, pos, aft, g⟩) (hw : Wt ops lu ⟨some d, op, ty, pos, aft, g⟩) (hd : Nat.blt d n = true)
    (hh : Hd P ⟨some d, op, ty, pos, aft, g⟩ lu H fun r H' => ∃ v, r = .value v ∧ K [(d, v)] H') : SO P n w0 R ops Q j lu H K := SO.run hi hw fun a w _ _ kn hs hk => by
  obtain ⟨r, w', H', hr, hs', hk', v, rfl, hK⟩ := hh a w R kn hs
  unfold Oper.wp
  rw [hr]
  exact ⟨_, _, hK, .inr ⟨d, v, rfl, hd, rfl, rfl⟩, hs', hk.trans hk'⟩
theorem SO.s {op : Op} {ty : TypeId} {pos : String} {aft : Array Edge} {g : Option (Nat × Bool)} (hi : ops[j]? = some ⟨none, op, ty, pos, aft, g⟩) (hw : Wt ops lu ⟨none, op, ty, pos, aft, g⟩)
    (hh : Hd P ⟨none, op, ty, pos, aft, g⟩ lu H fun r H' => r = .skip ∧ K [] H') : SO P n w0 R ops Q j lu H K := SO.run hi hw fun a w _ _ kn hs hk => by
  obtain ⟨r, w', H', hr, hs', hk', rfl, hK⟩ := hh a w R kn hs
  unfold Oper.wp
  rw [hr]
  exact ⟨_, _, hK, .inl ⟨rfl, rfl⟩, hs', hk.trans hk'⟩
theorem SO.c {d : Nat} {op : Op} {ty : TypeId} {pos : String} {aft : Array Edge} {g : Option (Nat × Bool)} {f : FuncId} {args : List Value} {C D : List Ck} {Post : Value → List Ck → Prop} (hi : ops[j]? = some ⟨some d, op, ty, pos, aft, g⟩) (hw : Wt ops lu ⟨some d, op, ty, pos, aft, g⟩) (hd : Nat.blt d n = true)
    (he : Ent P ⟨some d, op, ty, pos, aft, g⟩ lu f args) (hs : Tells P f args C Post) (hH : H.Perm (C ++ D))
    (h : ∀ v C', Post v C' → K [(d, v)] (C' ++ D)) : SO P n w0 R ops Q j lu H K := SO.run hi hw fun a w _ _ kn hsat hk => by
  unfold Oper.wp
  rw [he a kn w, Oper.upon_enter]
  have hsat' : Sat w (C ++ (D ++ R)) := by
    have := hsat.perm (hH.append_right R)
    simpa using this
  refine (hs w (D ++ R) hsat').mono fun e w' ⟨v, C', he', hp, hs', hk'⟩ => ?_
  subst he'
  exact ⟨_, _, h v C' hp, .inr ⟨d, v, rfl, hd, rfl, rfl⟩, by simpa using hs', hk.trans hk'⟩
theorem SO.ca {d : Nat} {op : Op} {ty : TypeId} {pos : String} {aft : Array Edge} {g : Option (Nat × Bool)} {f : FuncId} {args : List Value} {Post : Value → List Ck → Prop} (hi : ops[j]? = some ⟨some d, op, ty, pos, aft, g⟩) (hw : Wt ops lu ⟨some d, op, ty, pos, aft, g⟩) (hd : Nat.blt d n = true)
    (he : Ent P ⟨some d, op, ty, pos, aft, g⟩ lu f args) (hs : Tells P f args H Post) (h : ∀ v H', Post v H' → K [(d, v)] H') : SO P n w0 R ops Q j lu H K :=
  SO.c (D := []) hi hw hd he hs (by simp) fun v C' hp => by simpa using h v C' hp
theorem SO.c0 {op : Op} {ty : TypeId} {pos : String} {aft : Array Edge} {g : Option (Nat × Bool)} {f : FuncId} {args : List Value} {C D : List Ck} {Post : Value → List Ck → Prop} (hi : ops[j]? = some ⟨none, op, ty, pos, aft, g⟩) (hw : Wt ops lu ⟨none, op, ty, pos, aft, g⟩)
    (he : Ent P ⟨none, op, ty, pos, aft, g⟩ lu f args) (hs : Tells P f args C Post) (hH : H.Perm (C ++ D))
    (h : ∀ v C', Post v C' → K [] (C' ++ D)) : SO P n w0 R ops Q j lu H K := SO.run hi hw fun a w _ _ kn hsat hk => by
  unfold Oper.wp
  rw [he a kn w, Oper.upon_enter]
  have hsat' : Sat w (C ++ (D ++ R)) := by
    have := hsat.perm (hH.append_right R)
    simpa using this
  refine (hs w (D ++ R) hsat').mono fun e w' ⟨v, C', he', hp, hs', hk'⟩ => ?_
  subst he'
  exact ⟨_, _, h v C' hp, .inl ⟨rfl, rfl⟩, by simpa using hs', hk.trans hk'⟩
end
end Go.SL
