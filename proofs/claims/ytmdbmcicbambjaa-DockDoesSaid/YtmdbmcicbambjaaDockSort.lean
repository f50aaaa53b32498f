/-
  The plain dock, continued: bookings in their order.
-/
import Derived.Test.YtmdbmcicbambjaaDockMath2
import Derived.Test.YtmdbmcicbambjaaSLMore6
import Derived.Test.YtmdbmcicbambjaaSLSort
set_option linter.unusedVariables false
set_option linter.unusedSimpArgs false
namespace Go.SL
open Go.Proofs Go.Shelf Go.Lib Go.Sort

def cmpI (x y : Int) : Int := if x < y then -1 else if y < x then 1 else 0
def orI (x y : Int) : Int := if x ≠ 0 then x else y
def encB (b : Bk) : List Value := [.int .u32 b.o.toNat, .int .i64 b.day, .int .i64 b.n]
def cfB (x y : Bk) : Int := orI (cmpI x.day y.day) (cmpI x.o.toNat y.o.toNat)
/-- in the order in which they are told -/
def leB (x y : Bk) : Prop := x.day < y.day ∨ (x.day = y.day ∧ x.o.toNat ≤ y.o.toNat)
theorem cfB_lt (x y : Bk) : (cfB x y < 0) ↔ (x.day < y.day ∨ (x.day = y.day ∧ x.o.toNat < y.o.toNat)) := by
  unfold cfB orI cmpI
  repeat' split
  all_goals omega
theorem cfB_le (x y : Bk) : ¬ (cfB y x < 0) ↔ leB x y := by
  rw [cfB_lt]
  unfold leB
  omega
instance : Inhabited Bk := ⟨⟨0#32, 0, 0⟩⟩
/-- the bookings as they are told -/
structure ToldB (L S : List Bk) : Prop where
  perm : S.Perm L
  sorted : S.Pairwise leB
theorem ToldB.unique {L S S' : List Bk} (hk : (L.map (·.o)).Nodup) (h : ToldB L S) (h' : ToldB L S') : S = S' := by
  have hp : S.Perm S' := h.perm.trans h'.perm.symm
  have hn : (S.map (·.o)).Nodup := (h.perm.map _).nodup_iff.2 hk
  have key : ∀ (A B : List Bk), A.Perm B → (A.map (·.o)).Nodup → A.Pairwise leB → B.Pairwise leB → A = B := by
    intro A
    induction A with
    | nil => intro B p _ _ _; exact p.nil_eq
    | cons a A ih =>
      intro B p hn ha hb
      cases B with
      | nil => exact absurd p.length_eq (by simp)
      | cons b B =>
        have ha' := List.pairwise_cons.1 ha
        have hb' := List.pairwise_cons.1 hb
        have hnB : ((b :: B).map (·.o)).Nodup := (p.map _).nodup_iff.1 hn
        have hab : a = b := by
          have h1 : a ∈ b :: B := p.mem_iff.1 List.mem_cons_self
          have h2 : b ∈ a :: A := p.mem_iff.2 List.mem_cons_self
          rcases List.mem_cons.1 h1 with h1 | h1
          · exact h1
          · rcases List.mem_cons.1 h2 with h2 | h2
            · exact h2.symm
            · have h3 := ha'.1 b h2
              have h4 := hb'.1 a h1
              exfalso
              simp only [List.map_cons, List.nodup_cons] at hnB
              apply hnB.1
              have : b.o = a.o := BitVec.eq_of_toNat_eq (by unfold leB at h3 h4; omega)
              rw [this]
              exact List.mem_map.2 ⟨a, h1, rfl⟩
        subst hab
        have hA : A.Perm B := (List.perm_cons a).1 p
        rw [ih B hA (List.nodup_cons.1 hn).2 ha'.2 hb'.2]
  exact key S S' hp hn h.sorted h'.sorted

theorem Bk.val_inj {a b : Bk} (h : a.val = b.val) : a = b := by
  cases a; cases b
  simp only [Bk.val, Value.agg.injEq, Array.mk.injEq, List.cons.injEq, Value.int.injEq, true_and, and_true] at h
  obtain ⟨h1, h2, h3⟩ := h
  congr 1
  · exact BitVec.eq_of_toNat_eq (by omega)
  · omega
theorem ents_val {es : Array MapEntry} {L : List Bk} (h : Ents .u32 es (bks L)) : es.toList.map (·.val) = L.map Bk.val := by
  have := congrArg (List.map Prod.snd) h
  simpa [bks, Function.comp_def] using this
theorem ents_one {es : Array MapEntry} {L : List Bk} (h : Ents .u32 es (bks L)) {e : MapEntry} (he : e ∈ es.toList) : ∃ b ∈ L, e.val = b.val := by
  have h1 : e.val ∈ es.toList.map (·.val) := List.mem_map.2 ⟨e, he, rfl⟩
  rw [ents_val h] at h1
  obtain ⟨b, hb, e2⟩ := List.mem_map.1 h1
  exact ⟨b, hb, e2.symm⟩
theorem ents_all {es : Array MapEntry} {L B : List Bk} {col : List MapEntry} (h : Ents .u32 es (bks L)) (hp : col.Perm es.toList) (hB : col.map (·.val) = B.map Bk.val) : B.Perm L := by
  obtain ⟨m, hm, e⟩ := perm_map_of (fun e : MapEntry => e.val) Bk.val hp L (ents_val h)
  rw [hB] at e
  have key : ∀ (B m : List Bk), B.map Bk.val = m.map Bk.val → B = m := by
    intro B
    induction B with
    | nil => intro m e; cases m with
      | nil => rfl
      | cons _ _ => simp at e
    | cons b B ih => intro m e; cases m with
      | nil => simp at e
      | cons c m =>
        simp only [List.map_cons, List.cons.injEq] at e
        rw [Bk.val_inj e.1, ih m e.2]
  rw [key B m e]; exact hm
theorem encB_len (b : Bk) : (encB b).length = 3 := rfl
theorem encB_one (b : Bk) : ∀ v ∈ encB b, v.oneCell' = true := by
  intro v hv
  simp only [encB, List.mem_cons, List.not_mem_nil, or_false] at hv
  rcases hv with rfl | rfl | rfl <;> rfl
theorem cfB_swo : SWO (ltOf cfB) := by
  refine ⟨fun x => ?_, fun x y z h1 h2 => ?_, fun x y z h1 h2 => ?_⟩
  all_goals simp only [ltOf, decide_eq_true_eq, decide_eq_false_iff_not, cfB_lt] at *
  all_goals omega
theorem told_of {L B S : List Bk} (hB : B.Perm L) (hS : S.Perm B) (hp : S.Pairwise fun x y => ltOf cfB y x = false) : ToldB L S :=
  ⟨hS.trans hB, hp.imp fun {a b} h => (cfB_le a b).1 (by simpa [ltOf] using h)⟩

theorem ToldB.mem {L S : List Bk} (h : ToldB L S) {b : Bk} (hb : b ∈ S) : b ∈ L := h.perm.mem_iff.1 hb
theorem ToldB.two {L S : List Bk} (h : ToldB L S) (hk : (L.map (·.o)).Nodup) (j k : Nat) (hj : j < k) (hkl : k < S.length) : S[j].o ≠ S[k].o ∧ leB S[j] S[k] := by
  refine ⟨fun e => ?_, List.pairwise_iff_getElem.1 h.sorted j k (by omega) hkl hj⟩
  have hn : (S.map (·.o)).Nodup := (h.perm.map _).nodup_iff.2 hk
  have := List.pairwise_iff_getElem.1 hn j k (by simpa using (by omega : j < S.length)) (by simpa using hkl) hj
  simp at this
  exact this e
theorem bk_at (S : List Bk) (extra : List Value) (k c : Nat) (hk : k < S.length) (hc : c < 3) : (S.flatMap encB ++ extra)[0 + (k : Int).toNat * 3 + c]? = (encB S[k])[c]? := by
  rw [Nat.zero_add, Int.toNat_natCast, List.getElem?_append_left (by rw [flat_len encB 3 encB_len]; omega), flat_get encB 3 encB_len S k c hc, List.getElem?_eq_getElem hk]
  rfl
theorem sum_add (f g : Nat → Int) (l : List Nat) : (l.map fun d => f d + g d).sum = (l.map f).sum + (l.map g).sum := by
  induction l with
  | nil => rfl
  | cons a l ih => simp only [List.map_cons, List.sum_cons, ih]; omega
theorem sum_one (x : Int) (k : Nat) : ∀ n, k < n → ((List.range n).map fun d => if k = d then x else 0).sum = x := by
  have h0 : ∀ n, n ≤ k → ((List.range n).map fun d => if k = d then x else 0).sum = 0 := by
    intro n
    induction n with
    | zero => intro _; rfl
    | succ n ih => intro h; rw [List.range_succ, List.map_append, List.sum_append, ih (by omega)]; simp; omega
  intro n
  induction n with
  | zero => intro h; omega
  | succ n ih =>
    intro h
    rw [List.range_succ, List.map_append, List.sum_append]
    by_cases e : k = n
    · subst e; rw [h0 _ (Nat.le_refl _)]; simp
    · rw [ih (by omega)]; simp [e]
theorem sum_days {K : Nat} : ∀ (L : List Bk), (∀ b ∈ L, b.day < K) → (L.map (·.n)).sum = ((List.range K).map (sumDay L)).sum
  | [], _ => by
    have : ((List.range K).map (sumDay [])) = (List.range K).map fun _ => (0 : Int) := rfl
    rw [this]
    induction K with
    | zero => rfl
    | succ n ih => rw [List.range_succ, List.map_append, List.sum_append]; simp only [List.map_nil, List.sum_nil] at ih ⊢; rw [← ih (by simp) rfl]; simp
  | b :: L, h => by
    have e : (sumDay (b :: L)) = fun d => (if b.day = d then b.n else 0) + sumDay L d := by
      funext d; simp [sumDay]
    rw [e, sum_add, sum_one _ _ _ (h b List.mem_cons_self), ← sum_days L fun c hc => h c (List.mem_cons_of_mem _ hc)]
    simp
theorem sum_len : ∀ (L : List Bk), (∀ b ∈ L, 1 ≤ b.n) → (L.length : Int) ≤ (L.map (·.n)).sum
  | [], _ => by simp
  | b :: L, h => by
    have h1 := h b List.mem_cons_self
    have h2 := sum_len L fun c hc => h c (List.mem_cons_of_mem _ hc)
    simp only [List.map_cons, List.sum_cons, List.length_cons]
    omega
theorem sum_le (f : Nat → Int) (M : Int) (hf : ∀ d, f d ≤ M) : ∀ n : Nat, ((List.range n).map f).sum ≤ n * M := by
  intro n
  induction n with
  | zero => simp
  | succ n ih =>
    rw [List.range_succ, List.map_append, List.sum_append]
    have := hf n
    simp only [List.map_cons, List.map_nil, List.sum_cons, List.sum_nil]
    rw [Int.natCast_add, Int.add_mul]
    omega
theorem DInv.many {first rs : List Int} {L : List Bk} (h : DInv first rs L) : L.length ≤ 100000000 := by
  have h1 := sum_len L fun b hb => (h.bks b hb).2.1
  have h2 := sum_days L fun b hb => (h.bks b hb).1
  have h3 := sum_le (sumDay L) 1000000 (fun d => by have := h.sums d; have := h.ok d; omega) rs.length
  have h4 := h.len
  have h5 := h.few
  have h6 : (rs.length : Int) * 1000000 ≤ 60 * 1000000 := by omega
  omega

end Go.SL
