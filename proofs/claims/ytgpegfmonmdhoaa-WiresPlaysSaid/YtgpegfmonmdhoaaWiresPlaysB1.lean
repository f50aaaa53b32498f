/-
  Lemmas and walks that WiresPlays stands on (part 1); no condition.
-/
import Derived.Orders
import Derived.Tactics
import Derived.Scope
import Derived.Below
import Derived.WalkKit
import Derived.KernelRfl
import Derived.Laws.RangeString
import Derived.Laws.StructEq
import Derived.Lib.AppendZerosOnto
import Derived.Laws.CopyRow
import Derived.Lib.Overlaps
import Derived.Laws.IdiomStrings
import Derived.Deep.Quiet
import Derived.ProofKit
import Derived.OpenShut
import Derived.ShutString
import Derived.ChangeOld
import Derived.Lib.Bytealg
import Derived.Shelf.SlSortCmp.NoneTotal

set_option linter.unusedVariables false
set_option linter.unusedSimpArgs false
namespace Go.SL
open Go.RowKit (Below)
structure Ck where
  b : Nat
  o : Obj
  ex : Bool
def Ck.apart (c d : Ck) : Prop := (c.ex = true ∨ d.ex = true) → c.b ≠ d.b
theorem Ck.apart_symm {c d : Ck} (h : c.apart d) : d.apart c := fun e => (h e.symm).symm
structure Sat (w : World) (H : List Ck) : Prop where
  holds : ∀ c ∈ H, w.heap[c.b]? = some c.o
  apart : H.Pairwise Ck.apart
structure Kept (w w' : World) : Prop where
  os : w'.os = w.os
  tape : w'.tape = w.tape
  output : w'.output = w.output
  size : w.heap.size ≤ w'.heap.size
  drawn : w.drawn ≤ w'.drawn
theorem Kept.refl (w : World) : Kept w w := ⟨rfl, rfl, rfl, Nat.le_refl _, Nat.le_refl _⟩
theorem Kept.trans {a b c : World} (h : Kept a b) (k : Kept b c) : Kept a c :=
  ⟨k.os.trans h.os, k.tape.trans h.tape, k.output.trans h.output, Nat.le_trans h.size k.size, Nat.le_trans h.drawn k.drawn⟩
theorem Sat.perm {w : World} {H H' : List Ck} (h : Sat w H) (p : H.Perm H') : Sat w H' :=
  ⟨fun c hc => h.holds c (p.mem_iff.2 hc), (p.pairwise_iff (fun {_ _} => Ck.apart_symm)).1 h.apart⟩
theorem Sat.drop {w : World} {A B : List Ck} (h : Sat w (A ++ B)) : Sat w B :=
  ⟨fun c hc => h.holds c (List.mem_append_right _ hc), (List.pairwise_append.1 h.apart).2.1⟩
theorem Sat.sublist {w : World} {A B : List Ck} (h : Sat w B) (s : A.Sublist B) : Sat w A :=
  ⟨fun c hc => h.holds c (s.subset hc), h.apart.sublist s⟩
theorem Sat.lt {w : World} {H : List Ck} (h : Sat w H) {c : Ck} (hc : c ∈ H) : c.b < w.heap.size :=
  (Array.getElem?_eq_some_iff.1 (h.holds c hc)).1
theorem Sat.heap {w w' : World} {H : List Ck} (h : Sat w H) (e : w'.heap = w.heap) : Sat w' H :=
  ⟨fun c hc => by rw [e]; exact h.holds c hc, h.apart⟩
theorem Sat.push {w : World} {H : List Ck} (h : Sat w H) (o : Obj) (ex : Bool) : Sat { w with heap := w.heap.push o } (⟨w.heap.size, o, ex⟩ :: H) := by
  refine ⟨fun c hc => ?_, List.pairwise_cons.2 ⟨fun d hd _ => ?_, h.apart⟩⟩
  · rcases List.mem_cons.1 hc with rfl | hc
    · simp
    · have := h.lt hc
      simp [Array.getElem?_push, Nat.ne_of_lt this, h.holds c hc]
  · have := h.lt hd
    show w.heap.size ≠ d.b
    omega
theorem Sat.write {w w' : World} {H : List Ck} {b : Nat} {o o' : Obj} (h : Sat w (⟨b, o, true⟩ :: H)) (hb : w'.heap[b]? = some o') (hne : ∀ k, k ≠ b → w'.heap[k]? = w.heap[k]?) : Sat w' (⟨b, o', true⟩ :: H) := by
  have hp := List.pairwise_cons.1 h.apart
  refine ⟨fun c hc => ?_, List.pairwise_cons.2 ⟨fun d hd e => hp.1 d hd e, hp.2⟩⟩
  rcases List.mem_cons.1 hc with rfl | hc
  · exact hb
  · have : b ≠ c.b := hp.1 c hc (.inl rfl)
    rw [hne _ (Ne.symm this)]
    exact h.holds c (List.mem_cons_of_mem _ hc)
def Tells (P : Program) (f : FuncId) (args : List Value) (H : List Ck) (Post : Value → List Ck → Prop) : Prop :=
  ∀ w R, Sat w (H ++ R) → Calls P f args.toArray w fun e w' => ∃ v H', e = .returned v ∧ Post v H' ∧ Sat w' (H' ++ R) ∧ Kept w w'
theorem Tells.below {P : Program} {f : FuncId} {args : List Value} {Post : Value → List Ck → Prop} {w : World} {H : List Ck} (h : Tells P f args H Post) (hH : ∀ c ∈ H, w.heap[c.b]? = some c.o ∧ c.ex = false) :
    Calls P f args.toArray w fun e w' => ∃ v H', e = .returned v ∧ Post v H' ∧ Below w.heap.size w w' := by
  let R : List Ck := (List.range w.heap.size).map fun k => ⟨k, (w.heap[k]?).getD default, false⟩
  have hsat : Sat w (H ++ R) := by
    refine ⟨fun c hc => ?_, ?_⟩
    · rcases List.mem_append.1 hc with hc | hc
      · exact (hH c hc).1
      · obtain ⟨k, hk, rfl⟩ := List.mem_map.1 hc
        have hk := List.mem_range.1 hk
        simp [hk]
    · have hall : ∀ c ∈ H ++ R, c.ex = false := fun c hc => by
        rcases List.mem_append.1 hc with hc | hc
        · exact (hH c hc).2
        · obtain ⟨k, hk, rfl⟩ := List.mem_map.1 hc; rfl
      rw [List.pairwise_iff_forall_sublist]
      intro c d hs e
      have h1 := hall c (hs.subset (by simp))
      have h2 := hall d (hs.subset (by simp))
      rw [h1, h2] at e
      simp at e
  refine (h w R hsat).mono fun e w' ⟨v, H', he, hp, hs, hk⟩ => ⟨v, H', he, hp, hk.os, hk.tape, hk.output, hk.size, fun k hlt => ?_⟩
  have := hs.holds ⟨k, (w.heap[k]?).getD default, false⟩ (List.mem_append_right _ (List.mem_map.2 ⟨k, List.mem_range.2 hlt, rfl⟩))
  rw [this]
  simp [hlt]
abbrev Sl := List (Nat × Value)
def getv : Sl → Nat → Option Value
  | [], _ => none
  | (d, v) :: l, t => cond (Nat.beq d t) (some v) (getv l t)
theorem getv_cons (d : Nat) (v : Value) (l : Sl) (t : Nat) : getv ((d, v) :: l) t = if d = t then some v else getv l t := by
  simp only [getv]
  by_cases e : d = t
  · subst e
    rw [if_pos rfl, Nat.beq_refl]
    rfl
  · rw [if_neg e, show Nat.beq d t = false from by cases h : Nat.beq d t with | true => exact absurd (Nat.eq_of_beq_eq_true h) e | false => rfl]
    rfl
def Kn (a : Act) (l : Sl) : Prop := ∀ t v, getv l t = some v → a.tmps.getD t undef = v
def Has (l : Sl) : Sl → Prop
  | [] => True
  | (t, v) :: r => getv l t = some v ∧ Has l r
theorem Has.get {l : Sl} : ∀ {r : Sl}, Has l r → ∀ t v, getv r t = some v → getv l t = some v
  | [], _, _, _, h => by simp [getv] at h
  | (d, u) :: r, hh, t, v, h => by
    obtain ⟨h1, h2⟩ := hh
    rw [getv_cons] at h
    by_cases e : d = t
    · subst e
      simp at h
      subst h
      exact h1
    · simp [e] at h
      exact h2.get t v h
theorem Kn.sub {a : Act} {l r : Sl} (k : Kn a l) (h : Has l r) : Kn a r := fun t v e => k t v (h.get t v e)
theorem Kn.put {a : Act} {l : Sl} (k : Kn a l) {d : Nat} (v : Value) (hd : d < a.tmps.size) : Kn (a.put (some d) v) ((d, v) :: l) := by
  intro t u h
  rw [getv_cons] at h
  by_cases e : d = t
  · subst e
    simp at h
    subst h
    simp [Act.put, hd]
  · simp [e] at h
    have := k t u h
    simp only [Act.put, Array.getD_eq_getD_getElem?] at this ⊢
    rw [Array.getElem?_setIfInBounds_ne (by omega)]
    exact this
def ev (l : Sl) : Operand → Option Value
  | .tmp t => getv l t
  | .const v => some v
  | .func f => some (.func (.func f) #[] #[])
  | .global g => some (.pointer (some ⟨g, 0, none⟩))
theorem Kn.ev {a : Act} {l : Sl} (k : Kn a l) {x : Operand} {v : Value} (h : ev l x = some v) : a.eval x = v := by
  cases x with
  | tmp t => exact k t v h
  | const u => simp [SL.ev] at h; exact h
  | func f => simp [SL.ev] at h; exact h
  | global g => simp [SL.ev] at h; exact h
structure At (P : Program) (n : Nat) (w0 : World) (R : List Ck) (l : Sl) (H : List Ck) (a : Act) (w : World) : Prop where
  size : a.tmps.size = n
  defers : a.defers = []
  kn : Kn a l
  sat : Sat w (H ++ R)
  kept : Kept w0 w
variable {P : Program} {n : Nat} {w0 : World} {R : List Ck}
def WC (P : Program) (n : Nat) (w0 : World) (R : List Ck) (Q : Exit → Act → World → Prop) (c : Code) (l : Sl) (H : List Ck) : Prop :=
  ∀ a w, At P n w0 R l H a w → c.wp P Q a w
def WL (P : Program) (n : Nat) (w0 : World) (R : List Ck) (ops : Array Oper) (Q : Exit → Act → World → Prop) (rest : List Oper) (l : Sl) (H : List Ck) : Prop :=
  ∀ a w, At P n w0 R l H a w → wpList P ops Q rest a w
def WA (P : Program) (n : Nat) (w0 : World) (R : List Ck) (ops : Array Oper) (Q : Exit → Act → World → Prop) (fuel : Nat) (listed : Array Bool) (l : Sl) (H : List Ck) : Prop :=
  ∀ a w, At P n w0 R l H a w → wpAny P .any ops Q fuel listed a w
def DN (P : Program) (n : Nat) (w0 : World) (R : List Ck) (Q : Exit → Act → World → Prop) (e : Exit) (l : Sl) (H : List Ck) : Prop :=
  ∀ a w, At P n w0 R l H a w → Q e a w
section rules
variable {Q : Exit → Act → World → Prop} {l : Sl} {H : List Ck} {ops : Array Oper}
theorem At.sub {r : Sl} {a : Act} {w : World} (h : At P n w0 R l H a w) (s : Has l r) : At P n w0 R r H a w :=
  ⟨h.size, h.defers, h.kn.sub s, h.sat, h.kept⟩
theorem At.perm {H' : List Ck} {a : Act} {w : World} (h : At P n w0 R l H a w) (s : H.Perm H') : At P n w0 R l H' a w :=
  ⟨h.size, h.defers, h.kn, h.sat.perm (s.append_right R), h.kept⟩
theorem At.sublist {H' : List Ck} {a : Act} {w : World} (h : At P n w0 R l H a w) (s : H'.Sublist H) : At P n w0 R l H' a w :=
  ⟨h.size, h.defers, h.kn, h.sat.sublist (s.append_right R), h.kept⟩
theorem WC.blocks {c : Code} (H' : List Ck) (s : H.Perm H') (h : WC P n w0 R Q c l H') : WC P n w0 R Q c l H := fun a w i => h a w (i.perm s)
theorem WC.forget {c : Code} (H' : List Ck) (s : H'.Sublist H) (h : WC P n w0 R Q c l H') : WC P n w0 R Q c l H := fun a w i => h a w (i.sublist s)
theorem WL.blocks {rest : List Oper} (H' : List Ck) (s : H.Perm H') (h : WL P n w0 R ops Q rest l H') : WL P n w0 R ops Q rest l H := fun a w i => h a w (i.perm s)
theorem DN.blocks {e : Exit} (H' : List Ck) (s : H.Perm H') (h : DN P n w0 R Q e l H') : DN P n w0 R Q e l H := fun a w i => h a w (i.perm s)
theorem DN.forget {e : Exit} (H' : List Ck) (s : H'.Sublist H) (h : DN P n w0 R Q e l H') : DN P n w0 R Q e l H := fun a w i => h a w (i.sublist s)
theorem WA.blocks {fuel : Nat} {listed : Array Bool} (H' : List Ck) (s : H.Perm H') (h : WA P n w0 R ops Q fuel listed l H') : WA P n w0 R ops Q fuel listed l H := fun a w i => h a w (i.perm s)
theorem WC.seq {x y : Code} (h : WC P n w0 R (Exit.then (y.wp P Q) Q) x l H) : WC P n w0 R Q (.seq x y) l H := fun a w i => wp_seq (h a w i)
theorem WC.block {id : Nat} {c : Code} (h : WC P n w0 R (Exit.inBlock id Q) c l H) : WC P n w0 R Q (.block id c) l H := fun a w i => wp_block (h a w i)
theorem WC.skip (h : DN P n w0 R Q .normal l H) : WC P n w0 R Q .skip l H := fun a w i => wp_skip (h a w i)
theorem WC.exit {id : Nat} (h : DN P n w0 R Q (.exit id) l H) : WC P n w0 R Q (.exit id) l H := fun a w i => wp_exit (h a w i)
theorem WC.ret (h : DN P n w0 R Q .ret l H) : WC P n w0 R Q .ret l H := fun a w i => wp_ret (h a w i)
theorem WC.cond {c : Operand} {x y : Code} {t : Bool} (hc : ev l c = some (.bool t)) (ht : t = true → WC P n w0 R Q x l H) (hf : t = false → WC P n w0 R Q y l H) : WC P n w0 R Q (.cond c x y) l H :=
  fun a w i => wp_cond_split (i.kn.ev hc) (fun e => ht e a w i) (fun e => hf e a w i)
theorem WC.ite {c : Operand} {x y : Code} {p : Prop} [Decidable p] (hc : ev l c = some (.bool (decide p))) (ht : p → WC P n w0 R Q x l H) (hf : ¬ p → WC P n w0 R Q y l H) : WC P n w0 R Q (.cond c x y) l H :=
  WC.cond hc (fun e => ht (of_decide_eq_true e)) (fun e => hf (of_decide_eq_false e))
theorem WC.yes {c : Operand} {x y : Code} (hc : ev l c = some (.bool true)) (h : WC P n w0 R Q x l H) : WC P n w0 R Q (.cond c x y) l H := WC.cond hc (fun _ => h) (fun e => by cases e)
theorem WC.no {c : Operand} {x y : Code} (hc : ev l c = some (.bool false)) (h : WC P n w0 R Q y l H) : WC P n w0 R Q (.cond c x y) l H := WC.cond hc (fun e => by cases e) (fun _ => h)
theorem WC.region {id : Nat} {os : List Oper} (h : WL P n w0 R os.toArray Q os l H) : WC P n w0 R Q (.region id os.toArray false) l H := fun a w i => wp_region_lit (h a w i)
theorem WC.draw {id : Nat} {os : Array Oper} (N : Nat) (hm : P.follows .mixedOrders = true) (hN : os.size = N) (h : WA P n w0 R os Q N (Array.replicate N false) l H) : WC P n w0 R Q (.region id os true) l H :=
  fun a w i => wp_region_any hm (by rw [hN]; exact h a _ ⟨i.size, i.defers, i.kn, i.sat.heap rfl, ⟨i.kept.os, i.kept.tape, i.kept.output, i.kept.size, Nat.le_succ_of_le i.kept.drawn⟩⟩)
theorem WL.nil (h : DN P n w0 R Q .normal l H) : WL P n w0 R ops Q [] l H := fun a w i => wpList_nil (h a w i)
theorem DN.then_normal {y : Code} (h : WC P n w0 R Q y l H) : DN P n w0 R (Exit.then (y.wp P Q) Q) .normal l H := fun a w i => h a w i
theorem DN.then_exit {K : Act → World → Prop} {id : Nat} (h : DN P n w0 R Q (.exit id) l H) : DN P n w0 R (Exit.then K Q) (.exit id) l H := fun a w i => h a w i
theorem DN.then_ret {K : Act → World → Prop} (h : DN P n w0 R Q .ret l H) : DN P n w0 R (Exit.then K Q) .ret l H := fun a w i => h a w i
theorem DN.block_normal {id : Nat} (h : DN P n w0 R Q .normal l H) : DN P n w0 R (Exit.inBlock id Q) .normal l H := fun a w i => h a w i
theorem DN.block_ret {id : Nat} (h : DN P n w0 R Q .ret l H) : DN P n w0 R (Exit.inBlock id Q) .ret l H := fun a w i => h a w i
theorem DN.block_exit {id : Nat} (h : DN P n w0 R Q .normal l H) : DN P n w0 R (Exit.inBlock id Q) (.exit id) l H := fun a w i => by simpa [Exit.inBlock] using h a w i
def Reach (P : Program) (n : Nat) (w0 : World) (R : List Ck) {α : Type} (I : α → Prop) (L : α → Sl) (K : α → List Ck) (a : Act) (w : World) : Prop := ∃ x, I x ∧ At P n w0 R (L x) (K x) a w
theorem WC.cut {α : Type} (I : α → Prop) (L : α → Sl) (K : α → List Ck) {x y : Code} (h : WC P n w0 R (Exit.then (Reach P n w0 R I L K) Q) x l H) (h' : ∀ z, I z → WC P n w0 R Q y (L z) (K z)) :
    WC P n w0 R Q (.seq x y) l H :=
  WC.seq fun a w i => wp_mono (h a w i) fun e a w q => by
    cases e with
    | normal => obtain ⟨z, hz, j⟩ := q; exact h' z hz a w j
    | _ => exact q
def Again (P : Program) (n : Nat) (w0 : World) (R : List Ck) {α : Type} (I : α → Prop) (L : α → Sl) (K : α → List Ck) (μ : α → Nat) (m : Nat) (a : Act) (w : World) : Prop := ∃ x, I x ∧ μ x < m ∧ At P n w0 R (L x) (K x) a w
theorem WC.loopG {α : Type} (I : α → Prop) (L : α → Sl) (K : α → List Ck) (μ : α → Nat) {c : Code} (x0 : α) (h0 : I x0) (hl : ∀ a w, At P n w0 R l H a w → At P n w0 R (L x0) (K x0) a w)
    (round : ∀ x, I x → WC P n w0 R (Exit.then (Again P n w0 R I L K μ (μ x)) Q) c (L x) (K x)) : WC P n w0 R Q (.loop c) l H := by
  intro a w i b k cs
  have key : ∀ m x, μ x = m → I x → ∀ a w, At P n w0 R (L x) (K x) a w →
      ∃ e a' w', Q e a' w' ∧ Arrives P (lone (b.at a (.code c :: .inLoop c :: k)) cs w) b k cs e a' w' := by
    intro m
    induction m using Nat.strongRecOn with
    | _ m ih =>
      intro x hx hI a w hi
      obtain ⟨e, a₁, w₁, hq, harr⟩ := round x hI a w hi b (.inLoop c :: k) cs
      cases e with
      | normal =>
        obtain ⟨x', hI', hlt, hi'⟩ := hq
        obtain ⟨e₂, a₂, w₂, hq₂, harr₂⟩ := ih (μ x') (hx ▸ hlt) x' rfl hI' a₁ w₁ hi'
        exact ⟨e₂, a₂, w₂, hq₂, .of_steps (Steps.trans harr (.one step_inLoop)) harr₂⟩
      | exit id => exact ⟨_, a₁, w₁, hq, .pass (x := .inLoop c) rfl (fun _ _ => .inl (by simp)) harr⟩
      | goto l => exact ⟨_, a₁, w₁, hq, .pass (x := .inLoop c) rfl (fun _ _ => .inl (by simp)) harr⟩
      | ret => exact ⟨_, a₁, w₁, hq, .pass (x := .inLoop c) rfl (fun _ _ => .inl (by simp)) harr⟩
      | panic ch => exact ⟨_, a₁, w₁, hq, .pass (x := .inLoop c) rfl (fun _ _ => .inl (by simp)) harr⟩
      | outgrown => exact ⟨_, a₁, w₁, hq, .pass (x := .inLoop c) rfl (fun _ _ => .inl (by simp)) harr⟩
  obtain ⟨e, a', w', hq, harr⟩ := key _ x0 rfl h0 a w (hl a w i)
  exact ⟨e, a', w', hq, .of_steps (.one step_loop) harr⟩
theorem WC.loop {α : Type} (I : α → Prop) (L : α → Sl) (K : α → List Ck) (μ : α → Nat) {c : Code} (x0 : α) (h0 : I x0) (hl : Has l (L x0)) (hH : H.Perm (K x0))
    (round : ∀ x, I x → WC P n w0 R (Exit.then (Again P n w0 R I L K μ (μ x)) Q) c (L x) (K x)) : WC P n w0 R Q (.loop c) l H :=
  WC.loopG I L K μ x0 h0 (fun _ _ i => (i.sub hl).perm hH) round
theorem DN.again {α : Type} {I : α → Prop} {L : α → Sl} {K : α → List Ck} {μ : α → Nat} {m : Nat} (z : α) (hz : I z) (hm : μ z < m) (hl : Has l (L z)) (hH : H.Perm (K z)) :
    DN P n w0 R (Exit.then (Again P n w0 R I L K μ m) Q) .normal l H := fun _ _ i => ⟨z, hz, hm, (i.sub hl).perm hH⟩
def Back (P : Program) (w0 : World) (R : List Ck) (Post : Value → List Ck → Prop) (e : Ending) (w : World) : Prop := ∃ v H', e = .returned v ∧ Post v H' ∧ Sat w (H' ++ R) ∧ Kept w0 w
def argsAt : Nat → List Value → Sl
  | _, [] => []
  | k, v :: r => (k, v) :: argsAt (k + 1) r
theorem getv_argsAt : ∀ (args : List Value) (k t : Nat) (v : Value), getv (argsAt k args) t = some v → k ≤ t ∧ args[t - k]? = some v
  | [], _, _, _, h => by simp [argsAt, getv] at h
  | u :: r, k, t, v, h => by
    rw [argsAt, getv_cons] at h
    by_cases e : k = t
    · subst e
      simp at h
      subst h
      simp
    · simp [e] at h
      have := getv_argsAt r (k + 1) t v h
      refine ⟨by omega, ?_⟩
      have e2 : t - k = (t - (k + 1)) + 1 := by omega
      rw [e2]
      simpa using this.2
theorem Tells.enter {f : FuncId} {fn : Func} {c : Code} {args : List Value} {Post : Value → List Ck → Prop} (hf : P.funcs[f]? = some fn) (hb : fn.body = some c) (hn : fn.ntmps = n) (hlen : Nat.ble args.length n = true)
    (h : ∀ w0 R, WC P n w0 R (bodyPost P fn (Back P w0 R Post)) c (argsAt 0 args) H) : Tells P f args H Post := by
  intro w R hs
  refine calls_of_wp hf hb (h w R _ w ⟨?_, rfl, ?_, hs, .refl w⟩)
  · have := Nat.le_of_ble_eq_true hlen; simp [hn]; omega
  · intro t v hv
    have := (getv_argsAt args 0 t v hv).2
    simp only [Nat.sub_zero] at this
    have hlt : t < args.length := (List.getElem?_eq_some_iff.1 this).1
    have h2 : (args.toArray ++ Array.replicate (fn.ntmps - args.toArray.size) undef)[t]? = some v := by
      rw [Array.getElem?_append_left (by simpa using hlt)]
      simpa using this
    simp only [Array.getD_eq_getD_getElem?, h2, Option.getD_some]
theorem DN.ret1 {fn : Func} {Post : Value → List Ck → Prop} {t : Nat} {v : Value} (hr : fn.results = #[.tmp t]) (hv : getv l t = some v) (hp : Post v H) : DN P n w0 R (bodyPost P fn (Back P w0 R Post)) .ret l H :=
  fun a w i => bodyPost_ret (results_tmp hr _ _ _) i.defers ⟨_, H, rfl, by rw [i.kn t v hv]; exact hp, i.sat, i.kept⟩
theorem DN.ret2 {fn : Func} {Post : Value → List Ck → Prop} {t u : Nat} {v x : Value} (hr : fn.results = #[.tmp t, .tmp u]) (hv : getv l t = some v) (hx : getv l u = some x) (hp : Post (.tuple #[v, x]) H) : DN P n w0 R (bodyPost P fn (Back P w0 R Post)) .ret l H :=
  fun a w i => bodyPost_ret (results_tmp2 hr _ _ _) i.defers ⟨_, H, rfl, by rw [i.kn t v hv, i.kn u x hx]; exact hp, i.sat, i.kept⟩
theorem DN.end0 {fn : Func} {Post : Value → List Ck → Prop} (hr : fn.results = #[]) (hp : Post (.tuple #[]) H) : DN P n w0 R (bodyPost P fn (Back P w0 R Post)) .normal l H :=
  fun a w i => bodyPost_end (results_none hr _ _ _) i.defers ⟨_, H, rfl, hp, i.sat, i.kept⟩
def Yd (P : Program) (o : Oper) (l : Sl) (v : Value) : Prop := ∀ a, Kn a l → ∀ w, (execOp a.eval o).run P w = .ok (.value v) w
theorem wpList_value {o : Oper} {rest : List Oper} {a : Act} {w w' : World} {v : Value} (hg : o.guard = none) (hr : (execOp a.eval o).run P w = .ok (.value v) w') (h : wpList P ops Q rest (a.put o.dst v) w') : wpList P ops Q (o :: rest) a w := by
  refine wpList_plain hg fun K hK => ?_
  unfold Oper.wp
  rw [hr]
  exact hK _ _ h
theorem At.put {a : Act} {w : World} (i : At P n w0 R l H a w) {d : Nat} (hd : Nat.blt d n = true) (v : Value) : At P n w0 R ((d, v) :: l) H (a.put (some d) v) w := by
  have hd' : d < n := by simpa using hd
  exact ⟨by simp [Act.put, i.size], i.defers, i.kn.put v (by rw [i.size]; exact hd'), i.sat, i.kept⟩
theorem WL.y {d : Nat} {op : Op} {ty : TypeId} {pos : String} {aft : Array Edge} {rest : List Oper} {v : Value} (hd : Nat.blt d n = true) (hy : Yd P ⟨some d, op, ty, pos, aft, none⟩ l v)
    (h : WL P n w0 R ops Q rest ((d, v) :: l) H) : WL P n w0 R ops Q (⟨some d, op, ty, pos, aft, none⟩ :: rest) l H :=
  fun a w i => wpList_value rfl (hy a i.kn w) (h _ _ (i.put hd v))
theorem wanted_guard {ops : Array Oper} {d : Option Nat} {j dj : Nat} {b b' : Bool} {op : Op} {ty : TypeId} {pos : String} {aft : Array Edge} {tmps : Array Value} (hj : (ops[j]?).bind (·.dst) = some dj) (hv : tmps.getD dj undef = .bool b') :
    Region.wanted ⟨d, op, ty, pos, aft, some (j, b)⟩ (yielded ops tmps) = (b' == b) := by
  simp only [Region.wanted, yielded]
  cases ho : ops[j]? with
  | none => simp [ho] at hj
  | some oj =>
    simp [ho] at hj
    simp only [Array.getD_eq_getD_getElem?] at hv
    cases ht : tmps[dj]? with
    | none => rw [ht] at hv; simp [undef] at hv
    | some u =>
      rw [ht] at hv
      simp at hv
      subst hv
      simp [hj, ht]
theorem WL.gy {d j : Nat} {b : Bool} {dj : Nat} {op : Op} {ty : TypeId} {pos : String} {aft : Array Edge} {rest : List Oper} {v : Value} (hj : (ops[j]?).bind (·.dst) = some dj) (hg : getv l dj = some (.bool b)) (hd : Nat.blt d n = true) (hy : Yd P ⟨some d, op, ty, pos, aft, some (j, b)⟩ l v)
    (h : WL P n w0 R ops Q rest ((d, v) :: l) H) : WL P n w0 R ops Q (⟨some d, op, ty, pos, aft, some (j, b)⟩ :: rest) l H := by
  intro a w i
  refine wpList_step fun K hK => ?_
  have hw : Region.wanted ⟨some d, op, ty, pos, aft, some (j, b)⟩ (yielded ops a.tmps) = true  := by
    rw [wanted_guard hj (i.kn dj _ hg)]; simp
  rw [if_pos hw]
  unfold Oper.wp
  rw [hy a i.kn w]
  exact hK _ _ (h _ _ (i.put hd v))
theorem WL.gn {d j : Nat} {b b' : Bool} {dj : Nat} {op : Op} {ty : TypeId} {pos : String} {aft : Array Edge} {rest : List Oper} (hj : (ops[j]?).bind (·.dst) = some dj) (hg : getv l dj = some (.bool b')) (hb : b' = !b)
    (hd : Nat.blt d n = true) (h : WL P n w0 R ops Q rest ((d, undef) :: l) H) : WL P n w0 R ops Q (⟨some d, op, ty, pos, aft, some (j, b)⟩ :: rest) l H := by
  intro a w i
  refine wpList_step fun K hK => ?_
  have hw : Region.wanted ⟨some d, op, ty, pos, aft, some (j, b)⟩ (yielded ops a.tmps) = false := by
    rw [wanted_guard hj (i.kn dj _ hg), hb]; cases b <;> rfl
  rw [hw]
  exact hK _ _ (h _ _ (i.put hd undef))
theorem WL.part {rest : List Oper} {t : Nat} {b : Bool} (ht : getv l t = some (.bool b)) (h1 : b = true → WL P n w0 R ops Q rest ((t, .bool true) :: l) H) (h2 : b = false → WL P n w0 R ops Q rest ((t, .bool false) :: l) H) : WL P n w0 R ops Q rest l H := by
  intro a w i
  have key : ∀ u, getv l t = some u → At P n w0 R ((t, u) :: l) H a w := fun u hu => ⟨i.size, i.defers, fun s v hv => by
    rw [getv_cons] at hv
    by_cases e : t = s
    · subst e; simp at hv; subst hv; exact i.kn _ _ hu
    · simp [e] at hv; exact i.kn _ _ hv, i.sat, i.kept⟩
  cases b with
  | true => exact h1 rfl a w (key _ ht)
  | false => exact h2 rfl a w (key _ ht)
theorem WL.partP {rest : List Oper} {t : Nat} {p : Prop} [Decidable p] (ht : getv l t = some (.bool (decide p))) (h1 : p → WL P n w0 R ops Q rest ((t, .bool true) :: l) H) (h2 : ¬ p → WL P n w0 R ops Q rest ((t, .bool false) :: l) H) : WL P n w0 R ops Q rest l H :=
  WL.part ht (fun e => h1 (of_decide_eq_true e)) (fun e => h2 (of_decide_eq_false e))
theorem WL.renamed {rest : List Oper} {t : Nat} {u v : Value} (ht : getv l t = some u) (e : u = v) (h : WL P n w0 R ops Q rest ((t, v) :: l) H) : WL P n w0 R ops Q rest l H := by
  subst e
  exact fun a w i => h a w ⟨i.size, i.defers, fun s v hv => by
    rw [getv_cons] at hv
    by_cases e : t = s
    · subst e; simp at hv; subst hv; exact i.kn _ _ ht
    · simp [e] at hv; exact i.kn _ _ hv, i.sat, i.kept⟩
def Hd (P : Program) (o : Oper) (l : Sl) (H : List Ck) (K : Next → List Ck → Prop) : Prop :=
  ∀ a w R, Kn a l → Sat w (H ++ R) → ∃ r w' H', (execOp a.eval o).run P w = .ok r w' ∧ Sat w' (H' ++ R) ∧ Kept w w' ∧ K r H'
theorem WL.h {d : Nat} {op : Op} {ty : TypeId} {pos : String} {aft : Array Edge} {rest : List Oper} (hd : Nat.blt d n = true)
    (hh : Hd P ⟨some d, op, ty, pos, aft, none⟩ l H fun r H' => ∃ v, r = .value v ∧ WL P n w0 R ops Q rest ((d, v) :: l) H') : WL P n w0 R ops Q (⟨some d, op, ty, pos, aft, none⟩ :: rest) l H := by
  intro a w i
  obtain ⟨r, w', H', hr, hs, hk, v, rfl, hw⟩ := hh a w R i.kn i.sat
  have i' := i.put hd v
  exact wpList_value rfl hr (hw _ _ ⟨i'.size, i'.defers, i'.kn, hs, i.kept.trans hk⟩)
theorem WL.s {op : Op} {ty : TypeId} {pos : String} {aft : Array Edge} {rest : List Oper}
    (hh : Hd P ⟨none, op, ty, pos, aft, none⟩ l H fun r H' => r = .skip ∧ WL P n w0 R ops Q rest l H') : WL P n w0 R ops Q (⟨none, op, ty, pos, aft, none⟩ :: rest) l H := by
  intro a w i
  obtain ⟨r, w', H', hr, hs, hk, rfl, hw⟩ := hh a w R i.kn i.sat
  refine wpList_plain rfl fun K hK => ?_
  unfold Oper.wp
  rw [hr]
  exact hK _ _ (hw _ _ ⟨i.size, i.defers, i.kn, hs, i.kept.trans hk⟩)
theorem WL.gh {d j : Nat} {b : Bool} {dj : Nat} {op : Op} {ty : TypeId} {pos : String} {aft : Array Edge} {rest : List Oper} (hj : (ops[j]?).bind (·.dst) = some dj) (hg : getv l dj = some (.bool b)) (hd : Nat.blt d n = true)
    (hh : Hd P ⟨some d, op, ty, pos, aft, some (j, b)⟩ l H fun r H' => ∃ v, r = .value v ∧ WL P n w0 R ops Q rest ((d, v) :: l) H') : WL P n w0 R ops Q (⟨some d, op, ty, pos, aft, some (j, b)⟩ :: rest) l H := by
  intro a w i
  obtain ⟨r, w', H', hr, hs, hk, v, rfl, h⟩ := hh a w R i.kn i.sat
  refine wpList_step fun K hK => ?_
  have hw : Region.wanted ⟨some d, op, ty, pos, aft, some (j, b)⟩ (yielded ops a.tmps) = true  := by
    rw [wanted_guard hj (i.kn dj _ hg)]; simp
  rw [if_pos hw]
  unfold Oper.wp
  rw [hr]
  have i' := i.put hd v
  exact hK _ _ (h _ _ ⟨i'.size, i'.defers, i'.kn, hs, i.kept.trans hk⟩)
def evs (l : Sl) : List Operand → Option (List Value)
  | [] => some []
  | x :: r => match ev l x, evs l r with
    | some v, some vs => some (v :: vs)
    | _, _ => none
theorem Kn.evs {a : Act} {l : Sl} (k : Kn a l) : ∀ {xs : List Operand} {vs : List Value}, evs l xs = some vs → xs.map a.eval = vs
  | [], vs, h => by simp [SL.evs] at h; simp [h]
  | x :: r, vs, h => by
    simp only [SL.evs] at h
    split at h
    · rename_i v vs' h1 h2
      simp at h
      subst h
      simp [k.ev h1, Kn.evs k h2]
    · cases h
def Ent (P : Program) (o : Oper) (l : Sl) (f : FuncId) (args : List Value) : Prop := ∀ a, Kn a l → ∀ w, (execOp a.eval o).run P w = .ok (.enter f args.toArray) w
theorem Ent.func {d : Option Nat} {f : FuncId} {xs : List Operand} {ats : Array TypeId} {ty : TypeId} {pos : String} {aft : Array Edge} {g : Option (Nat × Bool)} {vs : List Value}
    (hc : ∀ (args : Array Value) (w : World), (callFunc f args).run P w = .ok (.enter f args) w) (hv : evs l xs = some vs) :
    Ent P ⟨d, .call ⟨.value (.func f), xs.toArray, ats⟩, ty, pos, aft, g⟩ l f vs := by
  intro a k w
  have := k.evs hv
  simp [execOp, resolve, Deferred.ofValue, Act.eval, invoke, this, hc]
theorem WL.c {d : Nat} {op : Op} {ty : TypeId} {pos : String} {aft : Array Edge} {rest : List Oper} {f : FuncId} {args : List Value} {C D : List Ck} {Post : Value → List Ck → Prop} (hd : Nat.blt d n = true)
    (he : Ent P ⟨some d, op, ty, pos, aft, none⟩ l f args) (hs : Tells P f args C Post) (hH : H.Perm (C ++ D))
    (h : ∀ v C', Post v C' → WL P n w0 R ops Q rest ((d, v) :: l) (C' ++ D)) : WL P n w0 R ops Q (⟨some d, op, ty, pos, aft, none⟩ :: rest) l H := by
  intro a w i
  refine wpList_plain rfl fun K hK => ?_
  unfold Oper.wp
  rw [he a i.kn w, Oper.upon_enter]
  have hsat : Sat w (C ++ (D ++ R)) := by
    have := i.sat.perm (hH.append_right R)
    simpa using this
  refine (hs w (D ++ R) hsat).mono fun e w' ⟨v, C', he', hp, hs', hk⟩ => ?_
  subst he'
  have i' := i.put hd v
  exact hK _ _ (h v C' hp _ _ ⟨i'.size, i'.defers, i'.kn, by simpa using hs', i.kept.trans hk⟩)
theorem WL.gc {d j : Nat} {b : Bool} {dj : Nat} {op : Op} {ty : TypeId} {pos : String} {aft : Array Edge} {rest : List Oper} {f : FuncId} {args : List Value} {C D : List Ck} {Post : Value → List Ck → Prop} (hj : (ops[j]?).bind (·.dst) = some dj) (hg : getv l dj = some (.bool b)) (hd : Nat.blt d n = true)
    (he : Ent P ⟨some d, op, ty, pos, aft, some (j, b)⟩ l f args) (hs : Tells P f args C Post) (hH : H.Perm (C ++ D))
    (h : ∀ v C', Post v C' → WL P n w0 R ops Q rest ((d, v) :: l) (C' ++ D)) : WL P n w0 R ops Q (⟨some d, op, ty, pos, aft, some (j, b)⟩ :: rest) l H := by
  intro a w i
  refine wpList_step fun K hK => ?_
  have hw : Region.wanted ⟨some d, op, ty, pos, aft, some (j, b)⟩ (yielded ops a.tmps) = true  := by
    rw [wanted_guard hj (i.kn dj _ hg)]; simp
  rw [if_pos hw]
  unfold Oper.wp
  rw [he a i.kn w, Oper.upon_enter]
  have hsat : Sat w (C ++ (D ++ R)) := by
    have := i.sat.perm (hH.append_right R)
    simpa using this
  refine (hs w (D ++ R) hsat).mono fun e w' ⟨v, C', he', hp, hs', hk⟩ => ?_
  subst he'
  have i' := i.put hd v
  exact hK _ _ (h v C' hp _ _ ⟨i'.size, i'.defers, i'.kn, by simpa using hs', i.kept.trans hk⟩)
theorem WL.ca {d : Nat} {op : Op} {ty : TypeId} {pos : String} {aft : Array Edge} {rest : List Oper} {f : FuncId} {args : List Value} {Post : Value → List Ck → Prop} (hd : Nat.blt d n = true)
    (he : Ent P ⟨some d, op, ty, pos, aft, none⟩ l f args) (hs : Tells P f args H Post)
    (h : ∀ v H', Post v H' → WL P n w0 R ops Q rest ((d, v) :: l) H') : WL P n w0 R ops Q (⟨some d, op, ty, pos, aft, none⟩ :: rest) l H :=
  WL.c (D := []) hd he hs (by simp) fun v C' hp => by simpa using h v C' hp
def Reads (P : Program) (f : FuncId) (args : List Value) (H : List Ck) (v : Value) : Prop := Tells P f args H fun v' H' => v' = v ∧ H' = H
theorem WL.r {d : Nat} {op : Op} {ty : TypeId} {pos : String} {aft : Array Edge} {rest : List Oper} {f : FuncId} {args : List Value} {v : Value} (hd : Nat.blt d n = true)
    (he : Ent P ⟨some d, op, ty, pos, aft, none⟩ l f args) (hs : Reads P f args H v) (h : WL P n w0 R ops Q rest ((d, v) :: l) H) : WL P n w0 R ops Q (⟨some d, op, ty, pos, aft, none⟩ :: rest) l H :=
  WL.c (D := []) hd he hs (by simp) fun v' C' ⟨h1, h2⟩ => by subst h1 h2; simpa using h
theorem WL.gr {d j : Nat} {b : Bool} {dj : Nat} {op : Op} {ty : TypeId} {pos : String} {aft : Array Edge} {rest : List Oper} {f : FuncId} {args : List Value} {v : Value} (hj : (ops[j]?).bind (·.dst) = some dj) (hg : getv l dj = some (.bool b)) (hd : Nat.blt d n = true)
    (he : Ent P ⟨some d, op, ty, pos, aft, some (j, b)⟩ l f args) (hs : Reads P f args H v) (h : WL P n w0 R ops Q rest ((d, v) :: l) H) : WL P n w0 R ops Q (⟨some d, op, ty, pos, aft, some (j, b)⟩ :: rest) l H :=
  WL.gc (D := []) hj hg hd he hs (by simp) fun v' C' ⟨h1, h2⟩ => by subst h1 h2; simpa using h
def NoPanic (Q : Exit → Act → World → Prop) : Prop := ∀ c a w, ¬ Q (.panic c) a w
theorem NoPanic.then {K : Act → World → Prop} (h : NoPanic Q) : NoPanic (Exit.then K Q) := fun c a w q => h c a w q
theorem NoPanic.block {id : Nat} (h : NoPanic Q) : NoPanic (Exit.inBlock id Q) := fun c a w q => h c a w q
theorem NoPanic.body {fn : Func} {Post : Value → List Ck → Prop} : NoPanic (bodyPost P fn (Back P w0 R Post)) := fun c a w ⟨_, _, _, e, _⟩ => by cases e
def WO (P : Program) (n : Nat) (w0 : World) (R : List Ck) (ops : Array Oper) (Q : Exit → Act → World → Prop) (fuel : Nat) (listed : Array Bool) (i : Nat) (l : Sl) (H : List Ck) : Prop :=
  ∀ a w, At P n w0 R l H a w → wpOp P ops Q i (wpAny P .any ops Q fuel (listed.setIfInBounds i true)) a w
variable {fuel : Nat} {listed : Array Bool}
theorem WA.one {i : Nat} (hr : Region.ready .any ops listed = [i]) (h : WO P n w0 R ops Q fuel listed i l H) : WA P n w0 R ops Q (fuel + 1) listed l H :=
  fun a w at_ => wpAny_all hr (by simp) fun j hj => by simp at hj; subst hj; exact h a w at_
theorem WA.two {i j : Nat} (hr : Region.ready .any ops listed = [i, j]) (h1 : WO P n w0 R ops Q fuel listed i l H) (h2 : WO P n w0 R ops Q fuel listed j l H) : WA P n w0 R ops Q (fuel + 1) listed l H :=
  fun a w at_ => wpAny_all hr (by simp) fun k hk => by
    simp at hk
    rcases hk with rfl | rfl
    · exact h1 a w at_
    · exact h2 a w at_
theorem WA.done (hr : Region.ready .any ops listed = []) (h : DN P n w0 R Q .normal l H) : WA P n w0 R ops Q fuel listed l H :=
  fun a w at_ => wpAny_done hr (h a w at_) fuel
theorem WA.y {i d : Nat} {op : Op} {ty : TypeId} {pos : String} {aft : Array Edge} {v : Value} (hQ : NoPanic Q) (hi : ops[i]? = some ⟨some d, op, ty, pos, aft, none⟩) (hs : Region.noSelect ops = true) (hf : Region.free .any ops listed i = true) (hr : (Region.ready .any ops listed).contains i = true)
    (hd : Nat.blt d n = true) (hy : Yd P ⟨some d, op, ty, pos, aft, none⟩ l v) (h : WA P n w0 R ops Q fuel (listed.setIfInBounds i true) ((d, v) :: l) H) : WA P n w0 R ops Q (fuel + 1) listed l H :=
  fun a w at_ => wpAny_take hi hs hf hr (fun c a w q => absurd q (hQ c _ w)) (.inl ⟨rfl, hy a at_.kn⟩) (h _ _ (at_.put hd v))
theorem WA.gy {i d j dj : Nat} {b : Bool} {op : Op} {ty : TypeId} {pos : String} {aft : Array Edge} {v : Value} (hQ : NoPanic Q) (hi : ops[i]? = some ⟨some d, op, ty, pos, aft, some (j, b)⟩) (hs : Region.noSelect ops = true) (hf : Region.free .any ops listed i = true) (hr : (Region.ready .any ops listed).contains i = true)
    (hj : (ops[j]?).bind (·.dst) = some dj) (hg : getv l dj = some (.bool b)) (hd : Nat.blt d n = true) (hy : Yd P ⟨some d, op, ty, pos, aft, some (j, b)⟩ l v) (h : WA P n w0 R ops Q fuel (listed.setIfInBounds i true) ((d, v) :: l) H) : WA P n w0 R ops Q (fuel + 1) listed l H :=
  fun a w at_ => wpAny_take hi hs hf hr (fun c a w q => absurd q (hQ c _ w)) (.inl ⟨by rw [wanted_guard hj (at_.kn dj _ hg)]; simp, hy a at_.kn⟩) (h _ _ (at_.put hd v))
theorem WA.gn {i d j dj : Nat} {b b' : Bool} {op : Op} {ty : TypeId} {pos : String} {aft : Array Edge} (hQ : NoPanic Q) (hi : ops[i]? = some ⟨some d, op, ty, pos, aft, some (j, b)⟩) (hs : Region.noSelect ops = true) (hf : Region.free .any ops listed i = true) (hr : (Region.ready .any ops listed).contains i = true)
    (hj : (ops[j]?).bind (·.dst) = some dj) (hg : getv l dj = some (.bool b')) (hb : b' = !b) (hd : Nat.blt d n = true) (h : WA P n w0 R ops Q fuel (listed.setIfInBounds i true) ((d, undef) :: l) H) : WA P n w0 R ops Q (fuel + 1) listed l H :=
  fun a w at_ => wpAny_take hi hs hf hr (fun c a w q => absurd q (hQ c _ w)) (.inr ⟨by rw [wanted_guard hj (at_.kn dj _ hg), hb]; cases b <;> rfl, rfl⟩) (h _ _ (at_.put hd undef))
def Wt (ops : Array Oper) (l : Sl) (o : Oper) : Prop := ∀ a, Kn a l → Region.wanted o (yielded ops a.tmps) = true
theorem Wt.none {d : Option Nat} {op : Op} {ty : TypeId} {pos : String} {aft : Array Edge} : Wt ops l ⟨d, op, ty, pos, aft, .none⟩ := fun a k => rfl
theorem Wt.yes {d : Option Nat} {op : Op} {ty : TypeId} {pos : String} {aft : Array Edge} {j dj : Nat} {b : Bool} (hj : (ops[j]?).bind (·.dst) = some dj) (hg : getv l dj = some (.bool b)) : Wt ops l ⟨d, op, ty, pos, aft, some (j, b)⟩ := fun a k => by
  rw [wanted_guard hj (k dj _ hg)]; simp
theorem WA.renamed {t : Nat} {u v : Value} (ht : getv l t = some u) (e : u = v) (h : WA P n w0 R ops Q fuel listed ((t, v) :: l) H) : WA P n w0 R ops Q fuel listed l H := by
  subst e
  exact fun a w i => h a w ⟨i.size, i.defers, fun s v hv => by
    rw [getv_cons] at hv
    by_cases e : t = s
    · subst e; simp at hv; subst hv; exact i.kn _ _ ht
    · simp [e] at hv; exact i.kn _ _ hv, i.sat, i.kept⟩
variable {g : Option (Nat × Bool)}
theorem WO.run {i : Nat} {o : Oper} (hi : ops[i]? = some o) (hw : Wt ops l o) (h : ∀ a w, At P n w0 R l H a w → o.wp P a w (wpAny P .any ops Q fuel (listed.setIfInBounds i true)) Q) : WO P n w0 R ops Q fuel listed i l H := by
  intro a w at_
  simp only [wpOp, hi, hw a at_.kn, if_true]
  exact .inl (h a w at_)
theorem WO.h {i d : Nat} {op : Op} {ty : TypeId} {pos : String} {aft : Array Edge} (hi : ops[i]? = some ⟨some d, op, ty, pos, aft, g⟩) (hw : Wt ops l ⟨some d, op, ty, pos, aft, g⟩) (hd : Nat.blt d n = true)
    (hh : Hd P ⟨some d, op, ty, pos, aft, g⟩ l H fun r H' => ∃ v, r = .value v ∧ WA P n w0 R ops Q fuel (listed.setIfInBounds i true) ((d, v) :: l) H') : WO P n w0 R ops Q fuel listed i l H := WO.run hi hw fun a w at_ => by
  obtain ⟨r, w', H', hr, hs, hk, v, rfl, hw⟩ := hh a w R at_.kn at_.sat
  unfold Oper.wp
  rw [hr]
  have i' := at_.put hd v
  exact hw _ _ ⟨i'.size, i'.defers, i'.kn, hs, at_.kept.trans hk⟩
theorem WO.s {i : Nat} {op : Op} {ty : TypeId} {pos : String} {aft : Array Edge} (hi : ops[i]? = some ⟨none, op, ty, pos, aft, g⟩) (hw : Wt ops l ⟨none, op, ty, pos, aft, g⟩)
    (hh : Hd P ⟨none, op, ty, pos, aft, g⟩ l H fun r H' => r = .skip ∧ WA P n w0 R ops Q fuel (listed.setIfInBounds i true) l H') : WO P n w0 R ops Q fuel listed i l H := WO.run hi hw fun a w at_ => by
  obtain ⟨r, w', H', hr, hs, hk, rfl, hw⟩ := hh a w R at_.kn at_.sat
  unfold Oper.wp
  rw [hr]
  exact hw _ _ ⟨at_.size, at_.defers, at_.kn, hs, at_.kept.trans hk⟩
theorem WO.c {i d : Nat} {op : Op} {ty : TypeId} {pos : String} {aft : Array Edge} {f : FuncId} {args : List Value} {C D : List Ck} {Post : Value → List Ck → Prop} (hi : ops[i]? = some ⟨some d, op, ty, pos, aft, g⟩) (hw : Wt ops l ⟨some d, op, ty, pos, aft, g⟩) (hd : Nat.blt d n = true)
    (he : Ent P ⟨some d, op, ty, pos, aft, g⟩ l f args) (hs : Tells P f args C Post) (hH : H.Perm (C ++ D))
    (h : ∀ v C', Post v C' → WA P n w0 R ops Q fuel (listed.setIfInBounds i true) ((d, v) :: l) (C' ++ D)) : WO P n w0 R ops Q fuel listed i l H := WO.run hi hw fun a w at_ => by
  unfold Oper.wp
  rw [he a at_.kn w, Oper.upon_enter]
  have hsat : Sat w (C ++ (D ++ R)) := by
    have := at_.sat.perm (hH.append_right R)
    simpa using this
  refine (hs w (D ++ R) hsat).mono fun e w' ⟨v, C', he', hp, hs', hk⟩ => ?_
  subst he'
  have i' := at_.put hd v
  exact h v C' hp _ _ ⟨i'.size, i'.defers, i'.kn, by simpa using hs', at_.kept.trans hk⟩
end rules
end Go.SL

set_option linter.unusedVariables false
set_option linter.unusedSimpArgs false
namespace Go.SL
open Go.RowKit (Below)
variable {P : Program} {l : Sl} {H : List Ck} {d : Option Nat} {ty : TypeId} {pos : String} {aft : Array Edge} {g : Option (Nat × Bool)}
def aggB (P : Program) (t : TypeId) : Bool := match P.underlying t with | some (.struct _) | some (.array _ _) => true | some _ => false | none => true
def szOf (P : Program) (t : TypeId) : Option Nat := (P.info? t).map (·.size)
def isAggOf (P : Program) (t : TypeId) (s : Nat) : Bool := match P.underlying t with | some (.struct _) | some (.array _ _) => szOf P t == some s | _ => false
def intOfTy (P : Program) (t : TypeId) : Option IntKind := match P.underlying t with | some (.int k) => some k | _ => none
def sliceOf (P : Program) (t : TypeId) : Option TypeId := match P.underlying t with | some (.slice e) => some e | _ => none
def arrayOf (P : Program) (t : TypeId) : Option (Nat × TypeId) := match P.underlying t with | some (.array n e) => some (n, e) | _ => none
def fieldOff (P : Program) (s f : Nat) : Option Nat := match P.underlying s with
  | some (.struct fs) => (match fs[f]? with
    | some fl => (match P.info? fl.type with | some i => if i.size = 0 then none else some fl.offset | none => none)
    | none => none)
  | _ => none
def aggK (P : Program) (t : TypeId) : Option Bool := match P.underlying t with | some (.struct _) | some (.array _ _) => some true | some _ => some false | none => none
def elemInfo (P : Program) (e : TypeId) : Option (Nat × List Value × Nat) := match P.info? e with
  | some i => (match i.zero with | some z => some (i.size, z.cells.toList, i.bytes) | none => none)
  | none => none
theorem run_isAgg_no {t : TypeId} (h : aggB P t = false) (w : World) : (isAgg t).run P w = .ok false w := by
  unfold aggB at h
  split at h
  · cases h
  · cases h
  · rename_i x d h1 h2 hu
    simp only [isAgg, underlying]
    simp [hu]
  · cases h
theorem run_isAgg_of {t : TypeId} {b : Bool} (h : aggK P t = some b) (w : World) : (isAgg t).run P w = .ok b w := by
  unfold aggK at h
  split at h
  · rename_i fs hu; simp at h; subst h; simp [isAgg, underlying, hu]
  · rename_i n e hu; simp at h; subst h; simp [isAgg, underlying, hu]
  · rename_i x d' h1 h2 hu
    simp at h
    subst h
    simp only [isAgg, underlying]
    simp [hu]
  · cases h
theorem run_isAgg_yes {t s : Nat} (h : isAggOf P t s = true) (w : World) : (isAgg t).run P w = .ok true w ∧ (sizeOf t).run P w = .ok s w := by
  unfold isAggOf szOf at h
  split at h
  · rename_i fs hu
    simp at h
    obtain ⟨i, hi, hs⟩ := h
    exact ⟨by simp [isAgg, underlying, hu], by simp [sizeOf, typeInfo, hi, hs]⟩
  · rename_i n e hu
    simp at h
    obtain ⟨i, hi, hs⟩ := h
    exact ⟨by simp [isAgg, underlying, hu], by simp [sizeOf, typeInfo, hi, hs]⟩
  · cases h
theorem run_sizeOf {t s : Nat} (h : szOf P t = some s) (w : World) : (sizeOf t).run P w = .ok s w := by
  simp [szOf] at h
  obtain ⟨i, hi, hs⟩ := h
  simp [sizeOf, typeInfo, hi, hs]
theorem underlying_slice {t e : Nat} (h : sliceOf P t = some e) : P.underlying t = some (.slice e) := by
  unfold sliceOf at h; split at h <;> simp_all
theorem underlying_array {t n e : Nat} (h : arrayOf P t = some (n, e)) : P.underlying t = some (.array n e) := by
  unfold arrayOf at h; split at h <;> simp_all
theorem underlying_int {t : Nat} {k : IntKind} (h : intOfTy P t = some k) : P.underlying t = some (.int k) := by
  unfold intOfTy at h; split at h <;> simp_all
theorem wrap64_in {n : Int} (h1 : -9223372036854775808 ≤ n) (h2 : n ≤ 9223372036854775807) : IntKind.i64.wrap n = n := IntWalk.i64_in n ⟨h1, h2⟩
theorem Yd.move {x : Operand} {v : Value} (h : ev l x = some v) : Yd P ⟨d, .move x, ty, pos, aft, g⟩ l v := fun a k w => by
  simp [execOp, k.ev h]
theorem Yd.assign {x : Operand} {v : Value} (h : ev l x = some v) : Yd P ⟨d, .assign x, ty, pos, aft, g⟩ l v := fun a k w => by
  simp [execOp, k.ev h]
theorem Yd.pickT {c x y : Operand} {u : Value} (hc : ev l c = some (.bool true)) (hx : ev l x = some u) : Yd P ⟨d, .pick c x y, ty, pos, aft, g⟩ l u := fun a k w => by
  simp [execOp, k.ev hc, k.ev hx, asBool]
theorem Yd.pickF {c x y : Operand} {v : Value} (hc : ev l c = some (.bool false)) (hy : ev l y = some v) : Yd P ⟨d, .pick c x y, ty, pos, aft, g⟩ l v := fun a k w => by
  simp [execOp, k.ev hc, k.ev hy, asBool]
theorem Yd.extract {x : Operand} {i : Nat} {vs : Array Value} {v : Value} (hx : ev l x = some (.tuple vs)) (hv : vs[i]? = some v) : Yd P ⟨d, .extract x i, ty, pos, aft, g⟩ l v := fun a k w => by
  simp [execOp, k.ev hx, Instr.extract, hv]
theorem Yd.notNil {x : Operand} {p : Addr} (hx : ev l x = some (.pointer (some p))) : Yd P ⟨d, .nilCheck x, ty, pos, aft, g⟩ l (.pointer (some p)) := fun a k w => by
  simp [execOp, k.ev hx]
theorem Yd.notB {x : Operand} {T : TypeId} {b : Bool} (hx : ev l x = some (.bool b)) : Yd P ⟨d, .unOp .not T x, ty, pos, aft, g⟩ l (.bool (!b)) := fun a k w => by
  simp [execOp, k.ev hx, Op.unary]
theorem Yd.len {x : Operand} {T : TypeId} {e : TypeId} {ao : Option Addr} {n c : Nat} (hT : sliceOf P T = some e) (hx : ev l x = some (.slice ao n c)) : Yd P ⟨d, .call ⟨.builtin .len, #[x], #[T]⟩, ty, pos, aft, g⟩ l (.int .i64 n) := fun a k w => by
  simp [execOp, resolve, invoke, builtin, k.ev hx, Builtin.len_, run_underlying (underlying_slice hT), goInt]
theorem Yd.lenS {x : Operand} {T : TypeId} {s : ByteArray} (hT : P.underlying T = some .string) (hx : ev l x = some (.string s)) : Yd P ⟨d, .call ⟨.builtin .len, #[x], #[T]⟩, ty, pos, aft, g⟩ l (.int .i64 s.size) := fun a k w => by
  simp [execOp, resolve, invoke, builtin, k.ev hx, Builtin.len_, run_underlying hT, goInt]
theorem add_plain (b o n : Nat) : (⟨b, o, none⟩ : Addr).add n = ⟨b, o + n, none⟩ := by
  unfold Addr.add; split <;> simp_all
theorem Yd.fieldAddr {x : Operand} {S f b o k : Nat} (hf : fieldOff P S f = some k) (hx : ev l x = some (.pointer (some ⟨b, o, none⟩))) : Yd P ⟨d, .fieldAddr S x f, ty, pos, aft, g⟩ l (.pointer (some ⟨b, o + k, none⟩)) := fun a kn w => by
  unfold fieldOff at hf
  split at hf
  · rename_i fs hu
    split at hf
    · rename_i fl hfl
      split at hf
      · rename_i i hi
        split at hf
        · cases hf
        · rename_i hz
          simp at hf
          subst hf
          simp [execOp, kn.ev hx, Instr.fieldAt, run_underlying hu, hfl, Instr.sureAddr, fieldPlace, sizeOf, typeInfo, hi, hz, add_plain]
      · cases hf
    · cases hf
  · cases hf
theorem Yd.indexAddr {x y : Operand} {T e s b o n c : Nat} {k : IntKind} {m : Int} (hT : sliceOf P T = some e) (hs : szOf P e = some s) (hx : ev l x = some (.slice (some ⟨b, o, none⟩) n c)) (hy : ev l y = some (.int k m)) (h0 : 0 ≤ m) (hm : m < n) :
    Yd P ⟨d, .indexAddr T x y, ty, pos, aft, g⟩ l (.pointer (some ⟨b, o + m.toNat * s, none⟩)) := fun a kn w => by
  simp [execOp, kn.ev hx, kn.ev hy, Instr.indexAt, asIntOf, run_underlying (underlying_slice hT), run_sizeOf hs, h0, hm, add_plain]
theorem Yd.indexArr {x y : Operand} {T e s b o n : Nat} {k : IntKind} {m : Int} (hT : arrayOf P T = some (n, e)) (hs : szOf P e = some s) (hx : ev l x = some (.pointer (some ⟨b, o, none⟩))) (hy : ev l y = some (.int k m)) (h0 : 0 ≤ m) (hm : m < n) :
    Yd P ⟨d, .indexAddr T x y, ty, pos, aft, g⟩ l (.pointer (some ⟨b, o + m.toNat * s, none⟩)) := fun a kn w => by
  simp [execOp, kn.ev hx, kn.ev hy, Instr.indexAt, asIntOf, run_underlying (underlying_array hT), run_sizeOf hs, Instr.sureAddr, h0, hm, add_plain]
theorem Yd.slice {x : Operand} {lo hi : Option Operand} {T e s : Nat} {ao : Option Addr} {n c : Nat} {i j : Nat} (hT : sliceOf P T = some e) (hs : szOf P e = some s) (hx : ev l x = some (.slice ao n c))
    (hl : match lo with | none => i = 0 | some y => ∃ k m, ev l y = some (.int k m) ∧ m = (i : Int)) (hh : match hi with | none => j = n | some y => ∃ k m, ev l y = some (.int k m) ∧ m = (j : Int)) (h1 : i ≤ j) (h2 : j ≤ c) :
    Yd P ⟨d, .slice T x lo hi none, ty, pos, aft, g⟩ l (.slice (if c = i then ao else ao.map (·.add (i * s))) (j - i) (c - i)) := fun a kn w => by
  have hu := run_underlying (underlying_slice hT)
  have ho : ∀ (y : Operand) (k : IntKind) (m : Int), ev l y = some (.int k m) → a.eval y = .int k m := fun y k m h => kn.ev h
  cases lo with
  | none =>
    subst hl
    cases hi with
    | none => subst hh; simp [execOp, kn.ev hx, Instr.sliceAt, Instr.slice, hu, Instr.sliceBounds, run_sizeOf hs]
    | some y =>
      obtain ⟨k, m, hy, rfl⟩ := hh
      simp [execOp, kn.ev hx, Instr.sliceAt, Instr.slice, hu, Instr.sliceBounds, Instr.sliceBound, asIntOf, ho y k _ hy, run_sizeOf hs, Int.ofNat_le, h1, h2]
  | some z =>
    obtain ⟨k', m', hz, rfl⟩ := hl
    cases hi with
    | none => subst hh; simp [execOp, kn.ev hx, Instr.sliceAt, Instr.slice, hu, Instr.sliceBounds, Instr.sliceBound, asIntOf, ho z k' _ hz, run_sizeOf hs, Int.ofNat_le, h1, h2]
    | some y =>
      obtain ⟨k, m, hy, rfl⟩ := hh
      simp [execOp, kn.ev hx, Instr.sliceAt, Instr.slice, hu, Instr.sliceBounds, Instr.sliceBound, asIntOf, ho y k _ hy, ho z k' _ hz, run_sizeOf hs, Int.ofNat_le, h1, h2]
theorem run_eqGuard_int (op : BinOp) (T : TypeId) (x y : Operand) (k k' : IntKind) (m m' : Int) (w : World) : (eqGuard op T x y (.int k m) (.int k' m')).run P w = .ok () w := by
  cases op <;> rfl
theorem Yd.bin {op : BinOp} {T T' : TypeId} {x y : Operand} {k : IntKind} {m m' : Int} {v : Value} (hx : ev l x = some (.int k m)) (hy : ev l y = some (.int k m')) (hr : ∀ w, (binOp op T (.int k m) (.int k m')).run P w = .ok v w) : Yd P ⟨d, .binOp op T x y T', ty, pos, aft, g⟩ l v := fun a kn w => by
  simp only [execOp, kn.ev hx, kn.ev hy, Sem.run_bind, run_eqGuard_int, Result.andThen_ok, hr, Sem.run_pure]
theorem Yd.add {T T' : TypeId} {x y : Operand} {m m' : Int} (hx : ev l x = some (.int .i64 m)) (hy : ev l y = some (.int .i64 m')) (h1 : -9223372036854775808 ≤ m + m') (h2 : m + m' ≤ 9223372036854775807) : Yd P ⟨d, .binOp .add T x y T', ty, pos, aft, g⟩ l (.int .i64 (m + m')) :=
  Yd.bin hx hy fun w => by simp [binOp, Op.intArith, wrap64_in h1 h2]
theorem Yd.sub {T T' : TypeId} {x y : Operand} {m m' : Int} (hx : ev l x = some (.int .i64 m)) (hy : ev l y = some (.int .i64 m')) (h1 : -9223372036854775808 ≤ m - m') (h2 : m - m' ≤ 9223372036854775807) : Yd P ⟨d, .binOp .sub T x y T', ty, pos, aft, g⟩ l (.int .i64 (m - m')) :=
  Yd.bin hx hy fun w => by simp [binOp, Op.intArith, wrap64_in h1 h2]
theorem Yd.lss {T T' : TypeId} {x y : Operand} {k : IntKind} {m m' : Int} (hx : ev l x = some (.int k m)) (hy : ev l y = some (.int k m')) : Yd P ⟨d, .binOp .lss T x y T', ty, pos, aft, g⟩ l (.bool (decide (m < m'))) :=
  Yd.bin hx hy fun w => by simp [binOp, Op.intCmp]
theorem Yd.leq {T T' : TypeId} {x y : Operand} {k : IntKind} {m m' : Int} (hx : ev l x = some (.int k m)) (hy : ev l y = some (.int k m')) : Yd P ⟨d, .binOp .leq T x y T', ty, pos, aft, g⟩ l (.bool (decide (m ≤ m'))) :=
  Yd.bin hx hy fun w => by simp [binOp, Op.intCmp]
theorem Yd.gtr {T T' : TypeId} {x y : Operand} {k : IntKind} {m m' : Int} (hx : ev l x = some (.int k m)) (hy : ev l y = some (.int k m')) : Yd P ⟨d, .binOp .gtr T x y T', ty, pos, aft, g⟩ l (.bool (decide (m' < m))) :=
  Yd.bin hx hy fun w => by simp [binOp, Op.intCmp]
theorem Yd.geq {T T' : TypeId} {x y : Operand} {k : IntKind} {m m' : Int} (hx : ev l x = some (.int k m)) (hy : ev l y = some (.int k m')) : Yd P ⟨d, .binOp .geq T x y T', ty, pos, aft, g⟩ l (.bool (decide (m' ≤ m))) :=
  Yd.bin hx hy fun w => by simp [binOp, Op.intCmp]
theorem Yd.eql {T T' : TypeId} {x y : Operand} {k : IntKind} {m m' : Int} (hx : ev l x = some (.int k m)) (hy : ev l y = some (.int k m')) : Yd P ⟨d, .binOp .eql T x y T', ty, pos, aft, g⟩ l (.bool (decide (m = m'))) :=
  Yd.bin hx hy fun w => by simp [binOp, Op.intCmp]; rfl
theorem Yd.neq {T T' : TypeId} {x y : Operand} {k : IntKind} {m m' : Int} (hx : ev l x = some (.int k m)) (hy : ev l y = some (.int k m')) : Yd P ⟨d, .binOp .neq T x y T', ty, pos, aft, g⟩ l (.bool (decide (m ≠ m'))) :=
  Yd.bin hx hy fun w => by
    simp [binOp, Op.intCmp, bne]
    by_cases h : m = m' <;> simp [h]
theorem run_equal_bool {T : TypeId} (hT : P.underlying T = some .bool) (a b : Bool) (w : World) : (Op.equal T (.bool a) (.bool b)).run P w = .ok (a == b) w := by
  have h : ∀ d, (Op.equalIn (d + 1) T (.bool a) (.bool b)).run P w = .ok (a == b) w := fun d => by simp [Op.equalIn, run_underlying hT]
  exact h 9999
theorem run_equal_nil {T e : TypeId} (hT : P.underlying T = some (.pointer e)) (p : Option Addr) (w : World) : (Op.equal T (.pointer p) (.pointer none)).run P w = .ok p.isNone w := by
  have h : ∀ d, (Op.equalIn (d + 1) T (.pointer p) (.pointer none)).run P w = .ok p.isNone w := fun d => by cases p <;> simp [Op.equalIn, run_underlying hT]
  exact h 9999
theorem Yd.eqlB {T T' : TypeId} {x y : Operand} {b b' : Bool} (hT : P.underlying T = some .bool) (hx : ev l x = some (.bool b)) (hy : ev l y = some (.bool b')) : Yd P ⟨d, .binOp .eql T x y T', ty, pos, aft, g⟩ l (.bool (b == b')) := fun a kn w => by
  have : (eqGuard .eql T x y (.bool b) (.bool b')).run P w = .ok () w := by unfold eqGuard; simp
  simp [execOp, kn.ev hx, kn.ev hy, this, binOp, run_equal_bool hT]
theorem Yd.neqB {T T' : TypeId} {x y : Operand} {b b' : Bool} (hT : P.underlying T = some .bool) (hx : ev l x = some (.bool b)) (hy : ev l y = some (.bool b')) : Yd P ⟨d, .binOp .neq T x y T', ty, pos, aft, g⟩ l (.bool (!(b == b'))) := fun a kn w => by
  have : (eqGuard .neq T x y (.bool b) (.bool b')).run P w = .ok () w := by unfold eqGuard; simp
  simp [execOp, kn.ev hx, kn.ev hy, this, binOp, run_equal_bool hT]
theorem Yd.eqlNil {T T' e : TypeId} {x y : Operand} {p : Option Addr} (hT : P.underlying T = some (.pointer e)) (hx : ev l x = some (.pointer p)) (hy : ev l y = some (.pointer none)) : Yd P ⟨d, .binOp .eql T x y T', ty, pos, aft, g⟩ l (.bool p.isNone) := fun a kn w => by
  have : (eqGuard .eql T x y (.pointer p) (.pointer none)).run P w = .ok () w := by unfold eqGuard; simp
  cases p <;> simp [execOp, kn.ev hx, kn.ev hy, this, binOp, run_equal_nil hT]
theorem Yd.neqNil {T T' e : TypeId} {x y : Operand} {p : Option Addr} (hT : P.underlying T = some (.pointer e)) (hx : ev l x = some (.pointer p)) (hy : ev l y = some (.pointer none)) : Yd P ⟨d, .binOp .neq T x y T', ty, pos, aft, g⟩ l (.bool p.isSome) := fun a kn w => by
  have : (eqGuard .neq T x y (.pointer p) (.pointer none)).run P w = .ok () w := by unfold eqGuard; simp
  cases p <;> simp [execOp, kn.ev hx, kn.ev hy, this, binOp, run_equal_nil hT]
theorem wrap8_u (n : Int) : IntKind.u8.wrap n = ((BitVec.ofInt 8 n).toNat : Int) := by
  simp [IntKind.wrap, IntKind.bits, IntKind.signed, BitVec.toNat_ofInt]
  omega
theorem ofInt_toNat8 (x : BitVec 8) : BitVec.ofInt 8 (x.toNat : Int) = x := by
  apply BitVec.eq_of_toNat_eq
  simp [BitVec.toNat_ofInt]
theorem bits8 (op : BinOp) (x y : BitVec 8) (z : BitVec 8) (h : match op with | .and => z = x &&& y | .or => z = x ||| y | .xor => z = x ^^^ y | .andNot => z = x &&& ~~~y | _ => False) (w : World) :
    (Op.intBits op .u8 (x.toNat : Int) (y.toNat : Int)).run P w = .ok (.int .u8 (z.toNat : Int)) w := by
  have e : ∀ z : BitVec 8, IntKind.u8.wrap (z.toNat : Int) = (z.toNat : Int) := fun z => by rw [wrap8_u, ofInt_toNat8]
  cases op <;> first | exact h.elim | skip
  all_goals
    simp only at h
    subst h
    have hx := ofInt_toNat8 x
    have hy := ofInt_toNat8 y
    simp only [Op.intBits, IntKind.bits]
    rw [hx, hy, e]
    rfl
theorem Yd.xor8 {T T' : TypeId} {x y : Operand} {m m' : Int} (p q : BitVec 8) (hx : ev l x = some (.int .u8 m)) (hy : ev l y = some (.int .u8 m')) (hm : m = (p.toNat : Int)) (hm' : m' = (q.toNat : Int)) : Yd P ⟨d, .binOp .xor T x y T', ty, pos, aft, g⟩ l (.int .u8 ((p ^^^ q).toNat : Int)) := by
  subst hm hm'; exact Yd.bin hx hy fun w => by simp [binOp]; exact bits8 .xor p q _ rfl w
theorem Yd.eql8 {T T' : TypeId} {x y : Operand} {m m' : Int} (p q : BitVec 8) (hx : ev l x = some (.int .u8 m)) (hy : ev l y = some (.int .u8 m')) (hm : m = (p.toNat : Int)) (hm' : m' = (q.toNat : Int)) : Yd P ⟨d, .binOp .eql T x y T', ty, pos, aft, g⟩ l (.bool (decide (p = q))) := by
  have h := Yd.eql (P := P) (d := d) (ty := ty) (pos := pos) (aft := aft) (g := g) (T := T) (T' := T') hx hy
  have e : decide (m = m') = decide (p = q) := by subst hm hm'; rw [decide_eq_decide]; exact ⟨fun h => BitVec.eq_of_toNat_eq (by omega), fun h => by rw [h]⟩
  rw [e] at h; exact h
theorem Yd.eql32 {T T' : TypeId} {x y : Operand} {m m' : Int} (p q : BitVec 32) (hx : ev l x = some (.int .u32 m)) (hy : ev l y = some (.int .u32 m')) (hm : m = (p.toNat : Int)) (hm' : m' = (q.toNat : Int)) : Yd P ⟨d, .binOp .eql T x y T', ty, pos, aft, g⟩ l (.bool (decide (p = q))) := by
  have h := Yd.eql (P := P) (d := d) (ty := ty) (pos := pos) (aft := aft) (g := g) (T := T) (T' := T') hx hy
  have e : decide (m = m') = decide (p = q) := by subst hm hm'; rw [decide_eq_decide]; exact ⟨fun h => BitVec.eq_of_toNat_eq (by omega), fun h => by rw [h]⟩
  rw [e] at h; exact h
theorem wrap64_u (n : Int) : IntKind.u64.wrap n = ((BitVec.ofInt 64 n).toNat : Int) := by
  simp [IntKind.wrap, IntKind.bits, IntKind.signed, BitVec.toNat_ofInt]
  omega
theorem ofInt_toNat64 (x : BitVec 64) : BitVec.ofInt 64 (x.toNat : Int) = x := by
  apply BitVec.eq_of_toNat_eq
  simp [BitVec.toNat_ofInt]
theorem Yd.add64 {T T' : TypeId} {x y : Operand} {m m' : Int} (p q : BitVec 64) (hx : ev l x = some (.int .u64 m)) (hy : ev l y = some (.int .u64 m')) (hm : m = (p.toNat : Int)) (hm' : m' = (q.toNat : Int)) : Yd P ⟨d, .binOp .add T x y T', ty, pos, aft, g⟩ l (.int .u64 ((p + q).toNat : Int)) := by
  subst hm hm'
  exact Yd.bin hx hy fun w => by
    have : BitVec.ofInt 64 ((p.toNat : Int) + (q.toNat : Int)) = p + q := by rw [BitVec.ofInt_add, ofInt_toNat64, ofInt_toNat64]
    simp [binOp, Op.intArith, wrap64_u, this]
theorem Yd.eql64 {T T' : TypeId} {x y : Operand} {m m' : Int} (p q : BitVec 64) (hx : ev l x = some (.int .u64 m)) (hy : ev l y = some (.int .u64 m')) (hm : m = (p.toNat : Int)) (hm' : m' = (q.toNat : Int)) : Yd P ⟨d, .binOp .eql T x y T', ty, pos, aft, g⟩ l (.bool (decide (p = q))) := by
  have h := Yd.eql (P := P) (d := d) (ty := ty) (pos := pos) (aft := aft) (g := g) (T := T) (T' := T') hx hy
  have e : decide (m = m') = decide (p = q) := by subst hm hm'; rw [decide_eq_decide]; exact ⟨fun h => BitVec.eq_of_toNat_eq (by omega), fun h => by rw [h]⟩
  rw [e] at h; exact h
theorem Yd.to64 {x : Operand} {S T : TypeId} {k' : IntKind} {m : Int} (p : BitVec 64) (hS : (P.underlying S).isSome = true) (hT : intOfTy P T = some .u64) (hx : ev l x = some (.int k' m)) (hp : BitVec.ofInt 64 m = p) : Yd P ⟨d, .convert S T x, ty, pos, aft, g⟩ l (.int .u64 (p.toNat : Int)) := fun a kn w => by
  obtain ⟨dS, hS'⟩ := Option.isSome_iff_exists.mp hS
  subst hp
  simp [execOp, kn.ev hx, convert, run_underlying hS', run_underlying (underlying_int hT), Conv.intToInt, wrap64_u]
theorem Yd.conv32_64 {x : Operand} {S T : TypeId} {m : Int} (p : BitVec 32) (hS : (P.underlying S).isSome = true) (hT : intOfTy P T = some .u64) (hx : ev l x = some (.int .u32 m)) (hm : m = (p.toNat : Int)) : Yd P ⟨d, .convert S T x, ty, pos, aft, g⟩ l (.int .u64 ((p.setWidth 64).toNat : Int)) := by
  subst hm
  refine Yd.to64 _ hS hT hx ?_
  apply BitVec.eq_of_toNat_eq
  simp [BitVec.toNat_ofInt]
abbrev row (b : Nat) (cs : List Value) (T : TypeId) : Ck := ⟨b, .cells cs.toArray T (0, 0), true⟩
theorem cell_at {w : World} {b o : Nat} {cs : Array Value} {T : TypeId} {fr : Nat × Nat} (h : w.heap[b]? = some (.cells cs T fr)) : w.cell? ⟨b, o, none⟩ = cs[o]? := by
  simp [World.cell?, h]
theorem Hd.load1 {T : TypeId} {x : Operand} {b o : Nat} {cs : List Value} {T' : TypeId} {fr : Nat × Nat} {ex : Bool} {v : Value} {K : Next → List Ck → Prop} (hT : aggB P T = false) (hx : ev l x = some (.pointer (some ⟨b, o, none⟩)))
    (hm : (⟨b, .cells cs.toArray T' fr, ex⟩ : Ck) ∈ H) (hc : cs[o]? = some v) (k : K (.value v) H) : Hd P ⟨d, .load T x, ty, pos, aft, g⟩ l H K := fun a w R kn s => by
  have h := s.holds _ (List.mem_append_left R hm)
  have hcell : w.cell? ⟨b, o, none⟩ = some v := by rw [cell_at h]; simpa using hc
  refine ⟨.value v, w, H, ?_, s, .refl w, k⟩
  simp [execOp, kn.ev hx, Instr.loadAt, Instr.sureAddr, loadVar, run_isAgg_no hT, hcell]
theorem Hd.loadA {T : TypeId} {x : Operand} {b o n : Nat} {cs : List Value} {T' : TypeId} {fr : Nat × Nat} {ex : Bool} {vs : List Value} {K : Next → List Ck → Prop} (hT : isAggOf P T n = true) (hx : ev l x = some (.pointer (some ⟨b, o, none⟩)))
    (hm : (⟨b, .cells cs.toArray T' fr, ex⟩ : Ck) ∈ H) (hn : vs.length = n) (hc : (cs.drop o).take n = vs) (k : K (.value (.agg vs.toArray)) H) : Hd P ⟨d, .load T x, ty, pos, aft, g⟩ l H K := fun a w R kn s => by
  have h := s.holds _ (List.mem_append_left R hm)
  have hl := run_loadCells_list (P := P) w ⟨b, o, none⟩ vs (fun j v hv => by
    rw [add_plain, cell_at h]
    subst hc
    rw [List.getElem?_take] at hv
    split at hv
    · simpa using hv
    · cases hv)
  rw [hn] at hl
  refine ⟨.value (.agg vs.toArray), w, H, ?_, s, .refl w, k⟩
  simp [execOp, kn.ev hx, Instr.loadAt, Instr.sureAddr, loadVar, (run_isAgg_yes hT w).1, (run_isAgg_yes hT w).2, hl]
theorem kept_setRow (w : World) (b : Nat) (cs : Array Value) : Kept w (w.setRow b cs) := ⟨rfl, rfl, rfl, by simp, by first | exact Nat.le_refl _ | exact Nat.le_succ _⟩
theorem Sat.setRow {w : World} {b : Nat} {cs cs' : Array Value} {T : TypeId} {D : List Ck} (s : Sat w (⟨b, .cells cs T (0, 0), true⟩ :: D)) : Sat (w.setRow b cs') (⟨b, .cells cs' T (0, 0), true⟩ :: D) :=
  s.write (setRow_heap w b cs cs' T (0, 0) (s.holds _ List.mem_cons_self)) (fun k hk => setRow_other w b k cs' hk)
def splice (cs : List Value) (o : Nat) (vs : List Value) : List Value := cs.take o ++ vs ++ cs.drop (o + vs.length)
theorem Hd.storeN {T : TypeId} {x y : Operand} {b o n : Nat} {cs : List Value} {T' : TypeId} {v : Value} {D : List Ck} {K : Next → List Ck → Prop} (hT : szOf P T = some n) (hx : ev l x = some (.pointer (some ⟨b, o, none⟩))) (hy : ev l y = some v)
    (hv : v.cells.size = n) (h1 : ∀ u ∈ v.cells.toList, u.oneCell' = true) (hm : H.Perm (row b cs T' :: D)) (hc : o + n ≤ cs.length) (k : K .skip (row b (splice cs o v.cells.toList) T' :: D)) : Hd P ⟨d, .store T x y, ty, pos, aft, g⟩ l H K := fun a w R kn s => by
  have s' : Sat w (row b cs T' :: (D ++ R)) := s.perm (hm.append_right R)
  have h := s'.holds _ List.mem_cons_self
  have hst := run_storeCells_at P b o T' v.cells.toList 0 cs.toArray w h (by simp; omega) h1
  refine ⟨.skip, _, row b (splice cs o v.cells.toList) T' :: D, ?_, Sat.setRow (cs' := (splice cs o v.cells.toList).toArray) s', kept_setRow _ _ _, k⟩
  simp only [Nat.add_zero] at hst
  have e : (cs.toArray.toList.take o ++ v.cells.toList ++ cs.toArray.toList.drop (o + v.cells.toList.length)).toArray = (splice cs o v.cells.toList).toArray := by simp [splice]
  rw [e] at hst
  simp only [execOp, kn.ev hx, kn.ev hy, Instr.storeAt, Instr.sureAddr, storeVar]
  simp [run_sizeOf hT, hv, hst]
theorem splice_one (cs : List Value) (o : Nat) (v : Value) (h : o < cs.length) : splice cs o [v] = cs.set o v := by
  rw [splice, List.set_eq_take_append_cons_drop, if_pos h]
  simp
theorem Hd.store1 {T : TypeId} {x y : Operand} {b o : Nat} {cs : List Value} {T' : TypeId} {v : Value} {D : List Ck} {K : Next → List Ck → Prop} (hT : szOf P T = some 1) (hx : ev l x = some (.pointer (some ⟨b, o, none⟩))) (hy : ev l y = some v)
    (h1 : v.oneCell' = true) (hm : H.Perm (row b cs T' :: D)) (hc : o < cs.length) (k : K .skip (row b (cs.set o v) T' :: D)) : Hd P ⟨d, .store T x y, ty, pos, aft, g⟩ l H K := by
  have hcells : v.cells = #[v] := by cases v <;> first | rfl | cases h1
  refine Hd.storeN hT hx hy (by rw [hcells]; rfl) (by rw [hcells]; simpa using h1) hm hc ?_
  rw [hcells]
  rw [show (#[v] : Array Value).toList = [v] from rfl, splice_one _ _ _ hc]
  exact k
def zeroOf (P : Program) (t : TypeId) : Option (List Value) := match P.info? t with
  | some i => (match i.zero with | some z => some z.cells.toList | none => none)
  | none => none
theorem run_zeroOf {t : TypeId} {zs : List Value} (h : zeroOf P t = some zs) : ∃ z : Value, z.cells = zs.toArray ∧ ∀ w, (zeroValue t).run P w = .ok z w := by
  unfold zeroOf at h
  split at h
  · rename_i i hi
    split at h
    · rename_i z hz
      simp at h
      exact ⟨z, by rw [← h], fun w => by simp [zeroValue, typeInfo, hi, hz]⟩
    · cases h
  · cases h
theorem Hd.alloc {T : TypeId} {zs : List Value} {K : Next → List Ck → Prop} (hz : zeroOf P T = some zs) (k : ∀ b, K (.value (.pointer (some ⟨b, 0, none⟩))) (row b zs T :: H)) : Hd P ⟨d, .alloc T, ty, pos, aft, g⟩ l H K := fun a w R kn s => by
  obtain ⟨z, hzc, hr⟩ := run_zeroOf hz
  refine ⟨_, _, row w.heap.size zs T :: H, ?_, s.push (.cells zs.toArray T) true, ⟨rfl, rfl, rfl, by simp, by first | exact Nat.le_refl _ | exact Nat.le_succ _⟩, k w.heap.size⟩
  simp [execOp, Instr.alloc, hr, newVar, newRow, hzc]
theorem Hd.box {T : TypeId} {x : Operand} {v : Value} {K : Next → List Ck → Prop} (hx : ev l x = some v) (k : ∀ b, K (.value (.pointer (some ⟨b, 0, none⟩))) (row b v.cells.toList T :: H)) : Hd P ⟨d, .box T x, ty, pos, aft, g⟩ l H K := fun a w R kn s => by
  refine ⟨_, _, row w.heap.size v.cells.toList T :: H, ?_, s.push (.cells v.cells.toList.toArray T) true, ⟨rfl, rfl, rfl, by simp, by first | exact Nat.le_refl _ | exact Nat.le_succ _⟩, k w.heap.size⟩
  simp [execOp, kn.ev hx, Instr.box, newVar, newRow]
def Rs (v : Value) (m : Nat) (xs : List Value) (H : List Ck) : Prop :=
  (∃ ao cap, v = .slice ao 0 cap ∧ m = 0 ∧ xs = []) ∨
  ∃ (b o cap : Nat) (cs : List Value) (T : TypeId) (fr : Nat × Nat) (ex : Bool), v = .slice (some ⟨b, o, none⟩) m cap ∧ m ≤ cap ∧ (⟨b, .cells cs.toArray T fr, ex⟩ : Ck) ∈ H ∧ (cs.drop o).take xs.length = xs
theorem Rs.mono {v : Value} {m : Nat} {xs : List Value} {A B : List Ck} (h : Rs v m xs A) (s : ∀ c ∈ A, c ∈ B) : Rs v m xs B := by
  rcases h with h | ⟨b, o, cap, cs, T, fr, ex, h1, h2, h3, h4⟩
  · exact .inl h
  · exact .inr ⟨b, o, cap, cs, T, fr, ex, h1, h2, s _ h3, h4⟩
theorem Rs.form {v : Value} {m : Nat} {xs : List Value} {A : List Ck} (h : Rs v m xs A) : ∃ ao cap, v = .slice ao m cap ∧ m ≤ cap := by
  rcases h with ⟨ao, cap, rfl, rfl, rfl⟩ | ⟨b, o, cap, cs, T, fr, ex, h1, h2, h3, h4⟩
  · exact ⟨_, _, rfl, Nat.zero_le _⟩
  · exact ⟨_, _, h1, h2⟩
theorem Rs.at {ao : Option Addr} {n c m : Nat} {xs : List Value} {A : List Ck} (h : Rs (.slice ao n c) m xs A) (hne : xs ≠ []) : ∃ (b o : Nat) (cs : Array Value) (T : TypeId) (fr : Nat × Nat) (ex : Bool), ao = some ⟨b, o, none⟩ ∧ (⟨b, .cells cs T fr, ex⟩ : Ck) ∈ A ∧ ∀ i v, xs[i]? = some v → cs[o + i]? = some v := by
  rcases h with ⟨_, _, h, rfl, rfl⟩ | ⟨b, o, cap, cs, T, fr, ex, h1, h2, h3, h4⟩
  · exact absurd rfl hne
  · cases h1
    refine ⟨b, o, cs.toArray, T, fr, ex, rfl, h3, fun i v hv => ?_⟩
    rw [← h4, List.getElem?_take] at hv
    split at hv
    · simpa using hv
    · cases hv
theorem WL.elem {n : Nat} {w0 : World} {R : List Ck} {ops : Array Oper} {Q : Exit → Act → World → Prop} {d1 d2 : Nat} {T e T2 : TypeId} {x y : Operand} {ty1 ty2 : TypeId} {p1 p2 : String} {a1 a2 : Array Edge} {rest : List Oper} {ao : Option Addr} {len c m : Nat} {xs : List Value} {k : IntKind} {i : Nat} {mi : Int} {v : Value}
    (hT : sliceOf P T = some e) (hs : szOf P e = some 1) (hT2 : aggB P T2 = false) (hx : ev l x = some (.slice ao len c)) (hy : ev l y = some (.int k mi)) (hmi : mi = (i : Int)) (hr : Rs (.slice ao len c) m xs H) (hv : xs[i]? = some v) (hlt : i < len) (h1 : Nat.blt d1 n = true) (h2 : Nat.blt d2 n = true)
    (h : ∀ p, WL P n w0 R ops Q rest ((d2, v) :: (d1, p) :: l) H) : WL P n w0 R ops Q (⟨some d1, .indexAddr T x y, ty1, p1, a1, none⟩ :: ⟨some d2, .load T2 (.tmp d1), ty2, p2, a2, none⟩ :: rest) l H := by
  subst hmi
  have hne : xs ≠ [] := fun e => by subst e; simp at hv
  obtain ⟨b, o, cs, T', fr, ex, rfl, hm, hcs⟩ := hr.at hne
  refine WL.y h1 (Yd.indexAddr hT hs hx hy (by omega) (by omega)) ?_
  refine WL.h h2 (Hd.load1 (b := b) (o := o + (i : Int).toNat * 1) (cs := cs.toList) hT2 (by simp [ev, getv_cons]) (by simpa using hm) (by have := hcs i v hv; simpa using this) ⟨v, rfl, h _⟩)
theorem WL.elemN {n : Nat} {w0 : World} {R : List Ck} {ops : Array Oper} {Q : Exit → Act → World → Prop} {d1 d2 j dj : Nat} {b : Bool} {T e T2 : TypeId} {x y : Operand} {ty1 ty2 : TypeId} {p1 p2 : String} {a1 a2 : Array Edge} {rest : List Oper} {ao : Option Addr} {len c m : Nat} {xs : List Value} {k : IntKind} {i : Nat} {mi : Int} {v : Value}
    (hT : sliceOf P T = some e) (hs : szOf P e = some 1) (hT2 : aggB P T2 = false) (hx : ev l x = some (.slice ao len c)) (hy : ev l y = some (.int k mi)) (hmi : mi = (i : Int)) (hr : Rs (.slice ao len c) m xs H) (hv : xs[i]? = some v) (hlt : i < len) (h1 : Nat.blt d1 n = true) (h2 : Nat.blt d2 n = true)
    (hj : (ops[j]?).bind (·.dst) = some dj) (hg : getv l dj = some (.bool b)) (hne : Nat.beq d1 dj = false)
    (h : ∀ p, WL P n w0 R ops Q rest ((d2, v) :: (d1, p) :: l) H) : WL P n w0 R ops Q (⟨some d1, .indexAddr T x y, ty1, p1, a1, some (j, b)⟩ :: ⟨some d2, .load T2 (.tmp d1), ty2, p2, a2, some (j, b)⟩ :: rest) l H := by
  subst hmi
  have hne' : xs ≠ [] := fun e => by subst e; simp at hv
  obtain ⟨bb, o, cs, T', fr, ex, rfl, hm, hcs⟩ := hr.at hne'
  refine WL.gy hj hg h1 (Yd.indexAddr hT hs hx hy (by omega) (by omega)) ?_
  refine WL.gh hj (by rw [getv]; rw [hne]; exact hg) h2 (Hd.load1 (b := bb) (o := o + (i : Int).toNat * 1) (cs := cs.toList) hT2 (by simp [ev, getv_cons]) (by simpa using hm) (by have := hcs i v hv; simpa using this) ⟨v, rfl, h _⟩)
def Own (v : Value) (n : Nat) (xs : List Value) (T : TypeId) (sz : Nat) (C : List Ck) : Prop :=
  (v = .slice none 0 0 ∧ n = 0 ∧ xs = [] ∧ C = []) ∨
  ∃ (b cap : Nat) (extra : List Value), v = .slice (some ⟨b, 0, none⟩) n cap ∧ n ≤ cap ∧ cap ≤ maxLen ∧ xs.length = n * sz ∧ extra.length = (cap - n) * sz ∧ C = [row b (xs ++ extra) T]
theorem Own.len {v : Value} {n : Nat} {xs : List Value} {T : TypeId} {sz : Nat} {C : List Ck} (h : Own v n xs T sz C) : xs.length = n * sz := by
  rcases h with ⟨_, rfl, rfl, _⟩ | ⟨_, _, _, _, _, _, h, _⟩
  · simp
  · exact h
theorem Own.nil (T : TypeId) (sz : Nat) : Own (.slice none 0 0) 0 [] T sz [] := .inl ⟨rfl, rfl, rfl, rfl⟩
theorem Own.rs {v : Value} {n : Nat} {xs : List Value} {T : TypeId} {sz : Nat} {C : List Ck} (h : Own v n xs T sz C) : Rs v n xs C := by
  rcases h with ⟨rfl, rfl, rfl, rfl⟩ | ⟨b, cap, extra, rfl, h1, h2, h3, h4, rfl⟩
  · exact .inl ⟨_, _, rfl, rfl, rfl⟩
  · exact .inr ⟨b, 0, cap, xs ++ extra, T, (0, 0), true, rfl, h1, List.mem_cons_self, by simp⟩
theorem Own.form {v : Value} {n : Nat} {xs : List Value} {T : TypeId} {sz : Nat} {C : List Ck} (h : Own v n xs T sz C) : ∃ ao cap, v = .slice ao n cap ∧ n ≤ cap := h.rs.form
theorem elemInfo_spec {e sz bytes : Nat} {zs : List Value} (h : elemInfo P e = some (sz, zs, bytes)) : ∃ i z, P.info? e = some i ∧ i.zero = some z ∧ i.size = sz ∧ i.bytes = bytes ∧ z.cells.toList = zs := by
  unfold elemInfo at h
  split at h
  · rename_i i hi
    split at h
    · rename_i z hz
      simp at h
      exact ⟨i, z, hi, hz, h.1, h.2.2, h.2.1⟩
    · cases h
  · cases h
theorem Rs.cells {w : World} {u : Value} {m : Nat} {xs : List Value} {A R : List Ck} (h : Rs u m xs A) (s : Sat w (A ++ R)) :
    (∃ ao cap, u = .slice ao 0 cap ∧ m = 0 ∧ xs = []) ∨ ∃ (a : Addr) (c : Nat), u = .slice (some a) m c ∧ ∀ j v, xs[j]? = some v → w.cell? (a.add j) = some v := by
  rcases h with h | ⟨b, o, cap, cs, T, fr, ex, rfl, h2, h3, h4⟩
  · exact .inl h
  · refine .inr ⟨_, _, rfl, fun j v hv => ?_⟩
    rw [add_plain, cell_at (s.holds _ (List.mem_append_left R h3))]
    rw [← h4, List.getElem?_take] at hv
    split at hv
    · simpa using hv
    · cases hv
theorem size_zeroCells' (z : Array Value) (n : Nat) : (Builtin.zeroCells z n).toList.length = n * z.size := by simp [Builtin.zeroCells]
theorem run_append {w : World} {T e sz bytes : Nat} {zs : List Value} {v u : Value} {n m : Nat} {xs news : List Value} {C D : List Ck} {ty : TypeId} (hT : sliceOf P T = some e) (hE : elemInfo P e = some (sz, zs, bytes)) (hz : zs.length = sz) (hsz : 0 < sz)
    (own : Own v n xs e sz C) (src : Rs u m news (C ++ D)) (hl : news.length = m * sz) (h1 : ∀ u ∈ news, u.oneCell' = true) (hmax : n + m ≤ maxLen) (hb : (n + m) * bytes ≤ 140737488355328) (s : Sat w (C ++ D)) :
    ∃ v' w' C', (Builtin.append_ #[T, T] ty #[v, u]).run P w = .ok v' w' ∧ Own v' (n + m) (xs ++ news) e sz C' ∧ Sat w' (C' ++ D) ∧ Kept w w' ∧ (v' = .slice none 0 0 ↔ v = .slice none 0 0 ∧ m = 0) := by
  obtain ⟨i, z, hi, hzr, rfl, rfl, rfl⟩ := elemInfo_spec hE
  have hu := underlying_slice hT
  have hsmall : n + m ≤ 9223372036854775807 := by simp only [maxLen] at hmax; omega
  have hlen : (xs ++ news).length = (n + m) * i.size := by rw [List.length_append, own.len, hl, Nat.add_mul]
  have grown : ∀ (old : Nat), old < n + m →
      Own (.slice (some ⟨w.heap.size, 0, none⟩) (n + m) (grownCap w (n + m) old e)) (n + m) (xs ++ news) e i.size [row w.heap.size ((xs ++ news) ++ (Builtin.zeroCells z.cells (grownCap w (n + m) old e - (n + m))).toList) e] ∧
      Sat (w.drew.alloc (.cells (xs.toArray ++ news.toArray ++ Builtin.zeroCells z.cells (grownCap w (n + m) old e - (n + m))) e)) ([row w.heap.size ((xs ++ news) ++ (Builtin.zeroCells z.cells (grownCap w (n + m) old e - (n + m))).toList) e] ++ D) := by
    intro old ho
    have hge := grownCap_ge w (n + m) old e
    have hcm : grownCap w (n + m) old e ≤ maxLen := grownCap_le_maxLen w (n + m) old e hmax
    refine ⟨.inr ⟨_, _, _, rfl, hge, hcm, hlen, ?_, rfl⟩, ?_⟩
    · rw [size_zeroCells']
      congr 1
    · have := (s.drop).heap (w' := w.drew) rfl
      have h2 := this.push (.cells (xs.toArray ++ news.toArray ++ Builtin.zeroCells z.cells (grownCap w (n + m) old e - (n + m))) e) true
      have e1 : (xs.toArray ++ news.toArray ++ Builtin.zeroCells z.cells (grownCap w (n + m) old e - (n + m))) = (((xs ++ news) ++ (Builtin.zeroCells z.cells (grownCap w (n + m) old e - (n + m))).toList)).toArray := by
        apply Array.ext'
        simp
      rw [e1] at h2 ⊢
      exact h2
  have kg : ∀ o, Kept w (w.drew.alloc o) := fun o => ⟨rfl, rfl, rfl, by simp, by first | exact Nat.le_refl _ | exact Nat.le_succ _⟩
  rcases Rs.cells (R := []) src (by simpa using s) with ⟨uo, uc, rfl, rfl, rfl⟩ | ⟨a, c, rfl, hcells⟩
  · refine ⟨v, w, C, ?_, by simpa using own, s, .refl w, by simp⟩
    obtain ⟨ao, cap, rfl, hc⟩ := own.form
    have hst : ∀ a' : Addr, (storeCells a' []).run P w = .ok () w := fun a' => by simp [storeCells]
    have hld : ∀ a' : Addr, (loadCells a' 0).run P w = .ok #[] w := fun a' => by simp [loadCells, loadCellsFrom]
    cases ao with
    | none => cases uo <;> simp [Builtin.append_, run_underlying hu, sizeOf, typeInfo, hi, Builtin.lenOf, hc, Builtin.firstCells, hld]
    | some a' => cases uo <;> simp [Builtin.append_, run_underlying hu, sizeOf, typeInfo, hi, Builtin.lenOf, hc, Builtin.firstCells, hst, hld]
  · rcases own with ⟨rfl, rfl, rfl, rfl⟩ | ⟨b, cap, extra, rfl, hnc, hcm, hxl, hel, rfl⟩
    · by_cases hm : m = 0
      · subst hm
        have hn : news = [] := List.eq_nil_of_length_eq_zero (by simpa using hl)
        subst hn
        refine ⟨.slice none 0 0, w, [], ?_, Own.nil e i.size, by simpa using s, .refl w, by simp⟩
        simp [Builtin.append_, run_underlying hu, sizeOf, typeInfo, hi, Builtin.lenOf, Builtin.firstCells, loadCells, loadCellsFrom]
      · have hr := run_append_nil (P := P) w T ty e i z hu hi hzr a m c news hl hcells (by omega) (by omega) (by simp only [Nat.zero_add] at hb; omega)
        have hgr := grown 0 (by omega)
        simp only [Nat.zero_add, List.nil_append] at hgr hr ⊢
        refine ⟨_, _, _, hr, hgr.1, ?_, kg _, by simp [hm]⟩
        simpa using hgr.2
    · by_cases hroom : n + m ≤ cap
      · have hg := s.holds _ (List.mem_append_left D List.mem_cons_self)
        have hfit : n * i.size + news.length ≤ (xs ++ extra).toArray.size := by
          simp only [List.size_toArray, List.length_append, hxl, hel, hl, ← Nat.add_mul]
          apply Nat.mul_le_mul_right
          omega
        have hr := run_append_room (P := P) w T ty e i hu hi b n cap _ hg a m c news hl hcells h1 hroom hfit
        have e1 : ((xs ++ extra).toArray.toList.take (n * i.size) ++ news ++ (xs ++ extra).toArray.toList.drop (n * i.size + news.length)) = (xs ++ news) ++ extra.drop news.length := by
          rw [← hxl]
          simp [List.drop_append]
        rw [e1] at hr
        refine ⟨_, _, [row b ((xs ++ news) ++ extra.drop news.length) e], hr, .inr ⟨b, cap, _, rfl, hroom, hcm, hlen, ?_, rfl⟩, Sat.setRow s, kept_setRow _ _ _, by simp⟩
        rw [List.length_drop, hel, hl, ← Nat.sub_mul]
        congr 1
        omega
      · have holds : ∀ j u, xs[j]? = some u → w.cell? ((⟨b, 0, none⟩ : Addr).add j) = some u := fun j u hu => by
          rw [add_plain, cell_at (s.holds _ (List.mem_append_left D List.mem_cons_self))]
          have hj : j < xs.length := (List.getElem?_eq_some_iff.1 hu).1
          simp only [List.getElem?_toArray, Nat.zero_add]
          rw [List.getElem?_append_left hj]
          exact hu
        have hr := run_append_grow (P := P) w T ty e i z hu hi hzr ⟨b, 0, none⟩ n cap xs hxl holds a m c news hl hcells (by omega) (by omega) (growslice_fits (by omega) hb)
        have hgr := grown cap (by omega)
        exact ⟨_, _, _, hr, hgr.1, hgr.2, kg _, by simp⟩
theorem Hd.append {x y : Operand} {T e sz bytes : Nat} {zs : List Value} {v u : Value} {n m : Nat} {xs news : List Value} {C D : List Ck} {K : Next → List Ck → Prop} (hT : sliceOf P T = some e) (hE : elemInfo P e = some (sz, zs, bytes)) (hz : zs.length = sz) (hsz : 0 < sz)
    (hx : ev l x = some v) (hy : ev l y = some u) (own : Own v n xs e sz C) (src : Rs u m news (C ++ D)) (hl : news.length = m * sz) (h1 : ∀ u ∈ news, u.oneCell' = true) (hmax : n + m ≤ maxLen) (hb : (n + m) * bytes ≤ 140737488355328) (hH : H.Perm (C ++ D))
    (k : ∀ v' C', Own v' (n + m) (xs ++ news) e sz C' → (v' = .slice none 0 0 ↔ v = .slice none 0 0 ∧ m = 0) → K (.value v') (C' ++ D)) : Hd P ⟨d, .call ⟨.builtin .append, #[x, y], #[T, T]⟩, ty, pos, aft, g⟩ l H K := fun a w R kn s => by
  have s' : Sat w (C ++ (D ++ R)) := by have := s.perm (hH.append_right R); simpa using this
  obtain ⟨v', w', C', hr, ho, hs', hk, hn⟩ := run_append (ty := ty) (D := D ++ R) hT hE hz hsz own (src.mono fun c hc => by simp at hc ⊢; rcases hc with hc | hc <;> simp [hc]) hl h1 hmax hb s'
  refine ⟨.value v', w', C' ++ D, ?_, by simpa using hs', hk, k v' C' ho hn⟩
  simp [execOp, resolve, invoke, builtin, kn.ev hx, kn.ev hy, hr]
theorem Hd.buildSlice {T e sz len : Nat} {zs : List Value} {parts : List (Nat × Operand)} {vs : List (Nat × Value)} {cells : List Value} {K : Next → List Ck → Prop} (hT : sliceOf P T = some e) (hS : szOf P e = some sz) (hz : zeroOf P e = some zs) (hp : (parts.map fun p => (ev l p.2).map fun v => (p.1, v)) = vs.map some) (hsmall : Nat.ble (len * sz) 16777216 = true)
    (hf : Instr.fill (fun i => some (i * sz, sz)) ((Array.range (len * sz)).map (zs.toArray[· % zs.toArray.size]!)) vs = some cells.toArray)
    (k : ∀ b, K (.value (.slice (some ⟨b, 0, none⟩) len len)) (row b cells e :: H)) : Hd P ⟨d, .buildSlice T len parts.toArray, ty, pos, aft, g⟩ l H K := fun a w R kn s => by
  have hparts : (parts.toArray.map fun (x : Nat × Operand) => (x.1, a.eval x.2)).toList = vs := by
    simp only [List.map_toArray]
    have : ∀ (ps : List (Nat × Operand)) (us : List (Nat × Value)), (ps.map fun p => (ev l p.2).map fun v => (p.1, v)) = us.map some → ps.map (fun x => (x.1, a.eval x.2)) = us := by
      intro ps
      induction ps with
      | nil => intro us h; cases us <;> simp_all
      | cons p r ih =>
        intro us h
        cases us with
        | nil => simp at h
        | cons u us =>
          simp only [List.map_cons, List.cons.injEq] at h ⊢
          refine ⟨?_, ih us h.2⟩
          have h1 := h.1
          cases hev : ev l p.2 with
          | none => simp [hev] at h1
          | some v => simp [hev] at h1; rw [kn.ev hev]; exact h1
    exact this parts vs hp
  obtain ⟨z, hzc, hr⟩ := run_zeroOf hz
  have hle : ¬ (len * sz > 2 ^ 24) := by have := Nat.le_of_ble_eq_true hsmall; simp; omega
  refine ⟨_, _, row w.heap.size cells e :: H, ?_, s.push (.cells cells.toArray e) true, ⟨rfl, rfl, rfl, by simp, by first | exact Nat.le_refl _ | exact Nat.le_succ _⟩, k w.heap.size⟩
  simp only [execOp, Instr.buildSlice, Sem.run_bind, run_underlying (underlying_slice hT), run_sizeOf hS, Result.andThen_ok, hle, if_false, hparts]
  by_cases h0 : len * sz = 0
  · have e0 : (Array.range (len * sz)).map (zs.toArray[· % zs.toArray.size]!) = (Array.range (len * sz)).map ((#[] : Array Value)[· % (#[] : Array Value).size]!) := by rw [h0]; simp
    rw [e0] at hf
    rw [if_pos h0]
    simp only [Sem.run_bind, Sem.run_pure, Result.andThen_ok]
    rw [hf]
    simp [newRow]
  · rw [if_neg h0]
    simp only [Sem.run_bind, Sem.run_pure, Result.andThen_ok, hr, hzc]
    rw [hf]
    simp [newRow]
def bc (l : List (BitVec 8)) : List Value := l.map fun x => .int .u8 x.toNat
theorem bc_length (l : List (BitVec 8)) : (bc l).length = l.length := by simp [bc]
theorem bc_append (a b : List (BitVec 8)) : bc (a ++ b) = bc a ++ bc b := by simp [bc]
theorem bc_take (a : List (BitVec 8)) (k : Nat) : bc (a.take k) = (bc a).take k := by simp [bc]
theorem bc_one (l : List (BitVec 8)) : ∀ u ∈ bc l, u.oneCell' = true := by
  intro u hu
  simp [bc] at hu
  obtain ⟨x, _, rfl⟩ := hu
  rfl
def Bs (v : Value) (l : List (BitVec 8)) (H : List Ck) : Prop := Rs v l.length (bc l) H
theorem Bs.mono {v : Value} {l : List (BitVec 8)} {A B : List Ck} (h : Bs v l A) (s : ∀ c ∈ A, c ∈ B) : Bs v l B := Rs.mono h s
theorem Bs.form {v : Value} {l : List (BitVec 8)} {A : List Ck} (h : Bs v l A) : ∃ ao cap, v = .slice ao l.length cap ∧ l.length ≤ cap := Rs.form h
def Ob (T : TypeId) (v : Value) (l : List (BitVec 8)) (C : List Ck) : Prop := Own v l.length (bc l) T 1 C
theorem Ob.bs {T : TypeId} {v : Value} {l : List (BitVec 8)} {C : List Ck} (h : Ob T v l C) : Bs v l C := Own.rs h
theorem Ob.form {T : TypeId} {v : Value} {l : List (BitVec 8)} {A : List Ck} (h : Ob T v l A) : ∃ ao cap, v = .slice ao l.length cap ∧ l.length ≤ cap := Own.form h
def str (l : List (BitVec 8)) : ByteArray := ⟨(l.map fun x => UInt8.ofNat x.toNat).toArray⟩
theorem foldl_push (l : List (BitVec 8)) : ∀ s : ByteArray, (l.map fun x => (x.toNat : Int)).foldl (fun r n => r.push (UInt8.ofNat n.toNat)) s = ⟨s.data ++ (l.map fun x => UInt8.ofNat x.toNat).toArray⟩ := by
  induction l with
  | nil => intro s; simp
  | cons x l ih =>
    intro s
    simp only [List.map_cons, List.foldl_cons]
    rw [ih]
    simp [ByteArray.push]
theorem Hd.toStr {x : Operand} {S T e : TypeId} {v : Value} {bs : List (BitVec 8)} {K : Next → List Ck → Prop} (hS : sliceOf P S = some e) (he : intOfTy P e = some .u8) (hT : P.underlying T = some .string) (hx : ev l x = some v) (hb : Bs v bs H) (k : K (.value (.string (str bs))) H) :
    Hd P ⟨d, .convert S T x, ty, pos, aft, g⟩ l H K := fun a w R kn s => by
  refine ⟨.value (.string (str bs)), w, H, ?_, s, .refl w, k⟩
  obtain ⟨ao, c, rfl, hc⟩ := hb.form
  have h1 := run_convert_bytes_string w S T e ao bs.length c (underlying_slice hS) (underlying_int he) hT
  have h2 : (Conv.bytesToString (.slice ao bs.length c)).run P w = .ok (.string (str bs)) w := by
    rcases Rs.cells (R := R) hb s with ⟨uo, uc, h3, h4, h5⟩ | ⟨ad, c', h3, h4⟩
    · simp at h3
      obtain ⟨rfl, h5, rfl⟩ := h3
      have : bs = [] := List.eq_nil_of_length_eq_zero h4
      subst this
      have hld : ∀ a' : Addr, (loadCells a' 0).run P w = .ok #[] w := fun a' => by simp [loadCells, loadCellsFrom]
      cases ao <;> simp [Conv.bytesToString, str, hld]
      all_goals rfl
    · cases h3
      have hl := run_loadCells_list (P := P) w ad (bc bs) h4
      rw [bc_length] at hl
      have e1 : (bc bs).toArray = ((bs.map fun x => (x.toNat : Int)).map (Value.int .u8)).toArray := by simp [bc]
      rw [e1] at hl
      rw [run_bytesToString w ad bs.length c (bs.map fun x => (x.toNat : Int)) hl, foldl_push]
      simp [str]
  simp [execOp, kn.ev hx, h1, h2]
theorem Yd.eqlS {T T' : TypeId} {x y : Operand} {s s' : ByteArray} (hx : ev l x = some (.string s)) (hy : ev l y = some (.string s')) : Yd P ⟨d, .binOp .eql T x y T', ty, pos, aft, g⟩ l (.bool (decide (s = s'))) := fun a kn w => by
  have h : (eqGuard .eql T x y (.string s) (.string s')).run P w = .ok () w := by rfl
  have e : (s.toList == s'.toList) = decide (s = s') := by
    by_cases h : s = s'
    · simp [h]
    · have : s.toList ≠ s'.toList := fun e => h (by
        rw [ByteArray.toList_eq, ByteArray.toList_eq] at e
        cases s; cases s'; simp at e; simp [e])
      simp [h, this]
  simp [execOp, kn.ev hx, kn.ev hy, h, binOp, Op.stringOp, e]
theorem Ob.nil (T : TypeId) : Ob T (.slice none 0 0) [] [] := Own.nil T 1
theorem Hd.appendB {x y : Operand} {T e : TypeId} {zs : List Value} {v u : Value} {a b : List (BitVec 8)} {C D : List Ck} {K : Next → List Ck → Prop} (hT : sliceOf P T = some e) (hE : elemInfo P e = some (1, zs, 1)) (hz : zs.length = 1)
    (hx : ev l x = some v) (hy : ev l y = some u) (own : Ob e v a C) (src : Bs u b (C ++ D)) (hmax : a.length + b.length ≤ 140737488355328) (hH : H.Perm (C ++ D))
    (k : ∀ v' C', Ob e v' (a ++ b) C' → (v' = .slice none 0 0 ↔ v = .slice none 0 0 ∧ b.length = 0) → K (.value v') (C' ++ D)) : Hd P ⟨d, .call ⟨.builtin .append, #[x, y], #[T, T]⟩, ty, pos, aft, g⟩ l H K :=
  Hd.append hT hE hz (by omega) hx hy own src (by rw [bc_length]; omega) (bc_one b) (by simp only [maxLen]; omega) (by omega) hH fun v' C' h hn => k v' C' (by
    show Own _ _ _ _ _ _
    rw [List.length_append, bc_append]; exact h) hn
theorem Rs.sub {ao : Option Addr} {n c i j s : Nat} {xs : List Value} {A : List Ck} (h : Rs (.slice ao n c) n xs A) (hl : xs.length = n * s) (h1 : i ≤ j) (h2 : j ≤ n) :
    Rs (.slice (if c = i then ao else ao.map (·.add (i * s))) (j - i) (c - i)) (j - i) ((xs.drop (i * s)).take ((j - i) * s)) A := by
  rcases h with ⟨ao', cap', h, rfl, rfl⟩ | ⟨b, o, cap, cs, T, fr, ex, h3, h4, h5, h6⟩
  · have : j = 0 := by omega
    subst this
    have : i = 0 := by omega
    subst this
    exact .inl ⟨_, _, rfl, rfl, by simp⟩
  · simp at h3
    obtain ⟨rfl, rfl⟩ := h3
    have hlen : ((xs.drop (i * s)).take ((j - i) * s)).length = (j - i) * s := by
      rw [List.length_take, List.length_drop, hl, ← Nat.sub_mul]
      exact Nat.min_eq_left (Nat.mul_le_mul_right _ (by omega))
    by_cases hci : c = i
    · have : j = i := by omega
      subst this
      refine .inr ⟨b, o, c - j, cs, T, fr, ex, by simp [hci], by omega, h5, ?_⟩
      simp
    · refine .inr ⟨b, o + i * s, c - i, cs, T, fr, ex, by simp [hci, add_plain], by omega, h5, ?_⟩
      rw [hlen, ← h6]
      simp only [hl, List.drop_take, List.drop_drop, List.take_take]
      congr 1
      rw [← Nat.sub_mul]
      exact (Nat.min_eq_left (Nat.mul_le_mul_right _ (by omega))).symm
theorem Yd.sliceTo {x y : Operand} {T e s : Nat} {ao : Option Addr} {n c : Nat} {k : IntKind} {m : Int} {j : Nat} (hT : sliceOf P T = some e) (hs : szOf P e = some s) (hx : ev l x = some (.slice ao n c)) (hy : ev l y = some (.int k m)) (hm : m = (j : Int)) (h2 : j ≤ c) :
    Yd P ⟨d, .slice T x none (some y) none, ty, pos, aft, g⟩ l (.slice ao j c) := by
  have h := Yd.slice (P := P) (d := d) (ty := ty) (pos := pos) (aft := aft) (g := g) (lo := none) (hi := some y) (i := 0) (j := j) hT hs hx rfl ⟨k, m, hy, hm⟩ (Nat.zero_le _) h2
  have e1 : (if c = 0 then ao else ao.map (·.add (0 * s))) = ao := by
    split
    · rfl
    · cases ao <;> simp [Addr.add]
  rw [e1] at h
  simpa using h
theorem Rs.upto {ao : Option Addr} {n c j s : Nat} {xs : List Value} {A : List Ck} (h : Rs (.slice ao n c) n xs A) (hl : xs.length = n * s) (h2 : j ≤ n) : Rs (.slice ao j c) j (xs.take (j * s)) A := by
  have h := Rs.sub (i := 0) h hl (Nat.zero_le _) h2
  have e1 : (if c = 0 then ao else ao.map (·.add (0 * s))) = ao := by
    split
    · rfl
    · cases ao <;> simp [Addr.add]
  rw [e1] at h
  simpa using h
theorem Bs.len {ao : Option Addr} {n c : Nat} {bs : List (BitVec 8)} {A : List Ck} (h : Bs (.slice ao n c) bs A) : n = bs.length := by
  obtain ⟨_, _, h1, _⟩ := Bs.form h
  simp at h1
  exact h1.2.1
theorem Bs.upto {ao : Option Addr} {n c j : Nat} {bs : List (BitVec 8)} {A : List Ck} (h : Bs (.slice ao n c) bs A) (h2 : j ≤ n) : Bs (.slice ao j c) (bs.take j) A := by
  have hn := Bs.len h
  subst hn
  have := Rs.upto (s := 1) h (by rw [bc_length]; omega) h2
  have hl : (bs.take j).length = j := by simp; omega
  show Rs _ (bs.take j).length _ _
  rw [hl, bc_take]
  simpa using this
theorem Bs.block {b n cap : Nat} {T : TypeId} {fr : Nat × Nat} {ex : Bool} {bs : List (BitVec 8)} (hn : n = bs.length) (hc : n ≤ cap) (hm : (⟨b, .cells (bc bs).toArray T fr, ex⟩ : Ck) ∈ H) : Bs (.slice (some ⟨b, 0, none⟩) n cap) bs H := by
  subst hn
  exact .inr ⟨b, 0, cap, bc bs, T, fr, ex, rfl, hc, hm, by simp⟩
theorem Hd.buildBytes {T e len : Nat} {parts : List (Nat × Operand)} (bs : List (BitVec 8)) {K : Next → List Ck → Prop} (hT : sliceOf P T = some e) (hS : szOf P e = some 1) (hz : zeroOf P e = some [.int .u8 0]) (hp : (parts.map fun p => (ev l p.2).map fun v => (p.1, v)) = (bs.zipIdx.map fun p => (p.2, Value.int .u8 p.1.toNat)).map some) (hsmall : Nat.ble (len * 1) 16777216 = true)
    (hf : Instr.fill (fun i => some (i * 1, 1)) ((Array.range (len * 1)).map ([Value.int .u8 0].toArray[· % [Value.int .u8 0].toArray.size]!)) (bs.zipIdx.map fun p => (p.2, Value.int .u8 p.1.toNat)) = some (bc bs).toArray)
    (k : ∀ b, K (.value (.slice (some ⟨b, 0, none⟩) len len)) (row b (bc bs) e :: H)) : Hd P ⟨d, .buildSlice T len parts.toArray, ty, pos, aft, g⟩ l H K :=
  Hd.buildSlice hT hS hz hp hsmall hf k
end Go.SL

set_option linter.unusedVariables false
set_option linter.unusedSimpArgs false
namespace Go.SL
variable {P : Program} {l : Sl} {H : List Ck} {d : Option Nat} {ty : TypeId} {pos : String} {aft : Array Edge} {g : Option (Nat × Bool)}
theorem DN.retCF {n : Nat} {w0 : World} {R : List Ck} {fn : Func} {Post : Value → List Ck → Prop} {t T s b : Nat} {cs : List Value} {T' : TypeId} {fr : Nat × Nat} {ex : Bool} (H' : List Ck) (hr : fn.results = #[.cell t T]) (hT : isAggOf P T s = true) (hv : getv l t = some (.pointer (some ⟨b, 0, none⟩)))
    (hm : (⟨b, .cells cs.toArray T' fr, ex⟩ : Ck) ∈ H) (hs : cs.length = s) (hH : H'.Sublist H) (hp : Post (.agg cs.toArray) H') : DN P n w0 R (bodyPost P fn (Back P w0 R Post)) .ret l H := fun a w i => by
  have h := i.sat.holds _ (List.mem_append_left R hm)
  have hl := run_loadCells_list (P := P) w ⟨b, 0, none⟩ cs (fun j v hv => by rw [add_plain, cell_at h]; simpa using hv)
  rw [hs] at hl
  have hv' := i.kn t _ hv
  simp only [Array.getD_eq_getD_getElem?] at hv'
  refine bodyPost_ret (v := .agg cs.toArray) ?_ i.defers ⟨_, H', rfl, hp, i.sat.sublist (hH.append_right R), i.kept⟩
  simp [results, hr, hv', asAddr, loadVar, (run_isAgg_yes hT w).1, (run_isAgg_yes hT w).2, hl]
theorem Hd.build1 {T e : TypeId} {x : Operand} {v z : Value} {K : Next → List Ck → Prop} (hT : sliceOf P T = some e) (hS : szOf P e = some 1) (hz : zeroOf P e = some [z]) (hx : ev l x = some v) (h1 : v.oneCell' = true)
    (k : ∀ b, K (.value (.slice (some ⟨b, 0, none⟩) 1 1)) (row b [v] e :: H)) : Hd P ⟨d, .buildSlice T 1 #[(0, x)], ty, pos, aft, g⟩ l H K := by
  have hc : v.cells = #[v] := by cases v <;> first | rfl | cases h1
  refine Hd.buildSlice (parts := [(0, x)]) (vs := [(0, v)]) (cells := [v]) hT hS hz (by simp [hx]) rfl ?_ k
  have h01 : Array.range 1 = #[0] := rfl
  simp [Instr.fill, hc, h01]
theorem bc_set (l : List (BitVec 8)) (i : Nat) (x : BitVec 8) : (bc l).set i (.int .u8 x.toNat) = bc (l.set i x) := by simp [bc, List.map_set]
theorem bc_getD {l : List (BitVec 8)} {i : Nat} (h : i < l.length) : (bc l)[i]? = some (.int .u8 (l.getD i 0#8).toNat) := by simp [bc, h]
theorem set_front {α : Type} (a b : List α) (i : Nat) (x : α) (h : i < a.length) : (a ++ b).set i x = a.set i x ++ b := by rw [List.set_append_left _ _ h]
def ic (l : List Int) : List Value := l.map (Value.int .i64)
theorem ic_length (l : List Int) : (ic l).length = l.length := by simp [ic]
theorem ic_getD {l : List Int} {i : Nat} (h : i < l.length) : (ic l)[i]? = some (.int .i64 (l.getD i 0)) := by simp [ic, h]
end Go.SL

set_option linter.unusedVariables false
set_option linter.unusedSimpArgs false
namespace Go.SL
variable {P : Program} {l : Sl} {H : List Ck} {d : Option Nat} {ty : TypeId} {pos : String} {aft : Array Edge} {g : Option (Nat × Bool)}
def placesOf (P : Program) (t : TypeId) : Option (List (Nat × Nat)) := match P.underlying t with
  | some (.struct fs) => fs.toList.mapM fun f => (szOf P f.type).map fun n => (f.offset, n)
  | _ => none
theorem run_places {w : World} : ∀ (fs : List Field) (pl : List (Nat × Nat)), (fs.mapM fun f => (szOf P f.type).map fun n => (f.offset, n)) = some pl →
    (fs.mapM (m := Sem) fun f => do pure (f.offset, ← sizeOf f.type)).run P w = .ok pl w := by
  intro fs
  induction fs with
  | nil => intro pl h; simp at h; subst h; simp
  | cons f r ih =>
    intro pl h
    simp only [List.mapM_cons] at h ⊢
    cases hs : szOf P f.type with
    | none => simp [hs] at h
    | some n =>
      cases hr : (r.mapM fun f => (szOf P f.type).map fun n => (f.offset, n)) with
      | none => simp [hs, hr] at h
      | some pr =>
        simp [hs, hr] at h
        subst h
        have h1 := ih pr hr
        simp only [Sem.run_bind, run_sizeOf hs, Result.andThen_ok, Sem.run_pure, h1]
theorem Yd.build {T : TypeId} {zs : List Value} {pl : List (Nat × Nat)} {parts : List (Nat × Operand)} {vs : List (Nat × Value)} {cells : List Value} (hP : placesOf P T = some pl) (hz : zeroOf P T = some zs) (hp : (parts.map fun p => (ev l p.2).map fun v => (p.1, v)) = vs.map some)
    (hf : Instr.fill (pl.toArray[·]?) zs.toArray vs = some cells.toArray) : Yd P ⟨d, .build T parts.toArray, ty, pos, aft, g⟩ l (.agg cells.toArray) := fun a kn w => by
  have hparts : (parts.toArray.map fun (x : Nat × Operand) => (x.1, a.eval x.2)).toList = vs := by
    simp only [List.map_toArray]
    have : ∀ (ps : List (Nat × Operand)) (us : List (Nat × Value)), (ps.map fun p => (ev l p.2).map fun v => (p.1, v)) = us.map some → ps.map (fun x => (x.1, a.eval x.2)) = us := by
      intro ps
      induction ps with
      | nil => intro us h; cases us <;> simp_all
      | cons p r ih =>
        intro us h
        cases us with
        | nil => simp at h
        | cons u us =>
          simp only [List.map_cons, List.cons.injEq] at h ⊢
          refine ⟨?_, ih us h.2⟩
          have h1 := h.1
          cases hev : ev l p.2 with
          | none => simp [hev] at h1
          | some v => simp [hev] at h1; rw [kn.ev hev]; exact h1
    exact this parts vs hp
  obtain ⟨z, hzc, hr⟩ := run_zeroOf hz
  unfold placesOf at hP
  split at hP
  · rename_i fs hu
    have h1 := run_places (w := w) _ _ hP
    have h2 : (fs.mapM (m := Sem) fun f => do pure (f.offset, ← sizeOf f.type)).run P w = .ok pl.toArray w := by
      rw [Array.mapM_eq_mapM_toList]
      simp only [map_eq_pure_bind, Sem.run_bind, h1, Result.andThen_ok, Sem.run_pure]
    simp only [execOp, Instr.build, Sem.run_bind, hr w, Result.andThen_ok, run_underlying hu, h2, hparts, hzc, hf]
    simp
  · cases hP
theorem Ob.block {T : TypeId} (b : Nat) (bs : List (BitVec 8)) (h : bs.length ≤ maxLen) : Ob T (.slice (some ⟨b, 0, none⟩) bs.length bs.length) bs [row b (bc bs) T] :=
  .inr ⟨b, bs.length, [], rfl, Nat.le_refl _, h, by rw [bc_length]; omega, by simp, by simp⟩
theorem Ob.one_cell {T : TypeId} {v : Value} {l : List (BitVec 8)} {C : List Ck} (h : Ob T v l C) : v.oneCell' = true := by
  obtain ⟨_, _, rfl, _⟩ := h.form; rfl
end Go.SL

set_option linter.unusedVariables false
set_option linter.unusedSimpArgs false
namespace Go.SL
variable {P : Program} {l : Sl} {H : List Ck} {d : Option Nat} {ty : TypeId} {pos : String} {aft : Array Edge} {g : Option (Nat × Bool)}
theorem unwanted_undef {ops : Array Oper} {d : Option Nat} {j dj : Nat} {b : Bool} {op : Op} {tmps : Array Value} (hj : (ops[j]?).bind (·.dst) = some dj) (hv : tmps.getD dj undef = undef) :
    Region.wanted ⟨d, op, ty, pos, aft, some (j, b)⟩ (yielded ops tmps) = false := by
  simp only [Region.wanted, yielded]
  cases ho : ops[j]? with
  | none => simp
  | some oj =>
    simp [ho] at hj
    simp only [Array.getD_eq_getD_getElem?] at hv
    cases ht : tmps[dj]? with
    | none => simp [hj, ht]
    | some u =>
      rw [ht] at hv
      simp at hv
      subst hv
      simp [hj, ht, undef]
theorem WL.gu {n : Nat} {w0 : World} {R : List Ck} {ops : Array Oper} {Q : Exit → Act → World → Prop} {dd j : Nat} {b : Bool} {dj : Nat} {op : Op} {rest : List Oper} (hj : (ops[j]?).bind (·.dst) = some dj) (hg : getv l dj = some undef)
    (hd : Nat.blt dd n = true) (h : WL P n w0 R ops Q rest ((dd, undef) :: l) H) : WL P n w0 R ops Q (⟨some dd, op, ty, pos, aft, some (j, b)⟩ :: rest) l H := by
  intro a w i
  refine wpList_step fun K hK => ?_
  have hw : Region.wanted ⟨some dd, op, ty, pos, aft, some (j, b)⟩ (yielded ops a.tmps) = false := unwanted_undef hj (i.kn dj _ hg)
  rw [hw]
  exact hK _ _ (h _ _ (i.put hd undef))
theorem WL.h0 {n : Nat} {w0 : World} {R : List Ck} {ops : Array Oper} {Q : Exit → Act → World → Prop} {op : Op} {rest : List Oper}
    (hh : Hd P ⟨none, op, ty, pos, aft, none⟩ l H fun r H' => ∃ v, r = .value v ∧ WL P n w0 R ops Q rest l H') : WL P n w0 R ops Q (⟨none, op, ty, pos, aft, none⟩ :: rest) l H := by
  intro a w i
  obtain ⟨r, w', H', hr, hs, hk, v, rfl, hw⟩ := hh a w R i.kn i.sat
  exact wpList_value rfl hr (hw _ _ ⟨i.size, i.defers, i.kn, hs, i.kept.trans hk⟩)
theorem WL.elemA {n : Nat} {w0 : World} {R : List Ck} {ops : Array Oper} {Q : Exit → Act → World → Prop} {d1 d2 s : Nat} {T e T2 : TypeId} {x y : Operand} {ty1 ty2 : TypeId} {p1 p2 : String} {a1 a2 : Array Edge} {rest : List Oper} {ao : Option Addr} {len c m : Nat} {xs vs : List Value} {k : IntKind} {i : Nat} {mi : Int}
    (hT : sliceOf P T = some e) (hs : szOf P e = some s) (hT2 : isAggOf P T2 s = true) (hx : ev l x = some (.slice ao len c)) (hy : ev l y = some (.int k mi)) (hmi : mi = (i : Int)) (hr : Rs (.slice ao len c) m xs H) (hv : (xs.drop (i * s)).take s = vs) (hvs : vs.length = s) (hs0 : 0 < s) (hlt : i < len) (h1 : Nat.blt d1 n = true) (h2 : Nat.blt d2 n = true)
    (h : ∀ p, WL P n w0 R ops Q rest ((d2, .agg vs.toArray) :: (d1, p) :: l) H) : WL P n w0 R ops Q (⟨some d1, .indexAddr T x y, ty1, p1, a1, none⟩ :: ⟨some d2, .load T2 (.tmp d1), ty2, p2, a2, none⟩ :: rest) l H := by
  subst hmi
  have h8 : vs.length = min s (xs.length - i * s) := by rw [← hv, List.length_take, List.length_drop]
  have hne : xs ≠ [] := fun e => by
    rw [e] at h8
    simp only [List.length_nil, Nat.zero_sub, Nat.min_zero, Nat.le_zero_eq] at h8
    omega
  rcases hr with ⟨ao', cap', _, _, e0⟩ | ⟨b, o, cap, cs, T', fr, ex, hsl, hc, hm, hcs⟩
  · exact absurd e0 hne
  simp only [Value.slice.injEq] at hsl
  obtain ⟨rfl, rfl, rfl⟩ := hsl
  have hlen : i * s + s ≤ xs.length := by omega
  have hcl : o + xs.length ≤ cs.length := by
    have := congrArg List.length hcs
    rw [List.length_take, List.length_drop] at this
    by_cases h0 : xs.length = 0
    · exact absurd (List.eq_nil_of_length_eq_zero h0) hne
    · omega
  refine WL.y h1 (Yd.indexAddr hT hs hx hy (by omega) (by omega)) ?_
  refine WL.h h2 (Hd.loadA (n := s) (b := b) (o := o + (i : Int).toNat * s) (cs := cs) (vs := vs) hT2 (by simp [ev, getv_cons]) hm hvs ?_ ⟨_, rfl, h _⟩)
  rw [← hv, Int.toNat_natCast]
  rw [← hcs, List.drop_take, List.take_take, List.drop_drop]
  congr 1
  omega
end Go.SL

set_option linter.unusedVariables false
set_option linter.unusedSimpArgs false
namespace Go.SL
variable {P : Program} {l : Sl} {H : List Ck} {d : Option Nat} {ty : TypeId} {pos : String} {aft : Array Edge} {g : Option (Nat × Bool)}
structure Fr (H : List Ck) (x : Ck) (D : List Ck) : Prop where
  p : H.Perm (x :: D)
structure Sp (H C D : List Ck) : Prop where
  p : H.Perm (C ++ D)
theorem Fr.here {x : Ck} {D : List Ck} : Fr (x :: D) x D := ⟨List.Perm.refl _⟩
theorem Fr.fc {x y : Ck} {H D : List Ck} (h : Fr H x D) : Fr (y :: H) x (y :: D) := ⟨(List.Perm.cons y h.p).trans (List.Perm.swap x y D)⟩
theorem Fr.fa {x : Ck} {A H D : List Ck} (h : Fr H x D) : Fr (A ++ H) x (A ++ D) := ⟨(List.Perm.append_left A h.p).trans List.perm_middle⟩
theorem Fr.al {x : Ck} {A B H D : List Ck} (h : Fr (A ++ (B ++ H)) x D) : Fr ((A ++ B) ++ H) x D := ⟨by rw [List.append_assoc]; exact h.p⟩
theorem Sp.here {C D : List Ck} : Sp (C ++ D) C D := ⟨List.Perm.refl _⟩
theorem Sp.sn {H : List Ck} : Sp H H [] := ⟨by rw [List.append_nil]⟩
theorem Sp.s0 {H : List Ck} : Sp H [] H := ⟨List.Perm.refl _⟩
theorem Sp.sc {y : Ck} {A H D : List Ck} (h : Sp H A D) : Sp (y :: H) A (y :: D) := ⟨(List.Perm.cons y h.p).trans (List.perm_middle).symm⟩
theorem Sp.sa {A B H D : List Ck} (h : Sp H A D) : Sp (B ++ H) A (B ++ D) := ⟨by
  refine (List.Perm.append_left B h.p).trans ?_
  rw [← List.append_assoc, ← List.append_assoc]
  exact List.Perm.append_right D List.perm_append_comm⟩
theorem Sp.sx {x : Ck} {C H H1 D : List Ck} (h : Fr H x H1) (h' : Sp H1 C D) : Sp H (x :: C) D := ⟨h.p.trans (List.Perm.cons x h'.p)⟩
theorem Sp.s2 {A B H H1 D : List Ck} (h : Sp H A H1) (h' : Sp H1 B D) : Sp H (A ++ B) D := ⟨by
  rw [List.append_assoc]
  exact h.p.trans (List.Perm.append_left A h'.p)⟩
theorem Sp.al {A B H C D : List Ck} (h : Sp (A ++ (B ++ H)) C D) : Sp ((A ++ B) ++ H) C D := ⟨by rw [List.append_assoc]; exact h.p⟩
theorem Sp.all {H C : List Ck} (h : Sp H C []) : H.Perm C := by simpa using h.p
def Gr (A B : List Ck) : Prop := ∀ c ∈ A, c ∈ B
theorem Gr.refl {A : List Ck} : Gr A A := fun _ h => h
theorem Gr.cons {A B : List Ck} {x : Ck} (h : Gr A B) : Gr A (x :: B) := fun c hc => List.mem_cons_of_mem _ (h c hc)
theorem Gr.app {A B D : List Ck} (h : Gr A B) : Gr A (D ++ B) := fun c hc => List.mem_append_right _ (h c hc)
theorem Gr.left {A B D : List Ck} (h : Gr A B) : Gr A (B ++ D) := fun c hc => List.mem_append_left _ (h c hc)
theorem foldl_set (vs : List Value) (o : Nat) : ∀ (k : Nat) (cs : List Value), o + k + vs.length ≤ cs.length →
    ((vs.zipIdx k).foldl (fun (cs : Array Value) (p : Value × Nat) => cs.setIfInBounds (o + p.2) p.1) cs.toArray) = (cs.take (o + k) ++ (vs ++ cs.drop (o + k + vs.length))).toArray := by
  induction vs with
  | nil => intro k cs h; simp
  | cons v vs ih =>
    intro k cs h
    simp only [List.length_cons] at h
    simp only [List.zipIdx_cons, List.foldl_cons, List.setIfInBounds_toArray]
    obtain ⟨A, x, B, rfl, hA⟩ : ∃ A x B, cs = A ++ x :: B ∧ A.length = o + k := ⟨cs.take (o + k), cs[o + k], cs.drop (o + k + 1), by rw [← List.drop_eq_getElem_cons (by omega), List.take_append_drop], by simp; omega⟩
    rw [ih (k + 1) _ (by simp at h ⊢; omega)]
    have e : (A ++ x :: B).set (o + k) v = A ++ v :: B := by rw [← hA]; simp
    rw [e, show o + (k + 1) = A.length + 1 by omega, show o + k = A.length by omega, show A.length + 1 + vs.length = A.length + (vs.length + 1) by omega]
    have e3 : List.take (A.length + 1) (A ++ v :: B) = A ++ [v] := by rw [List.take_length_add_append]; rfl
    rw [e3]
    simp [List.length_cons]
variable {K : Next → List Ck → Prop}
theorem Hd.loadAll {T : TypeId} {x : Operand} {b n : Nat} {cs : List Value} {T' : TypeId} {fr : Nat × Nat} {ex : Bool} (hT : isAggOf P T n = true) (hx : ev l x = some (.pointer (some ⟨b, 0, none⟩)))
    (hm : (⟨b, .cells cs.toArray T' fr, ex⟩ : Ck) ∈ H) (hn : cs.length = n) (k : K (.value (.agg cs.toArray)) H) : Hd P ⟨d, .load T x, ty, pos, aft, g⟩ l H K :=
  Hd.loadA hT hx hm hn (by subst hn; simp) k
theorem Hd.boxA {T : TypeId} {x : Operand} {vs : List Value} (hx : ev l x = some (.agg vs.toArray)) (k : ∀ b, K (.value (.pointer (some ⟨b, 0, none⟩))) (row b vs T :: H)) : Hd P ⟨d, .box T x, ty, pos, aft, g⟩ l H K :=
  Hd.box hx fun b => k b
theorem Hd.store1s {T : TypeId} {x y : Operand} {b o : Nat} {cs cs' : List Value} {T' : TypeId} {v : Value} {D : List Ck} (hT : szOf P T = some 1) (hx : ev l x = some (.pointer (some ⟨b, o, none⟩))) (hy : ev l y = some v)
    (h1 : v.oneCell' = true) (hm : Fr H (row b cs T') D) (hc : Nat.blt o cs.length = true) (he : cs.set o v = cs') (k : K .skip (row b cs' T' :: D)) : Hd P ⟨d, .store T x y, ty, pos, aft, g⟩ l H K := by
  subst he
  exact Hd.store1 hT hx hy h1 hm.p (by simpa using hc) k
theorem Hd.storeAll {T : TypeId} {x y : Operand} {b n : Nat} {cs vs : List Value} {T' : TypeId} {D : List Ck} (hT : szOf P T = some n) (hx : ev l x = some (.pointer (some ⟨b, 0, none⟩))) (hy : ev l y = some (.agg vs.toArray))
    (hn : vs.length = n) (h1 : ∀ u ∈ vs, u.oneCell' = true) (hm : Fr H (row b cs T') D) (hc : cs.length = n) (k : K .skip (row b vs T' :: D)) : Hd P ⟨d, .store T x y, ty, pos, aft, g⟩ l H K := by
  subst hn
  refine Hd.storeN hT hx hy (by simp [Value.cells]) (by simpa [Value.cells] using h1) hm.p (by omega) ?_
  have : splice cs 0 (Value.agg vs.toArray).cells.toList = vs := by simp [splice, Value.cells, ← hc]
  rw [this]
  exact k
theorem Hd.buildA {T e sz : TypeId} {zs : List Value} {x : Operand} {vs : List Value} (hT : sliceOf P T = some e) (hS : szOf P e = some sz) (hz : zeroOf P e = some zs) (hzl : zs.length = sz) (hx : ev l x = some (.agg vs.toArray)) (hn : vs.length = sz) (hs : Nat.ble (1 * sz) 16777216 = true)
    (k : ∀ b, K (.value (.slice (some ⟨b, 0, none⟩) 1 1)) (row b vs e :: H)) : Hd P ⟨d, .buildSlice T 1 #[(0, x)], ty, pos, aft, g⟩ l H K := by
  refine Hd.buildSlice (parts := [(0, x)]) (vs := [(0, .agg vs.toArray)]) (cells := vs) hT hS hz (by simp [hx]) hs ?_ k
  subst hzl
  have hc : (Value.agg vs.toArray).cells = vs.toArray := rfl
  have hf := foldl_set vs 0 0 ((List.range zs.length).map fun i => zs[i % zs.length]!) (by simp [hn])
  simp only [Nat.zero_add, List.take_zero, List.nil_append, hn] at hf
  rw [List.drop_eq_nil_of_le (by simp), List.append_nil] at hf
  have e1 : (Array.range (1 * zs.length)).map (zs.toArray[· % zs.toArray.size]!) = ((List.range zs.length).map fun i => zs[i % zs.length]!).toArray := by
    apply Array.ext'
    simp [Array.toList_range]
  have e2 : vs.toArray.zipIdx = (vs.zipIdx 0).toArray := by apply Array.ext'; simp
  simp only [Instr.fill, hc, e1]
  rw [if_neg (by simp [hn])]
  simp only [Nat.zero_mul, Nat.zero_add]
  rw [e2, List.foldl_toArray, hf]
theorem Hd.appendRow {x y : Operand} {T e sz bytes : Nat} {zs : List Value} {v : Value} {n rb : Nat} {xs vs : List Value} {C D : List Ck} (hT : sliceOf P T = some e) (hE : elemInfo P e = some (sz, zs, bytes)) (hz : zs.length = sz) (hsz : 0 < sz)
    (hx : ev l x = some v) (hy : ev l y = some (.slice (some ⟨rb, 0, none⟩) 1 1)) (own : Own v n xs e sz C) (hH : Sp H C D) (hm : row rb vs e ∈ D) (hl : vs.length = sz) (h1 : ∀ u ∈ vs, u.oneCell' = true) (hmax : n + 1 ≤ maxLen) (hb : (n + 1) * bytes ≤ 140737488355328)
    (k : ∀ v' C', Own v' (n + 1) (xs ++ vs) e sz C' → K (.value v') (C' ++ D)) : Hd P ⟨d, .call ⟨.builtin .append, #[x, y], #[T, T]⟩, ty, pos, aft, g⟩ l H K :=
  Hd.append hT hE hz hsz hx hy own (m := 1) (news := vs) (.inr ⟨rb, 0, 1, vs, e, (0, 0), true, rfl, Nat.le_refl _, List.mem_append_right _ hm, by simp⟩) (by omega) h1 hmax hb hH.p fun v' C' h _ => k v' C' h
def fillL : List (Nat × Nat) → List Value → List (Nat × Value) → Option (List Value)
  | _, cs, [] => some cs
  | pl, cs, (i, v) :: r => match pl[i]? with
    | none => none
    | some (o, n) => if v.cells.toList.length = n ∧ o + n ≤ cs.length then fillL pl (cs.take o ++ (v.cells.toList ++ cs.drop (o + n))) r else none
theorem fill_of_fillL (pl : List (Nat × Nat)) : ∀ (vs : List (Nat × Value)) (cs r : List Value), fillL pl cs vs = some r → Instr.fill (pl.toArray[·]?) cs.toArray vs = some r.toArray
  | [], cs, r, h => by simp [fillL] at h; simp [Instr.fill, h]
  | (i, v) :: vs, cs, r, h => by
    simp only [fillL] at h
    cases hp : pl[i]? with
    | none => simp [hp] at h
    | some on =>
      obtain ⟨o, n⟩ := on
      simp only [hp] at h
      split at h
      · rename_i hc
        obtain ⟨h1, h2⟩ := hc
        have h1' : v.cells.size = n := by simpa using h1
        have ih := fill_of_fillL pl vs _ r h
        simp only [List.getElem?_toArray] at ih
        simp only [Instr.fill, List.getElem?_toArray, hp]
        rw [if_neg (by simp [h1']; omega)]
        have hf := foldl_set v.cells.toList o 0 cs (by omega)
        have hz : v.cells.zipIdx = (v.cells.toList.zipIdx 0).toArray := by apply Array.ext'; simp
        rw [hz]
        simp only [List.foldl_toArray]
        rw [hf, Nat.add_zero, h1]
        exact ih
      · cases h
theorem Yd.buildL {T : TypeId} {zs : List Value} {pl : List (Nat × Nat)} {parts : List (Nat × Operand)} {vs : List (Nat × Value)} {cells : List Value} (hP : placesOf P T = some pl) (hz : zeroOf P T = some zs) (hp : (parts.map fun p => (ev l p.2).map fun v => (p.1, v)) = vs.map some)
    (hf : fillL pl zs vs = some cells) : Yd P ⟨d, .build T parts.toArray, ty, pos, aft, g⟩ l (.agg cells.toArray) :=
  Yd.build hP hz hp (fill_of_fillL _ _ _ _ hf)
variable {n : Nat} {w0 : World} {R : List Ck} {ops : Array Oper} {Q : Exit → Act → World → Prop}
theorem WL.rf {d : Nat} {op : Op} {ty : TypeId} {pos : String} {aft : Array Edge} {rest : List Oper} {f : FuncId} {args : List Value} {C D : List Ck} {v : Value} (hd : Nat.blt d n = true)
    (he : Ent P ⟨some d, op, ty, pos, aft, none⟩ l f args) (hs : Reads P f args C v) (hH : Sp H C D) (h : WL P n w0 R ops Q rest ((d, v) :: l) H) : WL P n w0 R ops Q (⟨some d, op, ty, pos, aft, none⟩ :: rest) l H :=
  WL.c hd he hs hH.p fun v' C' ⟨h1, h2⟩ => by subst h1 h2; exact WL.blocks H hH.p.symm h
theorem WL.grf {d j : Nat} {b : Bool} {dj : Nat} {op : Op} {ty : TypeId} {pos : String} {aft : Array Edge} {rest : List Oper} {f : FuncId} {args : List Value} {C D : List Ck} {v : Value} (hj : (ops[j]?).bind (·.dst) = some dj) (hg : getv l dj = some (.bool b)) (hd : Nat.blt d n = true)
    (he : Ent P ⟨some d, op, ty, pos, aft, some (j, b)⟩ l f args) (hs : Reads P f args C v) (hH : Sp H C D) (h : WL P n w0 R ops Q rest ((d, v) :: l) H) : WL P n w0 R ops Q (⟨some d, op, ty, pos, aft, some (j, b)⟩ :: rest) l H :=
  WL.gc hj hg hd he hs hH.p fun v' C' ⟨h1, h2⟩ => by subst h1 h2; exact WL.blocks H hH.p.symm h
theorem WO.rf {fuel : Nat} {listed : Array Bool} {g : Option (Nat × Bool)} {i d : Nat} {op : Op} {ty : TypeId} {pos : String} {aft : Array Edge} {f : FuncId} {args : List Value} {C D : List Ck} {v : Value} (hi : ops[i]? = some ⟨some d, op, ty, pos, aft, g⟩) (hw : Wt ops l ⟨some d, op, ty, pos, aft, g⟩) (hd : Nat.blt d n = true)
    (he : Ent P ⟨some d, op, ty, pos, aft, g⟩ l f args) (hs : Reads P f args C v) (hH : Sp H C D) (h : WA P n w0 R ops Q fuel (listed.setIfInBounds i true) ((d, v) :: l) H) : WO P n w0 R ops Q fuel listed i l H :=
  WO.c hi hw hd he hs hH.p fun v' C' ⟨h1, h2⟩ => by subst h1 h2; exact WA.blocks H hH.p.symm h
theorem WA.part {fuel : Nat} {listed : Array Bool} {t : Nat} {b : Bool} (ht : getv l t = some (.bool b)) (h1 : b = true → WA P n w0 R ops Q fuel listed ((t, .bool true) :: l) H) (h2 : b = false → WA P n w0 R ops Q fuel listed ((t, .bool false) :: l) H) : WA P n w0 R ops Q fuel listed l H := by
  cases b with
  | true => exact WA.renamed ht rfl (h1 rfl)
  | false => exact WA.renamed ht rfl (h2 rfl)
theorem WA.partP {fuel : Nat} {listed : Array Bool} {t : Nat} {p : Prop} [Decidable p] (ht : getv l t = some (.bool (decide p))) (h1 : p → WA P n w0 R ops Q fuel listed ((t, .bool true) :: l) H) (h2 : ¬ p → WA P n w0 R ops Q fuel listed ((t, .bool false) :: l) H) : WA P n w0 R ops Q fuel listed l H :=
  WA.part ht (fun e => h1 (of_decide_eq_true e)) (fun e => h2 (of_decide_eq_false e))
def Sx (ks : List Nat) (l r : Sl) : Prop := ∀ t v, ks.contains t = false → getv r t = some v → getv l t = some v
theorem Sx.refl {ks : List Nat} {l : Sl} : Sx ks l l := fun _ _ _ h => h
theorem Sx.skip {ks : List Nat} {l r : Sl} {d : Nat} {v : Value} (hk : (ks.contains d || (getv r d).isNone) = true) (h : Sx ks l r) : Sx ks ((d, v) :: l) r := fun t u hc hr => by
  rw [getv_cons]
  by_cases e : d = t
  · subst e
    rw [hc, hr] at hk
    cases hk
  · rw [if_neg e]
    exact h t u hc hr
theorem Sx.put {ks : List Nat} {l r : Sl} {d : Nat} {v : Value} (hv : getv l d = some v) (h : Sx (d :: ks) l r) : Sx ks l ((d, v) :: r) := fun t u hc hr => by
  rw [getv_cons] at hr
  by_cases e : d = t
  · subst e
    rw [if_pos rfl] at hr
    cases hr
    exact hv
  · rw [if_neg e] at hr
    exact h t u (by
      simp only [List.contains_cons, Bool.or_eq_false_iff] at *
      exact ⟨by simp; omega, hc⟩) hr
theorem At.sx {r : Sl} {a : Act} {w : World} (h : At P n w0 R l H a w) (s : Sx [] l r) : At P n w0 R r H a w := ⟨h.size, h.defers, fun t v hv => h.kn t v (s t v rfl hv), h.sat, h.kept⟩
theorem WC.loopK {α : Type} (I : α → Prop) (S : α → Sl) (K : α → List Ck) (μ : α → Nat) {c : Code} (x0 : α) (h0 : I x0) (hl : Sx [] l (S x0 ++ l)) (hH : H.Perm (K x0))
    (round : ∀ x, I x → WC P n w0 R (Exit.then (Again P n w0 R I (fun x => S x ++ l) K μ (μ x)) Q) c (S x ++ l) (K x)) : WC P n w0 R Q (.loop c) l H :=
  WC.loopG I (fun x => S x ++ l) K μ x0 h0 (fun _ _ i => (i.sx hl).perm hH) round
theorem DN.againK {α : Type} {I : α → Prop} {S : α → Sl} {l0 : Sl} {K : α → List Ck} {μ : α → Nat} {m : Nat} (z : α) (hz : I z) (hm : μ z < m) (hl : Sx [] l (S z ++ l0)) (hH : H.Perm (K z)) :
    DN P n w0 R (Exit.then (Again P n w0 R I (fun x => S x ++ l0) K μ m) Q) .normal l H := fun _ _ i => ⟨z, hz, hm, (i.sx hl).perm hH⟩
theorem WC.cutK {α : Type} (I : α → Prop) (S : α → Sl) (K : α → List Ck) {x y : Code} (h : WC P n w0 R (Exit.then (Reach P n w0 R I (fun x => S x ++ l) K) Q) x l H) (h' : ∀ z, I z → WC P n w0 R Q y (S z ++ l) (K z)) :
    WC P n w0 R Q (.seq x y) l H := WC.cut I (fun x => S x ++ l) K h h'
theorem DN.reachK {α : Type} {I : α → Prop} {S : α → Sl} {l0 : Sl} {K : α → List Ck} (z : α) (hz : I z) (hl : Sx [] l (S z ++ l0)) (hH : H.Perm (K z)) :
    DN P n w0 R (Exit.then (Reach P n w0 R I (fun x => S x ++ l0) K) Q) .normal l H := fun _ _ i => ⟨z, hz, (i.sx hl).perm hH⟩
end Go.SL

set_option linter.unusedVariables false
set_option linter.unusedSimpArgs false
namespace Go.SL
variable {P : Program} {l : Sl} {H : List Ck} {d : Option Nat} {ty : TypeId} {pos : String} {aft : Array Edge} {g : Option (Nat × Bool)} {K : Next → List Ck → Prop}
theorem Hd.rangeS {T : TypeId} {x : Operand} {s : ByteArray} (hT : P.underlying T = some .string) (hx : ev l x = some (.string s)) (k : ∀ b, K (.value (.pointer (some ⟨b, 0, none⟩))) (⟨b, .stringIter s 0, true⟩ :: H)) :
    Hd P ⟨d, .range T x, ty, pos, aft, g⟩ l H K := fun a w R kn st => by
  refine ⟨_, _, ⟨w.heap.size, .stringIter s 0, true⟩ :: H, ?_, st.push (.stringIter s 0) true, ⟨rfl, rfl, rfl, by simp, Nat.le_refl _⟩, k w.heap.size⟩
  simp [execOp, kn.ev hx, Instr.range, run_underlying hT]
theorem Hd.nextS {x : Operand} {b p : Nat} {s : ByteArray} {D : List Ck} (hx : ev l x = some (.pointer (some ⟨b, 0, none⟩))) (hm : Fr H ⟨b, .stringIter s p, true⟩ D)
    (k1 : ∀ (h : p < s.size), (s[p]'h).toNat < 128 ∧ K (.value (.tuple #[.bool true, .int .i64 p, .int .i32 ((s[p]'h).toNat : Int)])) (⟨b, .stringIter s (p + 1), true⟩ :: D))
    (k2 : ¬ p < s.size → K (.value (.tuple #[.bool false])) (⟨b, .stringIter s p, true⟩ :: D)) : Hd P ⟨d, .next x true, ty, pos, aft, g⟩ l H K := fun a w R kn st => by
  have s' : Sat w (⟨b, .stringIter s p, true⟩ :: (D ++ R)) := st.perm (hm.p.append_right R)
  have hg := s'.holds _ List.mem_cons_self
  by_cases h : p < s.size
  · obtain ⟨h1, h2⟩ := k1 h
    have hb : b < w.heap.size := s'.lt (c := ⟨b, .stringIter s p, true⟩) List.mem_cons_self
    refine ⟨_, { w with heap := w.heap.setIfInBounds b (.stringIter s (p + 1)) }, ⟨b, .stringIter s (p + 1), true⟩ :: D, ?_, s'.write (by simp [hb]) (fun k hk => by simp [Array.getElem?_setIfInBounds, Ne.symm hk]), ⟨rfl, rfl, rfl, by simp, Nat.le_refl _⟩, h2⟩
    simp only [execOp, kn.ev hx, Instr.next, getObj, setObj, Sem.run_bind, Sem.run, hg, Result.andThen, h, if_true, decode_ascii s p h h1]
    simp [goInt]
  · refine ⟨_, w, ⟨b, .stringIter s p, true⟩ :: D, ?_, s', Kept.refl w, k2 h⟩
    simp [execOp, kn.ev hx, Instr.next, getObj, Sem.run, hg, h]
end Go.SL

set_option linter.unusedVariables false
set_option linter.unusedSimpArgs false
namespace Go.SL
variable {P : Program} {l : Sl} {H : List Ck} {d : Option Nat} {ty : TypeId} {pos : String} {aft : Array Edge} {g : Option (Nat × Bool)} {K : Next → List Ck → Prop}
theorem DN.fit {n : Nat} {w0 : World} {R : List Ck} {Q : Exit → Act → World → Prop} {e : Exit} {C D : List Ck} (h : Sp H C D) (k : DN P n w0 R Q e l C) : DN P n w0 R Q e l H :=
  DN.blocks (C ++ D) h.p (DN.forget C (List.sublist_append_left _ _) k)
theorem WC.fit {n : Nat} {w0 : World} {R : List Ck} {Q : Exit → Act → World → Prop} {c : Code} {C D : List Ck} (h : Sp H C D) (k : WC P n w0 R Q c l C) : WC P n w0 R Q c l H :=
  WC.blocks (C ++ D) h.p (WC.forget C (List.sublist_append_left _ _) k)
section
variable {n : Nat} {w0 : World} {R : List Ck} {Q : Exit → Act → World → Prop}
theorem WC.loopS {α : Type} (I : α → Prop) (S : α → Sl) (K : α → List Ck) (μ : α → Nat) {c : Code} (x0 : α) (h0 : I x0) (hl : Sx [] l (S x0 ++ l)) {D : List Ck} (hH : Sp H (K x0) D)
    (round : ∀ x, I x → WC P n w0 R (Exit.then (Again P n w0 R I (fun x => S x ++ l) K μ (μ x)) Q) c (S x ++ l) (K x)) : WC P n w0 R Q (.loop c) l H :=
  WC.fit hH (WC.loopK I S K μ x0 h0 hl (List.Perm.refl _) round)
theorem DN.againS {α : Type} {I : α → Prop} {S : α → Sl} {l0 : Sl} {K : α → List Ck} {μ : α → Nat} {m : Nat} (z : α) (hz : I z) (hm : μ z < m) (hl : Sx [] l (S z ++ l0)) {D : List Ck} (hH : Sp H (K z) D) :
    DN P n w0 R (Exit.then (Again P n w0 R I (fun x => S x ++ l0) K μ m) Q) .normal l H := DN.fit hH (DN.againK z hz hm hl (List.Perm.refl _))
end
theorem Yd.slice3 {x lo hi mx : Operand} {T e s : Nat} {ao : Option Addr} {n c : Nat} {i j q : Nat} {k1 k2 k3 : IntKind} {m1 m2 m3 : Int} (hT : sliceOf P T = some e) (hs : szOf P e = some s) (hx : ev l x = some (.slice ao n c))
    (hl : ev l lo = some (.int k1 m1)) (hh : ev l hi = some (.int k2 m2)) (hm : ev l mx = some (.int k3 m3)) (e1 : m1 = (i : Int)) (e2 : m2 = (j : Int)) (e3 : m3 = (q : Int)) (h1 : i ≤ j) (h2 : j ≤ q) (h3 : q ≤ c) :
    Yd P ⟨d, .slice T x (some lo) (some hi) (some mx), ty, pos, aft, g⟩ l (.slice (if q = i then ao else ao.map (·.add (i * s))) (j - i) (q - i)) := fun a kn w => by
  subst e1 e2 e3
  have hu := run_underlying (underlying_slice hT)
  have h4 : i ≤ j := h1
  simp [execOp, kn.ev hx, Instr.sliceAt, Instr.slice, hu, Instr.sliceBounds, Instr.sliceBound, asIntOf, kn.ev hl, kn.ev hh, kn.ev hm, run_sizeOf hs, Int.ofNat_le, h1, h2, h3]
theorem Hd.appendIn {x y : Operand} {T e sz bytes : Nat} {zs : List Value} {u : Value} {b n m cap : Nat} {cells news : List Value} {D : List Ck} (hT : sliceOf P T = some e) (hE : elemInfo P e = some (sz, zs, bytes))
    (hx : ev l x = some (.slice (some ⟨b, 0, none⟩) n cap)) (hy : ev l y = some u) (hm : Fr H (row b cells e) D) (src : Rs u m news H) (hl : news.length = m * sz) (h1 : ∀ u ∈ news, u.oneCell' = true) (hroom : n + m ≤ cap) (hfit : (n + m) * sz ≤ cells.length)
    (k : K (.value (.slice (some ⟨b, 0, none⟩) (n + m) cap)) (row b (cells.take (n * sz) ++ (news ++ cells.drop ((n + m) * sz))) e :: D)) : Hd P ⟨d, .call ⟨.builtin .append, #[x, y], #[T, T]⟩, ty, pos, aft, g⟩ l H K := fun a w R kn s => by
  obtain ⟨i, z, hi, hzr, rfl, rfl, rfl⟩ := elemInfo_spec hE
  have hu := underlying_slice hT
  have s' : Sat w (row b cells e :: (D ++ R)) := s.perm (hm.p.append_right R)
  have hg := s'.holds _ List.mem_cons_self
  rcases Rs.cells src s with ⟨uo, uc, rfl, rfl, rfl⟩ | ⟨q, c, rfl, hcells⟩
  · have e0 : cells.take (n * i.size) ++ ([] ++ cells.drop ((n + 0) * i.size)) = cells := by simp
    rw [e0] at k
    refine ⟨_, w, row b cells e :: D, ?_, s', .refl w, k⟩
    have hst : ∀ a' : Addr, (storeCells a' []).run P w = .ok () w := fun a' => by simp [storeCells]
    have hld : ∀ a' : Addr, (loadCells a' 0).run P w = .ok #[] w := fun a' => by simp [loadCells, loadCellsFrom]
    have hn : n ≤ cap := by omega
    simp only [execOp, resolve, invoke, builtin, List.map_toArray, List.map_cons, List.map_nil, kn.ev hx, kn.ev hy]
    cases uo <;> simp [Builtin.append_, run_underlying hu, sizeOf, typeInfo, hi, Builtin.lenOf, Builtin.firstCells, hn, hst, hld, kn.ev hx, kn.ev hy]
  · have hr := run_append_room (P := P) w T ty e i hu hi b n cap _ hg q m c news hl hcells h1 hroom (by simp only [List.size_toArray, hl, ← Nat.add_mul]; exact hfit)
    have e1 : (cells.toArray.toList.take (n * i.size) ++ news ++ cells.toArray.toList.drop (n * i.size + news.length)) = cells.take (n * i.size) ++ (news ++ cells.drop ((n + m) * i.size)) := by
      rw [hl, ← Nat.add_mul, List.append_assoc]
    rw [e1] at hr
    refine ⟨.value (.slice (some ⟨b, 0, none⟩) (n + m) cap), _, row b (cells.take (n * i.size) ++ (news ++ cells.drop ((n + m) * i.size))) e :: D, ?_, Sat.setRow s', kept_setRow _ _ _, k⟩
    simp [execOp, resolve, invoke, builtin, kn.ev hx, kn.ev hy, hr]
theorem Hd.clearN {x : Operand} {T e sz bytes : Nat} {zs : List Value} {b o m c : Nat} {cells : List Value} {D : List Ck} (hT : sliceOf P T = some e) (hE : elemInfo P e = some (sz, zs, bytes)) (hz : zs.length = sz) (hz1 : ∀ u ∈ zs, u.oneCell' = true)
    (hx : ev l x = some (.slice (some ⟨b, o, none⟩) m c)) (h0 : 0 < m) (hm : Fr H (row b cells e) D) (hfit : o + m * sz ≤ cells.length)
    (k : ∀ tl : List Value, tl.length = m * sz → K (.value (.tuple #[])) (row b (cells.take o ++ (tl ++ cells.drop (o + m * sz))) e :: D)) : Hd P ⟨d, .call ⟨.builtin .clear, #[x], #[T]⟩, ty, pos, aft, g⟩ l H K := fun a w R kn s => by
  obtain ⟨i, z, hi, hzr, rfl, rfl, rfl⟩ := elemInfo_spec hE
  have hu := underlying_slice hT
  have s' : Sat w (row b cells e :: (D ++ R)) := s.perm (hm.p.append_right R)
  have hg := s'.holds _ List.mem_cons_self
  have hzl : (Builtin.zeroCells z.cells m).toList.length = m * i.size := by
    rw [size_zeroCells']
    rw [← hz]
    simp
  have hone : ∀ u ∈ (Builtin.zeroCells z.cells m).toList, u.oneCell' = true := by
    intro u hu
    simp only [Builtin.zeroCells, Array.toList_map, List.mem_map] at hu
    obtain ⟨j, hj, rfl⟩ := hu
    by_cases hs : z.cells.size = 0
    · exfalso
      simp [hs] at hj
    · have hlt : j % z.cells.size < z.cells.size := Nat.mod_lt _ (by omega)
      rw [getElem!_pos z.cells _ hlt]
      exact hz1 _ (by simp)
  have hst := run_storeCells_at P b o e (Builtin.zeroCells z.cells m).toList 0 cells.toArray w hg (by rw [hzl]; simpa using hfit) hone
  simp only [Nat.add_zero, hzl] at hst
  have e1 : (cells.toArray.toList.take o ++ (Builtin.zeroCells z.cells m).toList ++ cells.toArray.toList.drop (o + m * i.size)) = cells.take o ++ ((Builtin.zeroCells z.cells m).toList ++ cells.drop (o + m * i.size)) := by simp
  rw [e1] at hst
  refine ⟨.value (.tuple #[]), _, row b (cells.take o ++ ((Builtin.zeroCells z.cells m).toList ++ cells.drop (o + m * i.size))) e :: D, ?_, Sat.setRow s', kept_setRow _ _ _, k _ hzl⟩
  obtain ⟨m', rfl⟩ : ∃ m', m = m' + 1 := ⟨m - 1, by omega⟩
  simp [execOp, resolve, invoke, builtin, kn.ev hx, Builtin.clear_, run_underlying hu, zeroValue, typeInfo, hi, hzr, hst]
theorem run_forIn_all {w : World} (f : Nat → Sem Bool) (b : Nat → Bool) (n : Nat) (hf : ∀ i, i < n → (f i).run P w = .ok (b i) w) :
    ∀ (k : Nat), k ≤ n → (forIn (List.range' (n - k) k) ((none, ()) : Option Bool × PUnit) fun i (r : Option Bool × PUnit) => (do
      let c ← f i
      if !c then pure (ForInStep.done (some false, ())) else pure (ForInStep.yield (none, ())) : Sem (ForInStep (Option Bool × PUnit)))).run P w = .ok (if (List.range' (n - k) k).all b then none else some false, ()) w := by
  intro k
  induction k with
  | zero => intro _; simp
  | succ k ih =>
    intro hk
    rw [List.range'_succ, show n - (k + 1) + 1 = n - k by omega]
    simp only [List.forIn_cons, Sem.run_bind, hf (n - (k + 1)) (by omega), Result.andThen_ok, Sem.run_ite]
    cases hb : b (n - (k + 1)) with
    | false => simp [hb]
    | true =>
      simp only [Bool.not_true, Bool.false_eq_true, if_false, Sem.run_pure, Result.andThen_ok, List.all_cons, hb, Bool.true_and]
      exact ih (by omega)
theorem run_equalIn_arr {w : World} {T e n s dd : Nat} {xs ys : Array Value} {b : Nat → Bool} (hT : P.underlying T = some (.array n e)) (hs : szOf P e = some s)
    (hp : ∀ i, i < n → (do let u ← part e xs (i * s); let v ← part e ys (i * s); Op.equalIn dd e u v : Sem Bool).run P w = .ok (b i) w) : (Op.equalIn (dd + 1) T (.agg xs) (.agg ys)).run P w = .ok ((List.range' 0 n).all b) w := by
  have h := run_forIn_all (P := P) (w := w) (fun i => (do let u ← part e xs (i * s); let v ← part e ys (i * s); Op.equalIn dd e u v : Sem Bool)) b n hp n (Nat.le_refl _)
  rw [Nat.sub_self] at h
  simp only [Op.equalIn, Sem.run_bind, run_underlying hT, Result.andThen_ok, run_sizeOf hs, Std.Legacy.Range.forIn_eq_forIn_range', Std.Legacy.Range.size, Nat.sub_zero, Nat.add_sub_cancel, Nat.div_one]
  simp only [bind_assoc] at h ⊢
  rw [h]
  simp only [Result.andThen_ok]
  cases (List.range' 0 n).all b <;> simp
theorem run_equalIn_ints {w : World} {T e n dd : Nat} {kd : IntKind} {xs ys : List Int} (hT : P.underlying T = some (.array n e)) (hs : szOf P e = some 1) (hk : P.underlying e = some (.int kd)) (hx : xs.length = n) (hy : ys.length = n) :
    (Op.equalIn (dd + 2) T (.agg (ic xs).toArray) (.agg (ic ys).toArray)).run P w = .ok (decide (xs = ys)) w := by
  have hag : aggB P e = false := by simp [aggB, hk]
  have hp : ∀ (zs : List Int) i, i < zs.length → (part e (ic zs).toArray (i * 1)).run P w = .ok (.int .i64 (zs.getD i 0)) w := fun zs i hi => by
    simp [part, run_isAgg_no hag, ic_getD hi, Nat.mul_one]
  have h := run_equalIn_arr (P := P) (w := w) (dd := dd + 1) (xs := (ic xs).toArray) (ys := (ic ys).toArray) (b := fun i => xs.getD i 0 == ys.getD i 0) hT hs (fun i hi => by
    simp only [Sem.run_bind, hp xs i (by omega), hp ys i (by omega), Result.andThen_ok]
    simp [Op.equalIn, run_underlying hk])
  rw [h]
  congr 1
  rw [Bool.eq_iff_iff]
  simp only [List.all_eq_true, List.mem_range'_1, Nat.zero_le, true_and, Nat.zero_add, beq_iff_eq, decide_eq_true_eq]
  constructor
  · intro h
    apply List.ext_getElem (by omega)
    intro i h1 h2
    have := h i (by omega)
    simpa [List.getD, h1, h2] using this
  · rintro rfl i _; rfl
theorem Yd.eqlArr2 {T T' T1 e n m : Nat} {kd : IntKind} {x y : Operand} {xs ys : List Int} (hT : P.underlying T = some (.array n T1)) (hT1 : P.underlying T1 = some (.array m e)) (hs1 : szOf P T1 = some m) (hs : szOf P e = some 1) (hk : P.underlying e = some (.int kd)) (hg : P.eqGuardType P.depth T = false)
    (hx : ev l x = some (.agg (ic xs).toArray)) (hy : ev l y = some (.agg (ic ys).toArray)) (lx : xs.length = n * m) (ly : ys.length = n * m) : Yd P ⟨d, .binOp .eql T x y T', ty, pos, aft, g⟩ l (.bool (decide (xs = ys))) := fun a kn w => by
  have hgd : (eqGuard .eql T x y (.agg (ic xs).toArray) (.agg (ic ys).toArray)).run P w = .ok () w := run_eqGuard_agg w .eql T x y _ _ hg
  have hag : aggK P T1 = some true := by simp [aggK, hT1]
  have hp : ∀ (zs : List Int) i, (part T1 (ic zs).toArray (i * m)).run P w = .ok (.agg (ic ((zs.drop (i * m)).take m)).toArray) w := fun zs i => by
    simp [part, run_isAgg_of hag, run_sizeOf hs1, ic, List.map_take, List.map_drop]
  have hb : ∀ i, i < n → i * m + m ≤ n * m := fun i hi => by
    have := Nat.mul_le_mul_right m (show i + 1 ≤ n from hi)
    rwa [Nat.add_mul, Nat.one_mul] at this
  have h := run_equalIn_arr (P := P) (w := w) (dd := 9999) (xs := (ic xs).toArray) (ys := (ic ys).toArray) (b := fun i => decide ((xs.drop (i * m)).take m = (ys.drop (i * m)).take m)) hT hs1 (fun i hi => by
    simp only [Sem.run_bind, hp, Result.andThen_ok]
    have := hb i hi
    exact run_equalIn_ints (dd := 9997) hT1 hs hk (by rw [List.length_take, List.length_drop]; omega) (by rw [List.length_take, List.length_drop]; omega))
  have e : ((List.range' 0 n).all fun i => decide ((xs.drop (i * m)).take m = (ys.drop (i * m)).take m)) = decide (xs = ys) := by
    rw [Bool.eq_iff_iff]
    simp only [List.all_eq_true, List.mem_range'_1, Nat.zero_le, true_and, Nat.zero_add, decide_eq_true_eq]
    constructor
    · intro h
      apply List.ext_getElem (by omega)
      intro j h1 h2
      have hm : 0 < m := by
        rcases Nat.eq_zero_or_pos m with h0 | h0
        · subst h0; simp at lx; omega
        · exact h0
      have hq : j / m < n := by rw [Nat.div_lt_iff_lt_mul hm]; omega
      have := congrArg (fun l => l[j % m]?) (h (j / m) hq)
      simp only [List.getElem?_take, Nat.mod_lt j hm, if_true, List.getElem?_drop] at this
      rw [show j / m * m + j % m = j by rw [Nat.mul_comm]; exact Nat.div_add_mod j m] at this
      simpa [h1, h2] using this
    · rintro rfl i _; rfl
  rw [e] at h
  simp only [execOp, kn.ev hx, kn.ev hy, Sem.run_bind, hgd, Result.andThen_ok]
  rw [run_eql_struct, h]
  simp
theorem DN.retCT {n : Nat} {w0 : World} {R : List Ck} {fn : Func} {Post : Value → List Ck → Prop} {t u T s b : Nat} {cs : List Value} {T' : TypeId} {fr : Nat × Nat} {ex : Bool} {v : Value} (H' : List Ck) (hr : fn.results = #[.cell t T, .tmp u]) (hT : isAggOf P T s = true) (hv : getv l t = some (.pointer (some ⟨b, 0, none⟩))) (hu : getv l u = some v)
    (hm : (⟨b, .cells cs.toArray T' fr, ex⟩ : Ck) ∈ H) (hs : cs.length = s) {D : List Ck} (hH : Sp H H' D) (hp : Post (.tuple #[.agg cs.toArray, v]) H') : DN P n w0 R (bodyPost P fn (Back P w0 R Post)) .ret l H := fun a w i => by
  have h := i.sat.holds _ (List.mem_append_left R hm)
  have hl := run_loadCells_list (P := P) w ⟨b, 0, none⟩ cs (fun j v hv => by rw [add_plain, cell_at h]; simpa using hv)
  rw [hs] at hl
  have hv' := i.kn t _ hv
  have hu' := i.kn u _ hu
  simp only [Array.getD_eq_getD_getElem?] at hv' hu'
  have j := i.perm hH.p
  refine bodyPost_ret (v := .tuple #[.agg cs.toArray, v]) ?_ i.defers ⟨_, H', rfl, hp, (j.sublist (List.sublist_append_left _ _)).sat, i.kept⟩
  simp [results, hr, hv', hu', asAddr, loadVar, (run_isAgg_yes hT w).1, (run_isAgg_yes hT w).2, hl]
theorem DN.retCS {n : Nat} {w0 : World} {R : List Ck} {fn : Func} {Post : Value → List Ck → Prop} {t T s b : Nat} {cs : List Value} {T' : TypeId} {fr : Nat × Nat} {ex : Bool} (H' : List Ck) (hr : fn.results = #[.cell t T]) (hT : isAggOf P T s = true) (hv : getv l t = some (.pointer (some ⟨b, 0, none⟩)))
    (hm : (⟨b, .cells cs.toArray T' fr, ex⟩ : Ck) ∈ H) (hs : cs.length = s) {D : List Ck} (hH : Sp H H' D) (hp : Post (.agg cs.toArray) H') : DN P n w0 R (bodyPost P fn (Back P w0 R Post)) .ret l H := fun a w i => by
  have h := i.sat.holds _ (List.mem_append_left R hm)
  have hl := run_loadCells_list (P := P) w ⟨b, 0, none⟩ cs (fun j v hv => by rw [add_plain, cell_at h]; simpa using hv)
  rw [hs] at hl
  have hv' := i.kn t _ hv
  simp only [Array.getD_eq_getD_getElem?] at hv'
  have j := i.perm hH.p
  refine bodyPost_ret (v := .agg cs.toArray) ?_ i.defers ⟨_, H', rfl, hp, (j.sublist (List.sublist_append_left _ _)).sat, i.kept⟩
  simp [results, hr, hv', asAddr, loadVar, (run_isAgg_yes hT w).1, (run_isAgg_yes hT w).2, hl]
theorem Hd.appendBs {x y : Operand} {T e : TypeId} {zs : List Value} {v u : Value} {a b : List (BitVec 8)} {C D : List Ck} {K : Next → List Ck → Prop} (hT : sliceOf P T = some e) (hE : elemInfo P e = some (1, zs, 1)) (hz : zs.length = 1)
    (hx : ev l x = some v) (hy : ev l y = some u) (own : Ob e v a C) (hH : Sp H C D) (src : Bs u b H) (hmax : a.length + b.length ≤ 140737488355328)
    (k : ∀ v' C', Ob e v' (a ++ b) C' → K (.value v') (C' ++ D)) : Hd P ⟨d, .call ⟨.builtin .append, #[x, y], #[T, T]⟩, ty, pos, aft, g⟩ l H K :=
  Hd.appendB hT hE hz hx hy own (src.mono fun c hc => hH.p.mem_iff.1 hc) hmax hH.p fun v' C' h _ => k v' C' h
end Go.SL

set_option linter.unusedVariables false
set_option linter.unusedSimpArgs false
namespace Go.SL
variable {P : Program} {l : Sl} {H : List Ck} {d : Option Nat} {ty : TypeId} {pos : String} {aft : Array Edge} {g : Option (Nat × Bool)} {K : Next → List Ck → Prop}
theorem Rs.lies {ao : Option Addr} {n c m : Nat} {xs : List Value} (hr : Rs (.slice ao n c) m xs H) (hne : 0 < n) : ∃ (b o : Nat) (cs : List Value) (T : TypeId) (fr : Nat × Nat) (ex : Bool), ao = some ⟨b, o, none⟩ ∧ n = m ∧ (⟨b, .cells cs.toArray T fr, ex⟩ : Ck) ∈ H ∧ (cs.drop o).take xs.length = xs := by
  rcases hr with ⟨ao', cap', h, e1, e2⟩ | ⟨b, o, cap, cs, T', fr, ex, hsl, hc, hm, hcs⟩
  · simp only [Value.slice.injEq] at h; omega
  · simp only [Value.slice.injEq] at hsl
    exact ⟨b, o, cs, T', fr, ex, hsl.1, hsl.2.1, hm, hcs⟩
theorem rs_cell1 {cs xs : List Value} {v : Value} {o i : Nat} (hcs : (cs.drop o).take xs.length = xs) (hv : xs[i]? = some v) : cs[o + (i : Int).toNat * 1]? = some v := by
  rw [Int.toNat_natCast, Nat.mul_one]
  rw [← hcs, List.getElem?_take] at hv
  split at hv
  · simpa using hv
  · cases hv
theorem flat_row {α : Type} (enc : α → List Value) (k : Nat) (hk : ∀ x, (enc x).length = k) : ∀ (ds : List α) (i : Nat) (h : i < ds.length), ((ds.flatMap enc).drop (i * k)).take k = enc ds[i]
  | d :: ds, 0, h => by
    rw [Nat.zero_mul, List.drop_zero, List.flatMap_cons, List.take_append_of_le_length (by rw [hk]; omega), List.take_of_length_le (by rw [hk]; omega)]
    rfl
  | d :: ds, i + 1, h => by
    rw [List.flatMap_cons, List.drop_append, List.drop_of_length_le (by rw [hk, Nat.add_mul]; omega), List.nil_append, hk, show (i + 1) * k - k = i * k by rw [Nat.add_mul]; omega, flat_row enc k hk ds i (by simpa using h)]
    rfl
end Go.SL

set_option linter.unusedVariables false
set_option linter.unusedSimpArgs false
namespace Go.SL
variable {P : Program} {l : Sl} {H : List Ck} {K : Next → List Ck → Prop} {d : Option Nat} {ty : TypeId} {pos : String} {aft : Array Edge} {g : Option (Nat × Bool)}
theorem gr_ {A B : List Ck} (h : Gr A B := by repeat (first | exact Gr.refl | exact Gr.left Gr.refl | exact Gr.left (Gr.left Gr.refl) | exact Gr.left (Gr.app Gr.refl) | exact Gr.left (Gr.app (Gr.app Gr.refl)) | exact Gr.left (Gr.app (Gr.left Gr.refl)) | exact Gr.left (Gr.left (Gr.left Gr.refl)) | exact Gr.nil | exact Gr.app (Gr.left Gr.refl) | refine Gr.cons ?_ | refine Gr.app ?_ | refine Gr.both ?_ ?_ | refine Gr.put (by repeat (first | exact List.mem_cons_self | apply List.mem_cons_of_mem | apply List.mem_append_right)) ?_)) : ∀ c ∈ A, c ∈ B := h
theorem sp_ {H C D : List Ck} (h : Sp H C D := by repeat (first | exact Sp.here | exact Sp.sn | exact Sp.s0 | exact Fr.here | apply Sp.s2 | apply Sp.sx | apply Fr.fc | apply Fr.al | apply Fr.fa | apply Sp.sc | apply Sp.al | apply Sp.sa)) : Sp H C D := h
theorem fr_ {H : List Ck} {x : Ck} {D : List Ck} (h : Fr H x D := by repeat (first | exact Fr.here | apply Fr.fc | apply Fr.al | apply Fr.fa)) : Fr H x D := h
theorem mem_ {x : Ck} {H : List Ck} (h : x ∈ H := by repeat (first | exact List.mem_cons_self | apply List.mem_cons_of_mem | apply List.mem_append_right)) : x ∈ H := h
theorem one_ {vs : List Value} (h : ∀ u ∈ vs, u.oneCell' = true := by repeat (first | exact fun _ h => absurd h List.not_mem_nil | refine List.forall_mem_cons.2 ⟨by first | rfl | assumption, ?_⟩)) : ∀ u ∈ vs, u.oneCell' = true := h
theorem sx_ {ks : List Nat} {l r : Sl} (h : Sx ks l r := by repeat (first | exact Sx.refl | refine Sx.skip rfl ?_)) : Sx ks l r := h
theorem kr_ {α : Sort _} {a b : α} (h : a = b := by kernel_rfl) : a = b := h
end Go.SL

set_option linter.unusedVariables false
set_option linter.unusedSimpArgs false
namespace Go.SL
section
variable {P : Program} {ops : Array Oper} {C : World → Prop} {m : Nat}
def wpAnyM (P : Program) (ops : Array Oper) (C : World → Prop) (m : Nat) (Q : Act → Prop) : Nat → Array Bool → Act → Prop
  | 0, listed, a => (∀ j, j < m → listed.getD j false = true) ∧ Q a
  | fuel + 1, listed, a => Region.ready .any ops listed ≠ [] ∧ ∀ i ∈ Region.ready .any ops listed, i < m ∧ qOp P ops C i (wpAnyM P ops C m Q fuel (listed.setIfInBounds i true)) a
def mask (N m : Nat) : Array Bool := ((List.range N).map fun j => decide (j < m)).toArray
def stopB (ops : Array Oper) (m : Nat) : Bool := (List.range ops.size).all fun i => decide (i < m) || (match ops[i]? with
  | some o => (List.range m).all fun j => o.after.any fun e => Region.binds .any e && e.on == j
  | none => true)
def lexPre (ops : Array Oper) : Nat → Nat → Array Bool → Bool
  | 0, _, _ => true
  | fuel + 1, k, listed => (Region.ready .any ops listed).contains k && Region.free .any ops listed k && lexPre ops fuel (k + 1) (listed.setIfInBounds k true)
theorem wpAny_of_M {Q : Act → Prop} {Q' : Exit → Act → World → Prop} {r : Nat} (hQ : ∀ a w, C w → Q a → wpAny P .any ops Q' r (mask ops.size m) a w) : ∀ (fuel : Nat) (listed : Array Bool) (a : Act) (w : World), C w → listed.size = ops.size → (∀ j, m ≤ j → j < ops.size → listed.getD j true = false) →
    wpAnyM P ops C m Q fuel listed a → wpAny P .any ops Q' (fuel + r) listed a w
  | 0, listed, a, w, hC, hs, hr, h => by
    have e : listed = mask ops.size m := by
      apply Array.ext
      · simp [mask, hs]
      · intro j h1 h2
        simp only [mask, List.getElem_toArray, List.getElem_map, List.getElem_range]
        rcases Nat.lt_or_ge j m with h3 | h3
        · have := h.1 j h3
          simp [h1] at this
          simp [this, h3]
        · have := hr j h3 (by omega)
          simp [h1] at this
          simp [this]; omega
    rw [Nat.zero_add, e]
    exact hQ a w hC h.2
  | fuel + 1, listed, a, w, hC, hs, hr, h => by
    rw [Nat.succ_add]
    refine ⟨fun h0 => absurd h0 h.1, fun i hi => ?_⟩
    obtain ⟨him, hq⟩ := h.2 i hi
    exact wpOp_of_qOp hC (fun a' w' hw' hk => wpAny_of_M hQ fuel _ a' w' hw' (by simp [hs]) (fun j hj hjs => by rw [getD_set_ne true (by omega)]; exact hr j hj hjs) hk) hq
theorem below (hstop : stopB ops m = true) {i j : Nat} {listed : Array Bool} (hj : j ∈ Region.ready .any ops listed) (hi : i < m) (hun : listed.getD i false = false) : j < m := by
  obtain ⟨hj0, o, ho, hall⟩ := mem_ready.1 hj
  rcases Nat.lt_or_ge j m with h | h
  · exact h
  · have hlt : j < ops.size := (Array.getElem?_eq_some_iff.1 ho).1
    have h1 := List.all_eq_true.1 hstop j (List.mem_range.2 hlt)
    rw [ho] at h1
    simp only [Bool.or_eq_true, decide_eq_true_eq] at h1
    rcases h1 with h1 | h1
    · omega
    · have h2 := List.all_eq_true.1 h1 i (List.mem_range.2 hi)
      obtain ⟨e, he, hb⟩ := Array.any_eq_true'.1 h2
      simp only [Bool.and_eq_true, beq_iff_eq] at hb
      have h3 := hall e he hb.1
      rw [hb.2, hun] at h3
      cases h3
theorem getD_flip {listed : Array Bool} {i : Nat} (h : listed.getD i true = false) : listed.getD i false = false := by
  rcases Nat.lt_or_ge i listed.size with h' | h'
  · simp [h'] at h ⊢; exact h
  · simp [Array.getElem?_eq_none h'] at h
theorem wpAnyM_first {Q : Act → Prop} {i : Nat} {oi : Oper} {v : Value} (hstop : stopB ops m = true) (him : i < m) (hi : ops[i]? = some oi) (hsel : ∀ (j : Nat) (o : Oper) cs b, ops[j]? = some o → o.op ≠ .select cs b) :
    ∀ (fuel : Nat) (listed : Array Bool) (a : Act),
      (∀ j oj, ops[j]? = some oj → j ≠ i → listed.getD j true = false → (∀ e ∈ oj.after, Region.binds .any e = true → e.on ≠ i) → oi.apart ops oj = true) →
      i ∈ Region.ready .any ops listed → YieldsIn P ops C oi v a →
      wpAnyM P ops C m Q fuel (listed.setIfInBounds i true) (a.put oi.dst v) → wpAnyM P ops C m Q (fuel + 1) listed a := by
  intro fuel
  induction fuel with
  | zero =>
    intro listed a _ hr hy H
    refine ⟨fun h => (by rw [h] at hr; cases hr), fun j hj => ?_⟩
    have hjm := below hstop hj him (getD_flip (mem_ready.1 hr).1)
    refine ⟨hjm, ?_⟩
    by_cases hji : j = i
    · subst hji; exact hy.qOp hi H
    · have h1 := H.1 j hjm
      rw [getD_set_ne false (Ne.symm hji), getD_flip (mem_ready.1 hj).1] at h1
      cases h1
  | succ fuel ih =>
    intro listed a hfree hr hy H
    refine ⟨fun h => (by rw [h] at hr; cases hr), fun j hj => ?_⟩
    refine ⟨below hstop hj him (getD_flip (mem_ready.1 hr).1), ?_⟩
    by_cases hji : j = i
    · subst hji; exact hy.qOp hi H
    · have h1 := (H.2 j (ready_mono hj hji)).2
      obtain ⟨hjun, oj, hoj, hall⟩ := mem_ready.1 hj
      have hnot : ∀ e ∈ oj.after, Region.binds .any e = true → e.on ≠ i := fun e he hb heq => by
        have h1 := hall e he hb
        have h0 := getD_flip (mem_ready.1 hr).1
        rw [heq, h0] at h1
        cases h1
      have h2 := qOp_put hoj (hfree j oj hoj hji hjun hnot) (fun cs b => hsel i oi cs b hi) (fun cs b => hsel j oj cs b hoj) hy h1
      have hfree' : ∀ k ok, ops[k]? = some ok → k ≠ i → (listed.setIfInBounds j true).getD k true = false →
          (∀ e ∈ ok.after, Region.binds .any e = true → e.on ≠ i) → oi.apart ops ok = true := fun k ok hk hki hun hno => by
        refine hfree k ok hk hki ?_ hno
        by_cases hjk : j = k
        · subst hjk; exact hjun
        · rw [getD_set_ne true hjk] at hun; exact hun
      refine qOp_mono (fun a' h3 => ih (listed.setIfInBounds j true) a' hfree' (ready_mono hr (Ne.symm hji)) h3.1 ?_) h2
      rw [Array.setIfInBounds_comm _ _ hji]
      exact h3.2
theorem wpAnyM_lex {Q : Act → Prop} (hstop : stopB ops m = true) (hs : Region.noSelect ops = true) : ∀ (l : List Oper) (k : Nat) (listed : Array Bool) (a : Act), (∀ j, j < l.length → l[j]? = ops[k + j]?) → k + l.length = m → (∀ j, j < k → listed.getD j false = true) →
    lexPre ops l.length k listed = true → wpQuiet P ops C Q l a → wpAnyM P ops C m Q l.length listed a
  | [], k, _, _, _, hk, hd, _, h => ⟨fun j hj => hd j (by simp at hk; omega), h⟩
  | o :: l, k, listed, a, hl, hk, hd, hB, h => by
    have h0 : ops[k]? = some o := by simpa using (hl 0 (by simp)).symm
    simp only [List.length_cons, lexPre, Bool.and_eq_true] at hB
    obtain ⟨⟨hr, hf⟩, hB'⟩ := hB
    have hst : qOp P ops C k (wpQuiet P ops C Q l) a := by unfold qOp; simp only [h0]; exact h
    obtain ⟨v, hy, hK⟩ := yieldsIn_of_qOp h0 hst
    have hkr : k ∈ Region.ready .any ops listed := by simpa using hr
    have hkl : k < listed.size := by
      have h1 := (mem_ready.1 hkr).1
      rcases Nat.lt_or_ge k listed.size with h' | h'
      · exact h'
      · simp [Array.getElem?_eq_none h'] at h1
    simp only [List.length_cons] at hk
    exact wpAnyM_first hstop (by omega) h0 (Region.noSelect_spec hs) l.length listed a (Region.free_spec h0 hf) hkr hy
      (wpAnyM_lex hstop hs l (k + 1) _ _ (fun j hj => by have := hl (j + 1) (by simp; omega); simpa [Nat.add_assoc, Nat.add_comm 1 j] using this) (by omega) (fun j hj => by
        rcases Nat.lt_or_ge j k with h1 | h1
        · rw [getD_set_ne false (by omega)]; exact hd j h1
        · obtain rfl : j = k := by omega
          simp [hkl]) hB' hK)
end
section
variable {P : Program} {n : Nat} {w0 : World} {R : List Ck} {Q : Exit → Act → World → Prop} {l : Sl} {H : List Ck} {ops : Array Oper} {m r : Nat}
def CW (w0 : World) (R H : List Ck) (w : World) : Prop := Sat w (H ++ R) ∧ Kept w0 w
def WQ (P : Program) (n : Nat) (w0 : World) (R : List Ck) (ops : Array Oper) (Q : Exit → Act → World → Prop) (m r : Nat) (rest : List Oper) (l : Sl) (H : List Ck) : Prop :=
  ∀ a, a.tmps.size = n → a.defers = [] → Kn a l → wpQuiet P ops (CW w0 R H) (fun a' => ∀ w, CW w0 R H w → wpAny P .any ops Q r (mask ops.size m) a' w) rest a
theorem WA.quiet {fuel : Nat} (m r : Nat) (hN : ops.size = fuel) (hf : fuel = m + r) (hstop : stopB ops m = true) (hs : Region.noSelect ops = true) (hlex : lexPre ops m 0 (Array.replicate fuel false) = true) (hl : (ops.toList.take m).length = m)
    (h : WQ P n w0 R ops Q m r (ops.toList.take m) l H) : WA P n w0 R ops Q fuel (Array.replicate fuel false) l H := fun a w i => by
  subst hN
  have h1 := h a i.size i.defers i.kn
  have h2 : wpAnyM P ops (CW w0 R H) m (fun a' => ∀ w, CW w0 R H w → wpAny P .any ops Q r (mask ops.size m) a' w) m (Array.replicate ops.size false) a := by
    have := wpAnyM_lex (C := CW w0 R H) hstop hs (ops.toList.take m) 0 (Array.replicate ops.size false) a (fun j hj => by rw [List.getElem?_take_of_lt (by omega)]; simp) (by omega) (fun j hj => by omega) (by rw [hl]; exact hlex) h1
    rwa [hl] at this
  have h3 := wpAny_of_M (P := P) (C := CW w0 R H) (Q' := Q) (r := r) (m := m) (ops := ops) (fun a w hC hq => hq w hC) m (Array.replicate ops.size false) a w ⟨i.sat, i.kept⟩ (by simp) (fun j hj hjs => by simp [hjs]) h2
  rw [← hf] at h3
  exact h3
theorem WQ.nil (h : WA P n w0 R ops Q r (mask ops.size m) l H) : WQ P n w0 R ops Q m r [] l H := fun a hs hd kn w hC => h a w ⟨hs, hd, kn, hC.1, hC.2⟩
theorem WQ.step {d : Nat} {op : Op} {ty : TypeId} {pos : String} {aft : Array Edge} {g : Option (Nat × Bool)} {rest : List Oper} {v : Value} (hd : Nat.blt d n = true) (hw : Wt ops l ⟨some d, op, ty, pos, aft, g⟩)
    (hq : ∀ a, Kn a l → ∀ w, CW w0 R H w → Oper.quietAt P ⟨some d, op, ty, pos, aft, g⟩ a (CW w0 R H) w v) (h : WQ P n w0 R ops Q m r rest ((d, v) :: l) H) : WQ P n w0 R ops Q m r (⟨some d, op, ty, pos, aft, g⟩ :: rest) l H := fun a hs hdf kn => by
  unfold wpQuiet
  rw [if_pos (hw a kn)]
  have hdn : d < a.tmps.size := by rw [hs]; exact Nat.le_of_ble_eq_true hd
  exact ⟨v, hq a kn, h _ (by simp [Act.put, hs]) (by simpa [Act.put] using hdf) (kn.put v hdn)⟩
theorem WQ.y {d : Nat} {op : Op} {ty : TypeId} {pos : String} {aft : Array Edge} {rest : List Oper} {v : Value} (hd : Nat.blt d n = true) (hy : Yd P ⟨some d, op, ty, pos, aft, none⟩ l v)
    (h : WQ P n w0 R ops Q m r rest ((d, v) :: l) H) : WQ P n w0 R ops Q m r (⟨some d, op, ty, pos, aft, none⟩ :: rest) l H :=
  WQ.step hd Wt.none (fun a kn w _ => by unfold Oper.quietAt; rw [hy a kn w]; exact ⟨rfl, rfl⟩) h
def Rd (P : Program) (o : Oper) (l : Sl) (H : List Ck) (v : Value) : Prop := ∀ a w R, Kn a l → Sat w (H ++ R) → (execOp a.eval o).run P w = .ok (.value v) w
theorem WQ.rd {d : Nat} {op : Op} {ty : TypeId} {pos : String} {aft : Array Edge} {g : Option (Nat × Bool)} {rest : List Oper} {v : Value} (hd : Nat.blt d n = true) (hw : Wt ops l ⟨some d, op, ty, pos, aft, g⟩) (hr : Rd P ⟨some d, op, ty, pos, aft, g⟩ l H v)
    (h : WQ P n w0 R ops Q m r rest ((d, v) :: l) H) : WQ P n w0 R ops Q m r (⟨some d, op, ty, pos, aft, g⟩ :: rest) l H :=
  WQ.step hd hw (fun a kn w hC => by unfold Oper.quietAt; rw [hr a w R kn hC.1]; exact ⟨rfl, rfl⟩) h
theorem WQ.rf {d : Nat} {op : Op} {ty : TypeId} {pos : String} {aft : Array Edge} {g : Option (Nat × Bool)} {rest : List Oper} {f : FuncId} {args : List Value} {C D : List Ck} {v : Value} (hd : Nat.blt d n = true) (hw : Wt ops l ⟨some d, op, ty, pos, aft, g⟩)
    (he : Ent P ⟨some d, op, ty, pos, aft, g⟩ l f args) (hs : Reads P f args C v) (hH : Sp H C D) (h : WQ P n w0 R ops Q m r rest ((d, v) :: l) H) : WQ P n w0 R ops Q m r (⟨some d, op, ty, pos, aft, g⟩ :: rest) l H :=
  WQ.step hd hw (fun a kn w hC => by
    unfold Oper.quietAt
    rw [he a kn w]
    refine ⟨rfl, ?_⟩
    have hsat : Sat w (C ++ (D ++ R)) := by
      have := hC.1.perm (hH.p.append_right R)
      simpa using this
    refine (hs w (D ++ R) hsat).mono fun e w' ⟨v', C', he', ⟨h1, h2⟩, hs', hk⟩ => ?_
    subst h1 h2
    refine ⟨he', ?_, hC.2.trans hk⟩
    have h4 : Sat w' ((C' ++ D) ++ R) := by simpa using hs'
    exact h4.perm (hH.p.symm.append_right R)) h
variable {d : Option Nat} {ty : TypeId} {pos : String} {aft : Array Edge} {g : Option (Nat × Bool)}
theorem Rd.load1 {T : TypeId} {x : Operand} {b o : Nat} {cs : List Value} {T' : TypeId} {fr : Nat × Nat} {ex : Bool} {v : Value} (hT : aggB P T = false) (hx : ev l x = some (.pointer (some ⟨b, o, none⟩)))
    (hm : (⟨b, .cells cs.toArray T' fr, ex⟩ : Ck) ∈ H) (hc : cs[o]? = some v) : Rd P ⟨d, .load T x, ty, pos, aft, g⟩ l H v := fun a w R kn s => by
  have h := s.holds _ (List.mem_append_left R hm)
  have hcell : w.cell? ⟨b, o, none⟩ = some v := by rw [cell_at h]; simpa using hc
  simp [execOp, kn.ev hx, Instr.loadAt, Instr.sureAddr, loadVar, run_isAgg_no hT, hcell]
theorem Rd.loadA {T : TypeId} {x : Operand} {b o n : Nat} {cs : List Value} {T' : TypeId} {fr : Nat × Nat} {ex : Bool} {vs : List Value} (hT : isAggOf P T n = true) (hx : ev l x = some (.pointer (some ⟨b, o, none⟩)))
    (hm : (⟨b, .cells cs.toArray T' fr, ex⟩ : Ck) ∈ H) (hn : vs.length = n) (hc : (cs.drop o).take n = vs) : Rd P ⟨d, .load T x, ty, pos, aft, g⟩ l H (.agg vs.toArray) := fun a w R kn s => by
  have h := s.holds _ (List.mem_append_left R hm)
  have hl := run_loadCells_list (P := P) w ⟨b, o, none⟩ vs (fun j v hv => by
    rw [add_plain, cell_at h]
    subst hc
    rw [List.getElem?_take] at hv
    split at hv
    · simpa using hv
    · cases hv)
  rw [hn] at hl
  simp [execOp, kn.ev hx, Instr.loadAt, Instr.sureAddr, loadVar, (run_isAgg_yes hT w).1, (run_isAgg_yes hT w).2, hl]
theorem Rd.loadAll {T : TypeId} {x : Operand} {b n : Nat} {cs : List Value} {T' : TypeId} {fr : Nat × Nat} {ex : Bool} (hT : isAggOf P T n = true) (hx : ev l x = some (.pointer (some ⟨b, 0, none⟩)))
    (hm : (⟨b, .cells cs.toArray T' fr, ex⟩ : Ck) ∈ H) (hn : cs.length = n) : Rd P ⟨d, .load T x, ty, pos, aft, g⟩ l H (.agg cs.toArray) :=
  Rd.loadA hT hx hm hn (by subst hn; simp)
end
end Go.SL

set_option linter.unusedVariables false
set_option linter.unusedSimpArgs false
namespace Go.SL
section
variable {P : Program} {n : Nat} {w0 : World} {R : List Ck} {Q : Exit → Act → World → Prop} {l : Sl} {H : List Ck} {ops : Array Oper}
theorem nodup_eq {rs : List (Nat × Nat × Value)} {f : Nat × Nat × Value → Nat} (hn : (rs.map f).Nodup) {a b : Nat × Nat × Value} (ha : a ∈ rs) (hb : b ∈ rs) (e : f a = f b) : a = b := by
  induction rs with
  | nil => cases ha
  | cons r rs ih =>
    simp only [List.map_cons, List.nodup_cons] at hn
    rcases List.mem_cons.1 ha with h1 | h1
    · rcases List.mem_cons.1 hb with h2 | h2
      · rw [h1, h2]
      · exact absurd (List.mem_map.2 ⟨b, h2, by rw [← e, h1]⟩) hn.1
    · rcases List.mem_cons.1 hb with h2 | h2
      · exact absurd (List.mem_map.2 ⟨a, h1, by rw [e, h2]⟩) hn.1
      · exact ih hn.2 h1 h2
end
end Go.SL

set_option linter.unusedVariables false
set_option linter.unusedSimpArgs false
namespace Go.SL
theorem all_n {α : Type} {p : α → Prop} : ∀ x ∈ ([] : List α), p x := fun _ h => absurd h List.not_mem_nil
theorem all_c {α : Type} {p : α → Prop} {a : α} {l : List α} (h : p a) (k : ∀ x ∈ l, p x) : ∀ x ∈ a :: l, p x := List.forall_mem_cons.2 ⟨h, k⟩
abbrev Pn := List (Nat × Nat × Value)
def floatA (N : Nat) (B : List Nat) (pn : Pn) (p : Nat → Bool) : Array Bool := ((List.range N).map fun i => B.contains i || (p i && pn.any fun q => q.1 == i)).toArray
def floatV (pn : Pn) (p : Nat → Bool) : Sl := (pn.filter fun q => p q.1).map (·.2)
def unex (pn : Pn) (p : Nat → Bool) : Nat := (pn.filter fun q => !p q.1).length
def bindsOn (ops : Array Oper) (i k : Nat) : Bool := match ops[i]? with | some o => o.after.any fun e => Region.binds .any e && e.on == k | none => false
def floatOk (ops : Array Oper) (B : List Nat) (pd : List (Nat × Nat)) (nexts : List (Nat × List Nat)) : Bool :=
  ((List.range ops.size).all fun i => match ops[i]? with | some o => o.after.all fun e => !Region.binds .any e || decide (e.on < i) | none => true)
  && (decide ((pd.map (·.1)).Nodup) && (decide ((pd.map (·.2)).Nodup) && ((pd.all fun q => !B.contains q.1 && decide (q.1 < ops.size))
  && (((List.range ops.size).all fun i => B.contains i || (pd.any (fun q => q.1 == i) || (nexts.any (fun e => e.1 == i) || !(match ops[i]? with | some o => o.after.all fun e => !Region.binds .any e || (B.contains e.on || pd.any (fun q => q.1 == e.on)) | none => true))))
  && (nexts.all fun e => e.2.all (fun k => bindsOn ops e.1 k) && (match ops[e.1]? with | some o => pd.all (fun q => o.dst != some q.2) | none => true))))))
section
variable {P : Program} {n : Nat} {w0 : World} {R : List Ck} {Q : Exit → Act → World → Prop} {l : Sl} {H : List Ck} {ops : Array Oper} {pn : Pn} {r : Nat} {B : List Nat}
def QAt (P : Program) (w0 : World) (R : List Ck) (ops : Array Oper) (Q : Exit → Act → World → Prop) (o : Oper) (lu : Sl) (H : List Ck) (v : Value) : Prop :=
  ∀ a w, Kn a lu → Sat w (H ++ R) → Kept w0 w → (Region.wanted o (yielded ops a.tmps) = true ∧ o.wp P a w (fun a' w' => a' = a.put o.dst v ∧ Sat w' (H ++ R) ∧ Kept w0 w') Q) ∨ (Region.wanted o (yielded ops a.tmps) = false ∧ v = undef)
def QF (P : Program) (n : Nat) (w0 : World) (R : List Ck) (ops : Array Oper) (Q : Exit → Act → World → Prop) (pn : Pn) (l : Sl) (H : List Ck) (q : Nat × Nat × Value) : Prop :=
  ∃ (o : Oper) (ks : List Nat), ops[q.1]? = some o ∧ o.dst = some q.2.1 ∧ Nat.blt q.2.1 n = true ∧ (ks.all fun k => bindsOn ops q.1 k) = true ∧ QAt P w0 R ops Q o (floatV pn ks.contains ++ l) H q.2.2
def WAF (P : Program) (n : Nat) (w0 : World) (R : List Ck) (ops : Array Oper) (Q : Exit → Act → World → Prop) (pn : Pn) (r : Nat) (B : List Nat) (l : Sl) (H : List Ck) : Prop :=
  ∀ (p : Nat → Bool) (fuel : Nat), r + unex pn p ≤ fuel → WA P n w0 R ops Q fuel (floatA ops.size B pn p) (floatV pn p ++ l) H
def SO (P : Program) (n : Nat) (w0 : World) (R : List Ck) (ops : Array Oper) (Q : Exit → Act → World → Prop) (j : Nat) (lu : Sl) (H : List Ck) (K : Sl → List Ck → Prop) : Prop :=
  ∃ o, ops[j]? = some o ∧ ∀ a w, a.tmps.size = n → a.defers = [] → Kn a lu → Sat w (H ++ R) → Kept w0 w →
    wpOp P ops Q j (fun a' w' => ∃ dv H', K dv H' ∧ ((dv = [] ∧ a' = a) ∨ ∃ d v, o.dst = some d ∧ Nat.blt d n = true ∧ dv = [(d, v)] ∧ a' = a.put (some d) v) ∧ Sat w' (H' ++ R) ∧ Kept w0 w') a w
theorem At.sub' {l' : Sl} {a : Act} {w : World} (h : At P n w0 R l H a w) (k : Kn a l') : At P n w0 R l' H a w := ⟨h.size, h.defers, k, h.sat, h.kept⟩
theorem getv_float {p : Nat → Bool} {t : Nat} {v : Value} (h : getv (floatV pn p ++ l) t = some v) : (∃ q ∈ pn, p q.1 = true ∧ q.2 = (t, v)) ∨ getv l t = some v := by
  unfold floatV at h
  induction pn with
  | nil => exact .inr h
  | cons q pn ih =>
    by_cases hc : p q.1 = true
    · rw [List.filter_cons_of_pos (p := fun q : Nat × Nat × Value => p q.1) hc, List.map_cons, List.cons_append] at h
      have h' : getv ((q.2.1, q.2.2) :: (List.map (fun x => x.2) (List.filter (fun q => p q.1) pn) ++ l)) t = some v := h
      rw [getv_cons] at h'
      by_cases e : q.2.1 = t
      · rw [if_pos e, Option.some.injEq] at h'
        exact .inl ⟨q, List.mem_cons_self, hc, Prod.ext e h'⟩
      · rw [if_neg e] at h'
        rcases ih h' with ⟨q', h1, h2⟩ | h2
        · exact .inl ⟨q', List.mem_cons_of_mem _ h1, h2⟩
        · exact .inr h2
    · rw [List.filter_cons_of_neg (p := fun q : Nat × Nat × Value => p q.1) hc] at h
      rcases ih h with ⟨q', h1, h2⟩ | h2
      · exact .inl ⟨q', List.mem_cons_of_mem _ h1, h2⟩
      · exact .inr h2
theorem float_get {p : Nat → Bool} {t : Nat} {v : Value} (hdn : (pn.map fun q => q.2.1).Nodup) {q : Nat × Nat × Value} (hq : q ∈ pn) (hp : p q.1 = true) (e : q.2 = (t, v)) : getv (floatV pn p ++ l) t = some v := by
  unfold floatV
  induction pn with
  | nil => cases hq
  | cons x pn ih =>
    simp only [List.map_cons, List.nodup_cons] at hdn
    rcases List.mem_cons.1 hq with rfl | hq
    · rw [List.filter_cons_of_pos (p := fun q : Nat × Nat × Value => p q.1) hp, List.map_cons, List.cons_append]
      show getv ((q.2.1, q.2.2) :: _) t = _
      rw [getv_cons, if_pos (by rw [e]), e]
    · have ih := ih hdn.2 hq
      by_cases hc : p x.1 = true
      · rw [List.filter_cons_of_pos (p := fun q : Nat × Nat × Value => p q.1) hc, List.map_cons, List.cons_append]
        show getv ((x.2.1, x.2.2) :: _) t = _
        rw [getv_cons, if_neg (fun e2 => hdn.1 (List.mem_map.2 ⟨q, hq, by rw [e2, e]⟩))]
        exact ih
      · rw [List.filter_cons_of_neg (p := fun q : Nat × Nat × Value => p q.1) hc]
        exact ih
theorem float_past {p : Nat → Bool} {t : Nat} (h : ∀ q ∈ pn, q.2.1 ≠ t) : getv (floatV pn p ++ l) t = getv l t := by
  unfold floatV
  induction pn with
  | nil => rfl
  | cons q pn ih =>
    have ih := ih fun x hx => h x (List.mem_cons_of_mem _ hx)
    by_cases hc : p q.1 = true
    · rw [List.filter_cons_of_pos (p := fun q : Nat × Nat × Value => p q.1) hc, List.map_cons, List.cons_append]
      show getv ((q.2.1, q.2.2) :: _) t = _
      rw [getv_cons, if_neg (h q List.mem_cons_self)]
      exact ih
    · rw [List.filter_cons_of_neg (p := fun q : Nat × Nat × Value => p q.1) hc]
      exact ih
theorem float_old {p : Nat → Bool} {t : Nat} {v : Value} (hfr : ∀ q ∈ pn, getv l q.2.1 = none) (h : getv l t = some v) : getv (floatV pn p ++ l) t = some v := by
  rw [float_past fun q hq e => by rw [← e, hfr q hq] at h; cases h]
  exact h
theorem Kn.fewer {a : Act} {p p' : Nat → Bool} (hdn : (pn.map fun q => q.2.1).Nodup) (hfr : ∀ q ∈ pn, getv l q.2.1 = none) (h : ∀ q ∈ pn, p' q.1 = true → p q.1 = true) (k : Kn a (floatV pn p ++ l)) : Kn a (floatV pn p' ++ l) := fun t v hv => by
  rcases getv_float hv with ⟨q, hq, h1, h2⟩ | h1
  · exact k t v (float_get hdn hq (h q hq h1) h2)
  · exact k t v (float_old hfr h1)
theorem floatA_get {N : Nat} {p : Nat → Bool} {i : Nat} (d : Bool) (h : i < N) : (floatA N B pn p).getD i d = (B.contains i || (p i && pn.any fun q => q.1 == i)) := by
  unfold floatA
  simp [h]
theorem any_mem {i : Nat} : (pn.any fun q => q.1 == i) = true ↔ ∃ q ∈ pn, q.1 = i := by simp
structure FOk (ops : Array Oper) (B : List Nat) (pn : Pn) (nexts : List (Nat × List Nat)) : Prop where
  back : ∀ i o, ops[i]? = some o → ∀ e ∈ o.after, Region.binds .any e = true → e.on < i
  nums : (pn.map (·.1)).Nodup
  slots : (pn.map fun q => q.2.1).Nodup
  new : ∀ q ∈ pn, B.contains q.1 = false ∧ q.1 < ops.size
  next : ∀ i o, ops[i]? = some o → B.contains i = false → (∀ q ∈ pn, q.1 ≠ i) → (∀ e ∈ o.after, Region.binds .any e = true → B.contains e.on = true ∨ ∃ q ∈ pn, q.1 = e.on) → ∃ e ∈ nexts, e.1 = i
  deps : ∀ e ∈ nexts, ∀ k ∈ e.2, bindsOn ops e.1 k = true
  dst : ∀ e ∈ nexts, ∀ o, ops[e.1]? = some o → ∀ q ∈ pn, o.dst ≠ some q.2.1
theorem FOk.of {pd : List (Nat × Nat)} {nexts : List (Nat × List Nat)} (hpd : pn.map (fun q => (q.1, q.2.1)) = pd) (h : floatOk ops B pd nexts = true) : FOk ops B pn nexts := by
  subst hpd
  simp only [floatOk, Bool.and_eq_true] at h
  obtain ⟨h1, h2, h3, h4, h5, h6⟩ := h
  refine ⟨fun i o ho e he hb => ?_, ?_, ?_, fun q hq => ?_, fun i o ho hB hn hd => ?_, fun e he k hk => ?_, fun e he o ho q hq => ?_⟩
  · have hlt : i < ops.size := (Array.getElem?_eq_some_iff.1 ho).1
    have := List.all_eq_true.1 h1 i (List.mem_range.2 hlt)
    rw [ho] at this
    have := Array.all_eq_true_iff_forall_mem.1 this e he
    rw [hb] at this
    simpa using this
  · have := of_decide_eq_true h2
    rw [List.map_map] at this
    exact this
  · have := of_decide_eq_true h3
    rw [List.map_map] at this
    exact this
  · have := List.all_eq_true.1 h4 (q.1, q.2.1) (List.mem_map.2 ⟨q, hq, rfl⟩)
    simp only [Bool.and_eq_true, Bool.not_eq_true', decide_eq_true_eq] at this
    exact this
  · have hlt : i < ops.size := (Array.getElem?_eq_some_iff.1 ho).1
    have := List.all_eq_true.1 h5 i (List.mem_range.2 hlt)
    rw [ho, hB] at this
    simp only [Bool.false_or, Bool.or_eq_true] at this
    rcases this with h | h | h
    · obtain ⟨y, hy, e⟩ := List.any_eq_true.1 h
      obtain ⟨q, hq, rfl⟩ := List.mem_map.1 hy
      exact absurd (by simpa using e) (hn q hq)
    · obtain ⟨e, he, h⟩ := List.any_eq_true.1 h
      exact ⟨e, he, by simpa using h⟩
    · exfalso
      rw [Bool.not_eq_true', Bool.eq_false_iff] at h
      refine h (Array.all_eq_true_iff_forall_mem.2 fun e he => ?_)
      cases hb : Region.binds .any e
      · rfl
      · rcases hd e he hb with h7 | ⟨q, hq, h7⟩
        · rw [h7]; rfl
        · rw [show (List.any (pn.map fun q => (q.1, q.2.1)) fun q => q.1 == e.on) = true from List.any_eq_true.2 ⟨(q.1, q.2.1), List.mem_map.2 ⟨q, hq, rfl⟩, by simpa using h7⟩]
          simp
  · have := List.all_eq_true.1 h6 e he
    rw [Bool.and_eq_true] at this
    exact List.all_eq_true.1 this.1 k hk
  · have := List.all_eq_true.1 h6 e he
    rw [Bool.and_eq_true, ho] at this
    have := List.all_eq_true.1 this.2 (q.1, q.2.1) (List.mem_map.2 ⟨q, hq, rfl⟩)
    simpa using this
theorem bindsOn_spec {i k : Nat} {o : Oper} (ho : ops[i]? = some o) (h : bindsOn ops i k = true) : ∃ e ∈ o.after, Region.binds .any e = true ∧ e.on = k := by
  unfold bindsOn at h
  rw [ho] at h
  obtain ⟨e, he, hb⟩ := Array.any_eq_true'.1 h
  simp only [Bool.and_eq_true, beq_iff_eq] at hb
  exact ⟨e, he, hb⟩
theorem ready_deps {p : Nat → Bool} {i k : Nat} {nexts : List (Nat × List Nat)} (F : FOk ops B pn nexts) (hi : i ∈ Region.ready .any ops (floatA ops.size B pn p)) (hk : bindsOn ops i k = true) (hq : ∃ q ∈ pn, q.1 = k) : p k = true := by
  obtain ⟨_, o, ho, hall⟩ := mem_ready.1 hi
  obtain ⟨e, he, hb, rfl⟩ := bindsOn_spec ho hk
  obtain ⟨q, hq, h1⟩ := hq
  have h2 := hall e he hb
  have h3 := F.new q hq
  rw [h1] at h3
  rw [floatA_get _ h3.2, h3.1] at h2
  simp only [Bool.false_or, Bool.and_eq_true] at h2
  exact h2.1
theorem ready_some {p : Nat → Bool} {nexts : List (Nat × List Nat)} (F : FOk ops B pn nexts) {i : Nat} (hi : i < ops.size) (hu : (floatA ops.size B pn p).getD i true = false) : Region.ready .any ops (floatA ops.size B pn p) ≠ [] := by
  have key : ∀ m i, i < ops.size → i ≤ m → (floatA ops.size B pn p).getD i true = false → ∃ j, j ∈ Region.ready .any ops (floatA ops.size B pn p) := by
    intro m
    induction m with
    | zero =>
      intro i hi him hu
      refine ⟨i, mem_ready.2 ⟨hu, ops[i], Array.getElem?_eq_getElem hi, fun e he hb => ?_⟩⟩
      have := F.back i _ (Array.getElem?_eq_getElem hi) e he hb
      omega
    | succ m ih =>
      intro i hi him hu
      by_cases h : ∀ e ∈ ops[i].after, Region.binds .any e = true → (floatA ops.size B pn p).getD e.on false = true
      · exact ⟨i, mem_ready.2 ⟨hu, ops[i], Array.getElem?_eq_getElem hi, h⟩⟩
      · have ⟨e, he, hb, hn⟩ : ∃ e ∈ ops[i].after, Region.binds .any e = true ∧ ¬ (floatA ops.size B pn p).getD e.on false = true := by
          refine Classical.byContradiction fun h2 => h fun e he hb => Classical.byContradiction fun h3 => h2 ⟨e, he, hb, h3⟩
        have hlt := F.back i _ (Array.getElem?_eq_getElem hi) e he hb
        refine ih e.on (by omega) (by omega) ?_
        rw [floatA_get _ (by omega)] at hn ⊢
        exact Bool.eq_false_iff.2 hn
  obtain ⟨j, hj⟩ := key i i hi (Nat.le_refl _) hu
  exact fun e => by rw [e] at hj; cases hj
theorem floatA_more {N : Nat} {p : Nat → Bool} {i : Nat} (hi : ∃ q ∈ pn, q.1 = i) : (floatA N B pn p).setIfInBounds i true = floatA N B pn (fun j => p j || j == i) := by
  apply Array.ext
  · simp [floatA]
  · intro j h1 h2
    have hN : j < N := by simpa [floatA] using h2
    have g1 := floatA_get (B := B) (pn := pn) (p := p) (i := j) false hN
    have g2 := floatA_get (B := B) (pn := pn) (p := fun j => p j || j == i) (i := j) false hN
    rw [Array.getD_eq_getD_getElem?, Array.getElem?_eq_getElem (by simpa [floatA] using hN)] at g1 g2
    simp only [Option.getD_some] at g1 g2
    rw [g2, Array.getElem_setIfInBounds (by simpa [floatA] using hN), g1]
    by_cases e : i = j
    · subst e
      rw [if_pos rfl, any_mem.2 hi]
      simp
    · rw [if_neg e]
      have : (j == i) = false := by simpa using fun x => e x.symm
      rw [this, Bool.or_false]
theorem unex_more {p : Nat → Bool} (hn : (pn.map (·.1)).Nodup) {q : Nat × Nat × Value} (hq : q ∈ pn) (hp : p q.1 = false) : unex pn p = unex pn (fun j => p j || j == q.1) + 1 := by
  unfold unex
  induction pn with
  | nil => cases hq
  | cons x pn ih =>
    simp only [List.map_cons, List.nodup_cons] at hn
    rcases List.mem_cons.1 hq with rfl | hq
    · rw [List.filter_cons_of_pos (by simp [hp]), List.filter_cons_of_neg (by simp), List.length_cons]
      congr 1
      congr 1
      refine List.filter_congr fun y hy => ?_
      have : (y.1 == q.1) = false := by simpa using fun e : y.1 = q.1 => hn.1 (List.mem_map.2 ⟨y, hy, e⟩)
      simp only [this, Bool.or_false]
    · have ih := ih hn.2 hq
      have hx : (x.1 == q.1) = false := by simpa using fun e : x.1 = q.1 => hn.1 (List.mem_map.2 ⟨q, hq, e.symm⟩)
      by_cases hpx : p x.1 = true
      · rw [List.filter_cons_of_neg (by simp [hpx]), List.filter_cons_of_neg (by simp [hpx])]
        exact ih
      · rw [List.filter_cons_of_pos (by simpa using hpx), List.filter_cons_of_pos (by simpa [hx] using hpx), List.length_cons, List.length_cons, ih]
theorem unex_zero {p : Nat → Bool} (h : unex pn p = 0) : ∀ q ∈ pn, p q.1 = true := fun q hq => by
  cases e : p q.1 with
  | true => rfl
  | false =>
    have : q ∈ pn.filter fun q => !p q.1 := List.mem_filter.2 ⟨hq, by rw [e]; rfl⟩
    rw [List.eq_nil_of_length_eq_zero h] at this
    cases this
theorem float_one {fuel : Nat} {p : Nat → Bool} {nexts : List (Nat × List Nat)} (F : FOk ops B pn nexts) (hfr : ∀ q ∈ pn, getv l q.2.1 = none) {q : Nat × Nat × Value} (hq : q ∈ pn) (hf : QF P n w0 R ops Q pn l H q)
    (hr : q.1 ∈ Region.ready .any ops (floatA ops.size B pn p)) {a : Act} {w : World} (at_ : At P n w0 R (floatV pn p ++ l) H a w)
    (k : WA P n w0 R ops Q fuel (floatA ops.size B pn (fun j => p j || j == q.1)) (floatV pn (fun j => p j || j == q.1) ++ l) H) :
    wpOp P ops Q q.1 (wpAny P .any ops Q fuel ((floatA ops.size B pn p).setIfInBounds q.1 true)) a w := by
  obtain ⟨o, ks, ho, hod, hd, hks, hat⟩ := hf
  have hkn : Kn a (floatV pn ks.contains ++ l) := at_.kn.fewer F.slots hfr fun x hx hc => ready_deps F hr (List.all_eq_true.1 hks _ (List.contains_iff_mem.1 hc)) ⟨x, hx, rfl⟩
  have hlt : q.2.1 < a.tmps.size := by rw [at_.size]; exact Nat.le_of_ble_eq_true hd
  have after : ∀ w', Sat w' (H ++ R) → Kept w0 w' → wpAny P .any ops Q fuel ((floatA ops.size B pn p).setIfInBounds q.1 true) (a.put o.dst q.2.2) w' := fun w' hs hk => by
    rw [floatA_more ⟨q, hq, rfl⟩, hod]
    refine k _ _ ⟨by simp [Act.put, at_.size], by simpa [Act.put] using at_.defers, fun t v hv => ?_, hs, hk⟩
    have hput := at_.kn.put q.2.2 hlt
    refine hput t v ?_
    rw [getv_cons]
    rcases getv_float hv with ⟨x, hx, h1, h2⟩ | h1
    · by_cases e : q.2.1 = t
      · rw [if_pos e]
        have : x = q := nodup_eq F.slots hx hq (by rw [h2]; exact e.symm)
        subst this
        rw [h2]
      · rw [if_neg e]
        have h3 : p x.1 = true := by
          simp only [Bool.or_eq_true, beq_iff_eq] at h1
          rcases h1 with h1 | h1
          · exact h1
          · have : x = q := nodup_eq F.nums hx hq h1
            subst this
            rw [h2] at e
            exact absurd rfl e
        exact float_get F.slots hx h3 h2
    · rw [if_neg (fun e => by rw [← e, hfr q hq] at h1; cases h1)]
      exact float_old hfr h1
  unfold wpOp
  simp only [ho]
  rcases hat a w hkn at_.sat at_.kept with ⟨h1, h2⟩ | ⟨h1, h2⟩
  · rw [if_pos h1]
    exact .inl (Oper.wp_mono (fun a' w' ⟨e, hs, hk⟩ => by subst e; exact after w' hs hk) h2)
  · rw [if_neg (by rw [h1]; simp), ← h2]
    exact after w at_.sat at_.kept
theorem WA.float {N : Nat} (hN : ops.size = N) (h : WAF P n w0 R ops Q [] N [] l H) : WA P n w0 R ops Q N (Array.replicate N false) l H := by
  have := h (fun _ => false) N (by simp [unex])
  have e : floatA ops.size [] [] (fun _ => false) = Array.replicate N false := by
    subst hN
    apply Array.ext
    · simp [floatA]
    · intro j h1 h2
      simp [floatA]
  rw [e] at this
  exact this
theorem WAF.add {i d : Nat} {v : Value} (hni : (pn.all fun q => !(q.1 == i)) = true) (hq : QF P n w0 R ops Q pn l H (i, d, v)) (k : WAF P n w0 R ops Q ((i, d, v) :: pn) r B l H) : WAF P n w0 R ops Q pn (r + 1) B l H := fun p fuel hf => by
  have hne : ∀ q ∈ pn, q.1 ≠ i := fun q hq e => by
    have := List.all_eq_true.1 hni q hq
    simp [e] at this
  have := k (fun j => p j && !(j == i)) fuel (by
    unfold unex at hf ⊢
    rw [List.filter_cons_of_pos (by simp), List.length_cons]
    rw [show (pn.filter fun q => !(p q.1 && !(q.1 == i))) = pn.filter fun q => !p q.1 from List.filter_congr fun q hq => by simp [hne q hq]]
    omega)
  have e1 : floatA ops.size B ((i, d, v) :: pn) (fun j => p j && !(j == i)) = floatA ops.size B pn p := by
    unfold floatA
    congr 1
    refine List.map_congr_left fun j _ => ?_
    congr 1
    by_cases e : j = i
    · subst e
      have : (pn.any fun q => q.1 == j) = false := by
        rw [Bool.eq_false_iff]
        intro h
        obtain ⟨q, hq, e⟩ := any_mem.1 h
        exact hne q hq e
      simp [this]
    · have h1 : (j == i) = false := by simpa using e
      have h2 : (i == j) = false := by simpa using fun h => e h.symm
      simp [h1, h2]
  have e2 : floatV ((i, d, v) :: pn) (fun j => p j && !(j == i)) = floatV pn p := by
    unfold floatV
    rw [List.filter_cons_of_neg (by simp)]
    congr 1
    exact List.filter_congr fun q hq => by simp [hne q hq]
  rw [e1, e2] at this
  exact this
theorem WAF.step {pd : List (Nat × Nat)} (nexts : List (Nat × List Nat)) (hpd : pn.map (fun q => (q.1, q.2.1)) = pd) (hok : floatOk ops B pd nexts = true) (hsome : ((List.range ops.size).any fun i => !(B.contains i || pd.any fun q => q.1 == i)) = true) (hfr : ∀ q ∈ pn, getv l q.2.1 = none)
    (hq : ∀ q ∈ pn, QF P n w0 R ops Q pn l H q)
    (hs : ∀ e ∈ nexts, SO P n w0 R ops Q e.1 (floatV pn e.2.contains ++ l) H fun dv H' => WAF P n w0 R ops Q (pn.filter fun q => !e.2.contains q.1) r (e.1 :: ((pn.map (·.1)).filter e.2.contains ++ B)) (dv ++ (floatV pn e.2.contains ++ l)) H') : WAF P n w0 R ops Q pn (r + 1) B l H := by
  have F := FOk.of hpd hok
  have key : ∀ (t : Nat) (p : Nat → Bool) (fuel : Nat), unex pn p = t → r + 1 + t ≤ fuel → WA P n w0 R ops Q fuel (floatA ops.size B pn p) (floatV pn p ++ l) H := by
    intro t
    induction t using Nat.strongRecOn with
    | _ t ih =>
      intro p fuel ht hf
      obtain ⟨fuel, rfl⟩ : ∃ f, fuel = f + 1 := ⟨fuel - 1, by omega⟩
      intro a w at_
      have hne : Region.ready .any ops (floatA ops.size B pn p) ≠ [] := by
        obtain ⟨i, hi, hn⟩ := List.any_eq_true.1 hsome
        have hi := List.mem_range.1 hi
        refine ready_some F hi ?_
        rw [floatA_get _ hi]
        subst hpd
        simp only [Bool.not_eq_true', Bool.or_eq_false_iff] at hn
        rw [hn.1, show (pn.any fun q => q.1 == i) = false from by
          rw [Bool.eq_false_iff]
          intro h
          obtain ⟨q, hq, e⟩ := any_mem.1 h
          have : (List.any (pn.map fun q => (q.1, q.2.1)) fun q => q.1 == i) = true := List.any_eq_true.2 ⟨(q.1, q.2.1), List.mem_map.2 ⟨q, hq, rfl⟩, by simpa using e⟩
          rw [hn.2] at this
          cases this]
        simp
      refine ⟨fun h0 => absurd h0 hne, fun i hi => ?_⟩
      obtain ⟨hun, oi, hoi, hall⟩ := mem_ready.1 hi
      have hlt : i < ops.size := (Array.getElem?_eq_some_iff.1 hoi).1
      rw [floatA_get _ hlt, Bool.or_eq_false_iff] at hun
      by_cases hmem : ∃ q ∈ pn, q.1 = i
      · obtain ⟨q, hqm, rfl⟩ := hmem
        have hp : p q.1 = false := by
          have := hun.2
          rw [any_mem.2 ⟨q, hqm, rfl⟩, Bool.and_true] at this
          exact this
        have hu := unex_more F.nums hqm hp
        exact float_one F hfr hqm (hq q hqm) hi at_ (ih (unex pn fun j => p j || j == q.1) (by omega) _ fuel rfl (by omega))
      · obtain ⟨e, he, rfl⟩ := F.next i oi hoi hun.1 (fun q hqm e => hmem ⟨q, hqm, e⟩) (fun e he hb => by
          have h1 := hall e he hb
          have h2 := F.back i oi hoi e he hb
          rw [floatA_get _ (by omega), Bool.or_eq_true, Bool.and_eq_true] at h1
          exact h1.imp id fun h => any_mem.1 h.2)
        obtain ⟨o, ho, hso⟩ := hs e he
        obtain rfl : oi = o := by rw [hoi] at ho; exact Option.some.inj ho
        have hdep : ∀ q ∈ pn, e.2.contains q.1 = true → p q.1 = true := fun q hqm hc => ready_deps F hi (F.deps e he q.1 (List.contains_iff_mem.1 hc)) ⟨q, hqm, rfl⟩
        have hkn := at_.kn.fewer F.slots hfr hdep
        refine wpOp_mono (fun a' w' ⟨dv, H', hK, ha', hs', hk'⟩ => ?_) (hso a w at_.size at_.defers hkn at_.sat at_.kept)
        have eA : (floatA ops.size B pn p).setIfInBounds e.1 true = floatA ops.size (e.1 :: ((pn.map (·.1)).filter e.2.contains ++ B)) (pn.filter fun q => !e.2.contains q.1) p := by
          apply Array.ext
          · simp [floatA]
          · intro j h1 h2
            have hN : j < ops.size := by simpa [floatA] using h2
            have g1 := floatA_get (B := B) (pn := pn) (p := p) (i := j) false hN
            have g2 := floatA_get (B := e.1 :: ((pn.map (·.1)).filter e.2.contains ++ B)) (pn := pn.filter fun q => !e.2.contains q.1) (p := p) (i := j) false hN
            rw [Array.getD_eq_getD_getElem?, Array.getElem?_eq_getElem (by simpa [floatA] using hN)] at g1 g2
            simp only [Option.getD_some] at g1 g2
            rw [g2, Array.getElem_setIfInBounds (by simpa [floatA] using hN), g1]
            by_cases hje : e.1 = j
            · rw [if_pos hje, List.contains_cons, show (j == e.1) = true by simp [hje]]
              simp
            · rw [if_neg hje, List.contains_cons, show (j == e.1) = false by simpa using fun h => hje h.symm]
              rw [Bool.eq_iff_iff]
              simp only [Bool.or_eq_true, Bool.and_eq_true, List.contains_iff_mem, List.mem_append, List.mem_filter, List.mem_map, Bool.false_or, List.any_eq_true, beq_iff_eq, Bool.not_eq_true', Bool.false_eq_true, false_or]
              constructor
              · rintro (h | ⟨h3, q, hqm, h4⟩)
                · exact .inl (.inr h)
                · by_cases hc : j ∈ e.2
                  · exact .inl (.inl ⟨⟨q, hqm, h4⟩, hc⟩)
                  · refine .inr ⟨h3, q, ⟨hqm, ?_⟩, h4⟩
                    rw [Bool.eq_false_iff, ne_eq, List.contains_iff_mem, h4]
                    exact hc
              · rintro ((⟨⟨q, hqm, h4⟩, hc⟩ | h) | ⟨h3, q, ⟨hqm, _⟩, h4⟩)
                · refine .inr ⟨?_, q, hqm, h4⟩
                  rw [← h4] at hc ⊢
                  exact hdep q hqm (List.contains_iff_mem.2 hc)
                · exact .inl h
                · exact .inr ⟨h3, q, hqm, h4⟩
        rw [eA]
        have eU : unex (pn.filter fun q => !e.2.contains q.1) p = unex pn p := by
          unfold unex
          rw [List.filter_filter]
          congr 1
          refine List.filter_congr fun q hqm => ?_
          cases hc : e.2.contains q.1 with
          | false => simp
          | true => rw [hdep q hqm hc]; rfl
        refine hK p fuel (by omega) a' w' ?_
        have hold : ∀ t v, getv (floatV (pn.filter fun q => !e.2.contains q.1) p ++ (floatV pn e.2.contains ++ l)) t = some v → getv (floatV pn p ++ l) t = some v := fun t v hv => by
          rcases getv_float hv with ⟨q, hqm, h1, h2⟩ | h1
          · exact float_get F.slots (List.mem_filter.1 hqm).1 h1 h2
          · rcases getv_float h1 with ⟨q, hqm, h1, h2⟩ | h1
            · exact float_get F.slots hqm (hdep q hqm h1) h2
            · exact float_old hfr h1
        rcases ha' with ⟨rfl, rfl⟩ | ⟨d, v, hod, hd, rfl, rfl⟩
        · exact ⟨at_.size, at_.defers, fun t v hv => at_.kn t v (hold t v hv), hs', hk'⟩
        · have hdlt : d < a.tmps.size := by rw [at_.size]; exact Nat.le_of_ble_eq_true hd
          refine ⟨by simp [Act.put, at_.size], by simpa [Act.put] using at_.defers, fun t u hu => ?_, hs', hk'⟩
          refine at_.kn.put v hdlt t u ?_
          rw [getv_cons]
          by_cases e2 : d = t
          · rw [if_pos e2]
            subst e2
            rw [float_past (fun q hqm e3 => F.dst e he oi hoi q (List.mem_filter.1 hqm).1 (by rw [hod, e3]))] at hu
            rw [List.singleton_append, getv_cons, if_pos rfl] at hu
            exact hu
          · rw [if_neg e2]
            refine hold t u ?_
            rcases getv_float hu with ⟨q, hqm, h1, h2⟩ | h1
            · refine float_get ?_ hqm h1 h2
              exact F.slots.sublist (List.Sublist.map _ List.filter_sublist)
            · rw [List.singleton_append, getv_cons, if_neg e2] at h1
              refine float_old (fun q hqm => ?_) h1
              cases h9 : getv (floatV pn e.2.contains ++ l) q.2.1 with
              | none => rfl
              | some v9 =>
                exfalso
                rcases getv_float h9 with ⟨x, hx, h3, h4⟩ | h3
                · have : x = q := nodup_eq F.slots hx (List.mem_filter.1 hqm).1 (by rw [h4])
                  subst this
                  have := (List.mem_filter.1 hqm).2
                  rw [h3] at this
                  cases this
                · rw [hfr q (List.mem_filter.1 hqm).1] at h3
                  cases h3
  exact fun p fuel hf => key (unex pn p) p fuel rfl (by omega)
theorem WAF.done {pd : List (Nat × Nat)} (hpd : pn.map (fun q => (q.1, q.2.1)) = pd) (hok : floatOk ops B pd [] = true) (hall : ((List.range ops.size).all fun i => B.contains i || pd.any fun q => q.1 == i) = true) (hfr : ∀ q ∈ pn, getv l q.2.1 = none)
    (hq : ∀ q ∈ pn, QF P n w0 R ops Q pn l H q) (h : DN P n w0 R Q .normal (floatV pn (fun _ => true) ++ l) H) : WAF P n w0 R ops Q pn r B l H := by
  have F := FOk.of hpd hok
  have key : ∀ (t : Nat) (p : Nat → Bool) (fuel : Nat), unex pn p = t → t ≤ fuel → WA P n w0 R ops Q fuel (floatA ops.size B pn p) (floatV pn p ++ l) H := by
    intro t
    induction t using Nat.strongRecOn with
    | _ t ih =>
      intro p fuel ht hf
      by_cases hne : Region.ready .any ops (floatA ops.size B pn p) = []
      · intro a w at_
        refine wpAny_done hne (h a w (at_.sub' ?_)) fuel
        have hpall : ∀ q ∈ pn, p q.1 = true := fun q hqm => by
          cases hp : p q.1 with
          | true => rfl
          | false =>
            refine absurd hne (ready_some F (F.new q hqm).2 ?_)
            rw [floatA_get _ (F.new q hqm).2, (F.new q hqm).1, hp]
            rfl
        have e : floatV pn p = floatV pn fun _ => true := by
          unfold floatV
          rw [List.filter_congr fun q hqm => hpall q hqm]
        rw [← e]
        exact at_.kn
      · have hpos : t ≠ 0 := by
          rintro rfl
          have hp := unex_zero ht
          refine hne (List.eq_nil_iff_forall_not_mem.2 fun i hi => ?_)
          obtain ⟨hun, oi, hoi, _⟩ := mem_ready.1 hi
          have hlt : i < ops.size := (Array.getElem?_eq_some_iff.1 hoi).1
          have h1 := List.all_eq_true.1 hall i (List.mem_range.2 hlt)
          rw [floatA_get _ hlt, Bool.or_eq_false_iff] at hun
          rw [hun.1, Bool.false_or] at h1
          subst hpd
          obtain ⟨y, hy, e⟩ := List.any_eq_true.1 h1
          obtain ⟨q, hqm, rfl⟩ := List.mem_map.1 hy
          have e : q.1 = i := by simpa using e
          have h2 := hun.2
          rw [any_mem.2 ⟨q, hqm, e⟩, Bool.and_true, ← e, hp q hqm] at h2
          cases h2
        obtain ⟨fuel, rfl⟩ : ∃ f, fuel = f + 1 := ⟨fuel - 1, by omega⟩
        intro a w at_
        refine ⟨fun h0 => absurd h0 hne, fun i hi => ?_⟩
        obtain ⟨hun, oi, hoi, hal⟩ := mem_ready.1 hi
        have hlt : i < ops.size := (Array.getElem?_eq_some_iff.1 hoi).1
        rw [floatA_get _ hlt, Bool.or_eq_false_iff] at hun
        by_cases hmem : ∃ q ∈ pn, q.1 = i
        · obtain ⟨q, hqm, rfl⟩ := hmem
          have hp : p q.1 = false := by
            have := hun.2
            rw [any_mem.2 ⟨q, hqm, rfl⟩, Bool.and_true] at this
            exact this
          have hu := unex_more F.nums hqm hp
          exact float_one F hfr hqm (hq q hqm) hi at_ (ih (unex pn fun j => p j || j == q.1) (by omega) _ fuel rfl (by omega))
        · obtain ⟨e, he, rfl⟩ := F.next i oi hoi hun.1 (fun q hqm e => hmem ⟨q, hqm, e⟩) (fun e he hb => by
            have h1 := hal e he hb
            have h2 := F.back i oi hoi e he hb
            rw [floatA_get _ (by omega), Bool.or_eq_true, Bool.and_eq_true] at h1
            exact h1.imp id fun h => any_mem.1 h.2)
          cases he
  exact fun p fuel hf => key (unex pn p) p fuel rfl (by omega)
theorem WAF.ren {i d : Nat} {u v : Value} (e : u = v) (h : WAF P n w0 R ops Q ((i, d, v) :: pn) r B l H) : WAF P n w0 R ops Q ((i, d, u) :: pn) r B l H := by
  subst e; exact h
theorem QF.mk {i d : Nat} {op : Op} {ty : TypeId} {pos : String} {aft : Array Edge} {g : Option (Nat × Bool)} {v : Value} (ks : List Nat) (lu : Sl) (hi : ops[i]? = some ⟨some d, op, ty, pos, aft, g⟩) (hd : Nat.blt d n = true) (hk : (ks.all fun k => bindsOn ops i k) = true) (hlu : floatV pn ks.contains = lu)
    (h : QAt P w0 R ops Q ⟨some d, op, ty, pos, aft, g⟩ (lu ++ l) H v) : QF P n w0 R ops Q pn l H (i, d, v) := by
  subst hlu
  exact ⟨_, ks, hi, rfl, hd, hk, h⟩
theorem QF.ren {i d : Nat} {u v : Value} (e : u = v) (h : QF P n w0 R ops Q pn l H (i, d, u)) : QF P n w0 R ops Q pn l H (i, d, v) := by
  subst e; exact h
variable {lu : Sl}
theorem QAt.y {d : Nat} {op : Op} {ty : TypeId} {pos : String} {aft : Array Edge} {g : Option (Nat × Bool)} {v : Value} (hw : Wt ops lu ⟨some d, op, ty, pos, aft, g⟩) (hy : Yd P ⟨some d, op, ty, pos, aft, g⟩ lu v) : QAt P w0 R ops Q ⟨some d, op, ty, pos, aft, g⟩ lu H v := fun a w kn hs hk =>
  .inl ⟨hw a kn, by unfold Oper.wp; rw [hy a kn w]; exact ⟨rfl, hs, hk⟩⟩
theorem QAt.rd {d : Nat} {op : Op} {ty : TypeId} {pos : String} {aft : Array Edge} {g : Option (Nat × Bool)} {v : Value} (hw : Wt ops lu ⟨some d, op, ty, pos, aft, g⟩) (hr : Rd P ⟨some d, op, ty, pos, aft, g⟩ lu H v) : QAt P w0 R ops Q ⟨some d, op, ty, pos, aft, g⟩ lu H v := fun a w kn hs hk =>
  .inl ⟨hw a kn, by unfold Oper.wp; rw [hr a w R kn hs]; exact ⟨rfl, hs, hk⟩⟩
theorem QAt.rf {d : Nat} {op : Op} {ty : TypeId} {pos : String} {aft : Array Edge} {g : Option (Nat × Bool)} {f : FuncId} {args : List Value} {C D : List Ck} {v : Value} (hw : Wt ops lu ⟨some d, op, ty, pos, aft, g⟩) (he : Ent P ⟨some d, op, ty, pos, aft, g⟩ lu f args) (hs : Reads P f args C v) (hH : Sp H C D) :
    QAt P w0 R ops Q ⟨some d, op, ty, pos, aft, g⟩ lu H v := fun a w kn hsat hk =>
  .inl ⟨hw a kn, by
    unfold Oper.wp
    rw [he a kn w, Oper.upon_enter]
    have hsat' : Sat w (C ++ (D ++ R)) := by
      have := hsat.perm (hH.p.append_right R)
      simpa using this
    refine (hs w (D ++ R) hsat').mono fun e w' ⟨v', C', he', ⟨h1, h2⟩, hs', hk'⟩ => ?_
    subst he' h1 h2
    refine ⟨rfl, ?_, hk.trans hk'⟩
    have h4 : Sat w' ((C' ++ D) ++ R) := by simpa using hs'
    exact h4.perm (hH.p.symm.append_right R)⟩
variable {K : Sl → List Ck → Prop} {j : Nat}
theorem SO.run {o : Oper} (hi : ops[j]? = some o) (hw : Wt ops lu o)
    (h : ∀ a w, a.tmps.size = n → a.defers = [] → Kn a lu → Sat w (H ++ R) → Kept w0 w → o.wp P a w (fun a' w' => ∃ dv H', K dv H' ∧ ((dv = [] ∧ a' = a) ∨ ∃ d v, o.dst = some d ∧ Nat.blt d n = true ∧ dv = [(d, v)] ∧ a' = a.put (some d) v) ∧ Sat w' (H' ++ R) ∧ Kept w0 w') Q) : SO P n w0 R ops Q j lu H K :=
  ⟨o, hi, fun a w h1 h2 kn hs hk => by
    unfold wpOp
    simp only [hi, hw a kn, if_true]
    exact .inl (h a w h1 h2 kn hs hk)⟩
theorem SO.y {d : Nat} {op : Op} {ty : TypeId} {pos : String} {aft : Array Edge} {g : Option (Nat × Bool)} {v : Value} (hi : ops[j]? = some ⟨some d, op, ty, pos, aft, g⟩) (hw : Wt ops lu ⟨some d, op, ty, pos, aft, g⟩) (hd : Nat.blt d n = true) (hy : Yd P ⟨some d, op, ty, pos, aft, g⟩ lu v)
    (h : K [(d, v)] H) : SO P n w0 R ops Q j lu H K := SO.run hi hw fun a w _ _ kn hs hk => by
  unfold Oper.wp
  rw [hy a kn w]
  exact ⟨_, _, h, .inr ⟨d, v, rfl, hd, rfl, rfl⟩, hs, hk⟩
theorem SO.h {d : Nat} {op : Op} {ty : TypeId} {pos : String} {aft : Array Edge} {g : Option (Nat × Bool)} (hi : ops[j]? = some ⟨some d, op, ty, pos, aft, g⟩) (hw : Wt ops lu ⟨some d, op, ty, pos, aft, g⟩) (hd : Nat.blt d n = true)
    (hh : Hd P ⟨some d, op, ty, pos, aft, g⟩ lu H fun r H' => ∃ v, r = .value v ∧ K [(d, v)] H') : SO P n w0 R ops Q j lu H K := SO.run hi hw fun a w _ _ kn hs hk => by
  obtain ⟨r, w', H', hr, hs', hk', v, rfl, hK⟩ := hh a w R kn hs
  unfold Oper.wp
  rw [hr]
  exact ⟨_, _, hK, .inr ⟨d, v, rfl, hd, rfl, rfl⟩, hs', hk.trans hk'⟩
theorem SO.s {op : Op} {ty : TypeId} {pos : String} {aft : Array Edge} {g : Option (Nat × Bool)} (hi : ops[j]? = some ⟨none, op, ty, pos, aft, g⟩) (hw : Wt ops lu ⟨none, op, ty, pos, aft, g⟩)
    (hh : Hd P ⟨none, op, ty, pos, aft, g⟩ lu H fun r H' => r = .skip ∧ K [] H') : SO P n w0 R ops Q j lu H K := SO.run hi hw fun a w _ _ kn hs hk => by
  obtain ⟨r, w', H', hr, hs', hk', rfl, hK⟩ := hh a w R kn hs
  unfold Oper.wp
  rw [hr]
  exact ⟨_, _, hK, .inl ⟨rfl, rfl⟩, hs', hk.trans hk'⟩
end
end Go.SL

set_option linter.unusedVariables false
set_option linter.unusedSimpArgs false
namespace Go.SL
variable {P : Program} {n : Nat} {w0 : World} {R : List Ck} {Q : Exit → Act → World → Prop} {l : Sl} {H : List Ck} {ops : Array Oper} {rest : List Oper} {ty : TypeId} {pos : String} {aft : Array Edge} {d : Nat} {op : Op}
theorem m_ {x : Operand} {v : Value} (hx : ev l x = some v) (hd : Nat.blt d n = true) (h : WL P n w0 R ops Q rest ((d, v) :: l) H) : WL P n w0 R ops Q (⟨some d, .move x, ty, pos, aft, none⟩ :: rest) l H := WL.y hd (Yd.move hx) h
theorem a_ {x : Operand} {v : Value} (hx : ev l x = some v) (hd : Nat.blt d n = true) (h : WL P n w0 R ops Q rest ((d, v) :: l) H) : WL P n w0 R ops Q (⟨some d, .assign x, ty, pos, aft, none⟩ :: rest) l H := WL.y hd (Yd.assign hx) h
theorem x_ {x : Operand} {i : Nat} {vs : Array Value} {v : Value} (hx : ev l x = some (.tuple vs)) (hv : vs[i]? = some v) (hd : Nat.blt d n = true) (h : WL P n w0 R ops Q rest ((d, v) :: l) H) : WL P n w0 R ops Q (⟨some d, .extract x i, ty, pos, aft, none⟩ :: rest) l H := WL.y hd (Yd.extract hx hv) h
theorem n_ {x : Operand} {p : Addr} (hx : ev l x = some (.pointer (some p))) (hd : Nat.blt d n = true) (h : WL P n w0 R ops Q rest ((d, .pointer (some p)) :: l) H) : WL P n w0 R ops Q (⟨some d, .nilCheck x, ty, pos, aft, none⟩ :: rest) l H := WL.y hd (Yd.notNil hx) h
theorem f_ (k : Nat) {x : Operand} {S f b o : Nat} (hf : fieldOff P S f = some k) (hx : ev l x = some (.pointer (some ⟨b, o, none⟩))) (hd : Nat.blt d n = true) (h : WL P n w0 R ops Q rest ((d, .pointer (some ⟨b, o + k, none⟩)) :: l) H) :
    WL P n w0 R ops Q (⟨some d, .fieldAddr S x f, ty, pos, aft, none⟩ :: rest) l H := WL.y hd (Yd.fieldAddr hf hx) h
theorem gn_ (dj : Nat) {j : Nat} {b b' : Bool} (hj : (ops[j]?).bind (·.dst) = some dj) (hg : getv l dj = some (.bool b')) (hb : b' = !b) (hd : Nat.blt d n = true) (h : WL P n w0 R ops Q rest ((d, undef) :: l) H) :
    WL P n w0 R ops Q (⟨some d, op, ty, pos, aft, some (j, b)⟩ :: rest) l H := WL.gn hj hg hb hd h
theorem gu_ (dj : Nat) {j : Nat} {b : Bool} (hj : (ops[j]?).bind (·.dst) = some dj) (hg : getv l dj = some undef) (hd : Nat.blt d n = true) (h : WL P n w0 R ops Q rest ((d, undef) :: l) H) :
    WL P n w0 R ops Q (⟨some d, op, ty, pos, aft, some (j, b)⟩ :: rest) l H := WL.gu hj hg hd h
theorem gy_ (dj : Nat) {j : Nat} {b : Bool} {v : Value} (hj : (ops[j]?).bind (·.dst) = some dj) (hg : getv l dj = some (.bool b)) (hd : Nat.blt d n = true) (hy : Yd P ⟨some d, op, ty, pos, aft, some (j, b)⟩ l v) (h : WL P n w0 R ops Q rest ((d, v) :: l) H) :
    WL P n w0 R ops Q (⟨some d, op, ty, pos, aft, some (j, b)⟩ :: rest) l H := WL.gy hj hg hd hy h
theorem d_ {T : TypeId} {x : Operand} {b o : Nat} {cs : List Value} {T' : TypeId} {fr : Nat × Nat} {ex : Bool} {v : Value} (hT : aggB P T = false) (hx : ev l x = some (.pointer (some ⟨b, o, none⟩)))
    (hm : (⟨b, .cells cs.toArray T' fr, ex⟩ : Ck) ∈ H) (hc : cs[o]? = some v) (hd : Nat.blt d n = true) (h : WL P n w0 R ops Q rest ((d, v) :: l) H) :
    WL P n w0 R ops Q (⟨some d, .load T x, ty, pos, aft, none⟩ :: rest) l H := WL.h hd (Hd.load1 hT hx hm hc ⟨_, rfl, h⟩)
theorem nt_ {y : Code} (h : WC P n w0 R Q y l H) : WL P n w0 R ops (Exit.then (y.wp P Q) Q) [] l H := WL.nil (DN.then_normal h)
theorem sr_ {id : Nat} {os : List Oper} {y : Code} (h : WL P n w0 R os.toArray (Exit.then (y.wp P Q) Q) os l H) : WC P n w0 R Q (.seq (.region id os.toArray false) y) l H := WC.seq (WC.region h)
theorem ntr_ {id : Nat} {os : List Oper} (h : WL P n w0 R os.toArray Q os l H) : WL P n w0 R ops (Exit.then ((Code.region id os.toArray false).wp P Q) Q) [] l H := WL.nil (DN.then_normal (WC.region h))
theorem ntsr_ {id : Nat} {os : List Oper} {y : Code} (h : WL P n w0 R os.toArray (Exit.then (y.wp P Q) Q) os l H) : WL P n w0 R ops (Exit.then ((Code.seq (.region id os.toArray false) y).wp P Q) Q) [] l H := WL.nil (DN.then_normal (WC.seq (WC.region h)))
theorem ts_ {x y : Code} (h : WC P n w0 R (Exit.then (y.wp P Q) Q) x l H) : DN P n w0 R (Exit.then ((Code.seq x y).wp P Q) Q) .normal l H := DN.then_normal (WC.seq h)
end Go.SL

set_option linter.unusedVariables false
set_option linter.unusedSimpArgs false
namespace Go.SL
open Go.ChangeShapes Go.WideShapes Go.ChangeAt Go.RowKit
def Here (W : World) (H : List Ck) : Prop := ∀ c ∈ H, W.heap[c.b]? = some c.o ∧ c.ex = false
theorem Here.nil (W : World) : Here W [] := fun c h => by cases h
theorem Here.append {W : World} {A B : List Ck} (a : Here W A) (b : Here W B) : Here W (A ++ B) := fun c h => by
  rcases List.mem_append.1 h with h | h
  · exact a c h
  · exact b c h
variable {Hh : Type} {enc : TypeId × Value → Hh} {P : Program} {W : World} {base : Nat} {spare : Nat → Bool} {held : Bool} {fuel : Nat} {t : TypeId} {cs : List Value} {x : DataW Hh × List MemPlace}
theorem calls_of_tells {f : FuncId} {args : List Value} {H : List Ck} {v : Value} (h : Reads P f args H v) (hH : Here W H) : Calls P f args.toArray W fun e w' => e = .returned v ∧ Below W.heap.size W w' :=
  (Tells.below h hH).mono fun e w' ⟨v', H', he, hp, hb⟩ => ⟨by rw [he, hp.1], hb⟩
theorem cell_block {a : Addr} {v : Value} (h : W.cell? a = some v) : ∃ (b o : Nat) (c : Array Value) (T : TypeId) (fr : Nat × Nat), a = ⟨b, o, none⟩ ∧ W.heap[b]? = some (.cells c T fr) ∧ c[o]? = some v := by
  unfold World.cell? at h
  split at h
  · rename_i c T fr hb
    obtain ⟨b, o, sp⟩ := a
    cases sp with
    | none => exact ⟨b, o, c, T, fr, rfl, hb, by simpa using h⟩
    | some s => simp at h
  · cases h
theorem open_row {T e s : Nat} {ao : Option Addr} {len cap : Nat} {d : DataW Hh} {p : List MemPlace} (hT : sliceOf P T = some e) (hs : P.cellsOf e = s) (hs0 : 0 < s) (h : DataW.Trod enc P W base spare held T (.slice ao len cap) d p) :
    ∃ (xs : List Value) (H : List Ck) (n : Nat), Rs (.slice ao len cap) len xs H ∧ xs.length = len * s ∧ len ≤ maxLen ∧ Here W H ∧
      ∀ i, i < len → ∃ y, DataW.trod enc P W base spare held n e ((xs.drop (i * s)).take s) = some y := by
  obtain ⟨fuel, hf⟩ := h
  rcases DataW.trod_slice (underlying_slice hT) hf with ⟨hcs, _⟩ | ⟨a, l, c, elems, rest, n, _, hcs, _, hb, hl, hm, hlen, hel, _⟩
  · simp [Value.cells] at hcs
    obtain ⟨rfl, rfl, rfl⟩ := hcs
    exact ⟨[], [], 0, .inl ⟨_, _, rfl, rfl, rfl⟩, by simp, Nat.zero_le _, Here.nil W, fun i hi => by omega⟩
  · simp [Value.cells] at hcs
    obtain ⟨rfl, rfl, rfl⟩ := hcs
    rw [hs] at hel
    by_cases h0 : len = 0
    · subst h0
      exact ⟨[], [], 0, .inl ⟨_, _, rfl, rfl, rfl⟩, by simp, Nat.zero_le _, Here.nil W, fun i hi => by omega⟩
    · have each : ∀ i, i < len → ∃ l y, W.cells? base (a.add (i * s)) s = some l ∧ DataW.trod enc P W base spare held n e l = some y := fun i hi => by
        have h1 := hel i hi
        have h2 : i < elems.length := by omega
        rw [List.getElem?_eq_getElem h2] at h1
        obtain ⟨l, h3, h4⟩ := Option.bind_eq_some_iff.1 h1
        exact ⟨l, _, h3, h4⟩
      obtain ⟨l0, y0, h1, _⟩ := each 0 (by omega)
      have c0 := (World.cells?_some h1).2
      obtain ⟨hlen0, hcell0⟩ := c0
      obtain ⟨b, o, cs, T', fr, hab, hblk, _⟩ := cell_block ((hcell0 0 (by omega)).trans (List.getElem?_eq_getElem (show 0 < l0.length by omega)))
      have haz : a = ⟨b, o, none⟩ := by
        have : (a.add (0 * s)).add 0 = a := by simp [Addr.add]
        rw [this] at hab
        exact hab
      subst haz
      have key : ∀ i, i < len → ∀ j, j < s → ∃ l, W.cells? base ((⟨b, o, none⟩ : Addr).add (i * s)) s = some l ∧ cs[o + i * s + j]? = l[j]? ∧ l.length = s := fun i hi j hj => by
        obtain ⟨l, y, h3, _⟩ := each i hi
        obtain ⟨_, hl3, hc3⟩ := World.cells?_some h3
        refine ⟨l, h3, ?_, hl3⟩
        have h4 := hc3 j (by omega)
        rw [add_plain, add_plain, cell_at hblk] at h4
        exact h4
      have hsize : o + len * s ≤ cs.size := by
        obtain ⟨l, _, h5, h6⟩ := key (len - 1) (by omega) (s - 1) (by omega)
        rw [List.getElem?_eq_getElem (by omega)] at h5
        have h7 := (Array.getElem?_eq_some_iff.1 h5).1
        have h8 : len * s = (len - 1) * s + s := by
          have : len = (len - 1) + 1 := by omega
          rw [this, Nat.add_mul, Nat.one_mul]
          simp
        omega
      refine ⟨(cs.toList.drop o).take (len * s), [⟨b, .cells cs T' fr, false⟩], n, ?_, by simp; omega, by omega, fun c hc => by simp at hc; subst hc; exact ⟨hblk, rfl⟩, fun i hi => ?_⟩
      · refine .inr ⟨b, o, cap, cs.toList, T', fr, false, rfl, hl, by simp, ?_⟩
        have : ((cs.toList.drop o).take (len * s)).length = len * s := by simp; omega
        rw [this]
      · obtain ⟨l, y, h3, h4⟩ := each i hi
        refine ⟨y, ?_⟩
        have : (((cs.toList.drop o).take (len * s)).drop (i * s)).take s = l := by
          obtain ⟨_, hl3, hc3⟩ := World.cells?_some h3
          apply List.ext_getElem?
          intro j
          by_cases hj : j < s
          · obtain ⟨l', h5, h6, h7⟩ := key i hi j hj
            rw [h3] at h5
            cases h5
            rw [List.getElem?_take, if_pos hj, List.getElem?_drop, List.getElem?_take]
            have h8 : i * s + j < len * s := by
              have : i * s + s ≤ len * s := by
                have := Nat.mul_le_mul_right s (show i + 1 ≤ len by omega)
                rwa [Nat.add_mul, Nat.one_mul] at this
              omega
            rw [if_pos h8, List.getElem?_drop, ← h6]
            simp [Nat.add_assoc]
          · rw [List.getElem?_take, if_neg hj, List.getElem?_eq_none (by omega)]
        rw [this]
        exact h4
theorem as_bits8 {n : Int} (h : (Lit.int .u8 n).wf = true) : ∃ x : BitVec 8, n = x.toNat := by
  have := bounds_u8 h
  exact ⟨BitVec.ofNat 8 n.toNat, by simp; omega⟩
theorem as_bits32 {n : Int} (h : (Lit.int .u32 n).wf = true) : ∃ x : BitVec 32, n = x.toNat := by
  have := bounds_u32 h
  exact ⟨BitVec.ofNat 32 n.toNat, by simp; omega⟩
theorem as_bits64 {n : Int} (h : (Lit.int .u64 n).wf = true) : ∃ x : BitVec 64, n = x.toNat := by
  have := bounds_u64 h
  exact ⟨BitVec.ofNat 64 n.toNat, by simp; omega⟩
theorem as_i64 {n : Int} (h : (Lit.int .i64 n).wf = true) : -9223372036854775808 ≤ n ∧ n ≤ 9223372036854775807 := bounds_i64 h
theorem open_bytes {T e : Nat} {ao : Option Addr} {len cap : Nat} {d : DataW Hh} {p : List MemPlace} (hT : sliceOf P T = some e) (he : intOfTy P e = some .u8) (hs : P.cellsOf e = 1) (h : DataW.Trod enc P W base spare held T (.slice ao len cap) d p) :
    ∃ (bs : List (BitVec 8)) (H : List Ck), Bs (.slice ao len cap) bs H ∧ bs.length = len ∧ len ≤ maxLen ∧ Here W H := by
  obtain ⟨xs, H, n, hr, hl, hm, hh, hel⟩ := open_row hT hs (by omega) h
  have : ∃ bs : List (BitVec 8), xs = bc bs := by
    have each : ∀ i, i < xs.length → ∃ x : BitVec 8, xs[i]? = some (.int .u8 x.toNat) := fun i hi => by
      obtain ⟨y, hy⟩ := hel i (by omega)
      obtain ⟨m, hm1, _, hm2⟩ := DataW.trod_int (underlying_int he) hy
      obtain ⟨x, rfl⟩ := as_bits8 hm2
      refine ⟨x, ?_⟩
      have := congrArg (fun l => l[0]?) hm1
      simpa using this
    clear hr hl hel
    induction xs with
    | nil => exact ⟨[], rfl⟩
    | cons v xs ih =>
      obtain ⟨x, hx⟩ := each 0 (by simp)
      simp at hx
      obtain ⟨bs, hbs⟩ := ih (fun i hi => by
        obtain ⟨x, h⟩ := each (i + 1) (by simpa using hi)
        exact ⟨x, by simpa using h⟩)
      exact ⟨x :: bs, by rw [hx, hbs]; rfl⟩
  obtain ⟨bs, rfl⟩ := this
  rw [bc_length, Nat.mul_one] at hl
  refine ⟨bs, H, ?_, hl, hm, hh⟩
  show Rs _ bs.length _ _
  rw [hl]
  exact hr
end Go.SL

set_option linter.unusedVariables false
set_option linter.unusedSimpArgs false
namespace Go.SL
open Go.ChangeShapes Go.WideShapes Go.ChangeAt Go.RowKit
variable {Hh : Type} {enc : TypeId × Value → Hh} {P : Program} {W : World} {base : Nat} {spare : Nat → Bool} {held : Bool} {t : TypeId}
theorem open_bytes_cell {e e2 n : Nat} {v : Value} {y : DataW Hh × List MemPlace} (he : sliceOf P e = some e2) (he2 : intOfTy P e2 = some .u8) (hs2 : P.cellsOf e2 = 1) (h : DataW.trod enc P W base spare held n e [v] = some y) :
    ∃ (bs : List (BitVec 8)) (H : List Ck), Bs v bs H ∧ bs.length ≤ maxLen ∧ Here W H := by
  have hv : ∃ ao len cap, v = .slice ao len cap := by
    rcases DataW.trod_slice (underlying_slice he) h with ⟨hcs, _⟩ | ⟨a, l, c, elems, rest, n, _, hcs, _⟩
    · simp at hcs; exact ⟨_, _, _, hcs⟩
    · simp at hcs; exact ⟨_, _, _, hcs⟩
  obtain ⟨ao, len, cap, rfl⟩ := hv
  obtain ⟨bs, H, hb, hl, hm, hh⟩ := open_bytes (d := y.1) (p := y.2) he he2 hs2 ⟨n, h⟩
  exact ⟨bs, H, hb, by omega, hh⟩
end Go.SL

set_option linter.unusedVariables false
set_option linter.unusedSimpArgs false
namespace Go.SL
open Go.ChangeShapes Go.WideShapes Go.ChangeAt Go.RowKit
variable {Hh : Type} {enc : TypeId × Value → Hh} {P : Program} {W : World} {base : Nat} {spare : Nat → Bool} {held : Bool} {t : TypeId}
inductive Leaf where
  | int (k : IntKind)
  | bool
  | str
  | bytes
def leafOk (W : World) : Leaf → Value → Prop
  | .int k, v => ∃ m, v = .int k m ∧ (Lit.int k m).wf = true
  | .bool, v => ∃ b, v = .bool b
  | .str, v => ∃ s : ByteArray, v = .string s ∧ s.size ≤ maxLen
  | .bytes, v => ∃ (bs : List (BitVec 8)) (H : List Ck), Bs v bs H ∧ bs.length ≤ maxLen ∧ Here W H
def leavesF (P : Program) (rec : TypeId → Option (List Leaf)) : List Field → Nat → Option (List Leaf)
  | [], _ => some []
  | f :: r, o => if f.offset = o then (match rec f.type with
      | some L => if P.cellsOf f.type = L.length then (match leavesF P rec r (o + L.length) with | some R => some (L ++ R) | none => none) else none
      | none => none) else none
def leavesOf (P : Program) : Nat → TypeId → Option (List Leaf)
  | 0, _ => none
  | n + 1, T => match P.underlying T with
    | some (.int k) => some [.int k]
    | some .bool => some [.bool]
    | some .string => some [.str]
    | some (.slice e) => if intOfTy P e = some .u8 ∧ P.cellsOf e = 1 then some [.bytes] else none
    | some (.struct fs) => leavesF P (leavesOf P n) fs.toList 0
    | _ => none
theorem leaves_fields {n0 : Nat} (ih : ∀ (T : TypeId) (Ls : List Leaf) (n : Nat) (cs : List Value) (y : DataW Hh × List MemPlace), leavesOf P n0 T = some Ls → P.cellsOf T = Ls.length → DataW.trod enc P W base spare held n T cs = some y → ∀ (i : Nat) (lf : Leaf), Ls[i]? = some lf → ∃ v, cs[i]? = some v ∧ leafOk W lf v) (n : Nat) (cs : List Value) :
    ∀ (fs : List Field) (o : Nat) (Ls : List Leaf), leavesF P (leavesOf P n0) fs o = some Ls → (∀ f ∈ fs, ∃ y, DataW.trod enc P W base spare held n f.type ((cs.drop f.offset).take (P.cellsOf f.type)) = some y) → ∀ (i : Nat) (lf : Leaf), Ls[i]? = some lf → ∃ v, cs[o + i]? = some v ∧ leafOk W lf v := by
  intro fs
  induction fs with
  | nil =>
    intro o Ls h _ i lf hl
    simp [leavesF] at h
    subst h
    simp at hl
  | cons f r ihf =>
    intro o Ls h hy i lf hl
    simp only [leavesF] at h
    split at h
    · rename_i ho
      split at h
      · rename_i L hL
        split at h
        · rename_i hc
          split at h
          · rename_i R hR
            simp only [Option.some.injEq] at h
            subst h
            by_cases hi : i < L.length
            · rw [List.getElem?_append_left hi] at hl
              obtain ⟨y, hy1⟩ := hy f List.mem_cons_self
              obtain ⟨v, hv, hok⟩ := ih _ L n _ y hL hc hy1 i lf hl
              refine ⟨v, ?_, hok⟩
              rw [List.getElem?_take, if_pos (by omega), List.getElem?_drop, ho] at hv
              exact hv
            · rw [List.getElem?_append_right (by omega)] at hl
              obtain ⟨v, hv, hok⟩ := ihf (o + L.length) R hR (fun g hg => hy g (List.mem_cons_of_mem _ hg)) (i - L.length) lf hl
              refine ⟨v, ?_, hok⟩
              rwa [show o + L.length + (i - L.length) = o + i by omega] at hv
          · cases h
        · cases h
      · cases h
    · cases h
theorem open_leaves : ∀ (n0 : Nat) (T : TypeId) (Ls : List Leaf) (n : Nat) (cs : List Value) (y : DataW Hh × List MemPlace), leavesOf P n0 T = some Ls → P.cellsOf T = Ls.length → DataW.trod enc P W base spare held n T cs = some y → ∀ (i : Nat) (lf : Leaf), Ls[i]? = some lf → ∃ v, cs[i]? = some v ∧ leafOk W lf v := by
  intro n0
  induction n0 with
  | zero => intro T Ls n cs y h; simp [leavesOf] at h
  | succ n0 ih =>
    intro T Ls n cs y h hc hy i lf hl
    simp only [leavesOf] at h
    have one : ∀ (lf0 : Leaf), some [lf0] = some Ls → ∀ v, cs = [v] → leafOk W lf0 v → ∃ v, cs[i]? = some v ∧ leafOk W lf v := by
      intro lf0 e v hv hok
      simp only [Option.some.injEq] at e
      subst e hv
      cases i with
      | zero => simp at hl; subst hl; exact ⟨v, rfl, hok⟩
      | succ i => simp at hl
    split at h
    · rename_i k hu
      obtain ⟨m, h1, _, h2⟩ := DataW.trod_int hu hy
      exact one _ h _ h1 ⟨m, rfl, h2⟩
    · rename_i hu
      obtain ⟨b, h1, _⟩ := DataW.trod_bool hu hy
      exact one _ h _ h1 ⟨b, rfl⟩
    · rename_i hu
      obtain ⟨s, h1, _, h2⟩ := DataW.trod_string hu hy
      exact one _ h _ h1 ⟨s, rfl, h2⟩
    · rename_i e hu
      split at h
      · rename_i hb
        have hT : sliceOf P T = some e := by simp [sliceOf, hu]
        have hcs : ∃ v, cs = [v] := by
          rcases DataW.trod_slice hu hy with ⟨h1, _⟩ | ⟨a, l, c, elems, rest, n, _, h1, _⟩
          · exact ⟨_, h1⟩
          · exact ⟨_, h1⟩
        obtain ⟨v, rfl⟩ := hcs
        obtain ⟨bs, H, h1, h2, h3⟩ := open_bytes_cell hT hb.1 hb.2 hy
        exact one _ h v rfl ⟨bs, H, h1, h2, h3⟩
      · cases h
    · rename_i fs hu
      obtain ⟨xs, m, _, _, hlen, hxs, hf⟩ := DataW.trod_struct hu hy
      obtain ⟨v, hv, hok⟩ := leaves_fields ih m cs fs.toList 0 Ls h (by
        intro f hfm
        obtain ⟨j, hj⟩ := List.getElem?_of_mem hfm
        have h1 := hf j f (by simpa using hj)
        have h2 : j < xs.length := by
          have := (List.getElem?_eq_some_iff.1 hj).1
          simp at this
          omega
        rw [List.getElem?_eq_getElem h2] at h1
        exact ⟨_, h1⟩) i lf hl
      exact ⟨v, by simpa using hv, hok⟩
    · cases h
theorem trod_len {T : TypeId} {fs : Array Field} {n : Nat} {cs : List Value} {y : DataW Hh × List MemPlace} (hu : P.underlying T = some (.struct fs)) (h : DataW.trod enc P W base spare held n T cs = some y) : cs.length = P.cellsOf T := by
  obtain ⟨xs, m, _, _, hlen, _⟩ := DataW.trod_struct hu h
  exact hlen
theorem open_list {α : Type} {E : List Value → α → List Ck → Prop} (mono : ∀ c a A B, E c a A → (∀ x ∈ A, x ∈ B) → E c a B) {T e s : Nat} {ao : Option Addr} {len cap : Nat} {d : DataW Hh} {p : List MemPlace} (hT : sliceOf P T = some e) (hs : P.cellsOf e = s) (hs0 : 0 < s)
    (each : ∀ n cs y, DataW.trod enc P W base spare held n e cs = some y → ∃ a H, E cs a H ∧ Here W H) (h : DataW.Trod enc P W base spare held T (.slice ao len cap) d p) :
    ∃ (xs : List Value) (as9 : List α) (H : List Ck), Rs (.slice ao len cap) len xs H ∧ xs.length = len * s ∧ as9.length = len ∧ len ≤ maxLen ∧ Here W H ∧ ∀ i (h : i < as9.length), E ((xs.drop (i * s)).take s) as9[i] H := by
  obtain ⟨xs, H0, n, hr, hl, hm, hh, hel⟩ := open_row hT hs hs0 h
  have key : ∀ (len : Nat) (xs : List Value), (∀ i, i < len → ∃ y, DataW.trod enc P W base spare held n e ((xs.drop (i * s)).take s) = some y) → ∃ (as9 : List α) (H : List Ck), as9.length = len ∧ Here W H ∧ ∀ i (h : i < as9.length), E ((xs.drop (i * s)).take s) as9[i] H := by
    intro len
    induction len with
    | zero => intro xs _; exact ⟨[], [], rfl, Here.nil W, fun i h => by simp at h⟩
    | succ len ih =>
      intro xs hx
      obtain ⟨as9, H, h1, h2, h3⟩ := ih (xs.drop s) (fun i hi => by
        obtain ⟨y, hy⟩ := hx (i + 1) (by omega)
        refine ⟨y, ?_⟩
        rw [List.drop_drop, show s + i * s = (i + 1) * s by rw [Nat.add_mul, Nat.one_mul, Nat.add_comm]]
        exact hy)
      obtain ⟨y, hy⟩ := hx 0 (by omega)
      obtain ⟨a, Ha, h4, h5⟩ := each n _ y hy
      refine ⟨a :: as9, Ha ++ H, by simp [h1], h5.append h2, ?_⟩
      intro i hi
      cases i with
      | zero => exact mono _ _ _ _ h4 (fun x hx => List.mem_append_left _ hx)
      | succ i =>
        have := h3 i (by simpa using hi)
        rw [List.drop_drop, show s + i * s = (i + 1) * s by rw [Nat.add_mul, Nat.one_mul, Nat.add_comm]] at this
        exact mono _ _ _ _ this (fun x hx => List.mem_append_right _ hx)
  obtain ⟨as9, H, h1, h2, h3⟩ := key len xs hel
  exact ⟨xs, as9, H0 ++ H, hr.mono fun x hx => List.mem_append_left _ hx, hl, h1, hm, hh.append h2, fun i hi => mono _ _ _ _ (h3 i hi) (fun x hx => List.mem_append_right _ hx)⟩
end Go.SL

set_option linter.unusedVariables false
set_option linter.unusedSimpArgs false
namespace Go.SL
structure Nt where
  kind : Int
  epoch : BitVec 32
  old : BitVec 32
  lsn : BitVec 64
  tick : BitVec 64
  order : BitVec 32
  step : Int
  undo : Bool
  code : Int
  key : List (BitVec 8)
  data : List (BitVec 8)
def ntc (n : Nt) (vk vd : Value) : List Value :=
  [.int .i64 n.kind, .int .u32 n.epoch.toNat, .int .u32 n.old.toNat, .int .u64 n.lsn.toNat, .int .u64 n.tick.toNat, .int .u32 n.order.toNat, .int .i64 n.step, .bool n.undo, .int .i64 n.code, vk, vd]
def nm (k : Int) : List Nat :=
  if k = 1 then [69, 80, 76, 68] else if k = 2 then [69, 76] else if k = 3 then [69, 76] else if k = 4 then [69, 67] else if k = 6 then [69, 67] else if k = 5 then [69, 84, 67] else if k = 7 then [69, 79, 83, 85, 68]
  else if k = 8 then [69, 79, 83, 85, 67, 68] else if k = 9 then [69, 79, 83, 85] else if k = 10 then [75, 68] else if k = 11 then [75] else if k = 12 then [75] else if k = 13 then [79, 67, 75, 68] else []
def nmS (k : Int) : ByteArray := ⟨((nm k).map UInt8.ofNat).toArray⟩
theorem ite_all {p : Prop} [Decidable p] {a b : List Nat} {f : Nat → Bool} (h : a.all f = true) (k : b.all f = true) : (if p then a else b).all f = true := by
  split <;> assumption
theorem nm_small (k : Int) : ∀ x ∈ nm k, x < 128 := by
  have h : (nm k).all (fun x => decide (x < 128)) = true := by
    unfold nm
    repeat (first | rfl | refine ite_all rfl ?_)
  intro x hx
  simpa using List.all_eq_true.1 h x hx
theorem nmS_size (k : Int) : (nmS k).size = (nm k).length := by simp [nmS, ByteArray.size]
theorem nmS_at (k : Int) (i : Nat) (h : i < (nmS k).size) : ((nmS k)[i]'h).toNat = (nm k).getD i 0 := by
  have h2 : i < (nm k).length := by rw [nmS_size] at h; exact h
  have e : (nmS k)[i]'h = UInt8.ofNat ((nm k)[i]) := by
    show (nmS k).data[i]'_ = _
    simp [nmS]
  rw [e]
  have := nm_small k _ (List.getElem_mem h2)
  simp only [List.getD, List.getElem?_eq_getElem h2, Option.getD_some]
  simp
  omega
theorem nmS_small (k : Int) (i : Nat) (h : i < (nmS k).size) : ((nmS k)[i]'h).toNat < 128 := by
  rw [nmS_at]
  have h2 : i < (nm k).length := by rw [nmS_size] at h; exact h
  simp only [List.getD, List.getElem?_eq_getElem h2, Option.getD_some]
  exact nm_small k _ (List.getElem_mem h2)
theorem ntc_one {m : Nt} {vk vd : Value} (h1 : vk.oneCell' = true) (h2 : vd.oneCell' = true) : ∀ u ∈ ntc m vk vd, u.oneCell' = true := by
  intro u hu
  simp only [ntc, List.mem_cons, List.not_mem_nil, or_false] at hu
  rcases hu with rfl | rfl | rfl | rfl | rfl | rfl | rfl | rfl | rfl | rfl | rfl <;> first | rfl | exact h1 | exact h2
theorem nmS_empty (k : Int) : (nmS k = ⟨#[]⟩) ↔ nm k = [] := by
  simp [nmS]
def wo (n : Nt) (c : Int) : Nt :=
  if c = 69 then { n with epoch := 0#32 } else if c = 80 then { n with old := 0#32 } else if c = 76 then { n with lsn := 0#64 } else if c = 84 then { n with tick := 0#64 } else if c = 79 then { n with order := 0#32 }
  else if c = 83 then { n with step := 0 } else if c = 85 then { n with undo := false } else if c = 67 then { n with code := 0 } else if c = 75 then { n with key := [] } else if c = 68 then { n with data := [] } else n
def woK (vk : Value) (c : Int) : Value := if c = 75 then .slice none 0 0 else vk
def woD (vd : Value) (c : Int) : Value := if c = 68 then .slice none 0 0 else vd
def restTo (n : Nt) (i : Nat) : Nt := ((nm n.kind).take i).foldl (fun m (c : Nat) => wo m (c : Int)) n
theorem restTo_next (n : Nt) (i : Nat) (h : i < (nm n.kind).length) : restTo n (i + 1) = wo (restTo n i) ((nm n.kind).getD i 0 : Nat) := by
  unfold restTo
  rw [List.take_succ_eq_append_getElem h, List.foldl_append]
  simp [List.getD, h]
def rest (n : Nt) : Nt := restTo n (nm n.kind).length
def moreB (m : Nt) : Bool := decide (0 < (m.epoch.toNat : Int)) || (decide (0 < (m.old.toNat : Int)) || (decide (0 < (m.lsn.toNat : Int)) || (decide (0 < (m.tick.toNat : Int)) || (decide (0 < (m.order.toNat : Int)) || (decide (m.step ≠ 0) || (m.undo || (decide (m.code ≠ 0) || (decide (0 < (m.key.length : Int)) || decide (0 < (m.data.length : Int))))))))))
def farB (n : Nt) : Bool := decide (n.step < 0) || (decide (16 ≤ n.step) || (decide (n.code < 0) || (decide (255 < n.code) || (decide (32 < (n.key.length : Int)) || decide (255 < (n.data.length : Int))))))
def noteBad (n : Nt) : Bool := decide (nm n.kind = []) || (moreB (rest n) || (farB n || (decide (10 ≤ n.kind) && (decide (n.kind ≤ 12) && decide ((n.key.length : Int) = 0)))))
def IsSl (v : Value) (n : Nat) : Prop := ∃ ao c, v = .slice ao n c
theorem IsSl.one {v : Value} {n : Nat} (h : IsSl v n) : v.oneCell' = true := by obtain ⟨_, _, rfl⟩ := h; rfl
theorem IsSl.woK {v : Value} {n : Nt} (h : IsSl v n.key.length) (c : Int) : IsSl (woK v c) (wo n c).key.length := by
  by_cases h75 : c = 75
  · subst h75; exact ⟨none, 0, rfl⟩
  · have e : (wo n c).key = n.key := by
      unfold wo
      repeat' split
      all_goals first | rfl | exact absurd ‹_› h75
    rw [Go.SL.woK, if_neg h75, e]; exact h
theorem IsSl.woD {v : Value} {n : Nt} (h : IsSl v n.data.length) (c : Int) : IsSl (woD v c) (wo n c).data.length := by
  by_cases h68 : c = 68
  · subst h68; exact ⟨none, 0, rfl⟩
  · have e : (wo n c).data = n.data := by
      unfold wo
      repeat' split
      all_goals first | rfl | exact absurd ‹_› h68
    rw [Go.SL.woD, if_neg h68, e]; exact h
structure Lt where
  f : Int
  t : Int
  n : Nt
def ltc (L : Lt) (vk vd : Value) : List Value := .int .i64 L.f :: .int .i64 L.t :: ntc L.n vk vd
theorem ltc_len (L : Lt) (vk vd : Value) : (ltc L vk vd).length = 13 := rfl
inductive Lts (T : TypeId) : List Value → List Lt → List Ck → Prop
  | nil : Lts T [] [] []
  | cons {L : Lt} {vk vd : Value} {A B : List Ck} {cs : List Value} {ls : List Lt} {D : List Ck} : Ob T vk L.n.key A → Ob T vd L.n.data B → Lts T cs ls D → Lts T (ltc L vk vd ++ cs) (L :: ls) (A ++ (B ++ D))
theorem ltc_one {T : TypeId} {L : Lt} {vk vd : Value} {A B : List Ck} (h1 : Ob T vk L.n.key A) (h2 : Ob T vd L.n.data B) : ∀ u ∈ ltc L vk vd, u.oneCell' = true := by
  have e1 := h1.one_cell
  have e2 := h2.one_cell
  intro u hu
  simp only [ltc, ntc, List.mem_cons, List.not_mem_nil, or_false] at hu
  rcases hu with rfl | rfl | rfl | rfl | rfl | rfl | rfl | rfl | rfl | rfl | rfl | rfl | rfl <;> first | rfl | exact e1 | exact e2
theorem Lts.one {T : TypeId} {cs : List Value} {ls : List Lt} {D : List Ck} (h : Lts T cs ls D) : ∀ u ∈ cs, u.oneCell' = true := by
  induction h with
  | nil => intro u hu; cases hu
  | cons h1 h2 _ ih =>
    intro u hu
    rcases List.mem_append.1 hu with hu | hu
    · exact ltc_one h1 h2 u hu
    · exact ih u hu
theorem Lts.append {T : TypeId} {cs cs' : List Value} {ls ls' : List Lt} {D D' : List Ck} (h : Lts T cs ls D) (k : Lts T cs' ls' D') : Lts T (cs ++ cs') (ls ++ ls') (D ++ D') := by
  induction h with
  | nil => exact k
  | cons h1 h2 _ ih =>
    rw [List.append_assoc, List.cons_append, List.append_assoc, List.append_assoc]
    exact .cons h1 h2 ih
theorem Lts.one' {T : TypeId} {L : Lt} {vk vd : Value} {A B : List Ck} (h1 : Ob T vk L.n.key A) (h2 : Ob T vd L.n.data B) : Lts T (ltc L vk vd) [L] (A ++ B) := by
  have := Lts.cons h1 h2 Lts.nil
  simpa using this
theorem Lts.at {T : TypeId} {cs : List Value} {ls : List Lt} {D : List Ck} (h : Lts T cs ls D) : ∀ (i : Nat) (hi : i < ls.length), ∃ vk vd A B D1 D2, D = D1 ++ (A ++ (B ++ D2)) ∧ (cs.drop (i * 13)).take 13 = ltc ls[i] vk vd ∧ Ob T vk ls[i].n.key A ∧ Ob T vd ls[i].n.data B ∧
    Lts T (cs.take (i * 13) ++ cs.drop ((i + 1) * 13)) (ls.eraseIdx i) (D1 ++ D2) := by
  induction h with
  | nil => intro i hi; simp at hi
  | @cons L vk vd A B cs ls D h1 h2 h3 ih =>
    intro i hi
    cases i with
    | zero =>
      refine ⟨vk, vd, A, B, [], D, rfl, ?_, h1, h2, ?_⟩
      · simp [List.take_append, ltc_len]
        rfl
      · have e : (ltc L vk vd ++ cs).drop 13 = cs := by rw [List.drop_append_of_le_length (by rw [ltc_len]; omega)]; rfl
        simpa [e] using h3
    | succ i =>
      obtain ⟨vk', vd', A', B', D1, D2, rfl, g1, g2, g3, g4⟩ := ih i (by simpa using hi)
      have e1 : (ltc L vk vd ++ cs).drop ((i + 1) * 13) = cs.drop (i * 13) := by
        rw [show (i + 1) * 13 = (ltc L vk vd).length + i * 13 by rw [ltc_len]; omega, List.drop_length_add_append]
      have e2 : (ltc L vk vd ++ cs).drop ((i + 1 + 1) * 13) = cs.drop ((i + 1) * 13) := by
        rw [show (i + 1 + 1) * 13 = (ltc L vk vd).length + (i + 1) * 13 by rw [ltc_len]; omega, List.drop_length_add_append]
      have e3 : (ltc L vk vd ++ cs).take ((i + 1) * 13) = ltc L vk vd ++ cs.take (i * 13) := by
        rw [show (i + 1) * 13 = (ltc L vk vd).length + i * 13 by rw [ltc_len]; omega, List.take_length_add_append]
      refine ⟨vk', vd', A', B', A ++ (B ++ D1), D2, by simp, ?_, g2, g3, ?_⟩
      · rw [e1]; exact g1
      · rw [e2, e3, List.append_assoc, List.append_assoc, List.append_assoc]
        exact .cons h1 h2 g4
structure Wn where
  n : Int
  ls : List Lt
  cut : List Int
  clk : List (BitVec 64)
def uc (l : List (BitVec 64)) : List Value := l.map fun x => .int .u64 x.toNat
theorem uc_len (l : List (BitVec 64)) : (uc l).length = l.length := by simp [uc]
def WAt (TW TL TB p : Nat) (W : Wn) (C : List Ck) : Prop :=
  ∃ vl Cl cs D, C = row p (.int .i64 W.n :: vl :: (ic W.cut ++ uc W.clk)) TW :: (Cl ++ D) ∧ Own vl W.ls.length cs TL 13 Cl ∧ Lts TB cs W.ls D
structure WInv (W : Wn) : Prop where
  n : 1 ≤ W.n ∧ W.n ≤ 6
  cut : W.cut.length = 36
  clk : W.clk.length = 6
  few : W.ls.length ≤ 200
  way : ∀ L ∈ W.ls, 0 ≤ L.f ∧ L.f < W.n ∧ 0 ≤ L.t ∧ L.t < W.n
  small : ∀ L ∈ W.ls, L.n.key.length ≤ 32 ∧ L.n.data.length ≤ 255
def cutAt (W : Wn) (f t : Int) : Int := W.cut.getD (f.toNat * 6 + t.toNat) 0
def isNode (W : Wn) (k : Int) : Bool := decide (0 ≤ k) && decide (k < W.n)
def openB (W : Wn) (L : Lt) : Bool := decide (cutAt W L.f L.t = 0)
def ackL (f t : Int) (n : BitVec 64) : Lt := ⟨f, t, ⟨2, 1#32, 0#32, n, 0#64, 0#32, 0, false, 0, [], []⟩⟩
def zeroL : Lt := ⟨0, 0, ⟨0, 0#32, 0#32, 0#64, 0#64, 0#32, 0, false, 0, [], []⟩⟩
def thereB (W : Wn) (k : Int) : Bool := decide (0 ≤ k) && decide (k < (W.ls.length : Int))
def atW (W : Wn) (k : Int) : Lt := W.ls.getD k.toNat zeroL
def outW (W : Wn) (k : Int) : Wn := if thereB W k then { W with ls := W.ls.eraseIdx k.toNat } else W
def pickB (W : Wn) (k : Int) : Bool := thereB W k && openB W (atW W k)
def pickL (W : Wn) (k : Int) : Lt := if pickB W k then atW W k else zeroL
def lookL (W : Wn) (k : Int) : Lt := if thereB W k then atW W k else zeroL
def sendE (W : Wn) (L : Lt) : Int := if isNode W L.f = false ∨ isNode W L.t = false ∨ noteBad L.n = true then 2 else if 200 ≤ (W.ls.length : Int) then 5 else 0
def sendW (W : Wn) (L : Lt) : Wn := if sendE W L = 0 ∧ openB W L = true then { W with ls := W.ls ++ [L] } else W
def copyB (W : Wn) (k : Int) : Bool := thereB W k && decide ((W.ls.length : Int) < 200)
def copyW (W : Wn) (k : Int) : Wn := if copyB W k then { W with ls := W.ls ++ [atW W k] } else W
def lateW (W : Wn) (k : Int) : Wn := if thereB W k then { W with ls := W.ls.eraseIdx k.toNat ++ [atW W k] } else W
def cutE (W : Wn) (f t : Int) : Int := if isNode W f = false ∨ isNode W t = false then 2 else 0
def cutW (W : Wn) (f t : Int) (b : Bool) : Wn := if cutE W f t = 0 then { W with cut := W.cut.set (f.toNat * 6 + t.toNat) (if b then 1 else 0) } else W
def tickE (W : Wn) (k : Int) : Int := if isNode W k = false then 2 else 0
def tickV (W : Wn) (k : Int) : BitVec 64 := if isNode W k = false then 0#64 else W.clk.getD k.toNat 0#64 + 1#64
def tickW (W : Wn) (k : Int) : Wn := if isNode W k = false then W else { W with clk := W.clk.set k.toNat (W.clk.getD k.toNat 0#64 + 1#64) }
def clockV (W : Wn) (k : Int) : BitVec 64 := if isNode W k = false then 0#64 else W.clk.getD k.toNat 0#64
end Go.SL

set_option linter.unusedVariables false
set_option linter.unusedSimpArgs false
namespace Go.SL
theorem far_small {n : Nt} (h : noteBad n = false) : n.key.length ≤ 32 ∧ n.data.length ≤ 255 := by
  simp only [noteBad, farB, Bool.or_eq_false_iff, decide_eq_false_iff_not] at h
  omega
theorem isNode_iff {W : Wn} {k : Int} : isNode W k = true ↔ 0 ≤ k ∧ k < W.n := by simp [isNode]
theorem sendE_zero {W : Wn} {L : Lt} (h : sendE W L = 0) : isNode W L.f = true ∧ isNode W L.t = true ∧ noteBad L.n = false ∧ W.ls.length < 200 := by
  unfold sendE at h
  split at h
  · cases h
  · rename_i h1
    split at h
    · cases h
    · rename_i h2
      refine ⟨?_, ?_, ?_, by omega⟩
      · cases h3 : isNode W L.f with
        | true => rfl
        | false => exact absurd (.inl h3) h1
      · cases h3 : isNode W L.t with
        | true => rfl
        | false => exact absurd (.inr (.inl h3)) h1
      · cases h3 : noteBad L.n with
        | false => rfl
        | true => exact absurd (.inr (.inr h3)) h1
theorem sendE_ok {W : Wn} {L : Lt} (h1 : isNode W L.f = true) (h2 : isNode W L.t = true) (h3 : noteBad L.n = false) (h4 : W.ls.length < 200) : sendE W L = 0 := by
  unfold sendE
  rw [if_neg (by simp [h1, h2, h3]), if_neg (by omega)]
theorem WInv.send {W : Wn} (h : WInv W) (L : Lt) : WInv (sendW W L) := by
  unfold sendW
  split
  · rename_i hc
    obtain ⟨h1, h2, h3, h4⟩ := sendE_zero hc.1
    have h5 := far_small h3
    rw [isNode_iff] at h1 h2
    refine ⟨h.n, h.cut, h.clk, by simp; omega, ?_, ?_⟩
    · intro M hM
      rcases List.mem_append.1 hM with hM | hM
      · exact h.way M hM
      · rw [List.mem_singleton.1 hM]; exact ⟨h1.1, h1.2, h2.1, h2.2⟩
    · intro M hM
      rcases List.mem_append.1 hM with hM | hM
      · exact h.small M hM
      · rw [List.mem_singleton.1 hM]; exact h5
  · exact h
theorem WInv.sub {W : Wn} (h : WInv W) {ls : List Lt} (hl : ls.length ≤ 200) (hs : ∀ L ∈ ls, L ∈ W.ls) : WInv { W with ls := ls } :=
  ⟨h.n, h.cut, h.clk, hl, fun M hM => h.way M (hs M hM), fun M hM => h.small M (hs M hM)⟩
theorem WInv.out {W : Wn} (h : WInv W) (k : Int) : WInv (outW W k) := by
  unfold outW
  split
  · refine h.sub ?_ (fun L hL => List.mem_of_mem_eraseIdx hL)
    have := List.length_eraseIdx_le W.ls k.toNat
    have := h.few
    omega
  · exact h
theorem atW_mem {W : Wn} {k : Int} (h : thereB W k = true) : atW W k ∈ W.ls := by
  simp only [thereB, Bool.and_eq_true, decide_eq_true_eq] at h
  have h2 : k.toNat < W.ls.length := by omega
  simp [atW, List.getD, h2]
theorem WInv.copy {W : Wn} (h : WInv W) (k : Int) : WInv (copyW W k) := by
  unfold copyW
  split
  · rename_i hc
    simp only [copyB, Bool.and_eq_true, decide_eq_true_eq] at hc
    refine h.sub (by simp; omega) (fun L hL => ?_)
    rcases List.mem_append.1 hL with hL | hL
    · exact hL
    · rw [List.mem_singleton.1 hL]; exact atW_mem hc.1
  · exact h
theorem WInv.late {W : Wn} (h : WInv W) (k : Int) : WInv (lateW W k) := by
  unfold lateW
  split
  · rename_i hc
    refine h.sub ?_ (fun L hL => ?_)
    · have h0 := hc
      simp only [thereB, Bool.and_eq_true, decide_eq_true_eq] at h0
      have := h.few
      rw [List.length_append, List.length_eraseIdx_of_lt (by omega)]
      simp
      omega
    · rcases List.mem_append.1 hL with hL | hL
      · exact List.mem_of_mem_eraseIdx hL
      · rw [List.mem_singleton.1 hL]; exact atW_mem hc
  · exact h
theorem WInv.cut' {W : Wn} (h : WInv W) (f t : Int) (b : Bool) : WInv (cutW W f t b) := by
  unfold cutW
  split
  · exact ⟨h.n, by simp [h.cut], h.clk, h.few, h.way, h.small⟩
  · exact h
theorem WInv.tick {W : Wn} (h : WInv W) (k : Int) : WInv (tickW W k) := by
  unfold tickW
  split
  · exact h
  · exact ⟨h.n, h.cut, by simp [h.clk], h.few, h.way, h.small⟩
end Go.SL

set_option linter.unusedVariables false
set_option linter.unusedSimpArgs false

set_option linter.unusedVariables false
set_option linter.unusedSimpArgs false
namespace Go.SL
open Go.ChangeShapes Go.WideShapes Go.ChangeAt Go.RowKit
variable {Hh : Type} {enc : TypeId × Value → Hh} {P : Program} {W : World} {base : Nat} {spare : Nat → Bool} {held : Bool} {t : TypeId}
def letterLeaves : List Leaf := [.int .i64, .int .i64, .int .i64, .int .u32, .int .u32, .int .u64, .int .u64, .int .u32, .int .i64, .bool, .int .i64, .bytes, .bytes]
def LetE (cs : List Value) (L : Lt) (H : List Ck) : Prop := ∃ vk vd, cs = ltc L vk vd ∧ Bs vk L.n.key H ∧ Bs vd L.n.data H ∧ L.n.key.length ≤ maxLen ∧ L.n.data.length ≤ maxLen
theorem letter_of {cs : List Value} (hl : cs.length = 13) (h : ∀ (i : Nat) (lf : Leaf), letterLeaves[i]? = some lf → ∃ v, cs[i]? = some v ∧ leafOk W lf v) : ∃ L H, LetE cs L H ∧ Here W H := by
  obtain ⟨v0, e0, m0, rfl, _⟩ := h 0 _ rfl
  obtain ⟨v1, e1, m1, rfl, _⟩ := h 1 _ rfl
  obtain ⟨v2, e2, m2, rfl, _⟩ := h 2 _ rfl
  obtain ⟨v3, e3, m3, rfl, w3⟩ := h 3 _ rfl
  obtain ⟨v4, e4, m4, rfl, w4⟩ := h 4 _ rfl
  obtain ⟨v5, e5, m5, rfl, w5⟩ := h 5 _ rfl
  obtain ⟨v6, e6, m6, rfl, w6⟩ := h 6 _ rfl
  obtain ⟨v7, e7, m7, rfl, w7⟩ := h 7 _ rfl
  obtain ⟨v8, e8, m8, rfl, _⟩ := h 8 _ rfl
  obtain ⟨v9, e9, m9, rfl⟩ := h 9 _ rfl
  obtain ⟨v10, e10, m10, rfl, _⟩ := h 10 _ rfl
  obtain ⟨v11, e11, bk, Hk, hk1, hk2, hk3⟩ := h 11 _ rfl
  obtain ⟨v12, e12, bd, Hd', hd1, hd2, hd3⟩ := h 12 _ rfl
  obtain ⟨x3, rfl⟩ := as_bits32 w3
  obtain ⟨x4, rfl⟩ := as_bits32 w4
  obtain ⟨x5, rfl⟩ := as_bits64 w5
  obtain ⟨x6, rfl⟩ := as_bits64 w6
  obtain ⟨x7, rfl⟩ := as_bits32 w7
  refine ⟨⟨m0, m1, ⟨m2, x3, x4, x5, x6, x7, m8, m9, m10, bk, bd⟩⟩, Hk ++ Hd', ⟨v11, v12, ?_, hk1.mono fun x hx => List.mem_append_left _ hx, hd1.mono fun x hx => List.mem_append_right _ hx, hk2, hd2⟩, hk3.append hd3⟩
  apply List.ext_getElem?
  intro i
  match i with
  | 0 => exact e0
  | 1 => exact e1
  | 2 => exact e2
  | 3 => exact e3
  | 4 => exact e4
  | 5 => exact e5
  | 6 => exact e6
  | 7 => exact e7
  | 8 => exact e8
  | 9 => exact e9
  | 10 => exact e10
  | 11 => exact e11
  | 12 => exact e12
  | i + 13 => rw [List.getElem?_eq_none (by omega), List.getElem?_eq_none (by simp [ltc, ntc])]
structure Aw where
  k : Int
  L : Lt
  at_ : Int
  to : Int
  on : Bool
def actLeaves : List Leaf := [.int .i64] ++ letterLeaves ++ [.int .i64, .int .i64, .bool]
def awc (a : Aw) (vk vd : Value) : List Value := .int .i64 a.k :: (ltc a.L vk vd ++ [.int .i64 a.at_, .int .i64 a.to, .bool a.on])
def AwE (cs : List Value) (a : Aw) (H : List Ck) : Prop := ∃ vk vd, cs = awc a vk vd ∧ Bs vk a.L.n.key H ∧ Bs vd a.L.n.data H ∧ a.L.n.key.length ≤ maxLen ∧ a.L.n.data.length ≤ maxLen
theorem AwE.mono (cs : List Value) (a : Aw) (A B : List Ck) (h : AwE cs a A) (s : ∀ x ∈ A, x ∈ B) : AwE cs a B := by
  obtain ⟨vk, vd, h1, h2, h3, h4⟩ := h
  exact ⟨vk, vd, h1, h2.mono s, h3.mono s, h4⟩
theorem act_of {cs : List Value} (hl : cs.length = 17) (h : ∀ (i : Nat) (lf : Leaf), actLeaves[i]? = some lf → ∃ v, cs[i]? = some v ∧ leafOk W lf v) : ∃ a H, AwE cs a H ∧ Here W H := by
  obtain ⟨v0, e0, m0, rfl, _⟩ := h 0 _ rfl
  obtain ⟨v14, e14, m14, rfl, _⟩ := h 14 _ rfl
  obtain ⟨v15, e15, m15, rfl, _⟩ := h 15 _ rfl
  obtain ⟨v16, e16, m16, rfl⟩ := h 16 _ rfl
  obtain ⟨L, H, ⟨vk, vd, hcs, h1, h2, h3, h4⟩, hh⟩ := letter_of (W := W) (cs := (cs.drop 1).take 13) (by simp; omega) (fun i lf hi => by
    have hlt : i < 13 := (List.getElem?_eq_some_iff.1 hi).1
    obtain ⟨v, hv, hok⟩ := h (i + 1) lf (by
      show (letterLeaves ++ [.int .i64, .int .i64, .bool])[i]? = some lf
      rw [List.getElem?_append_left hlt]
      exact hi)
    refine ⟨v, ?_, hok⟩
    rw [List.getElem?_take, if_pos hlt, List.getElem?_drop, Nat.add_comm]
    exact hv)
  refine ⟨⟨m0, L, m14, m15, m16⟩, H, ⟨vk, vd, ?_, h1, h2, h3, h4⟩, hh⟩
  unfold awc
  rw [← hcs]
  apply List.ext_getElem?
  intro i
  match i with
  | 0 => exact e0
  | i + 1 =>
    rw [List.getElem?_cons_succ]
    by_cases hi : i < 13
    · rw [List.getElem?_append_left (by simp; omega), List.getElem?_take, if_pos hi, List.getElem?_drop, Nat.add_comm]
    · rw [List.getElem?_append_right (by simp; omega)]
      have e : ((cs.drop 1).take 13).length = 13 := by simp; omega
      rw [e]
      match i, hi with
      | 13, _ => exact e14
      | 14, _ => exact e15
      | 15, _ => exact e16
      | i + 16, _ => rw [List.getElem?_eq_none (by omega), List.getElem?_eq_none (by simp)]
theorem open_aws {T E : TypeId} {fs : Array Field} {ao : Option Addr} {len cap : Nat} {d : DataW Hh} {p : List MemPlace} (hT : sliceOf P T = some E) (hu : P.underlying E = some (.struct fs)) (hL : leavesOf P 5 E = some actLeaves) (hc : P.cellsOf E = 17) (h : DataW.Trod enc P W base spare held T (.slice ao len cap) d p) :
    ∃ (xs : List Value) (as9 : List Aw) (H : List Ck), Rs (.slice ao len cap) len xs H ∧ xs.length = len * 17 ∧ as9.length = len ∧ len ≤ maxLen ∧ Here W H ∧ ∀ i (h : i < as9.length), AwE ((xs.drop (i * 17)).take 17) as9[i] H :=
  open_list AwE.mono hT hc (by omega) (fun n cs y hy => act_of (by rw [← hc]; exact trod_len hu hy) (open_leaves 5 E _ n _ _ hL hc hy)) h
end Go.SL

set_option linter.unusedVariables false
set_option linter.unusedSimpArgs false
namespace Go.SL
def sameN (a b : Nt) : Bool := decide (a.kind = b.kind) && (decide (a.epoch = b.epoch) && (decide (a.old = b.old) && (decide (a.lsn = b.lsn) && (decide (a.tick = b.tick) && (decide (a.order = b.order) && (decide (a.step = b.step) && ((a.undo == b.undo) && (decide (a.code = b.code) && (decide (str a.key = str b.key) && decide (str a.data = str b.data))))))))))
def sameL (a b : Lt) : Bool := decide (a.f = b.f) && (decide (a.t = b.t) && sameN a.n b.n)
theorem sameL_refl (a : Lt) : sameL a a = true := by simp [sameL, sameN]
end Go.SL

set_option linter.unusedVariables false
set_option linter.unusedSimpArgs false
namespace Go.SL
open Go.Proofs Go.Shelf Go.Lib Go.Sort
variable {P : Program}
theorem flat_get {α : Type} (enc : α → List Value) (k : Nat) (hk : ∀ x, (enc x).length = k) : ∀ (ds : List α) (i c : Nat), c < k → (ds.flatMap enc)[i * k + c]? = (ds[i]?).bind fun x => (enc x)[c]?
  | [], i, c, _ => by simp
  | d :: ds, 0, c, h => by
    rw [List.flatMap_cons, Nat.zero_mul, Nat.zero_add, List.getElem?_append_left (by rw [hk]; exact h)]
    rfl
  | d :: ds, i + 1, c, h => by
    have ih := flat_get enc k hk ds i c h
    rw [List.flatMap_cons, List.getElem?_append_right (by rw [hk, Nat.add_mul, Nat.one_mul]; omega), hk, List.getElem?_cons_succ, ← ih]
    congr 1
    rw [Nat.add_mul, Nat.one_mul]
    omega
theorem flat_len {α : Type} (enc : α → List Value) (k : Nat) (hk : ∀ x, (enc x).length = k) (ds : List α) : (ds.flatMap enc).length = ds.length * k := by
  induction ds with
  | nil => simp
  | cons d ds ih => rw [List.flatMap_cons, List.length_append, ih, hk, List.length_cons, Nat.add_mul, Nat.one_mul]; omega
end Go.SL

set_option linter.unusedVariables false
set_option linter.unusedSimpArgs false
set_option linter.unusedSectionVars false
namespace Go.SL
section
variable {α : Type}
theorem erase_skip (L : List α) (i k : Nat) (hi : i < L.length) (h : i ≠ k) : (L.take (i + 1)).eraseIdx k = (L.take i).eraseIdx k ++ [L[i]] := by
  rw [List.take_succ_eq_append_getElem hi]
  rcases Nat.lt_or_ge k i with h1 | h1
  · rw [List.eraseIdx_append_of_lt_length (by rw [List.length_take]; omega)]
  · rw [List.eraseIdx_of_length_le (by rw [List.length_append, List.length_take]; simp; omega), List.eraseIdx_of_length_le (by rw [List.length_take]; omega)]
theorem erase_here (L : List α) (k : Nat) (hi : k < L.length) : (L.take (k + 1)).eraseIdx k = (L.take k).eraseIdx k := by
  have hl : (L.take k).length = k := by rw [List.length_take]; omega
  rw [List.take_succ_eq_append_getElem hi, List.eraseIdx_append_of_length_le (by rw [hl]; exact Nat.le_refl _), hl, Nat.sub_self, List.eraseIdx_cons_zero, List.append_nil]
  exact (List.eraseIdx_of_length_le (by rw [hl]; exact Nat.le_refl _)).symm
end
end Go.SL

set_option linter.unusedVariables false
set_option linter.unusedSimpArgs false
namespace Go.SL
def wayc (w : Int × Int) : List Value := [.int .i64 w.1, .int .i64 w.2]
theorem wayc_len (w : Int × Int) : (wayc w).length = 2 := rfl
theorem wayc_one (w : Int × Int) : ∀ v ∈ wayc w, v.oneCell' = true := by
  intro v hv
  simp only [wayc, List.mem_cons, List.not_mem_nil, or_false] at hv
  rcases hv with rfl | rfl <;> rfl
structure WRel (W : Wn) (cu : List (Int × Int)) (ti : List Int) : Prop where
  cut : ∀ f t, isNode W f = true → isNode W t = true → (cutAt W f t = 0 ↔ (f, t) ∉ cu)
  clk : ∀ k, isNode W k = true → W.clk.getD k.toNat 0#64 = BitVec.ofNat 64 (ti.count k)
  node : ∀ x ∈ ti, isNode W x = true
variable {W : Wn} {cu : List (Int × Int)} {ti : List Int}
theorem WRel.ls (h : WRel W cu ti) (l : List Lt) : WRel { W with ls := l } cu ti := ⟨h.cut, h.clk, h.node⟩
theorem WRel.send (h : WRel W cu ti) (L : Lt) : WRel (sendW W L) cu ti := by unfold sendW; split; exact h.ls _; exact h
theorem WRel.out (h : WRel W cu ti) (k : Int) : WRel (outW W k) cu ti := by unfold outW; split; exact h.ls _; exact h
theorem WRel.copy (h : WRel W cu ti) (k : Int) : WRel (copyW W k) cu ti := by unfold copyW; split; exact h.ls _; exact h
theorem WRel.late (h : WRel W cu ti) (k : Int) : WRel (lateW W k) cu ti := by unfold lateW; split; exact h.ls _; exact h
def cutsC (W : Wn) (cu : List (Int × Int)) (f t : Int) (b : Bool) : List (Int × Int) := if cutE W f t = 0 then cu.filter (fun w => !(decide (w.1 = f) && decide (w.2 = t))) ++ (if b then [(f, t)] else []) else cu
def ticksC (W : Wn) (ti : List Int) (k : Int) : List Int := if isNode W k = false then ti else ti ++ [k]
theorem cutE_ok {f t : Int} (h : cutE W f t = 0) : isNode W f = true ∧ isNode W t = true := by
  unfold cutE at h
  split at h
  · exact absurd h (by decide)
  · rename_i hn
    constructor
    · cases e : isNode W f with
      | true => rfl
      | false => exact absurd (.inl e) hn
    · cases e : isNode W t with
      | true => rfl
      | false => exact absurd (.inr e) hn
theorem WRel.cut' (h : WRel W cu ti) (inv : WInv W) (f t : Int) (b : Bool) : WRel (cutW W f t b) (cutsC W cu f t b) ti := by
  unfold cutW cutsC
  by_cases h0 : cutE W f t = 0
  · rw [if_pos h0, if_pos h0]
    obtain ⟨hf, ht⟩ := cutE_ok h0
    refine ⟨fun f' t' hf' ht' => ?_, h.clk, h.node⟩
    have hf1 : isNode W f' = true := hf'
    have ht1 : isNode W t' = true := ht'
    have hold := h.cut f' t' hf1 ht1
    rw [isNode_iff] at hf ht hf1 ht1
    have hn := inv.n
    have hc := inv.cut
    unfold cutAt at hold ⊢
    simp only [List.getD_eq_getElem?_getD, List.getElem?_set] at hold ⊢
    by_cases he : f' = f ∧ t' = t
    · obtain ⟨rfl, rfl⟩ := he
      rw [if_pos rfl, if_pos (by omega)]
      cases b
      · simp
      · simp
    · rw [if_neg (by omega), hold]
      cases b
      · simp only [Bool.false_eq_true, if_false, List.append_nil, List.mem_filter]
        exact ⟨fun a b => a b.1, fun a b => a ⟨b, by simp; omega⟩⟩
      · simp only [if_true, List.mem_append, List.mem_filter, List.mem_singleton, Prod.mk.injEq]
        constructor
        · rintro h1 (h2 | h2)
          · exact h1 h2.1
          · exact he h2
        · intro h1 h2
          refine h1 (.inl ⟨h2, ?_⟩)
          simp
          omega
  · rw [if_neg h0, if_neg h0]; exact h
theorem WRel.tick (h : WRel W cu ti) (inv : WInv W) (k : Int) : WRel (tickW W k) cu (ticksC W ti k) := by
  unfold tickW ticksC
  by_cases h0 : isNode W k = false
  · rw [if_pos h0, if_pos h0]; exact h
  · rw [if_neg h0, if_neg h0]
    have hk : isNode W k = true := by simpa using h0
    refine ⟨h.cut, fun k' hk' => ?_, fun x hx => ?_⟩
    · have hk1 : isNode W k' = true := hk'
      have hold := h.clk k' hk1
      have holdk := h.clk k hk
      rw [isNode_iff] at hk hk1
      have hn := inv.n
      have hc := inv.clk
      rw [List.count_append]
      simp only [List.getD_eq_getElem?_getD, List.getElem?_set] at hold holdk ⊢
      by_cases he : k' = k
      · subst he
        rw [if_pos rfl, if_pos (by omega)]
        simp only [Option.getD_some, List.count_singleton_self]
        rw [hold]
        apply BitVec.eq_of_toNat_eq
        simp
      · rw [if_neg (by omega), hold, List.count_singleton]
        rw [if_neg (by simpa using fun e => he e.symm), Nat.add_zero]
    · rcases List.mem_append.1 hx with hx | hx
      · exact h.node x hx
      · rw [List.mem_singleton.1 hx]; exact hk
theorem WRel.clock (h : WRel W cu ti) (k : Int) : clockV W k = BitVec.ofNat 64 (ti.count k) := by
  unfold clockV
  by_cases h0 : isNode W k = false
  · rw [if_pos h0, List.count_eq_zero.2 fun hk => by rw [h.node k hk] at h0; cases h0]
  · rw [if_neg h0]
    exact h.clk k (by simpa using h0)
theorem WRel.closed (h : WRel W cu ti) {L : Lt} (hf : isNode W L.f = true) (ht : isNode W L.t = true) : decide ((L.f, L.t) ∈ cu) = !openB W L := by
  have := h.cut L.f L.t hf ht
  unfold openB
  by_cases h2 : (L.f, L.t) ∈ cu
  · rw [decide_eq_true h2, decide_eq_false (fun e => this.1 e h2)]; rfl
  · rw [decide_eq_false h2, decide_eq_true (this.2 h2)]; rfl
def LtV (cs : List Value) (ls : List Lt) (H : List Ck) : Prop := ∀ j (h : j < ls.length), LetE ((cs.drop (j * 13)).take 13) ls[j] H
theorem LtV.nil (H : List Ck) : LtV [] [] H := fun j h => absurd h (Nat.not_lt_zero _)
theorem LtV.snoc {cs : List Value} {ls : List Lt} {H : List Ck} (h : LtV cs ls H) (hl : cs.length = ls.length * 13) {L : Lt} {vk vd : Value} (hL : LetE (ltc L vk vd) L H) : LtV (cs ++ ltc L vk vd) (ls ++ [L]) H := by
  intro j hj
  by_cases e : j < ls.length
  · rw [List.getElem_append_left e, List.drop_append_of_le_length (by omega), List.take_append_of_le_length (by rw [List.length_drop]; omega)]
    exact h j e
  · have ej : j = ls.length := by simp at hj; omega
    subst ej
    rw [List.getElem_append_right (by omega)]
    simp only [Nat.sub_self, List.getElem_singleton]
    rw [← hl, List.drop_left']
    · rw [List.take_of_length_le (by rw [ltc_len]; omega)]
      exact hL
    · rfl
def RwAt (TW TL TY TI q : Nat) (W : Wn) (cu : List (Int × Int)) (ti : List Int) (H C : List Ck) : Prop :=
  ∃ vL vC vT cs CL CC CT, C = row q [.int .i64 W.n, vL, vC, vT] TW :: (CL ++ (CC ++ CT)) ∧ Own vL W.ls.length cs TL 13 CL ∧ LtV cs W.ls H ∧ Own vC cu.length (cu.flatMap wayc) TY 2 CC ∧ Own vT ti.length (ic ti) TI 1 CT
def goneAt (W : Wn) (k : Int) : Nat := if 0 ≤ k then k.toNat else W.ls.length
theorem out_gone (W : Wn) (k : Int) : outW W k = { W with ls := W.ls.eraseIdx (goneAt W k) } := by
  unfold outW thereB goneAt
  by_cases h0 : 0 ≤ k
  · rw [if_pos h0]
    by_cases h1 : k < (W.ls.length : Int)
    · rw [if_pos (by simp [h0, h1])]
    · rw [if_neg (by simp [h1]), List.eraseIdx_of_length_le (by omega)]
  · rw [if_neg (by simp [h0]), if_neg h0, List.eraseIdx_of_length_le (Nat.le_refl _)]
theorem gone_ne {W : Wn} {k : Int} {i : Nat} (hi : i < W.ls.length) : ((i : Int) ≠ k) ↔ i ≠ goneAt W k := by
  unfold goneAt
  split <;> omega
end Go.SL
namespace Go.SL
def wayP (f t : Int) (w : Int × Int) : Bool := !(decide (w.1 = f) && decide (w.2 = t))
theorem way_step {cu : List (Int × Int)} {f t : Int} {i : Nat} (hlt : i < cu.length) : (cu.take (i + 1)).filter (wayP f t) = (cu.take i).filter (wayP f t) ++ (if wayP f t cu[i] = true then [cu[i]] else []) := by
  rw [List.take_succ_eq_append_getElem hlt, List.filter_append]
  congr 1
  by_cases h : wayP f t cu[i] = true
  · rw [if_pos h, List.filter_cons_of_pos h, List.filter_nil]
  · rw [if_neg h, List.filter_cons_of_neg h, List.filter_nil]
theorem cuts_len (W : Wn) (cu : List (Int × Int)) (f t : Int) (b : Bool) : (cutsC W cu f t b).length ≤ cu.length + 1 := by
  unfold cutsC
  split
  · rw [List.length_append]
    have := List.length_filter_le (fun w : Int × Int => !(decide (w.1 = f) && decide (w.2 = t))) cu
    have hb : (if b = true then [(f, t)] else []).length ≤ 1 := by split <;> simp
    omega
  · omega
theorem ticks_len (W : Wn) (ti : List Int) (k : Int) : (ticksC W ti k).length ≤ ti.length + 1 := by
  unfold ticksC
  split <;> simp
theorem pick_small {W : Wn} (inv : WInv W) (k : Int) : (pickL W k).n.data.length ≤ 255 ∧ (pickL W k).n.key.length ≤ 255 := by
  unfold pickL
  split
  · rename_i h
    have hth : thereB W k = true := by unfold pickB at h; rw [Bool.and_eq_true] at h; exact h.1
    have := inv.small _ (atW_mem hth)
    omega
  · decide
theorem look_small {W : Wn} (inv : WInv W) (k : Int) : (lookL W k).n.data.length ≤ 255 ∧ (lookL W k).n.key.length ≤ 255 := by
  unfold lookL
  split
  · rename_i h
    have := inv.small _ (atW_mem h)
    omega
  · decide
end Go.SL

set_option linter.unusedVariables false
set_option linter.unusedSimpArgs false
namespace Go.SL
variable {P : Program} {l : Sl} {H : List Ck} {d : Option Nat} {ty : TypeId} {pos : String} {aft : Array Edge} {g : Option (Nat × Bool)}
theorem Yd.indexS {x y : Operand} {T : TypeId} {s : ByteArray} {k : IntKind} {m : Int} {i : Nat} {b : BitVec 8} (hT : P.underlying T = some .string) (hx : ev l x = some (.string s)) (hy : ev l y = some (.int k m)) (hm : m = (i : Int)) (hb : s[i]? = some (UInt8.ofNat b.toNat)) :
    Yd P ⟨d, .index T x y, ty, pos, aft, g⟩ l (.int .u8 b.toNat) := fun a kn w => by
  subst hm
  have h0 : (UInt8.ofNat b.toNat).toNat = b.toNat := by
    have := b.isLt
    simp [UInt8.toNat_ofNat]
  simp [execOp, kn.ev hx, kn.ev hy, Instr.index, asIntOf, run_underlying hT, hb, h0]
theorem str_get {l : List (BitVec 8)} {i : Nat} (h : i < l.length) : (str l)[i]? = some (UInt8.ofNat (l[i]).toNat) := by
  have hs : i < (str l).size := by rw [show (str l).size = l.length by simp [str, ByteArray.size]]; exact h
  rw [getElem?_pos (str l) i hs]
  congr 1
  show (str l).data[i]'_ = _
  simp [str]
end Go.SL

set_option linter.unusedVariables false
set_option linter.unusedSimpArgs false
namespace Go.SL
def nb (k : Int) : List (BitVec 8) := (nm k).map (BitVec.ofNat 8)
theorem nmS_str (k : Int) : nmS k = str (nb k) := by
  unfold nmS str nb
  rw [List.map_map]
  congr 2
  refine List.map_congr_left fun x hx => ?_
  have := nm_small k x hx
  simp only [Function.comp]
  apply UInt8.toNat_inj.1
  simp [UInt8.toNat_ofNat]
theorem nb_mem (k : Int) (b : BitVec 8) : b ∈ nb k ↔ b.toNat ∈ nm k := by
  unfold nb
  rw [List.mem_map]
  constructor
  · rintro ⟨x, hx, rfl⟩
    have := nm_small k x hx
    rw [BitVec.toNat_ofNat, Nat.mod_eq_of_lt (by omega)]
    exact hx
  · intro h
    exact ⟨b.toNat, h, by simp⟩
def allP : List (BitVec 8) := [69#8, 80#8, 76#8, 84#8, 79#8, 83#8, 85#8, 67#8, 75#8, 68#8]
def zeroN (n : Nt) (b : BitVec 8) : Bool :=
  if b = 69#8 then decide (n.epoch = 0#32) else if b = 80#8 then decide (n.old = 0#32) else if b = 76#8 then decide (n.lsn = 0#64) else if b = 84#8 then decide (n.tick = 0#64) else if b = 79#8 then decide (n.order = 0#32)
  else if b = 83#8 then decide (n.step = 0) else if b = 85#8 then !n.undo else if b = 67#8 then decide (n.code = 0) else if b = 75#8 then decide ((n.key.length : Int) = 0) else decide ((n.data.length : Int) = 0)
section
theorem fold_epoch : ∀ (L : List Nat) (n : Nt), (L.foldl (fun m (c : Nat) => wo m (c : Int)) n).epoch = if 69 ∈ L then 0#32 else n.epoch
  | [], n => by simp
  | c :: L, n => by
    rw [List.foldl_cons, fold_epoch L]
    by_cases h : 69 ∈ L
    · simp [h]
    · by_cases hc : c = 69
      · subst hc; simp [h, wo]
      · have : (wo n (c : Int)).epoch = n.epoch := by
          unfold wo
          repeat' split
          all_goals first | rfl | omega
        simp [h, this, Ne.symm hc]
theorem fold_old : ∀ (L : List Nat) (n : Nt), (L.foldl (fun m (c : Nat) => wo m (c : Int)) n).old = if 80 ∈ L then 0#32 else n.old
  | [], n => by simp
  | c :: L, n => by
    rw [List.foldl_cons, fold_old L]
    by_cases h : 80 ∈ L
    · simp [h]
    · by_cases hc : c = 80
      · subst hc; simp [h, wo]
      · have : (wo n (c : Int)).old = n.old := by
          unfold wo
          repeat' split
          all_goals first | rfl | omega
        simp [h, this, Ne.symm hc]
theorem fold_lsn : ∀ (L : List Nat) (n : Nt), (L.foldl (fun m (c : Nat) => wo m (c : Int)) n).lsn = if 76 ∈ L then 0#64 else n.lsn
  | [], n => by simp
  | c :: L, n => by
    rw [List.foldl_cons, fold_lsn L]
    by_cases h : 76 ∈ L
    · simp [h]
    · by_cases hc : c = 76
      · subst hc; simp [h, wo]
      · have : (wo n (c : Int)).lsn = n.lsn := by
          unfold wo
          repeat' split
          all_goals first | rfl | omega
        simp [h, this, Ne.symm hc]
theorem fold_tick : ∀ (L : List Nat) (n : Nt), (L.foldl (fun m (c : Nat) => wo m (c : Int)) n).tick = if 84 ∈ L then 0#64 else n.tick
  | [], n => by simp
  | c :: L, n => by
    rw [List.foldl_cons, fold_tick L]
    by_cases h : 84 ∈ L
    · simp [h]
    · by_cases hc : c = 84
      · subst hc; simp [h, wo]
      · have : (wo n (c : Int)).tick = n.tick := by
          unfold wo
          repeat' split
          all_goals first | rfl | omega
        simp [h, this, Ne.symm hc]
theorem fold_order : ∀ (L : List Nat) (n : Nt), (L.foldl (fun m (c : Nat) => wo m (c : Int)) n).order = if 79 ∈ L then 0#32 else n.order
  | [], n => by simp
  | c :: L, n => by
    rw [List.foldl_cons, fold_order L]
    by_cases h : 79 ∈ L
    · simp [h]
    · by_cases hc : c = 79
      · subst hc; simp [h, wo]
      · have : (wo n (c : Int)).order = n.order := by
          unfold wo
          repeat' split
          all_goals first | rfl | omega
        simp [h, this, Ne.symm hc]
theorem fold_step : ∀ (L : List Nat) (n : Nt), (L.foldl (fun m (c : Nat) => wo m (c : Int)) n).step = if 83 ∈ L then 0 else n.step
  | [], n => by simp
  | c :: L, n => by
    rw [List.foldl_cons, fold_step L]
    by_cases h : 83 ∈ L
    · simp [h]
    · by_cases hc : c = 83
      · subst hc; simp [h, wo]
      · have : (wo n (c : Int)).step = n.step := by
          unfold wo
          repeat' split
          all_goals first | rfl | omega
        simp [h, this, Ne.symm hc]
theorem fold_undo : ∀ (L : List Nat) (n : Nt), (L.foldl (fun m (c : Nat) => wo m (c : Int)) n).undo = if 85 ∈ L then false else n.undo
  | [], n => by simp
  | c :: L, n => by
    rw [List.foldl_cons, fold_undo L]
    by_cases h : 85 ∈ L
    · simp [h]
    · by_cases hc : c = 85
      · subst hc; simp [h, wo]
      · have : (wo n (c : Int)).undo = n.undo := by
          unfold wo
          repeat' split
          all_goals first | rfl | omega
        simp [h, this, Ne.symm hc]
theorem fold_code : ∀ (L : List Nat) (n : Nt), (L.foldl (fun m (c : Nat) => wo m (c : Int)) n).code = if 67 ∈ L then 0 else n.code
  | [], n => by simp
  | c :: L, n => by
    rw [List.foldl_cons, fold_code L]
    by_cases h : 67 ∈ L
    · simp [h]
    · by_cases hc : c = 67
      · subst hc; simp [h, wo]
      · have : (wo n (c : Int)).code = n.code := by
          unfold wo
          repeat' split
          all_goals first | rfl | omega
        simp [h, this, Ne.symm hc]
theorem fold_key : ∀ (L : List Nat) (n : Nt), (L.foldl (fun m (c : Nat) => wo m (c : Int)) n).key = if 75 ∈ L then [] else n.key
  | [], n => by simp
  | c :: L, n => by
    rw [List.foldl_cons, fold_key L]
    by_cases h : 75 ∈ L
    · simp [h]
    · by_cases hc : c = 75
      · subst hc; simp [h, wo]
      · have : (wo n (c : Int)).key = n.key := by
          unfold wo
          repeat' split
          all_goals first | rfl | omega
        simp [h, this, Ne.symm hc]
theorem fold_data : ∀ (L : List Nat) (n : Nt), (L.foldl (fun m (c : Nat) => wo m (c : Int)) n).data = if 68 ∈ L then [] else n.data
  | [], n => by simp
  | c :: L, n => by
    rw [List.foldl_cons, fold_data L]
    by_cases h : 68 ∈ L
    · simp [h]
    · by_cases hc : c = 68
      · subst hc; simp [h, wo]
      · have : (wo n (c : Int)).data = n.data := by
          unfold wo
          repeat' split
          all_goals first | rfl | omega
        simp [h, this, Ne.symm hc]
end
theorem toNat_pos32 (x : BitVec 32) : 0 < (x.toNat : Int) ↔ x ≠ 0#32 := by
  constructor
  · intro h e; subst e; simp at h
  · intro h
    have : x.toNat ≠ 0 := fun e => h (BitVec.eq_of_toNat_eq (by simpa using e))
    omega
theorem toNat_pos64 (x : BitVec 64) : 0 < (x.toNat : Int) ↔ x ≠ 0#64 := by
  constructor
  · intro h e; subst e; simp at h
  · intro h
    have : x.toNat ≠ 0 := fun e => h (BitVec.eq_of_toNat_eq (by simpa using e))
    omega
theorem more_iff (n : Nt) : moreB (rest n) = true ↔ ∃ b ∈ allP, zeroN n b = false ∧ b ∉ nb n.kind := by
  have e : rest n = (nm n.kind).foldl (fun m (c : Nat) => wo m (c : Int)) n := by
    unfold rest restTo; rw [List.take_length]
  have h1 := fold_epoch (nm n.kind) n
  have h2 := fold_old (nm n.kind) n
  have h3 := fold_lsn (nm n.kind) n
  have h4 := fold_tick (nm n.kind) n
  have h5 := fold_order (nm n.kind) n
  have h6 := fold_step (nm n.kind) n
  have h7 := fold_undo (nm n.kind) n
  have h8 := fold_code (nm n.kind) n
  have h9 := fold_key (nm n.kind) n
  have h10 := fold_data (nm n.kind) n
  rw [← e] at h1 h2 h3 h4 h5 h6 h7 h8 h9 h10
  unfold moreB
  rw [h1, h2, h3, h4, h5, h6, h7, h8, h9, h10]
  simp only [Bool.or_eq_true, decide_eq_true_eq, toNat_pos32, toNat_pos64]
  have z : ∀ b : BitVec 8, b ∉ nb n.kind ↔ b.toNat ∉ nm n.kind := fun b => not_congr (nb_mem _ _)
  simp only [allP, List.mem_cons, List.not_mem_nil, or_false, exists_eq_or_imp, exists_eq_left, z]
  have g1 : zeroN n 69#8 = decide (n.epoch = 0#32) := rfl
  have g2 : zeroN n 80#8 = decide (n.old = 0#32) := rfl
  have g3 : zeroN n 76#8 = decide (n.lsn = 0#64) := rfl
  have g4 : zeroN n 84#8 = decide (n.tick = 0#64) := rfl
  have g5 : zeroN n 79#8 = decide (n.order = 0#32) := rfl
  have g6 : zeroN n 83#8 = decide (n.step = 0) := rfl
  have g7 : zeroN n 85#8 = !n.undo := rfl
  have g8 : zeroN n 67#8 = decide (n.code = 0) := rfl
  have g9 : zeroN n 75#8 = decide ((n.key.length : Int) = 0) := rfl
  have g10 : zeroN n 68#8 = decide ((n.data.length : Int) = 0) := rfl
  rw [g1, g2, g3, g4, g5, g6, g7, g8, g9, g10]
  have q : ∀ {α : Type} [DecidableEq α] (p : Prop) [Decidable p] (x y : α), ((if p then y else x) ≠ y) ↔ (decide (x = y) = false ∧ ¬ p) := fun p _ x y => by
    by_cases hp : p <;> simp [hp]
  have q2 : ∀ (p : Prop) [Decidable p] (x : Bool), ((if p then false else x) = true) ↔ ((!x) = false ∧ ¬ p) := fun p _ x => by
    by_cases hp : p <;> simp [hp]
  have q3 : ∀ (p : Prop) [Decidable p] (x : List (BitVec 8)), (0 < ((if p then [] else x).length : Int)) ↔ (decide ((x.length : Int) = 0) = false ∧ ¬ p) := fun p _ x => by
    by_cases hp : p
    · simp [hp]
    · rw [if_neg hp]
      simp only [decide_eq_false_iff_not, hp, not_false_eq_true, and_true]
      omega
  rw [q, q, q, q, q, q, q2, q, q3, q3]
  exact Iff.rfl
theorem ite_len {p : Prop} [Decidable p] {a b : List Nat} (h : a.length ≤ 6) (k : b.length ≤ 6) : (if p then a else b).length ≤ 6 := by
  split <;> assumption
theorem nb_len (k : Int) : (nb k).length ≤ 6 := by
  unfold nb nm
  rw [List.length_map]
  repeat (first | exact Nat.le_refl _ | exact Nat.zero_le _ | refine ite_len (by decide) ?_)
theorem names_cell {k : Int} (h0 : 1 ≤ k) (h1 : k ≤ 13) : ([.string ⟨#[]⟩, .string ⟨#[69, 80, 76, 68]⟩, .string ⟨#[69, 76]⟩, .string ⟨#[69, 76]⟩, .string ⟨#[69, 67]⟩, .string ⟨#[69, 84, 67]⟩, .string ⟨#[69, 67]⟩, .string ⟨#[69, 79, 83, 85, 68]⟩, .string ⟨#[69, 79, 83, 85, 67, 68]⟩, .string ⟨#[69, 79, 83, 85]⟩, .string ⟨#[75, 68]⟩, .string ⟨#[75]⟩, .string ⟨#[75]⟩, .string ⟨#[79, 67, 75, 68]⟩] : List Value)[k.toNat]? = some (.string (nmS k)) := by
  have h : k = 1 ∨ k = 2 ∨ k = 3 ∨ k = 4 ∨ k = 5 ∨ k = 6 ∨ k = 7 ∨ k = 8 ∨ k = 9 ∨ k = 10 ∨ k = 11 ∨ k = 12 ∨ k = 13 := by omega
  rcases h with rfl | rfl | rfl | rfl | rfl | rfl | rfl | rfl | rfl | rfl | rfl | rfl | rfl <;> rfl
theorem names_no {k : Int} (h : ¬ (1 ≤ k ∧ k ≤ 13)) : nmS k = ⟨#[]⟩ := by
  rw [nmS_empty]
  unfold nm
  rw [if_neg (by omega), if_neg (by omega), if_neg (by omega), if_neg (by omega), if_neg (by omega), if_neg (by omega), if_neg (by omega), if_neg (by omega), if_neg (by omega), if_neg (by omega), if_neg (by omega), if_neg (by omega), if_neg (by omega)]
def refBad (n : Nt) : Bool := decide (nm n.kind = []) || (farB n || (decide (∃ b ∈ allP, zeroN n b = false ∧ b ∉ nb n.kind) || (decide (10 ≤ n.kind) && (decide (n.kind ≤ 12) && decide ((n.key.length : Int) = 0)))))
theorem refBad_eq (n : Nt) : refBad n = noteBad n := by
  have h : decide (∃ b ∈ allP, zeroN n b = false ∧ b ∉ nb n.kind) = moreB (rest n) := by
    rw [Bool.eq_iff_iff, decide_eq_true_eq]
    exact (more_iff n).symm
  unfold refBad noteBad
  rw [h]
  cases decide (nm n.kind = []) <;> cases farB n <;> cases moreB (rest n) <;> rfl
def partV (n : Nt) (vk vd : Value) (b : BitVec 8) : List Value :=
  if b = 69#8 then [.int .i64 4, .int .u64 (n.epoch.setWidth 64).toNat, .slice none 0 0] else if b = 80#8 then [.int .i64 4, .int .u64 (n.old.setWidth 64).toNat, .slice none 0 0]
  else if b = 76#8 then [.int .i64 8, .int .u64 n.lsn.toNat, .slice none 0 0] else if b = 84#8 then [.int .i64 8, .int .u64 n.tick.toNat, .slice none 0 0]
  else if b = 79#8 then [.int .i64 4, .int .u64 (n.order.setWidth 64).toNat, .slice none 0 0] else if b = 83#8 then [.int .i64 1, .int .u64 (BitVec.ofInt 64 n.step).toNat, .slice none 0 0]
  else if b = 85#8 then [.int .i64 1, .int .u64 (if n.undo then 1 else 0), .slice none 0 0] else if b = 67#8 then [.int .i64 1, .int .u64 (BitVec.ofInt 64 n.code).toNat, .slice none 0 0]
  else if b = 75#8 then [.int .i64 0, .int .u64 0, vk] else [.int .i64 0, .int .u64 0, vd]
theorem partV_len (n : Nt) (vk vd : Value) (b : BitVec 8) : (partV n vk vd b).length = 3 := by
  unfold partV
  repeat' split
  all_goals rfl
theorem partV_one (n : Nt) (vk vd : Value) (b : BitVec 8) (h1 : vk.oneCell' = true) (h2 : vd.oneCell' = true) : ∀ u ∈ partV n vk vd b, u.oneCell' = true := by
  have key : ∀ x y z : Value, x.oneCell' = true → y.oneCell' = true → z.oneCell' = true → ∀ u ∈ [x, y, z], u.oneCell' = true := by
    intro x y z hx hy hz u hu
    simp only [List.mem_cons, List.not_mem_nil, or_false] at hu
    rcases hu with rfl | rfl | rfl <;> assumption
  unfold partV
  repeat' split
  all_goals first | exact key _ _ _ rfl rfl rfl | exact key _ _ _ rfl rfl h1 | exact key _ _ _ rfl rfl h2
theorem rtake {n : Nt} {L : List (BitVec 8)} {i : Nat} (hlt : i < L.length) (h : ∀ b ∈ L.take i, zeroN n b = true ∨ b ∈ nb n.kind) (h2 : zeroN n L[i] = true ∨ L[i] ∈ nb n.kind) : ∀ b ∈ L.take (i + 1), zeroN n b = true ∨ b ∈ nb n.kind := by
  rw [List.take_succ_eq_append_getElem hlt]
  intro b hb
  rcases List.mem_append.1 hb with hb | hb
  · exact h b hb
  · rw [List.mem_singleton.1 hb]; exact h2
section
variable {n : Nt}
theorem ref_bad1 (h : (decide (nm n.kind = []) || farB n) = true) : refBad n = true := by
  unfold refBad
  rw [Bool.or_eq_true] at h ⊢
  rcases h with h | h
  · exact .inl h
  · exact .inr (by rw [h]; rfl)
theorem ref_bad2 {b : BitVec 8} (hb : b ∈ allP) (h : zeroN n b = false) (h2 : b ∉ nb n.kind) : refBad n = true := by
  unfold refBad
  rw [decide_eq_true (show ∃ b ∈ allP, zeroN n b = false ∧ b ∉ nb n.kind from ⟨b, hb, h, h2⟩)]
  simp
theorem ref_bad3 (h : (decide (10 ≤ n.kind) && (decide (n.kind ≤ 12) && decide ((n.key.length : Int) = 0))) = true) : refBad n = true := by
  unfold refBad
  rw [h]
  simp
theorem ref_ok (h : (decide (nm n.kind = []) || farB n) = false) (h2 : ∀ b ∈ allP, zeroN n b = true ∨ b ∈ nb n.kind) (h3 : (decide (10 ≤ n.kind) && (decide (n.kind ≤ 12) && decide ((n.key.length : Int) = 0))) = false) : ¬ refBad n = true := by
  unfold refBad
  rw [Bool.or_eq_false_iff] at h
  rw [h.1, h.2, h3, decide_eq_false (by
    rintro ⟨b, hb, h4, h5⟩
    rcases h2 b hb with h6 | h6
    · rw [h4] at h6; cases h6
    · exact h5 h6)]
  decide
end
end Go.SL

set_option linter.unusedVariables false
set_option linter.unusedSimpArgs false
namespace Go.SL
theorem cell_at2 {α : Type} {enc : α → List Value} {k : Nat} (hk : ∀ x, (enc x).length = k) {L : List α} {cs : List Value} {o i c : Nat} (hcs : (cs.drop o).take (L.flatMap enc).length = L.flatMap enc) (hi : i < L.length) (hc : c < k) : cs[o + (i : Int).toNat * k + c]? = (enc L[i])[c]? := by
  have h1 := flat_get enc k hk L i c hc
  rw [List.getElem?_eq_getElem hi, Option.bind_some] at h1
  rw [← h1, Int.toNat_natCast]
  have h2 : i * k + c < (L.flatMap enc).length := by
    rw [flat_len enc k hk]
    have := Nat.mul_le_mul_right k (show i + 1 ≤ L.length from hi)
    rw [Nat.add_mul, Nat.one_mul] at this
    omega
  conv => rhs; rw [← hcs]
  rw [List.getElem?_take_of_lt h2, List.getElem?_drop]
  congr 1
  omega
theorem Gr.get {A B : List Ck} {c : Ck} (h : ∀ x ∈ A, x ∈ B) (hm : c ∈ A) : c ∈ B := h c hm
end Go.SL
