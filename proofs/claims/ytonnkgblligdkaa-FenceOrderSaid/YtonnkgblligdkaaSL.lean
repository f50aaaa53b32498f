/-
  The calculus that the walks of this seat are written in: what a call knows of memory is a list of blocks ('Ck'), what it knows of its temporaries a list of slots; every rule here is proved from the kit's own rules for 'Code.wp', 'wpList' and 'wpAny'.
-/
import Derived.Orders
import Derived.Tactics
import Derived.Scope
import Derived.Below
set_option linter.unusedVariables false
set_option linter.unusedSimpArgs false
namespace Go.SL
open Go.RowKit (Below)

/-! ### blocks -/

/-- A block that is known: its number, what it holds, whether it is ours alone. -/
structure Ck where
  b : Nat
  o : Obj
  ex : Bool

def Ck.apart (c d : Ck) : Prop := (c.ex = true ∨ d.ex = true) → c.b ≠ d.b

theorem Ck.apart_symm {c d : Ck} (h : c.apart d) : d.apart c := fun e => (h e.symm).symm

structure Sat (w : World) (H : List Ck) : Prop where
  holds : ∀ c ∈ H, w.heap[c.b]? = some c.o
  apart : H.Pairwise Ck.apart

structure Kept (w w' : World) : Prop where
  os : w'.os = w.os
  tape : w'.tape = w.tape
  output : w'.output = w.output
  size : w.heap.size ≤ w'.heap.size
  drawn : w.drawn ≤ w'.drawn

theorem Kept.refl (w : World) : Kept w w := ⟨rfl, rfl, rfl, Nat.le_refl _, Nat.le_refl _⟩
theorem Kept.trans {a b c : World} (h : Kept a b) (k : Kept b c) : Kept a c :=
  ⟨k.os.trans h.os, k.tape.trans h.tape, k.output.trans h.output, Nat.le_trans h.size k.size, Nat.le_trans h.drawn k.drawn⟩

theorem Sat.perm {w : World} {H H' : List Ck} (h : Sat w H) (p : H.Perm H') : Sat w H' :=
  ⟨fun c hc => h.holds c (p.mem_iff.2 hc), (p.pairwise_iff (fun {_ _} => Ck.apart_symm)).1 h.apart⟩

theorem Sat.drop {w : World} {A B : List Ck} (h : Sat w (A ++ B)) : Sat w B :=
  ⟨fun c hc => h.holds c (List.mem_append_right _ hc), (List.pairwise_append.1 h.apart).2.1⟩

theorem Sat.sublist {w : World} {A B : List Ck} (h : Sat w B) (s : A.Sublist B) : Sat w A :=
  ⟨fun c hc => h.holds c (s.subset hc), h.apart.sublist s⟩

theorem Sat.lt {w : World} {H : List Ck} (h : Sat w H) {c : Ck} (hc : c ∈ H) : c.b < w.heap.size :=
  (Array.getElem?_eq_some_iff.1 (h.holds c hc)).1

/-- Only the heap's blocks count. -/
theorem Sat.heap {w w' : World} {H : List Ck} (h : Sat w H) (e : w'.heap = w.heap) : Sat w' H :=
  ⟨fun c hc => by rw [e]; exact h.holds c hc, h.apart⟩

/-- A new block. -/
theorem Sat.push {w : World} {H : List Ck} (h : Sat w H) (o : Obj) (ex : Bool) : Sat { w with heap := w.heap.push o } (⟨w.heap.size, o, ex⟩ :: H) := by
  refine ⟨fun c hc => ?_, List.pairwise_cons.2 ⟨fun d hd _ => ?_, h.apart⟩⟩
  · rcases List.mem_cons.1 hc with rfl | hc
    · simp
    · have := h.lt hc
      simp [Array.getElem?_push, Nat.ne_of_lt this, h.holds c hc]
  · have := h.lt hd
    show w.heap.size ≠ d.b
    omega

/-- A block of ours is written. -/
theorem Sat.write {w w' : World} {H : List Ck} {b : Nat} {o o' : Obj} (h : Sat w (⟨b, o, true⟩ :: H)) (hb : w'.heap[b]? = some o') (hne : ∀ k, k ≠ b → w'.heap[k]? = w.heap[k]?) : Sat w' (⟨b, o', true⟩ :: H) := by
  have hp := List.pairwise_cons.1 h.apart
  refine ⟨fun c hc => ?_, List.pairwise_cons.2 ⟨fun d hd e => hp.1 d hd e, hp.2⟩⟩
  rcases List.mem_cons.1 hc with rfl | hc
  · exact hb
  · have : b ≠ c.b := hp.1 c hc (.inl rfl)
    rw [hne _ (Ne.symm this)]
    exact h.holds c (List.mem_cons_of_mem _ hc)

/-! ### what a call does -/

/-- The call of f, begun where the blocks H are, returns; what it returns and what the blocks are then is told by Post; all else stays. -/
def Tells (P : Program) (f : FuncId) (args : List Value) (H : List Ck) (Post : Value → List Ck → Prop) : Prop :=
  ∀ w R, Sat w (H ++ R) → Calls P f args.toArray w fun e w' => ∃ v H', e = .returned v ∧ Post v H' ∧ Sat w' (H' ++ R) ∧ Kept w w'

theorem Tells.mono {P : Program} {f : FuncId} {args : List Value} {H : List Ck} {Post Post' : Value → List Ck → Prop} (h : Tells P f args H Post) (hp : ∀ v H', Post v H' → Post' v H') : Tells P f args H Post' :=
  fun w R hs => (h w R hs).mono fun _ _ ⟨v, H', he, q, r⟩ => ⟨v, H', he, hp _ _ q, r⟩

theorem Tells.frame {P : Program} {f : FuncId} {args : List Value} {H : List Ck} {Post : Value → List Ck → Prop} (h : Tells P f args H Post) (D : List Ck) :
    Tells P f args (H ++ D) fun v H' => ∃ H1, Post v H1 ∧ H' = H1 ++ D :=
  fun w R hs => (h w (D ++ R) (by simpa using hs)).mono fun _ _ ⟨v, H', he, q, r, k⟩ => ⟨v, H' ++ D, he, ⟨H', q, rfl⟩, by simpa using r, k⟩

/-- What a call whose blocks are told by nothing leaves: all that was there. -/
theorem Tells.below {P : Program} {f : FuncId} {args : List Value} {Post : Value → List Ck → Prop} {w : World} {H : List Ck} (h : Tells P f args H Post) (hH : ∀ c ∈ H, w.heap[c.b]? = some c.o ∧ c.ex = false) :
    Calls P f args.toArray w fun e w' => ∃ v H', e = .returned v ∧ Post v H' ∧ Below w.heap.size w w' := by
  let R : List Ck := (List.range w.heap.size).map fun k => ⟨k, (w.heap[k]?).getD default, false⟩
  have hsat : Sat w (H ++ R) := by
    refine ⟨fun c hc => ?_, ?_⟩
    · rcases List.mem_append.1 hc with hc | hc
      · exact (hH c hc).1
      · obtain ⟨k, hk, rfl⟩ := List.mem_map.1 hc
        have hk := List.mem_range.1 hk
        simp [hk]
    · have hall : ∀ c ∈ H ++ R, c.ex = false := fun c hc => by
        rcases List.mem_append.1 hc with hc | hc
        · exact (hH c hc).2
        · obtain ⟨k, hk, rfl⟩ := List.mem_map.1 hc; rfl
      rw [List.pairwise_iff_forall_sublist]
      intro c d hs e
      have h1 := hall c (hs.subset (by simp))
      have h2 := hall d (hs.subset (by simp))
      rw [h1, h2] at e
      simp at e
  refine (h w R hsat).mono fun e w' ⟨v, H', he, hp, hs, hk⟩ => ⟨v, H', he, hp, hk.os, hk.tape, hk.output, hk.size, fun k hlt => ?_⟩
  have := hs.holds ⟨k, (w.heap[k]?).getD default, false⟩ (List.mem_append_right _ (List.mem_map.2 ⟨k, List.mem_range.2 hlt, rfl⟩))
  rw [this]
  simp [hlt]

/-! ### slots -/

abbrev Sl := List (Nat × Value)

def getv : Sl → Nat → Option Value
  | [], _ => none
  | (d, v) :: l, t => cond (Nat.beq d t) (some v) (getv l t)

theorem getv_cons (d : Nat) (v : Value) (l : Sl) (t : Nat) : getv ((d, v) :: l) t = if d = t then some v else getv l t := by
  simp only [getv]
  by_cases e : d = t
  · subst e
    rw [if_pos rfl, Nat.beq_refl]
    rfl
  · rw [if_neg e, show Nat.beq d t = false from by cases h : Nat.beq d t with | true => exact absurd (Nat.eq_of_beq_eq_true h) e | false => rfl]
    rfl

def Kn (a : Act) (l : Sl) : Prop := ∀ t v, getv l t = some v → a.tmps.getD t undef = v

/-- l tells at least what the other list tells. -/
def Has (l : Sl) : Sl → Prop
  | [] => True
  | (t, v) :: r => getv l t = some v ∧ Has l r

theorem Has.get {l : Sl} : ∀ {r : Sl}, Has l r → ∀ t v, getv r t = some v → getv l t = some v
  | [], _, _, _, h => by simp [getv] at h
  | (d, u) :: r, hh, t, v, h => by
    obtain ⟨h1, h2⟩ := hh
    rw [getv_cons] at h
    by_cases e : d = t
    · subst e
      simp at h
      subst h
      exact h1
    · simp [e] at h
      exact h2.get t v h

theorem Kn.sub {a : Act} {l r : Sl} (k : Kn a l) (h : Has l r) : Kn a r := fun t v e => k t v (h.get t v e)

theorem Kn.put {a : Act} {l : Sl} (k : Kn a l) {d : Nat} (v : Value) (hd : d < a.tmps.size) : Kn (a.put (some d) v) ((d, v) :: l) := by
  intro t u h
  rw [getv_cons] at h
  by_cases e : d = t
  · subst e
    simp at h
    subst h
    simp [Act.put, hd]
  · simp [e] at h
    have := k t u h
    simp only [Act.put, Array.getD_eq_getD_getElem?] at this ⊢
    rw [Array.getElem?_setIfInBounds_ne (by omega)]
    exact this

/-- What an operand stands for. -/
def ev (l : Sl) : Operand → Option Value
  | .tmp t => getv l t
  | .const v => some v
  | .func f => some (.func (.func f) #[] #[])
  | .global g => some (.pointer (some ⟨g, 0, none⟩))

theorem Kn.ev {a : Act} {l : Sl} (k : Kn a l) {x : Operand} {v : Value} (h : ev l x = some v) : a.eval x = v := by
  cases x with
  | tmp t => exact k t v h
  | const u => simp [SL.ev] at h; exact h
  | func f => simp [SL.ev] at h; exact h
  | global g => simp [SL.ev] at h; exact h

/-! ### the judgements -/

structure At (P : Program) (n : Nat) (w0 : World) (R : List Ck) (l : Sl) (H : List Ck) (a : Act) (w : World) : Prop where
  size : a.tmps.size = n
  defers : a.defers = []
  kn : Kn a l
  sat : Sat w (H ++ R)
  kept : Kept w0 w

variable {P : Program} {n : Nat} {w0 : World} {R : List Ck}

/-- From l and H on the code comes to Q. -/
def WC (P : Program) (n : Nat) (w0 : World) (R : List Ck) (Q : Exit → Act → World → Prop) (c : Code) (l : Sl) (H : List Ck) : Prop :=
  ∀ a w, At P n w0 R l H a w → c.wp P Q a w
/-- From l and H on the operations come to Q. -/
def WL (P : Program) (n : Nat) (w0 : World) (R : List Ck) (ops : Array Oper) (Q : Exit → Act → World → Prop) (rest : List Oper) (l : Sl) (H : List Ck) : Prop :=
  ∀ a w, At P n w0 R l H a w → wpList P ops Q rest a w
/-- The same where the order is drawn. -/
def WA (P : Program) (n : Nat) (w0 : World) (R : List Ck) (ops : Array Oper) (Q : Exit → Act → World → Prop) (fuel : Nat) (listed : Array Bool) (l : Sl) (H : List Ck) : Prop :=
  ∀ a w, At P n w0 R l H a w → wpAny P .any ops Q fuel listed a w
/-- Q holds there. -/
def DN (P : Program) (n : Nat) (w0 : World) (R : List Ck) (Q : Exit → Act → World → Prop) (e : Exit) (l : Sl) (H : List Ck) : Prop :=
  ∀ a w, At P n w0 R l H a w → Q e a w

section rules
variable {Q : Exit → Act → World → Prop} {l : Sl} {H : List Ck} {ops : Array Oper}

theorem At.sub {r : Sl} {a : Act} {w : World} (h : At P n w0 R l H a w) (s : Has l r) : At P n w0 R r H a w :=
  ⟨h.size, h.defers, h.kn.sub s, h.sat, h.kept⟩
theorem At.perm {H' : List Ck} {a : Act} {w : World} (h : At P n w0 R l H a w) (s : H.Perm H') : At P n w0 R l H' a w :=
  ⟨h.size, h.defers, h.kn, h.sat.perm (s.append_right R), h.kept⟩
theorem At.sublist {H' : List Ck} {a : Act} {w : World} (h : At P n w0 R l H a w) (s : H'.Sublist H) : At P n w0 R l H' a w :=
  ⟨h.size, h.defers, h.kn, h.sat.sublist (s.append_right R), h.kept⟩

/-! weakening -/
theorem WC.slots {c : Code} (r : Sl) (s : Has l r) (h : WC P n w0 R Q c r H) : WC P n w0 R Q c l H := fun a w i => h a w (i.sub s)
theorem WC.blocks {c : Code} (H' : List Ck) (s : H.Perm H') (h : WC P n w0 R Q c l H') : WC P n w0 R Q c l H := fun a w i => h a w (i.perm s)
theorem WC.forget {c : Code} (H' : List Ck) (s : H'.Sublist H) (h : WC P n w0 R Q c l H') : WC P n w0 R Q c l H := fun a w i => h a w (i.sublist s)
theorem WL.slots {rest : List Oper} (r : Sl) (s : Has l r) (h : WL P n w0 R ops Q rest r H) : WL P n w0 R ops Q rest l H := fun a w i => h a w (i.sub s)
theorem WL.blocks {rest : List Oper} (H' : List Ck) (s : H.Perm H') (h : WL P n w0 R ops Q rest l H') : WL P n w0 R ops Q rest l H := fun a w i => h a w (i.perm s)
theorem WL.forget {rest : List Oper} (H' : List Ck) (s : H'.Sublist H) (h : WL P n w0 R ops Q rest l H') : WL P n w0 R ops Q rest l H := fun a w i => h a w (i.sublist s)
theorem DN.slots {e : Exit} (r : Sl) (s : Has l r) (h : DN P n w0 R Q e r H) : DN P n w0 R Q e l H := fun a w i => h a w (i.sub s)
theorem DN.blocks {e : Exit} (H' : List Ck) (s : H.Perm H') (h : DN P n w0 R Q e l H') : DN P n w0 R Q e l H := fun a w i => h a w (i.perm s)
theorem DN.forget {e : Exit} (H' : List Ck) (s : H'.Sublist H) (h : DN P n w0 R Q e l H') : DN P n w0 R Q e l H := fun a w i => h a w (i.sublist s)
theorem WA.slots {fuel : Nat} {listed : Array Bool} (r : Sl) (s : Has l r) (h : WA P n w0 R ops Q fuel listed r H) : WA P n w0 R ops Q fuel listed l H := fun a w i => h a w (i.sub s)
theorem WA.blocks {fuel : Nat} {listed : Array Bool} (H' : List Ck) (s : H.Perm H') (h : WA P n w0 R ops Q fuel listed l H') : WA P n w0 R ops Q fuel listed l H := fun a w i => h a w (i.perm s)

/-! the shape of the code -/
theorem WC.seq {x y : Code} (h : WC P n w0 R (Exit.then (y.wp P Q) Q) x l H) : WC P n w0 R Q (.seq x y) l H := fun a w i => wp_seq (h a w i)
theorem WC.block {id : Nat} {c : Code} (h : WC P n w0 R (Exit.inBlock id Q) c l H) : WC P n w0 R Q (.block id c) l H := fun a w i => wp_block (h a w i)
theorem WC.scope {c : Code} (h : WC P n w0 R (Exit.noGoto Q) c l H) : WC P n w0 R Q (.scope c) l H := fun a w i => wp_scope_straight (h a w i)
theorem WC.skip (h : DN P n w0 R Q .normal l H) : WC P n w0 R Q .skip l H := fun a w i => wp_skip (h a w i)
theorem WC.label {k : Nat} (h : DN P n w0 R Q .normal l H) : WC P n w0 R Q (.label k) l H := fun a w i => wp_label (h a w i)
theorem WC.exit {id : Nat} (h : DN P n w0 R Q (.exit id) l H) : WC P n w0 R Q (.exit id) l H := fun a w i => wp_exit (h a w i)
theorem WC.ret (h : DN P n w0 R Q .ret l H) : WC P n w0 R Q .ret l H := fun a w i => wp_ret (h a w i)
theorem WC.cond {c : Operand} {x y : Code} {t : Bool} (hc : ev l c = some (.bool t)) (ht : t = true → WC P n w0 R Q x l H) (hf : t = false → WC P n w0 R Q y l H) : WC P n w0 R Q (.cond c x y) l H :=
  fun a w i => wp_cond_split (i.kn.ev hc) (fun e => ht e a w i) (fun e => hf e a w i)
theorem WC.ite {c : Operand} {x y : Code} {p : Prop} [Decidable p] (hc : ev l c = some (.bool (decide p))) (ht : p → WC P n w0 R Q x l H) (hf : ¬ p → WC P n w0 R Q y l H) : WC P n w0 R Q (.cond c x y) l H :=
  WC.cond hc (fun e => ht (of_decide_eq_true e)) (fun e => hf (of_decide_eq_false e))
theorem WC.yes {c : Operand} {x y : Code} (hc : ev l c = some (.bool true)) (h : WC P n w0 R Q x l H) : WC P n w0 R Q (.cond c x y) l H := WC.cond hc (fun _ => h) (fun e => by cases e)
theorem WC.no {c : Operand} {x y : Code} (hc : ev l c = some (.bool false)) (h : WC P n w0 R Q y l H) : WC P n w0 R Q (.cond c x y) l H := WC.cond hc (fun e => by cases e) (fun _ => h)
theorem WC.region {id : Nat} {os : List Oper} (h : WL P n w0 R os.toArray Q os l H) : WC P n w0 R Q (.region id os.toArray false) l H := fun a w i => wp_region_lit (h a w i)
theorem WC.draw {id : Nat} {os : Array Oper} (N : Nat) (hm : P.follows .mixedOrders = true) (hN : os.size = N) (h : WA P n w0 R os Q N (Array.replicate N false) l H) : WC P n w0 R Q (.region id os true) l H :=
  fun a w i => wp_region_any hm (by rw [hN]; exact h a _ ⟨i.size, i.defers, i.kn, i.sat.heap rfl, ⟨i.kept.os, i.kept.tape, i.kept.output, i.kept.size, Nat.le_succ_of_le i.kept.drawn⟩⟩)
theorem WL.nil (h : DN P n w0 R Q .normal l H) : WL P n w0 R ops Q [] l H := fun a w i => wpList_nil (h a w i)

theorem DN.then_normal {y : Code} (h : WC P n w0 R Q y l H) : DN P n w0 R (Exit.then (y.wp P Q) Q) .normal l H := fun a w i => h a w i
theorem DN.then_exit {K : Act → World → Prop} {id : Nat} (h : DN P n w0 R Q (.exit id) l H) : DN P n w0 R (Exit.then K Q) (.exit id) l H := fun a w i => h a w i
theorem DN.then_ret {K : Act → World → Prop} (h : DN P n w0 R Q .ret l H) : DN P n w0 R (Exit.then K Q) .ret l H := fun a w i => h a w i
theorem DN.block_normal {id : Nat} (h : DN P n w0 R Q .normal l H) : DN P n w0 R (Exit.inBlock id Q) .normal l H := fun a w i => h a w i
theorem DN.block_ret {id : Nat} (h : DN P n w0 R Q .ret l H) : DN P n w0 R (Exit.inBlock id Q) .ret l H := fun a w i => h a w i
theorem DN.block_exit {id : Nat} (h : DN P n w0 R Q .normal l H) : DN P n w0 R (Exit.inBlock id Q) (.exit id) l H := fun a w i => by simpa [Exit.inBlock] using h a w i
theorem DN.block_other {id id' : Nat} (ne : Nat.beq id' id = false) (h : DN P n w0 R Q (.exit id') l H) : DN P n w0 R (Exit.inBlock id Q) (.exit id') l H := fun a w i => by
  have : id' ≠ id := fun e => by subst e; simp at ne
  simpa [Exit.inBlock, this] using h a w i
theorem DN.scope_normal (h : DN P n w0 R Q .normal l H) : DN P n w0 R (Exit.noGoto Q) .normal l H := fun a w i => h a w i
theorem DN.scope_ret (h : DN P n w0 R Q .ret l H) : DN P n w0 R (Exit.noGoto Q) .ret l H := fun a w i => h a w i
theorem DN.scope_exit {id : Nat} (h : DN P n w0 R Q (.exit id) l H) : DN P n w0 R (Exit.noGoto Q) (.exit id) l H := fun a w i => h a w i

/-! a state in the middle, told by itself: what leads there, what leads on -/
/-- A place that is reached in one of the states (L x, K x). -/
def Reach (P : Program) (n : Nat) (w0 : World) (R : List Ck) {α : Type} (I : α → Prop) (L : α → Sl) (K : α → List Ck) (a : Act) (w : World) : Prop := ∃ x, I x ∧ At P n w0 R (L x) (K x) a w

/-- Behind the code x the states (L, K) are all that is known. -/
theorem WC.cut {α : Type} (I : α → Prop) (L : α → Sl) (K : α → List Ck) {x y : Code} (h : WC P n w0 R (Exit.then (Reach P n w0 R I L K) Q) x l H) (h' : ∀ z, I z → WC P n w0 R Q y (L z) (K z)) :
    WC P n w0 R Q (.seq x y) l H :=
  WC.seq fun a w i => wp_mono (h a w i) fun e a w q => by
    cases e with
    | normal => obtain ⟨z, hz, j⟩ := q; exact h' z hz a w j
    | _ => exact q

theorem DN.reach {α : Type} {I : α → Prop} {L : α → Sl} {K : α → List Ck} (z : α) (hz : I z) (hl : Has l (L z)) (hH : H.Perm (K z)) :
    DN P n w0 R (Exit.then (Reach P n w0 R I L K) Q) .normal l H := fun _ _ i => ⟨z, hz, (i.sub hl).perm hH⟩

/-- A block that is left in one of the states (L, K). -/
theorem WC.block_cut {α : Type} (I : α → Prop) (L : α → Sl) (K : α → List Ck) {id : Nat} {c : Code} (h : WC P n w0 R (Exit.inBlock id (Exit.then (Reach P n w0 R I L K) Q)) c l H) (h' : ∀ z, I z → DN P n w0 R Q .normal (L z) (K z)) :
    WC P n w0 R Q (.block id c) l H :=
  fun a w i => wp_mono (wp_block (h a w i)) fun e a w q => by
    cases e with
    | normal => obtain ⟨z, hz, j⟩ := q; exact h' z hz a w j
    | _ => exact q

/-! loops -/
/-- The state at a loop's head: one of (L x, K x), of a measure below m. -/
def Again (P : Program) (n : Nat) (w0 : World) (R : List Ck) {α : Type} (I : α → Prop) (L : α → Sl) (K : α → List Ck) (μ : α → Nat) (m : Nat) (a : Act) (w : World) : Prop := ∃ x, I x ∧ μ x < m ∧ At P n w0 R (L x) (K x) a w

theorem WC.loopG {α : Type} (I : α → Prop) (L : α → Sl) (K : α → List Ck) (μ : α → Nat) {c : Code} (x0 : α) (h0 : I x0) (hl : ∀ a w, At P n w0 R l H a w → At P n w0 R (L x0) (K x0) a w)
    (round : ∀ x, I x → WC P n w0 R (Exit.then (Again P n w0 R I L K μ (μ x)) Q) c (L x) (K x)) : WC P n w0 R Q (.loop c) l H := by
  intro a w i b k cs
  have key : ∀ m x, μ x = m → I x → ∀ a w, At P n w0 R (L x) (K x) a w →
      ∃ e a' w', Q e a' w' ∧ Arrives P (lone (b.at a (.code c :: .inLoop c :: k)) cs w) b k cs e a' w' := by
    intro m
    induction m using Nat.strongRecOn with
    | _ m ih =>
      intro x hx hI a w hi
      obtain ⟨e, a₁, w₁, hq, harr⟩ := round x hI a w hi b (.inLoop c :: k) cs
      cases e with
      | normal =>
        obtain ⟨x', hI', hlt, hi'⟩ := hq
        obtain ⟨e₂, a₂, w₂, hq₂, harr₂⟩ := ih (μ x') (hx ▸ hlt) x' rfl hI' a₁ w₁ hi'
        exact ⟨e₂, a₂, w₂, hq₂, .of_steps (Steps.trans harr (.one step_inLoop)) harr₂⟩
      | exit id => exact ⟨_, a₁, w₁, hq, .pass (x := .inLoop c) rfl (fun _ _ => .inl (by simp)) harr⟩
      | goto l => exact ⟨_, a₁, w₁, hq, .pass (x := .inLoop c) rfl (fun _ _ => .inl (by simp)) harr⟩
      | ret => exact ⟨_, a₁, w₁, hq, .pass (x := .inLoop c) rfl (fun _ _ => .inl (by simp)) harr⟩
      | panic ch => exact ⟨_, a₁, w₁, hq, .pass (x := .inLoop c) rfl (fun _ _ => .inl (by simp)) harr⟩
      | outgrown => exact ⟨_, a₁, w₁, hq, .pass (x := .inLoop c) rfl (fun _ _ => .inl (by simp)) harr⟩
  obtain ⟨e, a', w', hq, harr⟩ := key _ x0 rfl h0 a w (hl a w i)
  exact ⟨e, a', w', hq, .of_steps (.one step_loop) harr⟩

theorem WC.loop {α : Type} (I : α → Prop) (L : α → Sl) (K : α → List Ck) (μ : α → Nat) {c : Code} (x0 : α) (h0 : I x0) (hl : Has l (L x0)) (hH : H.Perm (K x0))
    (round : ∀ x, I x → WC P n w0 R (Exit.then (Again P n w0 R I L K μ (μ x)) Q) c (L x) (K x)) : WC P n w0 R Q (.loop c) l H :=
  WC.loopG I L K μ x0 h0 (fun _ _ i => (i.sub hl).perm hH) round

theorem DN.again {α : Type} {I : α → Prop} {L : α → Sl} {K : α → List Ck} {μ : α → Nat} {m : Nat} (z : α) (hz : I z) (hm : μ z < m) (hl : Has l (L z)) (hH : H.Perm (K z)) :
    DN P n w0 R (Exit.then (Again P n w0 R I L K μ m) Q) .normal l H := fun _ _ i => ⟨z, hz, hm, (i.sub hl).perm hH⟩

/-! entering and leaving a function -/
/-- What is asked at the end of a call. -/
def Back (P : Program) (w0 : World) (R : List Ck) (Post : Value → List Ck → Prop) (e : Ending) (w : World) : Prop := ∃ v H', e = .returned v ∧ Post v H' ∧ Sat w (H' ++ R) ∧ Kept w0 w

/-- The slots at the begin: the arguments in their order. -/
def argsAt : Nat → List Value → Sl
  | _, [] => []
  | k, v :: r => (k, v) :: argsAt (k + 1) r

theorem getv_argsAt : ∀ (args : List Value) (k t : Nat) (v : Value), getv (argsAt k args) t = some v → k ≤ t ∧ args[t - k]? = some v
  | [], _, _, _, h => by simp [argsAt, getv] at h
  | u :: r, k, t, v, h => by
    rw [argsAt, getv_cons] at h
    by_cases e : k = t
    · subst e
      simp at h
      subst h
      simp
    · simp [e] at h
      have := getv_argsAt r (k + 1) t v h
      refine ⟨by omega, ?_⟩
      have e2 : t - k = (t - (k + 1)) + 1 := by omega
      rw [e2]
      simpa using this.2

theorem Tells.enter {f : FuncId} {fn : Func} {c : Code} {args : List Value} {Post : Value → List Ck → Prop} (hf : P.funcs[f]? = some fn) (hb : fn.body = some c) (hn : fn.ntmps = n) (hlen : Nat.ble args.length n = true)
    (h : ∀ w0 R, WC P n w0 R (bodyPost P fn (Back P w0 R Post)) c (argsAt 0 args) H) : Tells P f args H Post := by
  intro w R hs
  refine calls_of_wp hf hb (h w R _ w ⟨?_, rfl, ?_, hs, .refl w⟩)
  · have := Nat.le_of_ble_eq_true hlen; simp [hn]; omega
  · intro t v hv
    have := (getv_argsAt args 0 t v hv).2
    simp only [Nat.sub_zero] at this
    have hlt : t < args.length := (List.getElem?_eq_some_iff.1 this).1
    have h2 : (args.toArray ++ Array.replicate (fn.ntmps - args.toArray.size) undef)[t]? = some v := by
      rw [Array.getElem?_append_left (by simpa using hlt)]
      simpa using this
    simp only [Array.getD_eq_getD_getElem?, h2, Option.getD_some]

theorem DN.ret1 {fn : Func} {Post : Value → List Ck → Prop} {t : Nat} {v : Value} (hr : fn.results = #[.tmp t]) (hv : getv l t = some v) (hp : Post v H) : DN P n w0 R (bodyPost P fn (Back P w0 R Post)) .ret l H :=
  fun a w i => bodyPost_ret (results_tmp hr _ _ _) i.defers ⟨_, H, rfl, by rw [i.kn t v hv]; exact hp, i.sat, i.kept⟩
theorem DN.ret2 {fn : Func} {Post : Value → List Ck → Prop} {t u : Nat} {v x : Value} (hr : fn.results = #[.tmp t, .tmp u]) (hv : getv l t = some v) (hx : getv l u = some x) (hp : Post (.tuple #[v, x]) H) : DN P n w0 R (bodyPost P fn (Back P w0 R Post)) .ret l H :=
  fun a w i => bodyPost_ret (results_tmp2 hr _ _ _) i.defers ⟨_, H, rfl, by rw [i.kn t v hv, i.kn u x hx]; exact hp, i.sat, i.kept⟩
theorem results_tmp3 {fn : Func} {t u s : Tmp} (h : fn.results = #[.tmp t, .tmp u, .tmp s]) (tmps : Array Value) (P : Program) (w : World) :
    (results fn tmps).run P w = .ok (.tuple #[tmps.getD t undef, tmps.getD u undef, tmps.getD s undef]) w := by
  simp [results, h]
theorem DN.ret3 {fn : Func} {Post : Value → List Ck → Prop} {t u s : Nat} {v x y : Value} (hr : fn.results = #[.tmp t, .tmp u, .tmp s]) (hv : getv l t = some v) (hx : getv l u = some x) (hy : getv l s = some y) (hp : Post (.tuple #[v, x, y]) H) : DN P n w0 R (bodyPost P fn (Back P w0 R Post)) .ret l H :=
  fun a w i => bodyPost_ret (results_tmp3 hr _ _ _) i.defers ⟨_, H, rfl, by rw [i.kn t v hv, i.kn u x hx, i.kn s y hy]; exact hp, i.sat, i.kept⟩
theorem DN.end0 {fn : Func} {Post : Value → List Ck → Prop} (hr : fn.results = #[]) (hp : Post (.tuple #[]) H) : DN P n w0 R (bodyPost P fn (Back P w0 R Post)) .normal l H :=
  fun a w i => bodyPost_end (results_none hr _ _ _) i.defers ⟨_, H, rfl, hp, i.sat, i.kept⟩
theorem DN.ret0 {fn : Func} {Post : Value → List Ck → Prop} (hr : fn.results = #[]) (hp : Post (.tuple #[]) H) : DN P n w0 R (bodyPost P fn (Back P w0 R Post)) .ret l H :=
  fun a w i => bodyPost_ret (results_none hr _ _ _) i.defers ⟨_, H, rfl, hp, i.sat, i.kept⟩

/-! ### operations -/

/-- An operation that looks at slots alone, and what it yields. -/
def Yd (P : Program) (o : Oper) (l : Sl) (v : Value) : Prop := ∀ a, Kn a l → ∀ w, (execOp a.eval o).run P w = .ok (.value v) w

theorem wpList_value {o : Oper} {rest : List Oper} {a : Act} {w w' : World} {v : Value} (hg : o.guard = none) (hr : (execOp a.eval o).run P w = .ok (.value v) w') (h : wpList P ops Q rest (a.put o.dst v) w') : wpList P ops Q (o :: rest) a w := by
  refine wpList_plain hg fun K hK => ?_
  unfold Oper.wp
  rw [hr]
  exact hK _ _ h

theorem At.put {a : Act} {w : World} (i : At P n w0 R l H a w) {d : Nat} (hd : Nat.blt d n = true) (v : Value) : At P n w0 R ((d, v) :: l) H (a.put (some d) v) w := by
  have hd' : d < n := by simpa using hd
  exact ⟨by simp [Act.put, i.size], i.defers, i.kn.put v (by rw [i.size]; exact hd'), i.sat, i.kept⟩

/-- An operation on slots. -/
theorem WL.y {d : Nat} {op : Op} {ty : TypeId} {pos : String} {aft : Array Edge} {rest : List Oper} {v : Value} (hd : Nat.blt d n = true) (hy : Yd P ⟨some d, op, ty, pos, aft, none⟩ l v)
    (h : WL P n w0 R ops Q rest ((d, v) :: l) H) : WL P n w0 R ops Q (⟨some d, op, ty, pos, aft, none⟩ :: rest) l H :=
  fun a w i => wpList_value rfl (hy a i.kn w) (h _ _ (i.put hd v))

theorem wanted_guard {ops : Array Oper} {d : Option Nat} {j dj : Nat} {b b' : Bool} {op : Op} {ty : TypeId} {pos : String} {aft : Array Edge} {tmps : Array Value} (hj : (ops[j]?).bind (·.dst) = some dj) (hv : tmps.getD dj undef = .bool b') :
    Region.wanted ⟨d, op, ty, pos, aft, some (j, b)⟩ (yielded ops tmps) = (b' == b) := by
  simp only [Region.wanted, yielded]
  cases ho : ops[j]? with
  | none => simp [ho] at hj
  | some oj =>
    simp [ho] at hj
    simp only [Array.getD_eq_getD_getElem?] at hv
    cases ht : tmps[dj]? with
    | none => rw [ht] at hv; simp [undef] at hv
    | some u =>
      rw [ht] at hv
      simp at hv
      subst hv
      simp [hj, ht]

/-- Under a guard that says yes. -/
theorem WL.gy {d j : Nat} {b : Bool} {dj : Nat} {op : Op} {ty : TypeId} {pos : String} {aft : Array Edge} {rest : List Oper} {v : Value} (hj : (ops[j]?).bind (·.dst) = some dj) (hg : getv l dj = some (.bool b)) (hd : Nat.blt d n = true) (hy : Yd P ⟨some d, op, ty, pos, aft, some (j, b)⟩ l v)
    (h : WL P n w0 R ops Q rest ((d, v) :: l) H) : WL P n w0 R ops Q (⟨some d, op, ty, pos, aft, some (j, b)⟩ :: rest) l H := by
  intro a w i
  refine wpList_step fun K hK => ?_
  have hw : Region.wanted ⟨some d, op, ty, pos, aft, some (j, b)⟩ (yielded ops a.tmps) = true  := by
    rw [wanted_guard hj (i.kn dj _ hg)]; simp
  rw [if_pos hw]
  unfold Oper.wp
  rw [hy a i.kn w]
  exact hK _ _ (h _ _ (i.put hd v))

/-- Under a guard that says no. -/
theorem WL.gn {d j : Nat} {b b' : Bool} {dj : Nat} {op : Op} {ty : TypeId} {pos : String} {aft : Array Edge} {rest : List Oper} (hj : (ops[j]?).bind (·.dst) = some dj) (hg : getv l dj = some (.bool b')) (hb : b' = !b)
    (hd : Nat.blt d n = true) (h : WL P n w0 R ops Q rest ((d, undef) :: l) H) : WL P n w0 R ops Q (⟨some d, op, ty, pos, aft, some (j, b)⟩ :: rest) l H := by
  intro a w i
  refine wpList_step fun K hK => ?_
  have hw : Region.wanted ⟨some d, op, ty, pos, aft, some (j, b)⟩ (yielded ops a.tmps) = false := by
    rw [wanted_guard hj (i.kn dj _ hg), hb]; cases b <;> rfl
  rw [hw]
  exact hK _ _ (h _ _ (i.put hd undef))

/-- A slot that holds a truth value: what it is is asked, for the guards that follow. -/
theorem WL.part {rest : List Oper} {t : Nat} {b : Bool} (ht : getv l t = some (.bool b)) (h1 : b = true → WL P n w0 R ops Q rest ((t, .bool true) :: l) H) (h2 : b = false → WL P n w0 R ops Q rest ((t, .bool false) :: l) H) : WL P n w0 R ops Q rest l H := by
  intro a w i
  have key : ∀ u, getv l t = some u → At P n w0 R ((t, u) :: l) H a w := fun u hu => ⟨i.size, i.defers, fun s v hv => by
    rw [getv_cons] at hv
    by_cases e : t = s
    · subst e; simp at hv; subst hv; exact i.kn _ _ hu
    · simp [e] at hv; exact i.kn _ _ hv, i.sat, i.kept⟩
  cases b with
  | true => exact h1 rfl a w (key _ ht)
  | false => exact h2 rfl a w (key _ ht)
theorem WL.partP {rest : List Oper} {t : Nat} {p : Prop} [Decidable p] (ht : getv l t = some (.bool (decide p))) (h1 : p → WL P n w0 R ops Q rest ((t, .bool true) :: l) H) (h2 : ¬ p → WL P n w0 R ops Q rest ((t, .bool false) :: l) H) : WL P n w0 R ops Q rest l H :=
  WL.part ht (fun e => h1 (of_decide_eq_true e)) (fun e => h2 (of_decide_eq_false e))

/-- A slot's value under another name. -/
theorem WL.renamed {rest : List Oper} {t : Nat} {u v : Value} (ht : getv l t = some u) (e : u = v) (h : WL P n w0 R ops Q rest ((t, v) :: l) H) : WL P n w0 R ops Q rest l H := by
  subst e
  exact fun a w i => h a w ⟨i.size, i.defers, fun s v hv => by
    rw [getv_cons] at hv
    by_cases e : t = s
    · subst e; simp at hv; subst hv; exact i.kn _ _ ht
    · simp [e] at hv; exact i.kn _ _ hv, i.sat, i.kept⟩

/-- An operation that looks at memory, or turns it: what it yields and what the blocks are then. -/
def Hd (P : Program) (o : Oper) (l : Sl) (H : List Ck) (K : Next → List Ck → Prop) : Prop :=
  ∀ a w R, Kn a l → Sat w (H ++ R) → ∃ r w' H', (execOp a.eval o).run P w = .ok r w' ∧ Sat w' (H' ++ R) ∧ Kept w w' ∧ K r H'

theorem Hd.mono {o : Oper} {K K' : Next → List Ck → Prop} (h : Hd P o l H K) (hk : ∀ r H', K r H' → K' r H') : Hd P o l H K' := fun a w R k s =>
  let ⟨r, w', H', h1, h2, h3, h4⟩ := h a w R k s
  ⟨r, w', H', h1, h2, h3, hk _ _ h4⟩

/-- An operation that yields a value. -/
theorem WL.h {d : Nat} {op : Op} {ty : TypeId} {pos : String} {aft : Array Edge} {rest : List Oper} (hd : Nat.blt d n = true)
    (hh : Hd P ⟨some d, op, ty, pos, aft, none⟩ l H fun r H' => ∃ v, r = .value v ∧ WL P n w0 R ops Q rest ((d, v) :: l) H') : WL P n w0 R ops Q (⟨some d, op, ty, pos, aft, none⟩ :: rest) l H := by
  intro a w i
  obtain ⟨r, w', H', hr, hs, hk, v, rfl, hw⟩ := hh a w R i.kn i.sat
  have i' := i.put hd v
  exact wpList_value rfl hr (hw _ _ ⟨i'.size, i'.defers, i'.kn, hs, i.kept.trans hk⟩)

/-- An operation that yields nothing (a store). -/
theorem WL.s {op : Op} {ty : TypeId} {pos : String} {aft : Array Edge} {rest : List Oper}
    (hh : Hd P ⟨none, op, ty, pos, aft, none⟩ l H fun r H' => r = .skip ∧ WL P n w0 R ops Q rest l H') : WL P n w0 R ops Q (⟨none, op, ty, pos, aft, none⟩ :: rest) l H := by
  intro a w i
  obtain ⟨r, w', H', hr, hs, hk, rfl, hw⟩ := hh a w R i.kn i.sat
  refine wpList_plain rfl fun K hK => ?_
  unfold Oper.wp
  rw [hr]
  exact hK _ _ (hw _ _ ⟨i.size, i.defers, i.kn, hs, i.kept.trans hk⟩)

/-- An operation on memory whose guard says yes. -/
theorem WL.gh {d j : Nat} {b : Bool} {dj : Nat} {op : Op} {ty : TypeId} {pos : String} {aft : Array Edge} {rest : List Oper} (hj : (ops[j]?).bind (·.dst) = some dj) (hg : getv l dj = some (.bool b)) (hd : Nat.blt d n = true)
    (hh : Hd P ⟨some d, op, ty, pos, aft, some (j, b)⟩ l H fun r H' => ∃ v, r = .value v ∧ WL P n w0 R ops Q rest ((d, v) :: l) H') : WL P n w0 R ops Q (⟨some d, op, ty, pos, aft, some (j, b)⟩ :: rest) l H := by
  intro a w i
  obtain ⟨r, w', H', hr, hs, hk, v, rfl, h⟩ := hh a w R i.kn i.sat
  refine wpList_step fun K hK => ?_
  have hw : Region.wanted ⟨some d, op, ty, pos, aft, some (j, b)⟩ (yielded ops a.tmps) = true  := by
    rw [wanted_guard hj (i.kn dj _ hg)]; simp
  rw [if_pos hw]
  unfold Oper.wp
  rw [hr]
  have i' := i.put hd v
  exact hK _ _ (h _ _ ⟨i'.size, i'.defers, i'.kn, hs, i.kept.trans hk⟩)

/-! calls -/
def evs (l : Sl) : List Operand → Option (List Value)
  | [] => some []
  | x :: r => match ev l x, evs l r with
    | some v, some vs => some (v :: vs)
    | _, _ => none

theorem Kn.evs {a : Act} {l : Sl} (k : Kn a l) : ∀ {xs : List Operand} {vs : List Value}, evs l xs = some vs → xs.map a.eval = vs
  | [], vs, h => by simp [SL.evs] at h; simp [h]
  | x :: r, vs, h => by
    simp only [SL.evs] at h
    split at h
    · rename_i v vs' h1 h2
      simp at h
      subst h
      simp [k.ev h1, Kn.evs k h2]
    · cases h

/-- A call's operation hands over to the function. -/
def Ent (P : Program) (o : Oper) (l : Sl) (f : FuncId) (args : List Value) : Prop := ∀ a, Kn a l → ∀ w, (execOp a.eval o).run P w = .ok (.enter f args.toArray) w

theorem Ent.func {d : Option Nat} {f : FuncId} {xs : List Operand} {ats : Array TypeId} {ty : TypeId} {pos : String} {aft : Array Edge} {g : Option (Nat × Bool)} {vs : List Value}
    (hc : ∀ (args : Array Value) (w : World), (callFunc f args).run P w = .ok (.enter f args) w) (hv : evs l xs = some vs) :
    Ent P ⟨d, .call ⟨.value (.func f), xs.toArray, ats⟩, ty, pos, aft, g⟩ l f vs := by
  intro a k w
  have := k.evs hv
  simp [execOp, resolve, Deferred.ofValue, Act.eval, invoke, this, hc]

theorem WL.c {d : Nat} {op : Op} {ty : TypeId} {pos : String} {aft : Array Edge} {rest : List Oper} {f : FuncId} {args : List Value} {C D : List Ck} {Post : Value → List Ck → Prop} (hd : Nat.blt d n = true)
    (he : Ent P ⟨some d, op, ty, pos, aft, none⟩ l f args) (hs : Tells P f args C Post) (hH : H.Perm (C ++ D))
    (h : ∀ v C', Post v C' → WL P n w0 R ops Q rest ((d, v) :: l) (C' ++ D)) : WL P n w0 R ops Q (⟨some d, op, ty, pos, aft, none⟩ :: rest) l H := by
  intro a w i
  refine wpList_plain rfl fun K hK => ?_
  unfold Oper.wp
  rw [he a i.kn w, Oper.upon_enter]
  have hsat : Sat w (C ++ (D ++ R)) := by
    have := i.sat.perm (hH.append_right R)
    simpa using this
  refine (hs w (D ++ R) hsat).mono fun e w' ⟨v, C', he', hp, hs', hk⟩ => ?_
  subst he'
  have i' := i.put hd v
  exact hK _ _ (h v C' hp _ _ ⟨i'.size, i'.defers, i'.kn, by simpa using hs', i.kept.trans hk⟩)

theorem WL.c0 {op : Op} {ty : TypeId} {pos : String} {aft : Array Edge} {rest : List Oper} {f : FuncId} {args : List Value} {C D : List Ck} {Post : Value → List Ck → Prop}
    (he : Ent P ⟨none, op, ty, pos, aft, none⟩ l f args) (hs : Tells P f args C Post) (hH : H.Perm (C ++ D))
    (h : ∀ v C', Post v C' → WL P n w0 R ops Q rest l (C' ++ D)) : WL P n w0 R ops Q (⟨none, op, ty, pos, aft, none⟩ :: rest) l H := by
  intro a w i
  refine wpList_plain rfl fun K hK => ?_
  unfold Oper.wp
  rw [he a i.kn w, Oper.upon_enter]
  have hsat : Sat w (C ++ (D ++ R)) := by
    have := i.sat.perm (hH.append_right R)
    simpa using this
  refine (hs w (D ++ R) hsat).mono fun e w' ⟨v, C', he', hp, hs', hk⟩ => ?_
  subst he'
  exact hK _ _ (h v C' hp _ _ ⟨i.size, i.defers, i.kn, by simpa using hs', i.kept.trans hk⟩)

/-- A call under a guard that says yes. -/
theorem WL.gc {d j : Nat} {b : Bool} {dj : Nat} {op : Op} {ty : TypeId} {pos : String} {aft : Array Edge} {rest : List Oper} {f : FuncId} {args : List Value} {C D : List Ck} {Post : Value → List Ck → Prop} (hj : (ops[j]?).bind (·.dst) = some dj) (hg : getv l dj = some (.bool b)) (hd : Nat.blt d n = true)
    (he : Ent P ⟨some d, op, ty, pos, aft, some (j, b)⟩ l f args) (hs : Tells P f args C Post) (hH : H.Perm (C ++ D))
    (h : ∀ v C', Post v C' → WL P n w0 R ops Q rest ((d, v) :: l) (C' ++ D)) : WL P n w0 R ops Q (⟨some d, op, ty, pos, aft, some (j, b)⟩ :: rest) l H := by
  intro a w i
  refine wpList_step fun K hK => ?_
  have hw : Region.wanted ⟨some d, op, ty, pos, aft, some (j, b)⟩ (yielded ops a.tmps) = true  := by
    rw [wanted_guard hj (i.kn dj _ hg)]; simp
  rw [if_pos hw]
  unfold Oper.wp
  rw [he a i.kn w, Oper.upon_enter]
  have hsat : Sat w (C ++ (D ++ R)) := by
    have := i.sat.perm (hH.append_right R)
    simpa using this
  refine (hs w (D ++ R) hsat).mono fun e w' ⟨v, C', he', hp, hs', hk⟩ => ?_
  subst he'
  have i' := i.put hd v
  exact hK _ _ (h v C' hp _ _ ⟨i'.size, i'.defers, i'.kn, by simpa using hs', i.kept.trans hk⟩)

/-- A call that is told with all blocks. -/
theorem WL.ca {d : Nat} {op : Op} {ty : TypeId} {pos : String} {aft : Array Edge} {rest : List Oper} {f : FuncId} {args : List Value} {Post : Value → List Ck → Prop} (hd : Nat.blt d n = true)
    (he : Ent P ⟨some d, op, ty, pos, aft, none⟩ l f args) (hs : Tells P f args H Post)
    (h : ∀ v H', Post v H' → WL P n w0 R ops Q rest ((d, v) :: l) H') : WL P n w0 R ops Q (⟨some d, op, ty, pos, aft, none⟩ :: rest) l H :=
  WL.c (D := []) hd he hs (by simp) fun v C' hp => by simpa using h v C' hp
theorem WL.ca0 {op : Op} {ty : TypeId} {pos : String} {aft : Array Edge} {rest : List Oper} {f : FuncId} {args : List Value} {Post : Value → List Ck → Prop}
    (he : Ent P ⟨none, op, ty, pos, aft, none⟩ l f args) (hs : Tells P f args H Post)
    (h : ∀ v H', Post v H' → WL P n w0 R ops Q rest l H') : WL P n w0 R ops Q (⟨none, op, ty, pos, aft, none⟩ :: rest) l H :=
  WL.c0 (D := []) he hs (by simp) fun v C' hp => by simpa using h v C' hp
theorem WL.gca {d j : Nat} {b : Bool} {dj : Nat} {op : Op} {ty : TypeId} {pos : String} {aft : Array Edge} {rest : List Oper} {f : FuncId} {args : List Value} {Post : Value → List Ck → Prop} (hj : (ops[j]?).bind (·.dst) = some dj) (hg : getv l dj = some (.bool b)) (hd : Nat.blt d n = true)
    (he : Ent P ⟨some d, op, ty, pos, aft, some (j, b)⟩ l f args) (hs : Tells P f args H Post)
    (h : ∀ v H', Post v H' → WL P n w0 R ops Q rest ((d, v) :: l) H') : WL P n w0 R ops Q (⟨some d, op, ty, pos, aft, some (j, b)⟩ :: rest) l H :=
  WL.gc (D := []) hj hg hd he hs (by simp) fun v C' hp => by simpa using h v C' hp
/-- A call that only reads: it yields v, the blocks stay. -/
def Reads (P : Program) (f : FuncId) (args : List Value) (H : List Ck) (v : Value) : Prop := Tells P f args H fun v' H' => v' = v ∧ H' = H

theorem WL.r {d : Nat} {op : Op} {ty : TypeId} {pos : String} {aft : Array Edge} {rest : List Oper} {f : FuncId} {args : List Value} {v : Value} (hd : Nat.blt d n = true)
    (he : Ent P ⟨some d, op, ty, pos, aft, none⟩ l f args) (hs : Reads P f args H v) (h : WL P n w0 R ops Q rest ((d, v) :: l) H) : WL P n w0 R ops Q (⟨some d, op, ty, pos, aft, none⟩ :: rest) l H :=
  WL.c (D := []) hd he hs (by simp) fun v' C' ⟨h1, h2⟩ => by subst h1 h2; simpa using h
theorem WL.gr {d j : Nat} {b : Bool} {dj : Nat} {op : Op} {ty : TypeId} {pos : String} {aft : Array Edge} {rest : List Oper} {f : FuncId} {args : List Value} {v : Value} (hj : (ops[j]?).bind (·.dst) = some dj) (hg : getv l dj = some (.bool b)) (hd : Nat.blt d n = true)
    (he : Ent P ⟨some d, op, ty, pos, aft, some (j, b)⟩ l f args) (hs : Reads P f args H v) (h : WL P n w0 R ops Q rest ((d, v) :: l) H) : WL P n w0 R ops Q (⟨some d, op, ty, pos, aft, some (j, b)⟩ :: rest) l H :=
  WL.gc (D := []) hj hg hd he hs (by simp) fun v' C' ⟨h1, h2⟩ => by subst h1 h2; simpa using h

/-! ### where the order is drawn -/
/-- Nothing is asked of a panic: none is let. -/
def NoPanic (Q : Exit → Act → World → Prop) : Prop := ∀ c a w, ¬ Q (.panic c) a w
theorem NoPanic.then {K : Act → World → Prop} (h : NoPanic Q) : NoPanic (Exit.then K Q) := fun c a w q => h c a w q
theorem NoPanic.block {id : Nat} (h : NoPanic Q) : NoPanic (Exit.inBlock id Q) := fun c a w q => h c a w q
theorem NoPanic.scope (h : NoPanic Q) : NoPanic (Exit.noGoto Q) := fun c a w q => h c a w q
theorem NoPanic.body {fn : Func} {Post : Value → List Ck → Prop} : NoPanic (bodyPost P fn (Back P w0 R Post)) := fun c a w ⟨_, _, _, e, _⟩ => by cases e

/-- The operation i, then whatever is left. -/
def WO (P : Program) (n : Nat) (w0 : World) (R : List Ck) (ops : Array Oper) (Q : Exit → Act → World → Prop) (fuel : Nat) (listed : Array Bool) (i : Nat) (l : Sl) (H : List Ck) : Prop :=
  ∀ a w, At P n w0 R l H a w → wpOp P ops Q i (wpAny P .any ops Q fuel (listed.setIfInBounds i true)) a w

variable {fuel : Nat} {listed : Array Bool}
theorem WA.one {i : Nat} (hr : Region.ready .any ops listed = [i]) (h : WO P n w0 R ops Q fuel listed i l H) : WA P n w0 R ops Q (fuel + 1) listed l H :=
  fun a w at_ => wpAny_all hr (by simp) fun j hj => by simp at hj; subst hj; exact h a w at_
theorem WA.two {i j : Nat} (hr : Region.ready .any ops listed = [i, j]) (h1 : WO P n w0 R ops Q fuel listed i l H) (h2 : WO P n w0 R ops Q fuel listed j l H) : WA P n w0 R ops Q (fuel + 1) listed l H :=
  fun a w at_ => wpAny_all hr (by simp) fun k hk => by
    simp at hk
    rcases hk with rfl | rfl
    · exact h1 a w at_
    · exact h2 a w at_
theorem WA.three {i j k : Nat} (hr : Region.ready .any ops listed = [i, j, k]) (h1 : WO P n w0 R ops Q fuel listed i l H) (h2 : WO P n w0 R ops Q fuel listed j l H) (h3 : WO P n w0 R ops Q fuel listed k l H) : WA P n w0 R ops Q (fuel + 1) listed l H :=
  fun a w at_ => wpAny_all hr (by simp) fun m hm => by
    simp at hm
    rcases hm with rfl | rfl | rfl
    · exact h1 a w at_
    · exact h2 a w at_
    · exact h3 a w at_
theorem WA.done (hr : Region.ready .any ops listed = []) (h : DN P n w0 R Q .normal l H) : WA P n w0 R ops Q fuel listed l H :=
  fun a w at_ => wpAny_done hr (h a w at_) fuel

/-- An operation on slots goes first. -/
theorem WA.y {i d : Nat} {op : Op} {ty : TypeId} {pos : String} {aft : Array Edge} {v : Value} (hQ : NoPanic Q) (hi : ops[i]? = some ⟨some d, op, ty, pos, aft, none⟩) (hs : Region.noSelect ops = true) (hf : Region.free .any ops listed i = true) (hr : (Region.ready .any ops listed).contains i = true)
    (hd : Nat.blt d n = true) (hy : Yd P ⟨some d, op, ty, pos, aft, none⟩ l v) (h : WA P n w0 R ops Q fuel (listed.setIfInBounds i true) ((d, v) :: l) H) : WA P n w0 R ops Q (fuel + 1) listed l H :=
  fun a w at_ => wpAny_take hi hs hf hr (fun c a w q => absurd q (hQ c _ w)) (.inl ⟨rfl, hy a at_.kn⟩) (h _ _ (at_.put hd v))
/-- The same under a guard that says yes, or no. -/
theorem WA.gy {i d j dj : Nat} {b : Bool} {op : Op} {ty : TypeId} {pos : String} {aft : Array Edge} {v : Value} (hQ : NoPanic Q) (hi : ops[i]? = some ⟨some d, op, ty, pos, aft, some (j, b)⟩) (hs : Region.noSelect ops = true) (hf : Region.free .any ops listed i = true) (hr : (Region.ready .any ops listed).contains i = true)
    (hj : (ops[j]?).bind (·.dst) = some dj) (hg : getv l dj = some (.bool b)) (hd : Nat.blt d n = true) (hy : Yd P ⟨some d, op, ty, pos, aft, some (j, b)⟩ l v) (h : WA P n w0 R ops Q fuel (listed.setIfInBounds i true) ((d, v) :: l) H) : WA P n w0 R ops Q (fuel + 1) listed l H :=
  fun a w at_ => wpAny_take hi hs hf hr (fun c a w q => absurd q (hQ c _ w)) (.inl ⟨by rw [wanted_guard hj (at_.kn dj _ hg)]; simp, hy a at_.kn⟩) (h _ _ (at_.put hd v))
theorem WA.gn {i d j dj : Nat} {b b' : Bool} {op : Op} {ty : TypeId} {pos : String} {aft : Array Edge} (hQ : NoPanic Q) (hi : ops[i]? = some ⟨some d, op, ty, pos, aft, some (j, b)⟩) (hs : Region.noSelect ops = true) (hf : Region.free .any ops listed i = true) (hr : (Region.ready .any ops listed).contains i = true)
    (hj : (ops[j]?).bind (·.dst) = some dj) (hg : getv l dj = some (.bool b')) (hb : b' = !b) (hd : Nat.blt d n = true) (h : WA P n w0 R ops Q fuel (listed.setIfInBounds i true) ((d, undef) :: l) H) : WA P n w0 R ops Q (fuel + 1) listed l H :=
  fun a w at_ => wpAny_take hi hs hf hr (fun c a w q => absurd q (hQ c _ w)) (.inr ⟨by rw [wanted_guard hj (at_.kn dj _ hg), hb]; cases b <;> rfl, rfl⟩) (h _ _ (at_.put hd undef))

/-- The operation is carried out: it has no guard, or the guard says yes. -/
def Wt (ops : Array Oper) (l : Sl) (o : Oper) : Prop := ∀ a, Kn a l → Region.wanted o (yielded ops a.tmps) = true
theorem Wt.none {d : Option Nat} {op : Op} {ty : TypeId} {pos : String} {aft : Array Edge} : Wt ops l ⟨d, op, ty, pos, aft, .none⟩ := fun a k => rfl
theorem Wt.yes {d : Option Nat} {op : Op} {ty : TypeId} {pos : String} {aft : Array Edge} {j dj : Nat} {b : Bool} (hj : (ops[j]?).bind (·.dst) = some dj) (hg : getv l dj = some (.bool b)) : Wt ops l ⟨d, op, ty, pos, aft, some (j, b)⟩ := fun a k => by
  rw [wanted_guard hj (k dj _ hg)]; simp

theorem WA.renamed {t : Nat} {u v : Value} (ht : getv l t = some u) (e : u = v) (h : WA P n w0 R ops Q fuel listed ((t, v) :: l) H) : WA P n w0 R ops Q fuel listed l H := by
  subst e
  exact fun a w i => h a w ⟨i.size, i.defers, fun s v hv => by
    rw [getv_cons] at hv
    by_cases e : t = s
    · subst e; simp at hv; subst hv; exact i.kn _ _ ht
    · simp [e] at hv; exact i.kn _ _ hv, i.sat, i.kept⟩

variable {g : Option (Nat × Bool)}
theorem WO.run {i : Nat} {o : Oper} (hi : ops[i]? = some o) (hw : Wt ops l o) (h : ∀ a w, At P n w0 R l H a w → o.wp P a w (wpAny P .any ops Q fuel (listed.setIfInBounds i true)) Q) : WO P n w0 R ops Q fuel listed i l H := by
  intro a w at_
  simp only [wpOp, hi, hw a at_.kn, if_true]
  exact .inl (h a w at_)
theorem WO.y {i d : Nat} {op : Op} {ty : TypeId} {pos : String} {aft : Array Edge} {v : Value} (hi : ops[i]? = some ⟨some d, op, ty, pos, aft, g⟩) (hw : Wt ops l ⟨some d, op, ty, pos, aft, g⟩) (hd : Nat.blt d n = true) (hy : Yd P ⟨some d, op, ty, pos, aft, g⟩ l v)
    (h : WA P n w0 R ops Q fuel (listed.setIfInBounds i true) ((d, v) :: l) H) : WO P n w0 R ops Q fuel listed i l H := WO.run hi hw fun a w at_ => by
  unfold Oper.wp
  rw [hy a at_.kn w]
  exact h _ _ (at_.put hd v)
theorem WO.h {i d : Nat} {op : Op} {ty : TypeId} {pos : String} {aft : Array Edge} (hi : ops[i]? = some ⟨some d, op, ty, pos, aft, g⟩) (hw : Wt ops l ⟨some d, op, ty, pos, aft, g⟩) (hd : Nat.blt d n = true)
    (hh : Hd P ⟨some d, op, ty, pos, aft, g⟩ l H fun r H' => ∃ v, r = .value v ∧ WA P n w0 R ops Q fuel (listed.setIfInBounds i true) ((d, v) :: l) H') : WO P n w0 R ops Q fuel listed i l H := WO.run hi hw fun a w at_ => by
  obtain ⟨r, w', H', hr, hs, hk, v, rfl, hw⟩ := hh a w R at_.kn at_.sat
  unfold Oper.wp
  rw [hr]
  have i' := at_.put hd v
  exact hw _ _ ⟨i'.size, i'.defers, i'.kn, hs, at_.kept.trans hk⟩
theorem WO.s {i : Nat} {op : Op} {ty : TypeId} {pos : String} {aft : Array Edge} (hi : ops[i]? = some ⟨none, op, ty, pos, aft, g⟩) (hw : Wt ops l ⟨none, op, ty, pos, aft, g⟩)
    (hh : Hd P ⟨none, op, ty, pos, aft, g⟩ l H fun r H' => r = .skip ∧ WA P n w0 R ops Q fuel (listed.setIfInBounds i true) l H') : WO P n w0 R ops Q fuel listed i l H := WO.run hi hw fun a w at_ => by
  obtain ⟨r, w', H', hr, hs, hk, rfl, hw⟩ := hh a w R at_.kn at_.sat
  unfold Oper.wp
  rw [hr]
  exact hw _ _ ⟨at_.size, at_.defers, at_.kn, hs, at_.kept.trans hk⟩
theorem WO.c {i d : Nat} {op : Op} {ty : TypeId} {pos : String} {aft : Array Edge} {f : FuncId} {args : List Value} {C D : List Ck} {Post : Value → List Ck → Prop} (hi : ops[i]? = some ⟨some d, op, ty, pos, aft, g⟩) (hw : Wt ops l ⟨some d, op, ty, pos, aft, g⟩) (hd : Nat.blt d n = true)
    (he : Ent P ⟨some d, op, ty, pos, aft, g⟩ l f args) (hs : Tells P f args C Post) (hH : H.Perm (C ++ D))
    (h : ∀ v C', Post v C' → WA P n w0 R ops Q fuel (listed.setIfInBounds i true) ((d, v) :: l) (C' ++ D)) : WO P n w0 R ops Q fuel listed i l H := WO.run hi hw fun a w at_ => by
  unfold Oper.wp
  rw [he a at_.kn w, Oper.upon_enter]
  have hsat : Sat w (C ++ (D ++ R)) := by
    have := at_.sat.perm (hH.append_right R)
    simpa using this
  refine (hs w (D ++ R) hsat).mono fun e w' ⟨v, C', he', hp, hs', hk⟩ => ?_
  subst he'
  have i' := at_.put hd v
  exact h v C' hp _ _ ⟨i'.size, i'.defers, i'.kn, by simpa using hs', at_.kept.trans hk⟩
theorem WO.ca {i d : Nat} {op : Op} {ty : TypeId} {pos : String} {aft : Array Edge} {f : FuncId} {args : List Value} {Post : Value → List Ck → Prop} (hi : ops[i]? = some ⟨some d, op, ty, pos, aft, g⟩) (hw : Wt ops l ⟨some d, op, ty, pos, aft, g⟩) (hd : Nat.blt d n = true)
    (he : Ent P ⟨some d, op, ty, pos, aft, g⟩ l f args) (hs : Tells P f args H Post)
    (h : ∀ v H', Post v H' → WA P n w0 R ops Q fuel (listed.setIfInBounds i true) ((d, v) :: l) H') : WO P n w0 R ops Q fuel listed i l H :=
  WO.c (D := []) hi hw hd he hs (by simp) fun v C' hp => by simpa using h v C' hp
theorem WO.r {i d : Nat} {op : Op} {ty : TypeId} {pos : String} {aft : Array Edge} {f : FuncId} {args : List Value} {v : Value} (hi : ops[i]? = some ⟨some d, op, ty, pos, aft, g⟩) (hw : Wt ops l ⟨some d, op, ty, pos, aft, g⟩) (hd : Nat.blt d n = true)
    (he : Ent P ⟨some d, op, ty, pos, aft, g⟩ l f args) (hs : Reads P f args H v) (h : WA P n w0 R ops Q fuel (listed.setIfInBounds i true) ((d, v) :: l) H) : WO P n w0 R ops Q fuel listed i l H :=
  WO.c (D := []) hi hw hd he hs (by simp) fun v' C' ⟨h1, h2⟩ => by subst h1 h2; simpa using h

end rules
end Go.SL
