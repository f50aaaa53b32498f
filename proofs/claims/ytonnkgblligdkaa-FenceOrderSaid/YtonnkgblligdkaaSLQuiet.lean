/-
  Where the order is drawn and the first operations only read: one walk, in the order of the text, serves every order.
-/
import Derived.Test.YtonnkgblligdkaaSLMore7
import Derived.Deep.Quiet
set_option linter.unusedVariables false
set_option linter.unusedSimpArgs false
namespace Go.SL

section
variable {P : Program} {ops : Array Oper} {C : World → Prop} {m : Nat}
/-- whatever order is picked, till the first m have come up -/
def wpAnyM (P : Program) (ops : Array Oper) (C : World → Prop) (m : Nat) (Q : Act → Prop) : Nat → Array Bool → Act → Prop
  | 0, listed, a => (∀ j, j < m → listed.getD j false = true) ∧ Q a
  | fuel + 1, listed, a => Region.ready .any ops listed ≠ [] ∧ ∀ i ∈ Region.ready .any ops listed, i < m ∧ qOp P ops C i (wpAnyM P ops C m Q fuel (listed.setIfInBounds i true)) a
def mask (N m : Nat) : Array Bool := ((List.range N).map fun j => decide (j < m)).toArray
/-- what comes behind the first m waits for each of them -/
def stopB (ops : Array Oper) (m : Nat) : Bool := (List.range ops.size).all fun i => decide (i < m) || (match ops[i]? with
  | some o => (List.range m).all fun j => o.after.any fun e => Region.binds .any e && e.on == j
  | none => true)
def lexPre (ops : Array Oper) : Nat → Nat → Array Bool → Bool
  | 0, _, _ => true
  | fuel + 1, k, listed => (Region.ready .any ops listed).contains k && Region.free .any ops listed k && lexPre ops fuel (k + 1) (listed.setIfInBounds k true)
theorem wpAny_of_M {Q : Act → Prop} {Q' : Exit → Act → World → Prop} {r : Nat} (hQ : ∀ a w, C w → Q a → wpAny P .any ops Q' r (mask ops.size m) a w) : ∀ (fuel : Nat) (listed : Array Bool) (a : Act) (w : World), C w → listed.size = ops.size → (∀ j, m ≤ j → j < ops.size → listed.getD j true = false) →
    wpAnyM P ops C m Q fuel listed a → wpAny P .any ops Q' (fuel + r) listed a w
  | 0, listed, a, w, hC, hs, hr, h => by
    have e : listed = mask ops.size m := by
      apply Array.ext
      · simp [mask, hs]
      · intro j h1 h2
        simp only [mask, List.getElem_toArray, List.getElem_map, List.getElem_range]
        rcases Nat.lt_or_ge j m with h3 | h3
        · have := h.1 j h3
          simp [h1] at this
          simp [this, h3]
        · have := hr j h3 (by omega)
          simp [h1] at this
          simp [this]; omega
    rw [Nat.zero_add, e]
    exact hQ a w hC h.2
  | fuel + 1, listed, a, w, hC, hs, hr, h => by
    rw [Nat.succ_add]
    refine ⟨fun h0 => absurd h0 h.1, fun i hi => ?_⟩
    obtain ⟨him, hq⟩ := h.2 i hi
    exact wpOp_of_qOp hC (fun a' w' hw' hk => wpAny_of_M hQ fuel _ a' w' hw' (by simp [hs]) (fun j hj hjs => by rw [getD_set_ne true (by omega)]; exact hr j hj hjs) hk) hq
theorem below (hstop : stopB ops m = true) {i j : Nat} {listed : Array Bool} (hj : j ∈ Region.ready .any ops listed) (hi : i < m) (hun : listed.getD i false = false) : j < m := by
  obtain ⟨hj0, o, ho, hall⟩ := mem_ready.1 hj
  rcases Nat.lt_or_ge j m with h | h
  · exact h
  · have hlt : j < ops.size := (Array.getElem?_eq_some_iff.1 ho).1
    have h1 := List.all_eq_true.1 hstop j (List.mem_range.2 hlt)
    rw [ho] at h1
    simp only [Bool.or_eq_true, decide_eq_true_eq] at h1
    rcases h1 with h1 | h1
    · omega
    · have h2 := List.all_eq_true.1 h1 i (List.mem_range.2 hi)
      obtain ⟨e, he, hb⟩ := Array.any_eq_true'.1 h2
      simp only [Bool.and_eq_true, beq_iff_eq] at hb
      have h3 := hall e he hb.1
      rw [hb.2, hun] at h3
      cases h3
theorem getD_flip {listed : Array Bool} {i : Nat} (h : listed.getD i true = false) : listed.getD i false = false := by
  rcases Nat.lt_or_ge i listed.size with h' | h'
  · simp [h'] at h ⊢; exact h
  · simp [Array.getElem?_eq_none h'] at h
theorem wpAnyM_first {Q : Act → Prop} {i : Nat} {oi : Oper} {v : Value} (hstop : stopB ops m = true) (him : i < m) (hi : ops[i]? = some oi) (hsel : ∀ (j : Nat) (o : Oper) cs b, ops[j]? = some o → o.op ≠ .select cs b) :
    ∀ (fuel : Nat) (listed : Array Bool) (a : Act),
      (∀ j oj, ops[j]? = some oj → j ≠ i → listed.getD j true = false → (∀ e ∈ oj.after, Region.binds .any e = true → e.on ≠ i) → oi.apart ops oj = true) →
      i ∈ Region.ready .any ops listed → YieldsIn P ops C oi v a →
      wpAnyM P ops C m Q fuel (listed.setIfInBounds i true) (a.put oi.dst v) → wpAnyM P ops C m Q (fuel + 1) listed a := by
  intro fuel
  induction fuel with
  | zero =>
    intro listed a _ hr hy H
    refine ⟨fun h => (by rw [h] at hr; cases hr), fun j hj => ?_⟩
    have hjm := below hstop hj him (getD_flip (mem_ready.1 hr).1)
    refine ⟨hjm, ?_⟩
    by_cases hji : j = i
    · subst hji; exact hy.qOp hi H
    · have h1 := H.1 j hjm
      rw [getD_set_ne false (Ne.symm hji), getD_flip (mem_ready.1 hj).1] at h1
      cases h1
  | succ fuel ih =>
    intro listed a hfree hr hy H
    refine ⟨fun h => (by rw [h] at hr; cases hr), fun j hj => ?_⟩
    refine ⟨below hstop hj him (getD_flip (mem_ready.1 hr).1), ?_⟩
    by_cases hji : j = i
    · subst hji; exact hy.qOp hi H
    · have h1 := (H.2 j (ready_mono hj hji)).2
      obtain ⟨hjun, oj, hoj, hall⟩ := mem_ready.1 hj
      have hnot : ∀ e ∈ oj.after, Region.binds .any e = true → e.on ≠ i := fun e he hb heq => by
        have h1 := hall e he hb
        have h0 := getD_flip (mem_ready.1 hr).1
        rw [heq, h0] at h1
        cases h1
      have h2 := qOp_put hoj (hfree j oj hoj hji hjun hnot) (fun cs b => hsel i oi cs b hi) (fun cs b => hsel j oj cs b hoj) hy h1
      have hfree' : ∀ k ok, ops[k]? = some ok → k ≠ i → (listed.setIfInBounds j true).getD k true = false →
          (∀ e ∈ ok.after, Region.binds .any e = true → e.on ≠ i) → oi.apart ops ok = true := fun k ok hk hki hun hno => by
        refine hfree k ok hk hki ?_ hno
        by_cases hjk : j = k
        · subst hjk; exact hjun
        · rw [getD_set_ne true hjk] at hun; exact hun
      refine qOp_mono (fun a' h3 => ih (listed.setIfInBounds j true) a' hfree' (ready_mono hr (Ne.symm hji)) h3.1 ?_) h2
      rw [Array.setIfInBounds_comm _ _ hji]
      exact h3.2
theorem wpAnyM_lex {Q : Act → Prop} (hstop : stopB ops m = true) (hs : Region.noSelect ops = true) : ∀ (l : List Oper) (k : Nat) (listed : Array Bool) (a : Act), (∀ j, j < l.length → l[j]? = ops[k + j]?) → k + l.length = m → (∀ j, j < k → listed.getD j false = true) →
    lexPre ops l.length k listed = true → wpQuiet P ops C Q l a → wpAnyM P ops C m Q l.length listed a
  | [], k, _, _, _, hk, hd, _, h => ⟨fun j hj => hd j (by simp at hk; omega), h⟩
  | o :: l, k, listed, a, hl, hk, hd, hB, h => by
    have h0 : ops[k]? = some o := by simpa using (hl 0 (by simp)).symm
    simp only [List.length_cons, lexPre, Bool.and_eq_true] at hB
    obtain ⟨⟨hr, hf⟩, hB'⟩ := hB
    have hst : qOp P ops C k (wpQuiet P ops C Q l) a := by unfold qOp; simp only [h0]; exact h
    obtain ⟨v, hy, hK⟩ := yieldsIn_of_qOp h0 hst
    have hkr : k ∈ Region.ready .any ops listed := by simpa using hr
    have hkl : k < listed.size := by
      have h1 := (mem_ready.1 hkr).1
      rcases Nat.lt_or_ge k listed.size with h' | h'
      · exact h'
      · simp [Array.getElem?_eq_none h'] at h1
    simp only [List.length_cons] at hk
    exact wpAnyM_first hstop (by omega) h0 (Region.noSelect_spec hs) l.length listed a (Region.free_spec h0 hf) hkr hy
      (wpAnyM_lex hstop hs l (k + 1) _ _ (fun j hj => by have := hl (j + 1) (by simp; omega); simpa [Nat.add_assoc, Nat.add_comm 1 j] using this) (by omega) (fun j hj => by
        rcases Nat.lt_or_ge j k with h1 | h1
        · rw [getD_set_ne false (by omega)]; exact hd j h1
        · obtain rfl : j = k := by omega
          simp [hkl]) hB' hK)
end

section
variable {P : Program} {n : Nat} {w0 : World} {R : List Ck} {Q : Exit → Act → World → Prop} {l : Sl} {H : List Ck} {ops : Array Oper} {m r : Nat}
def CW (w0 : World) (R H : List Ck) (w : World) : Prop := Sat w (H ++ R) ∧ Kept w0 w
/-- from l and H on the operations, that only read, come to the rest of the region -/
def WQ (P : Program) (n : Nat) (w0 : World) (R : List Ck) (ops : Array Oper) (Q : Exit → Act → World → Prop) (m r : Nat) (rest : List Oper) (l : Sl) (H : List Ck) : Prop :=
  ∀ a, a.tmps.size = n → a.defers = [] → Kn a l → wpQuiet P ops (CW w0 R H) (fun a' => ∀ w, CW w0 R H w → wpAny P .any ops Q r (mask ops.size m) a' w) rest a
theorem WA.quiet {fuel : Nat} (m r : Nat) (hN : ops.size = fuel) (hf : fuel = m + r) (hstop : stopB ops m = true) (hs : Region.noSelect ops = true) (hlex : lexPre ops m 0 (Array.replicate fuel false) = true) (hl : (ops.toList.take m).length = m)
    (h : WQ P n w0 R ops Q m r (ops.toList.take m) l H) : WA P n w0 R ops Q fuel (Array.replicate fuel false) l H := fun a w i => by
  subst hN
  have h1 := h a i.size i.defers i.kn
  have h2 : wpAnyM P ops (CW w0 R H) m (fun a' => ∀ w, CW w0 R H w → wpAny P .any ops Q r (mask ops.size m) a' w) m (Array.replicate ops.size false) a := by
    have := wpAnyM_lex (C := CW w0 R H) hstop hs (ops.toList.take m) 0 (Array.replicate ops.size false) a (fun j hj => by rw [List.getElem?_take_of_lt (by omega)]; simp) (by omega) (fun j hj => by omega) (by rw [hl]; exact hlex) h1
    rwa [hl] at this
  have h3 := wpAny_of_M (P := P) (C := CW w0 R H) (Q' := Q) (r := r) (m := m) (ops := ops) (fun a w hC hq => hq w hC) m (Array.replicate ops.size false) a w ⟨i.sat, i.kept⟩ (by simp) (fun j hj hjs => by simp [hjs]) h2
  rw [← hf] at h3
  exact h3
theorem WQ.nil (h : WA P n w0 R ops Q r (mask ops.size m) l H) : WQ P n w0 R ops Q m r [] l H := fun a hs hd kn w hC => h a w ⟨hs, hd, kn, hC.1, hC.2⟩
theorem WQ.step {d : Nat} {op : Op} {ty : TypeId} {pos : String} {aft : Array Edge} {g : Option (Nat × Bool)} {rest : List Oper} {v : Value} (hd : Nat.blt d n = true) (hw : Wt ops l ⟨some d, op, ty, pos, aft, g⟩)
    (hq : ∀ a, Kn a l → ∀ w, CW w0 R H w → Oper.quietAt P ⟨some d, op, ty, pos, aft, g⟩ a (CW w0 R H) w v) (h : WQ P n w0 R ops Q m r rest ((d, v) :: l) H) : WQ P n w0 R ops Q m r (⟨some d, op, ty, pos, aft, g⟩ :: rest) l H := fun a hs hdf kn => by
  unfold wpQuiet
  rw [if_pos (hw a kn)]
  have hdn : d < a.tmps.size := by rw [hs]; exact Nat.le_of_ble_eq_true hd
  exact ⟨v, hq a kn, h _ (by simp [Act.put, hs]) (by simpa [Act.put] using hdf) (kn.put v hdn)⟩
theorem WQ.skip {d : Nat} {op : Op} {ty : TypeId} {pos : String} {aft : Array Edge} {g : Option (Nat × Bool)} {rest : List Oper} (hd : Nat.blt d n = true) (hw : ∀ a, Kn a l → Region.wanted ⟨some d, op, ty, pos, aft, g⟩ (yielded ops a.tmps) = false)
    (h : WQ P n w0 R ops Q m r rest ((d, undef) :: l) H) : WQ P n w0 R ops Q m r (⟨some d, op, ty, pos, aft, g⟩ :: rest) l H := fun a hs hdf kn => by
  unfold wpQuiet
  rw [if_neg (by rw [hw a kn]; simp)]
  have hdn : d < a.tmps.size := by rw [hs]; exact Nat.le_of_ble_eq_true hd
  exact h _ (by simp [Act.put, hs]) (by simpa [Act.put] using hdf) (kn.put _ hdn)
theorem WQ.y {d : Nat} {op : Op} {ty : TypeId} {pos : String} {aft : Array Edge} {rest : List Oper} {v : Value} (hd : Nat.blt d n = true) (hy : Yd P ⟨some d, op, ty, pos, aft, none⟩ l v)
    (h : WQ P n w0 R ops Q m r rest ((d, v) :: l) H) : WQ P n w0 R ops Q m r (⟨some d, op, ty, pos, aft, none⟩ :: rest) l H :=
  WQ.step hd Wt.none (fun a kn w _ => by unfold Oper.quietAt; rw [hy a kn w]; exact ⟨rfl, rfl⟩) h
theorem WQ.gy {d j dj : Nat} {b : Bool} {op : Op} {ty : TypeId} {pos : String} {aft : Array Edge} {rest : List Oper} {v : Value} (hj : (ops[j]?).bind (·.dst) = some dj) (hg : getv l dj = some (.bool b)) (hd : Nat.blt d n = true) (hy : Yd P ⟨some d, op, ty, pos, aft, some (j, b)⟩ l v)
    (h : WQ P n w0 R ops Q m r rest ((d, v) :: l) H) : WQ P n w0 R ops Q m r (⟨some d, op, ty, pos, aft, some (j, b)⟩ :: rest) l H :=
  WQ.step hd (Wt.yes hj hg) (fun a kn w _ => by unfold Oper.quietAt; rw [hy a kn w]; exact ⟨rfl, rfl⟩) h
theorem WQ.gn {d j dj : Nat} {b b' : Bool} {op : Op} {ty : TypeId} {pos : String} {aft : Array Edge} {rest : List Oper} (hj : (ops[j]?).bind (·.dst) = some dj) (hg : getv l dj = some (.bool b')) (hb : b' = !b) (hd : Nat.blt d n = true)
    (h : WQ P n w0 R ops Q m r rest ((d, undef) :: l) H) : WQ P n w0 R ops Q m r (⟨some d, op, ty, pos, aft, some (j, b)⟩ :: rest) l H :=
  WQ.skip hd (fun a kn => by rw [wanted_guard hj (kn dj _ hg), hb]; cases b <;> rfl) h
theorem WQ.gu {d j dj : Nat} {b : Bool} {op : Op} {ty : TypeId} {pos : String} {aft : Array Edge} {rest : List Oper} (hj : (ops[j]?).bind (·.dst) = some dj) (hg : getv l dj = some undef) (hd : Nat.blt d n = true)
    (h : WQ P n w0 R ops Q m r rest ((d, undef) :: l) H) : WQ P n w0 R ops Q m r (⟨some d, op, ty, pos, aft, some (j, b)⟩ :: rest) l H :=
  WQ.skip hd (fun a kn => unwanted_undef hj (kn dj _ hg)) h
/-- an operation that reads what lies there -/
def Rd (P : Program) (o : Oper) (l : Sl) (H : List Ck) (v : Value) : Prop := ∀ a w R, Kn a l → Sat w (H ++ R) → (execOp a.eval o).run P w = .ok (.value v) w
theorem WQ.rd {d : Nat} {op : Op} {ty : TypeId} {pos : String} {aft : Array Edge} {g : Option (Nat × Bool)} {rest : List Oper} {v : Value} (hd : Nat.blt d n = true) (hw : Wt ops l ⟨some d, op, ty, pos, aft, g⟩) (hr : Rd P ⟨some d, op, ty, pos, aft, g⟩ l H v)
    (h : WQ P n w0 R ops Q m r rest ((d, v) :: l) H) : WQ P n w0 R ops Q m r (⟨some d, op, ty, pos, aft, g⟩ :: rest) l H :=
  WQ.step hd hw (fun a kn w hC => by unfold Oper.quietAt; rw [hr a w R kn hC.1]; exact ⟨rfl, rfl⟩) h
theorem WQ.rf {d : Nat} {op : Op} {ty : TypeId} {pos : String} {aft : Array Edge} {g : Option (Nat × Bool)} {rest : List Oper} {f : FuncId} {args : List Value} {C D : List Ck} {v : Value} (hd : Nat.blt d n = true) (hw : Wt ops l ⟨some d, op, ty, pos, aft, g⟩)
    (he : Ent P ⟨some d, op, ty, pos, aft, g⟩ l f args) (hs : Reads P f args C v) (hH : Sp H C D) (h : WQ P n w0 R ops Q m r rest ((d, v) :: l) H) : WQ P n w0 R ops Q m r (⟨some d, op, ty, pos, aft, g⟩ :: rest) l H :=
  WQ.step hd hw (fun a kn w hC => by
    unfold Oper.quietAt
    rw [he a kn w]
    refine ⟨rfl, ?_⟩
    have hsat : Sat w (C ++ (D ++ R)) := by
      have := hC.1.perm (hH.p.append_right R)
      simpa using this
    refine (hs w (D ++ R) hsat).mono fun e w' ⟨v', C', he', ⟨h1, h2⟩, hs', hk⟩ => ?_
    subst h1 h2
    refine ⟨he', ?_, hC.2.trans hk⟩
    have h4 : Sat w' ((C' ++ D) ++ R) := by simpa using hs'
    exact h4.perm (hH.p.symm.append_right R)) h
theorem WQ.renamed {rest : List Oper} {t : Nat} {u v : Value} (ht : getv l t = some u) (e : u = v) (h : WQ P n w0 R ops Q m r rest ((t, v) :: l) H) : WQ P n w0 R ops Q m r rest l H := by
  subst e
  exact fun a hs hd kn => h a hs hd fun s v hv => by
    rw [getv_cons] at hv
    by_cases e : t = s
    · subst e; simp at hv; subst hv; exact kn _ _ ht
    · simp [e] at hv; exact kn _ _ hv
theorem WQ.part {rest : List Oper} {t : Nat} {b : Bool} (ht : getv l t = some (.bool b)) (h1 : b = true → WQ P n w0 R ops Q m r rest ((t, .bool true) :: l) H) (h2 : b = false → WQ P n w0 R ops Q m r rest ((t, .bool false) :: l) H) : WQ P n w0 R ops Q m r rest l H := by
  cases b with
  | true => exact WQ.renamed ht rfl (h1 rfl)
  | false => exact WQ.renamed ht rfl (h2 rfl)
theorem WQ.partP {rest : List Oper} {t : Nat} {p : Prop} [Decidable p] (ht : getv l t = some (.bool (decide p))) (h1 : p → WQ P n w0 R ops Q m r rest ((t, .bool true) :: l) H) (h2 : ¬ p → WQ P n w0 R ops Q m r rest ((t, .bool false) :: l) H) : WQ P n w0 R ops Q m r rest l H :=
  WQ.part ht (fun e => h1 (of_decide_eq_true e)) (fun e => h2 (of_decide_eq_false e))
variable {d : Option Nat} {ty : TypeId} {pos : String} {aft : Array Edge} {g : Option (Nat × Bool)}
theorem Rd.load1 {T : TypeId} {x : Operand} {b o : Nat} {cs : List Value} {T' : TypeId} {fr : Nat × Nat} {ex : Bool} {v : Value} (hT : aggB P T = false) (hx : ev l x = some (.pointer (some ⟨b, o, none⟩)))
    (hm : (⟨b, .cells cs.toArray T' fr, ex⟩ : Ck) ∈ H) (hc : cs[o]? = some v) : Rd P ⟨d, .load T x, ty, pos, aft, g⟩ l H v := fun a w R kn s => by
  have h := s.holds _ (List.mem_append_left R hm)
  have hcell : w.cell? ⟨b, o, none⟩ = some v := by rw [cell_at h]; simpa using hc
  simp [execOp, kn.ev hx, Instr.loadAt, Instr.sureAddr, loadVar, run_isAgg_no hT, hcell]
theorem Rd.loadA {T : TypeId} {x : Operand} {b o n : Nat} {cs : List Value} {T' : TypeId} {fr : Nat × Nat} {ex : Bool} {vs : List Value} (hT : isAggOf P T n = true) (hx : ev l x = some (.pointer (some ⟨b, o, none⟩)))
    (hm : (⟨b, .cells cs.toArray T' fr, ex⟩ : Ck) ∈ H) (hn : vs.length = n) (hc : (cs.drop o).take n = vs) : Rd P ⟨d, .load T x, ty, pos, aft, g⟩ l H (.agg vs.toArray) := fun a w R kn s => by
  have h := s.holds _ (List.mem_append_left R hm)
  have hl := run_loadCells_list (P := P) w ⟨b, o, none⟩ vs (fun j v hv => by
    rw [add_plain, cell_at h]
    subst hc
    rw [List.getElem?_take] at hv
    split at hv
    · simpa using hv
    · cases hv)
  rw [hn] at hl
  simp [execOp, kn.ev hx, Instr.loadAt, Instr.sureAddr, loadVar, (run_isAgg_yes hT w).1, (run_isAgg_yes hT w).2, hl]
theorem Rd.loadAll {T : TypeId} {x : Operand} {b n : Nat} {cs : List Value} {T' : TypeId} {fr : Nat × Nat} {ex : Bool} (hT : isAggOf P T n = true) (hx : ev l x = some (.pointer (some ⟨b, 0, none⟩)))
    (hm : (⟨b, .cells cs.toArray T' fr, ex⟩ : Ck) ∈ H) (hn : cs.length = n) : Rd P ⟨d, .load T x, ty, pos, aft, g⟩ l H (.agg cs.toArray) :=
  Rd.loadA hT hx hm hn (by subst hn; simp)
end

end Go.SL
