/-
  Lemmas and walks that TopOne and TopSolo stands on (part 1); no condition.
-/
import Derived.Orders
import Derived.Tactics
import Derived.Scope
import Derived.Below
import Derived.WalkKit
import Derived.KernelRfl
set_option linter.defProp false
namespace Go
def dp:=@if_neg
def dq:=@List.mem_append_right
def dr:=@List.length_append
def dt:=@List.mem_cons_of_mem
def du:=@List.sublist_cons_self
def dw:=@List.mem_append_left
def dx:=@if_pos
def dy:=@List.mem_cons_self
def dz:=@decide_eq_true_eq
def dA:=@Nat.le_refl
def dB:=@BitVec.eq_of_toNat_eq
def dD:=@List.append_assoc
def dE:=@List.length_take
def dF:=@List.length_cons
def dG:=@List.getElem_mem
def dH:=@List.mem_singleton
def dI:=@Value.slice.injEq
def dJ:=@List.take_succ_eq_append_getElem
def dK:=@List.getElem?_eq_getElem
def dL:=@List.take_of_length_le
def dM:=@Bool.eq_iff_iff
def dN:=@Nat.zero_le
def dP:=@run_underlying
def dQ:=@List.take_append_of_le_length
def dR:=@List.length_nil
def dT:=@List.mem_append
def dU:=@List.eq_nil_of_length_eq_zero
def dV:=@List.getElem?_eq_some_iff
def dW:=@Classical.byContradiction
def dX:=@BitVec.toNat_ofInt
def dY:=@List.map_cons
def dZ:=@List.length_singleton
def eg:=@List.length_drop
def eh:=@Nat.le_succ
def ei:=@List.mem_map
def ej:=@List.not_mem_nil
def eu:=@Bool.and_eq_true
def ew:=@Option.some.injEq
def ey:=@BitVec.toNat_setWidth
def ez:=@List.filter_cons_of_pos
def eB:=@Bool.false_eq_true
def eC:=@List.nil_append
def eD:=@true_and
def eE:=@Nat.min_eq_left
def eF:=@List.append_nil
def eG:=@List.getElem?_eq_none
def eH:=@List.take_length
def eI:=@List.filter_cons_of_neg
def eJ:=@Nat.le_trans
def eM:=@List.ext_getElem?
def eN:=@List.drop_append_of_le_length
def eO:=@List.getElem_concat_length
def eP:=@Bool.or_eq_true
def eQ:=@Option.some.inj
def eR:=@of_decide_eq_true
def eS:=@List.mem_cons
def eT:=@List.getElem?_append_left
def eV:=@Nat.zero_add
def eW:=@true_iff
def eX:=@trivial
def eY:=@List.getElem_append_left
def eZ:=@Nat.shiftRight_eq_div_pow
def fb:=@List.Perm.refl
def fe:=@BitVec.toNat_ushiftRight
def ff:=@List.set_cons_succ
def fg:=@BitVec.toNat_ofNat
def fh:=@Array.getElem?_eq_getElem
def fi:=@decide_eq_false_iff_not
def fj:=@Array.getD_eq_getD_getElem?
def fm:=@List.find?_cons_of_neg
def fo:=@decide_eq_true
def fp:=@List.cons_append
def fq:=@Bool.not_eq_true'
def ft:=@List.getElem?_drop
def fu:=@List.getElem_of_mem
def fv:=@List.drop_of_length_le
def fw:=@List.getElem?_take_of_lt
def fx:=@BitVec.toNat_sub_of_le
def fy:=@List.all_eq_true
def fz:=@List.take_append_drop
def fA:=@List.sublist_append_right
def fB:=@List.prefix_refl
def fC:=@List.set_cons_zero
def fD:=@List.getElem?_append_right
def fE:=@List.getLast?_eq_getElem?
def fF:=@List.getElem?_take
def fG:=@Nat.add_zero
def fH:=@List.drop_length_add_append
def fI:=@List.cons.injEq
def fJ:=@List.take_zero
def fK:=@not_not_intro
def fL:=@Nat.le_succ_of_le
def fM:=@Nat.mul_le_mul_right
def fN:=@List.pairwise_iff_getElem
def fO:=@List.mem_filter
def fP:=@Option.isSome_iff_exists
def fQ:=@List.perm_iff_count
def fR:=@eq_self
def fS:=@false_iff
def fT:=@Result.andThen_ok
def fU:=@Array.getElem?_eq_some_iff
def fV:=@of_decide_eq_false
def fW:=@List.map_append
def fX:=@List.nodup_cons
def fY:=@List.mem_of_mem_take
def fZ:=@Nat.add_mul
def ga:=@BitVec.toNat_add
def gb:=@List.count_append
def gd:=@List.take_take
def gf:=@List.Perm.append_left
def gg:=@List.sublist_append_left
def gi:=@Array.getElem?_toList
def gj:=@List.length_replicate
def gl:=@Nat.not_lt_zero
def gm:=@run_loadCells_list
def gp:=@Nat.pos_of_ne_zero
def gq:=@BitVec.le_def
def gv:=@List.drop_drop
def gw:=@List.getElem?_map
def gx:=@Bool.eq_false_iff
theorem gz {p : Prop} (h : p := by omega) : p := h
theorem gA {p : Prop} (h : p := by rfl) : p := h
theorem gB {p : Prop} (h : p := by decide) : p := h
end Go
set_option linter.unusedVariables false
set_option linter.unusedSimpArgs false
namespace Go.SL
open Go.RowKit (Below)
section
structure Ck where
  b:Nat
  o:Obj
  ex:Bool
def Ck.apart (c d:Ck):Prop:=(c.ex=true∨d.ex=true)→c.b≠d.b
theorem Ck.Ys {c d:Ck} (h:c.apart d):d.apart c:=fun e=>(h e.symm).symm
structure Sat (w:World) (H:List Ck):Prop where
  holds:∀c∈H,w.heap[c.b]?=some c.o
  apart:H.Pairwise Ck.apart
structure Kept (w jq:World):Prop where
  os:jq.os=w.os
  tape:jq.tape=w.tape
  output:jq.output=w.output
  size:w.heap.size≤jq.heap.size
  drawn:w.drawn≤jq.drawn
theorem Kept.refl (w:World):Kept w w:=⟨rfl,rfl,rfl,dA _,dA _⟩
theorem Kept.trans {a b c:World} (h:Kept a b) (k:Kept b c):Kept a c:=
  ⟨k.os.trans h.os,k.tape.trans h.tape,k.output.trans h.output,eJ h.size k.size,eJ h.drawn k.drawn⟩
theorem Sat.perm {w:World} {H gr:List Ck} (h:Sat w H) (p:H.Perm gr):Sat w gr:=
  ⟨fun c hc=>h.holds c (p.mem_iff.2 hc),(p.pairwise_iff (fun {_ _}=>Ck.Ys)).1 h.apart⟩
theorem Sat.drop {w:World} {A B:List Ck} (h:Sat w (A++B)):Sat w B:=
  ⟨fun c hc=>h.holds c (dq _ hc),(List.pairwise_append.1 h.apart).2.1⟩
theorem Sat.sublist {w:World} {A B:List Ck} (h:Sat w B) (s:A.Sublist B):Sat w A:=
  ⟨fun c hc=>h.holds c (s.subset hc),h.apart.sublist s⟩
theorem Sat.lt {w:World} {H:List Ck} (h:Sat w H) {c:Ck} (hc:c∈H):c.b<w.heap.size:=
  (fU.1 (h.holds c hc)).1
theorem Sat.heap {w jq:World} {H:List Ck} (h:Sat w H) (e:jq.heap=w.heap):Sat jq H:=
  ⟨fun c hc=>by rw[e];exact h.holds c hc,h.apart⟩
theorem Sat.push {w:World} {H:List Ck} (h:Sat w H) (o:Obj) (ex:Bool):Sat {w with heap:=w.heap.push o} (⟨w.heap.size,o,ex⟩::H):=by
  refine ⟨fun c hc=>?_,List.pairwise_cons.2 ⟨fun d hd _=>?_,h.apart⟩⟩
  · rcases eS.1 hc with rfl|hc
    · simp
    · have:=h.lt hc
      simp[Array.getElem?_push,Nat.ne_of_lt this,h.holds c hc]
  · have:=h.lt hd
    show w.heap.size≠d.b
    omega
theorem Sat.write {w jq:World} {H:List Ck} {b:Nat} {o oe:Obj} (h:Sat w (⟨b,o,true⟩::H)) (hb:jq.heap[b]?=some oe) (jk:∀k,k≠b→jq.heap[k]?=w.heap[k]?):Sat jq (⟨b,oe,true⟩::H):=by
  have hp:=List.pairwise_cons.1 h.apart
  refine ⟨fun c hc=>?_,List.pairwise_cons.2 ⟨fun d hd e=>hp.1 d hd e,hp.2⟩⟩
  rcases eS.1 hc with rfl|hc
  · exact hb
  · have:b≠c.b:=hp.1 c hc (.inl rfl)
    rw[jk _ (Ne.symm this)]
    exact h.holds c (dt _ hc)
def gC (P:Program) (f:FuncId) (args:List Value) (H:List Ck) (jE:Value→List Ck→Prop):Prop:=
  ∀w R,Sat w (H++R)→Calls P f args.toArray w fun e jq=>∃v gr,e=.returned v∧jE v gr∧Sat jq (gr++R)∧Kept w jq
theorem gC.mono {P:Program} {f:FuncId} {args:List Value} {H:List Ck} {jE FO:Value→List Ck→Prop} (h:gC P f args H jE) (hp:∀v gr,jE v gr→FO v gr):gC P f args H FO:=
  fun w R hs=>(h w R hs).mono fun _ _ ⟨v,gr,he,q,r⟩=>⟨v,gr,he,hp _ _ q,r⟩
theorem gC.below {P:Program} {f:FuncId} {args:List Value} {jE:Value→List Ck→Prop} {w:World} {H:List Ck} (h:gC P f args H jE) (hH:∀c∈H,w.heap[c.b]?=some c.o∧c.ex=false):
    Calls P f args.toArray w fun e jq=>∃v gr,e=.returned v∧jE v gr∧Below w.heap.size w jq:=by
  let R:List Ck:=(List.range w.heap.size).map fun k=>⟨k,(w.heap[k]?).getD default,false⟩
  have zE:Sat w (H++R):=by
    refine ⟨fun c hc=>?_,?_⟩
    · rcases dT.1 hc with hc|hc
      · exact (hH c hc).1
      · obtain ⟨k,hk,rfl⟩:=ei.1 hc
        have hk:=List.mem_range.1 hk
        simp[hk]
    · have jM:∀c∈H++R,c.ex=false:=fun c hc=>by
        rcases dT.1 hc with hc|hc
        · exact (hH c hc).2
        · obtain ⟨k,hk,rfl⟩:=ei.1 hc;rfl
      rw[List.pairwise_iff_forall_sublist]
      intro c d hs e
      have h1:=jM c (hs.subset (by simp))
      have h2:=jM d (hs.subset (by simp))
      rw[h1,h2] at e
      simp at e
  refine (h w R zE).mono fun e jq ⟨v,gr,he,hp,hs,hk⟩=>⟨v,gr,he,hp,hk.os,hk.tape,hk.output,hk.size,fun k gQ=>?_⟩
  have:=hs.holds ⟨k,(w.heap[k]?).getD default,false⟩ (dq _ (ei.2 ⟨k,List.mem_range.2 gQ,rfl⟩))
  rw[this]
  simp[gQ]
abbrev Sl:=List (Nat×Value)
def iF:Sl→Nat→Option Value
  |[],_=>none
  |(d,v)::l,t=>cond (Nat.beq d t) (some v) (iF l t)
theorem pW (d:Nat) (v:Value) (l:Sl) (t:Nat):iF ((d,v)::l) t=if d=t then some v else iF l t:=by
  simp only[iF]
  by_cases e:d=t
  · subst e
    rw[dx rfl,Nat.beq_refl]
    rfl
  · rw[dp e,show Nat.beq d t=false from by cases h:Nat.beq d t with|true=>exact absurd (Nat.eq_of_beq_eq_true h) e|false=>rfl]
    rfl
def Kn (a:Act) (l:Sl):Prop:=∀t v,iF l t=some v→a.tmps.getD t undef=v
def Has (l:Sl):Sl→Prop
  |[]=>True
  |(t,v)::r=>iF l t=some v∧Has l r
theorem Has.get {l:Sl}:∀{r:Sl},Has l r→∀t v,iF r t=some v→iF l t=some v
  |[],_,_,_,h=>by simp[iF] at h
  | (d,u)::r,hh,t,v,h=>by
    obtain ⟨h1,h2⟩:=hh
    rw[pW] at h
    by_cases e:d=t
    · subst e
      simp at h
      subst h
      exact h1
    · simp[e] at h
      exact h2.get t v h
theorem Kn.sub {a:Act} {l r:Sl} (k:Kn a l) (h:Has l r):Kn a r:=fun t v e=>k t v (h.get t v e)
theorem Kn.put {a:Act} {l:Sl} (k:Kn a l) {d:Nat} (v:Value) (hd:d<a.tmps.size):Kn (a.put (some d) v) ((d,v)::l):=by
  intro t u h
  rw[pW] at h
  by_cases e:d=t
  · subst e
    simp at h
    subst h
    simp[Act.put,hd]
  · simp[e] at h
    have:=k t u h
    simp only[Act.put,fj] at this ⊢
    rw[Array.getElem?_setIfInBounds_ne gz]
    exact this
def ev (l:Sl):Operand→Option Value
  | .tmp t=>iF l t
  | .const v=>some v
  | .func f=>some (.func (.func f) #[] #[])
  | .global g=>some (.pointer (some ⟨g,0,none⟩))
theorem Kn.ev {a:Act} {l:Sl} (k:Kn a l) {x:Operand} {v:Value} (h:ev l x=some v):a.eval x=v:=by
  cases x with
  |tmp t=>exact k t v h
  |const u=>simp[SL.ev] at h;exact h
  |func f=>simp[SL.ev] at h;exact h
  |global g=>simp[SL.ev] at h;exact h
structure At (P:Program) (n:Nat) (w0:World) (R:List Ck) (l:Sl) (H:List Ck) (a:Act) (w:World):Prop where
  size:a.tmps.size=n
  defers:a.defers=[]
  kn:Kn a l
  sat:Sat w (H++R)
  kept:Kept w0 w
variable {P:Program} {n:Nat} {w0:World} {R:List Ck}
def WC (P:Program) (n:Nat) (w0:World) (R:List Ck) (Q:Exit→Act→World→Prop) (c:Code) (l:Sl) (H:List Ck):Prop:=
  ∀a w,At P n w0 R l H a w→c.wp P Q a w
def WL (P:Program) (n:Nat) (w0:World) (R:List Ck) (ops:Array Oper) (Q:Exit→Act→World→Prop) (rest:List Oper) (l:Sl) (H:List Ck):Prop:=
  ∀a w,At P n w0 R l H a w→wpList P ops Q rest a w
def WA (P:Program) (n:Nat) (w0:World) (R:List Ck) (ops:Array Oper) (Q:Exit→Act→World→Prop) (fuel:Nat) (U5:Array Bool) (l:Sl) (H:List Ck):Prop:=
  ∀a w,At P n w0 R l H a w→wpAny P .any ops Q fuel U5 a w
def DN (P:Program) (n:Nat) (w0:World) (R:List Ck) (Q:Exit→Act→World→Prop) (e:Exit) (l:Sl) (H:List Ck):Prop:=
  ∀a w,At P n w0 R l H a w→Q e a w
section rules
variable {Q:Exit→Act→World→Prop} {l:Sl} {H:List Ck} {ops:Array Oper}
theorem At.sub {r:Sl} {a:Act} {w:World} (h:At P n w0 R l H a w) (s:Has l r):At P n w0 R r H a w:=
  ⟨h.size,h.defers,h.kn.sub s,h.sat,h.kept⟩
theorem At.perm {gr:List Ck} {a:Act} {w:World} (h:At P n w0 R l H a w) (s:H.Perm gr):At P n w0 R l gr a w:=
  ⟨h.size,h.defers,h.kn,h.sat.perm (s.append_right R),h.kept⟩
theorem At.sublist {gr:List Ck} {a:Act} {w:World} (h:At P n w0 R l H a w) (s:gr.Sublist H):At P n w0 R l gr a w:=
  ⟨h.size,h.defers,h.kn,h.sat.sublist (s.append_right R),h.kept⟩
theorem WC.blocks {c:Code} (gr:List Ck) (s:H.Perm gr) (h:WC P n w0 R Q c l gr):WC P n w0 R Q c l H:=fun a w i=>h a w (i.perm s)
theorem WC.forget {c:Code} (gr:List Ck) (s:gr.Sublist H) (h:WC P n w0 R Q c l gr):WC P n w0 R Q c l H:=fun a w i=>h a w (i.sublist s)
theorem cT {rest:List Oper} (gr:List Ck) (s:H.Perm gr) (h:WL P n w0 R ops Q rest l gr):WL P n w0 R ops Q rest l H:=fun a w i=>h a w (i.perm s)
theorem WL.forget {rest:List Oper} (gr:List Ck) (s:gr.Sublist H) (h:WL P n w0 R ops Q rest l gr):WL P n w0 R ops Q rest l H:=fun a w i=>h a w (i.sublist s)
theorem cy {e:Exit} (gr:List Ck) (s:H.Perm gr) (h:DN P n w0 R Q e l gr):DN P n w0 R Q e l H:=fun a w i=>h a w (i.perm s)
theorem aR {e:Exit} (gr:List Ck) (s:gr.Sublist H) (h:DN P n w0 R Q e l gr):DN P n w0 R Q e l H:=fun a w i=>h a w (i.sublist s)
theorem WC.seq {x y:Code} (h:WC P n w0 R (Exit.then (y.wp P Q) Q) x l H):WC P n w0 R Q (.seq x y) l H:=fun a w i=>wp_seq (h a w i)
theorem WC.block {id:Nat} {c:Code} (h:WC P n w0 R (Exit.inBlock id Q) c l H):WC P n w0 R Q (.block id c) l H:=fun a w i=>wp_block (h a w i)
theorem WC.scope {c:Code} (h:WC P n w0 R (Exit.noGoto Q) c l H):WC P n w0 R Q (.scope c) l H:=fun a w i=>wp_scope_straight (h a w i)
theorem WC.skip (h:DN P n w0 R Q .normal l H):WC P n w0 R Q .skip l H:=fun a w i=>wp_skip (h a w i)
theorem WC.label {k:Nat} (h:DN P n w0 R Q .normal l H):WC P n w0 R Q (.label k) l H:=fun a w i=>wp_label (h a w i)
theorem WC.exit {id:Nat} (h:DN P n w0 R Q (.exit id) l H):WC P n w0 R Q (.exit id) l H:=fun a w i=>wp_exit (h a w i)
theorem WC.ret (h:DN P n w0 R Q .ret l H):WC P n w0 R Q .ret l H:=fun a w i=>wp_ret (h a w i)
theorem WC.cond {c:Operand} {x y:Code} {t:Bool} (hc:ev l c=some (.bool t)) (ht:t=true→WC P n w0 R Q x l H) (hf:t=false→WC P n w0 R Q y l H):WC P n w0 R Q (.cond c x y) l H:=
  fun a w i=>wp_cond_split (i.kn.ev hc) (fun e=>ht e a w i) (fun e=>hf e a w i)
theorem WC.ite {c:Operand} {x y:Code} {p:Prop} [Decidable p] (hc:ev l c=some (.bool (decide p))) (ht:p→WC P n w0 R Q x l H) (hf:¬p→WC P n w0 R Q y l H):WC P n w0 R Q (.cond c x y) l H:=
  WC.cond hc (fun e=>ht (eR e)) (fun e=>hf (fV e))
theorem WC.yes {c:Operand} {x y:Code} (hc:ev l c=some (.bool true)) (h:WC P n w0 R Q x l H):WC P n w0 R Q (.cond c x y) l H:=WC.cond hc (fun _=>h) (fun e=>by cases e)
theorem WC.no {c:Operand} {x y:Code} (hc:ev l c=some (.bool false)) (h:WC P n w0 R Q y l H):WC P n w0 R Q (.cond c x y) l H:=WC.cond hc (fun e=>by cases e) (fun _=>h)
theorem WC.region {id:Nat} {os:List Oper} (h:WL P n w0 R os.toArray Q os l H):WC P n w0 R Q (.region id os.toArray false) l H:=fun a w i=>wp_region_lit (h a w i)
theorem WC.draw {id:Nat} {os:Array Oper} (N:Nat) (hm:P.follows .mixedOrders=true) (hN:os.size=N) (h:WA P n w0 R os Q N (Array.replicate N false) l H):WC P n w0 R Q (.region id os true) l H:=
  fun a w i=>wp_region_any hm (by rw[hN];exact h a _ ⟨i.size,i.defers,i.kn,i.sat.heap rfl,⟨i.kept.os,i.kept.tape,i.kept.output,i.kept.size,fL i.kept.drawn⟩⟩)
theorem WL.nil (h:DN P n w0 R Q .normal l H):WL P n w0 R ops Q [] l H:=fun a w i=>wpList_nil (h a w i)
theorem ct {y:Code} (h:WC P n w0 R Q y l H):DN P n w0 R (Exit.then (y.wp P Q) Q) .normal l H:=fun a w i=>h a w i
theorem DN.ahe {K:Act→World→Prop} {id:Nat} (h:DN P n w0 R Q (.exit id) l H):DN P n w0 R (Exit.then K Q) (.exit id) l H:=fun a w i=>h a w i
theorem DN.ahf {K:Act→World→Prop} (h:DN P n w0 R Q .ret l H):DN P n w0 R (Exit.then K Q) .ret l H:=fun a w i=>h a w i
theorem cY {id:Nat} (h:DN P n w0 R Q .normal l H):DN P n w0 R (Exit.inBlock id Q) .normal l H:=fun a w i=>h a w i
theorem DN.Y1 {id:Nat} (h:DN P n w0 R Q .ret l H):DN P n w0 R (Exit.inBlock id Q) .ret l H:=fun a w i=>h a w i
theorem DN.Y0 {id:Nat} (h:DN P n w0 R Q .normal l H):DN P n w0 R (Exit.inBlock id Q) (.exit id) l H:=fun a w i=>by simpa [Exit.inBlock] using h a w i
theorem av {id JF:Nat} (ne:Nat.beq JF id=false) (h:DN P n w0 R Q (.exit JF) l H):DN P n w0 R (Exit.inBlock id Q) (.exit JF) l H:=fun a w i=>by
  have:JF≠id:=fun e=>by subst e;simp at ne
  simpa [Exit.inBlock,this] using h a w i
theorem cq (h:DN P n w0 R Q .ret l H):DN P n w0 R (Exit.noGoto Q) .ret l H:=fun a w i=>h a w i
def Reach (P:Program) (n:Nat) (w0:World) (R:List Ck) {α:Type} (I:α→Prop) (L:α→Sl) (K:α→List Ck) (a:Act) (w:World):Prop:=∃x,I x∧At P n w0 R (L x) (K x) a w
theorem WC.cut {α:Type} (I:α→Prop) (L:α→Sl) (K:α→List Ck) {x y:Code} (h:WC P n w0 R (Exit.then (Reach P n w0 R I L K) Q) x l H) (lK:∀z,I z→WC P n w0 R Q y (L z) (K z)):
    WC P n w0 R Q (.seq x y) l H:=
  WC.seq fun a w i=>wp_mono (h a w i) fun e a w q=>by
    cases e with
    |normal=>obtain ⟨z,hz,j⟩:=q;exact lK z hz a w j
    |_=>exact q
def BE (P:Program) (n:Nat) (w0:World) (R:List Ck) {α:Type} (I:α→Prop) (L:α→Sl) (K:α→List Ck) (μ:α→Nat) (m:Nat) (a:Act) (w:World):Prop:=∃x,I x∧μ x<m∧At P n w0 R (L x) (K x) a w
theorem WC.Vb {α:Type} (I:α→Prop) (L:α→Sl) (K:α→List Ck) (μ:α→Nat) {c:Code} (x0:α) (h0:I x0) (hl:∀a w,At P n w0 R l H a w→At P n w0 R (L x0) (K x0) a w)
    (round:∀x,I x→WC P n w0 R (Exit.then (BE P n w0 R I L K μ (μ x)) Q) c (L x) (K x)):WC P n w0 R Q (.loop c) l H:=by
  intro a w i b k cs
  have key:∀m x,μ x=m→I x→∀a w,At P n w0 R (L x) (K x) a w→
      ∃e gX jq,Q e gX jq∧Arrives P (lone (b.at a (.code c::.inLoop c::k)) cs w) b k cs e gX jq:=by
    intro m
    induction m using Nat.strongRecOn with
    | _ m ih=>
      intro x hx hI a w hi
      obtain ⟨e,DT,Fw,hq,AU⟩:=round x hI a w hi b (.inLoop c::k) cs
      cases e with
      | normal=>
        obtain ⟨Xx,aa3,gQ,abO⟩:=hq
        obtain ⟨aam,YD,ain,ack,aa8⟩:=ih (μ Xx) (hx ▸ gQ) Xx rfl aa3 DT Fw abO
        exact ⟨aam,YD,ain,ack,.of_steps (Steps.trans AU (.one step_inLoop)) aa8⟩
      |exit id=>exact ⟨_,DT,Fw,hq,.pass (x:=.inLoop c) rfl (fun _ _=>.inl (by simp)) AU⟩
      |goto l=>exact ⟨_,DT,Fw,hq,.pass (x:=.inLoop c) rfl (fun _ _=>.inl (by simp)) AU⟩
      |ret=>exact ⟨_,DT,Fw,hq,.pass (x:=.inLoop c) rfl (fun _ _=>.inl (by simp)) AU⟩
      |panic ch=>exact ⟨_,DT,Fw,hq,.pass (x:=.inLoop c) rfl (fun _ _=>.inl (by simp)) AU⟩
      |outgrown=>exact ⟨_,DT,Fw,hq,.pass (x:=.inLoop c) rfl (fun _ _=>.inl (by simp)) AU⟩
  obtain ⟨e,gX,jq,hq,AU⟩:=key _ x0 rfl h0 a w (hl a w i)
  exact ⟨e,gX,jq,hq,.of_steps (.one step_loop) AU⟩
theorem WC.loop {α:Type} (I:α→Prop) (L:α→Sl) (K:α→List Ck) (μ:α→Nat) {c:Code} (x0:α) (h0:I x0) (hl:Has l (L x0)) (hH:H.Perm (K x0))
    (round:∀x,I x→WC P n w0 R (Exit.then (BE P n w0 R I L K μ (μ x)) Q) c (L x) (K x)):WC P n w0 R Q (.loop c) l H:=
  WC.Vb I L K μ x0 h0 (fun _ _ i=>(i.sub hl).perm hH) round
theorem DN.again {α:Type} {I:α→Prop} {L:α→Sl} {K:α→List Ck} {μ:α→Nat} {m:Nat} (z:α) (hz:I z) (hm:μ z<m) (hl:Has l (L z)) (hH:H.Perm (K z)):
    DN P n w0 R (Exit.then (BE P n w0 R I L K μ m) Q) .normal l H:=fun _ _ i=>⟨z,hz,hm,(i.sub hl).perm hH⟩
def wE (P:Program) (w0:World) (R:List Ck) (jE:Value→List Ck→Prop) (e:Ending) (w:World):Prop:=∃v gr,e=.returned v∧jE v gr∧Sat w (gr++R)∧Kept w0 w
def argsAt:Nat→List Value→Sl
  |_,[]=>[]
  |k,v::r=>(k,v)::argsAt (k+1) r
theorem SI:∀(args:List Value) (k t:Nat) (v:Value),iF (argsAt k args) t=some v→k≤t∧args[t-k]?=some v
  |[],_,_,_,h=>by simp[argsAt,iF] at h
  | u ::r,k,t,v,h=>by
    rw[argsAt,pW] at h
    by_cases e:k=t
    · subst e
      simp at h
      subst h
      simp
    · simp[e] at h
      have:=SI r (k+1) t v h
      refine ⟨by omega,?_⟩
      have e2:t-k=(t-(k+1))+1:=by omega
      rw[e2]
      simpa using this.2
theorem gC.enter {f:FuncId} {fn:Func} {c:Code} {args:List Value} {jE:Value→List Ck→Prop} (hf:P.funcs[f]?=some fn) (hb:fn.body=some c) (hn:fn.ntmps=n) (hlen:Nat.ble args.length n=true)
    (h:∀w0 R,WC P n w0 R (bodyPost P fn (wE P w0 R jE)) c (argsAt 0 args) H):gC P f args H jE:=by
  intro w R hs
  refine calls_of_wp hf hb (h w R _ w ⟨?_,rfl,?_,hs,.refl w⟩)
  · have:=Nat.le_of_ble_eq_true hlen;simp[hn];omega
  · intro t v hv
    have:=(SI args 0 t v hv).2
    simp only[Nat.sub_zero] at this
    have gQ:t<args.length:=(dV.1 this).1
    have h2:(args.toArray++Array.replicate (fn.ntmps-args.toArray.size) undef)[t]?=some v:=by
      rw[Array.getElem?_append_left (by simpa using gQ)]
      simpa using this
    simp only[fj,h2,Option.getD_some]
theorem aa {fn:Func} {jE:Value→List Ck→Prop} {t:Nat} {v:Value} (hr:fn.results=#[.tmp t]) (hv:iF l t=some v) (hp:jE v H):DN P n w0 R (bodyPost P fn (wE P w0 R jE)) .ret l H:=
  fun a w i=>bodyPost_ret (results_tmp hr _ _ _) i.defers ⟨_,H,rfl,by rw[i.kn t v hv];exact hp,i.sat,i.kept⟩
theorem ay {fn:Func} {jE:Value→List Ck→Prop} {t u:Nat} {v x:Value} (hr:fn.results=#[.tmp t,.tmp u]) (hv:iF l t=some v) (hx:iF l u=some x) (hp:jE (.tuple #[v,x]) H):DN P n w0 R (bodyPost P fn (wE P w0 R jE)) .ret l H:=
  fun a w i=>bodyPost_ret (results_tmp2 hr _ _ _) i.defers ⟨_,H,rfl,by rw[i.kn t v hv,i.kn u x hx];exact hp,i.sat,i.kept⟩
theorem results_tmp3 {fn:Func} {t u s:Tmp} (h:fn.results=#[.tmp t,.tmp u,.tmp s]) (tmps:Array Value) (P:Program) (w:World):
    (results fn tmps).run P w=.ok (.tuple #[tmps.getD t undef,tmps.getD u undef,tmps.getD s undef]) w:=by
  simp[results,h]
theorem bO {fn:Func} {jE:Value→List Ck→Prop} {t u s:Nat} {v x y:Value} (hr:fn.results=#[.tmp t,.tmp u,.tmp s]) (hv:iF l t=some v) (hx:iF l u=some x) (hy:iF l s=some y) (hp:jE (.tuple #[v,x,y]) H):DN P n w0 R (bodyPost P fn (wE P w0 R jE)) .ret l H:=
  fun a w i=>bodyPost_ret (results_tmp3 hr _ _ _) i.defers ⟨_,H,rfl,by rw[i.kn t v hv,i.kn u x hx,i.kn s y hy];exact hp,i.sat,i.kept⟩
theorem bl {fn:Func} {jE:Value→List Ck→Prop} (hr:fn.results=#[]) (hp:jE (.tuple #[]) H):DN P n w0 R (bodyPost P fn (wE P w0 R jE)) .normal l H:=
  fun a w i=>bodyPost_end (results_none hr _ _ _) i.defers ⟨_,H,rfl,hp,i.sat,i.kept⟩
theorem DN.O0 {fn:Func} {jE:Value→List Ck→Prop} (hr:fn.results=#[]) (hp:jE (.tuple #[]) H):DN P n w0 R (bodyPost P fn (wE P w0 R jE)) .ret l H:=
  fun a w i=>bodyPost_ret (results_none hr _ _ _) i.defers ⟨_,H,rfl,hp,i.sat,i.kept⟩
def Yd (P:Program) (o:Oper) (l:Sl) (v:Value):Prop:=∀a,Kn a l→∀w,(execOp a.eval o).run P w=.ok (.value v) w
theorem PC {o:Oper} {rest:List Oper} {a:Act} {w jq:World} {v:Value} (hg:o.guard=none) (hr:(execOp a.eval o).run P w=.ok (.value v) jq) (h:wpList P ops Q rest (a.put o.dst v) jq):wpList P ops Q (o::rest) a w:=by
  refine wpList_plain hg fun K hK=>?_
  unfold Oper.wp
  rw[hr]
  exact hK _ _ h
theorem At.put {a:Act} {w:World} (i:At P n w0 R l H a w) {d:Nat} (hd:Nat.blt d n=true) (v:Value):At P n w0 R ((d,v)::l) H (a.put (some d) v) w:=by
  have ML:d<n:=by simpa using hd
  exact ⟨by simp[Act.put,i.size],i.defers,i.kn.put v (by rw[i.size];exact ML),i.sat,i.kept⟩
theorem ae {d:Nat} {op:Op} {ty:TypeId} {pos:String} {gJ:Array Edge} {rest:List Oper} {v:Value} (hd:Nat.blt d n=true) (hy:Yd P ⟨some d,op,ty,pos,gJ,none⟩ l v)
    (h:WL P n w0 R ops Q rest ((d,v)::l) H):WL P n w0 R ops Q (⟨some d,op,ty,pos,gJ,none⟩::rest) l H:=
  fun a w i=>PC rfl (hy a i.kn w) (h _ _ (i.put hd v))
theorem Fv {ops:Array Oper} {d:Option Nat} {j dj:Nat} {b oJ:Bool} {op:Op} {ty:TypeId} {pos:String} {gJ:Array Edge} {tmps:Array Value} (hj:(ops[j]?).bind (·.dst)=some dj) (hv:tmps.getD dj undef=.bool oJ):
    Region.wanted ⟨d,op,ty,pos,gJ,some (j,b)⟩ (yielded ops tmps)=(oJ==b):=by
  simp only[Region.wanted,yielded]
  cases ho:ops[j]? with
  |none=>simp[ho] at hj
  | some oj=>
    simp[ho] at hj
    simp only[fj] at hv
    cases ht:tmps[dj]? with
    |none=>rw[ht] at hv;simp[undef] at hv
    | some u=>
      rw[ht] at hv
      simp at hv
      subst hv
      simp[hj,ht]
theorem WL.gy {d j:Nat} {b:Bool} {dj:Nat} {op:Op} {ty:TypeId} {pos:String} {gJ:Array Edge} {rest:List Oper} {v:Value} (hj:(ops[j]?).bind (·.dst)=some dj) (hg:iF l dj=some (.bool b)) (hd:Nat.blt d n=true) (hy:Yd P ⟨some d,op,ty,pos,gJ,some (j,b)⟩ l v)
    (h:WL P n w0 R ops Q rest ((d,v)::l) H):WL P n w0 R ops Q (⟨some d,op,ty,pos,gJ,some (j,b)⟩::rest) l H:=by
  intro a w i
  refine wpList_step fun K hK=>?_
  have hw:Region.wanted ⟨some d,op,ty,pos,gJ,some (j,b)⟩ (yielded ops a.tmps)=true:=by
    rw[Fv hj (i.kn dj _ hg)];simp
  rw[dx hw]
  unfold Oper.wp
  rw[hy a i.kn w]
  exact hK _ _ (h _ _ (i.put hd v))
theorem WL.gn {d j:Nat} {b oJ:Bool} {dj:Nat} {op:Op} {ty:TypeId} {pos:String} {gJ:Array Edge} {rest:List Oper} (hj:(ops[j]?).bind (·.dst)=some dj) (hg:iF l dj=some (.bool oJ)) (hb:oJ=!b)
    (hd:Nat.blt d n=true) (h:WL P n w0 R ops Q rest ((d,undef)::l) H):WL P n w0 R ops Q (⟨some d,op,ty,pos,gJ,some (j,b)⟩::rest) l H:=by
  intro a w i
  refine wpList_step fun K hK=>?_
  have hw:Region.wanted ⟨some d,op,ty,pos,gJ,some (j,b)⟩ (yielded ops a.tmps)=false:=by
    rw[Fv hj (i.kn dj _ hg),hb];cases b<;>rfl
  rw[hw]
  exact hK _ _ (h _ _ (i.put hd undef))
theorem aG {rest:List Oper} {t:Nat} {b:Bool} (ht:iF l t=some (.bool b)) (h1:b=true→WL P n w0 R ops Q rest ((t,.bool true)::l) H) (h2:b=false→WL P n w0 R ops Q rest ((t,.bool false)::l) H):WL P n w0 R ops Q rest l H:=by
  intro a w i
  have key:∀u,iF l t=some u→At P n w0 R ((t,u)::l) H a w:=fun u hu=>⟨i.size,i.defers,fun s v hv=>by
    rw[pW] at hv
    by_cases e:t=s
    · subst e;simp at hv;subst hv;exact i.kn _ _ hu
    · simp[e] at hv;exact i.kn _ _ hv,i.sat,i.kept⟩
  cases b with
  |true=>exact h1 rfl a w (key _ ht)
  |false=>exact h2 rfl a w (key _ ht)
theorem ag {rest:List Oper} {t:Nat} {p:Prop} [Decidable p] (ht:iF l t=some (.bool (decide p))) (h1:p→WL P n w0 R ops Q rest ((t,.bool true)::l) H) (h2:¬p→WL P n w0 R ops Q rest ((t,.bool false)::l) H):WL P n w0 R ops Q rest l H:=
  aG ht (fun e=>h1 (eR e)) (fun e=>h2 (fV e))
theorem af {rest:List Oper} {t:Nat} {u v:Value} (ht:iF l t=some u) (e:u=v) (h:WL P n w0 R ops Q rest ((t,v)::l) H):WL P n w0 R ops Q rest l H:=by
  subst e
  exact fun a w i=>h a w ⟨i.size,i.defers,fun s v hv=>by
    rw[pW] at hv
    by_cases e:t=s
    · subst e;simp at hv;subst hv;exact i.kn _ _ ht
    · simp[e] at hv;exact i.kn _ _ hv,i.sat,i.kept⟩
def Hd (P:Program) (o:Oper) (l:Sl) (H:List Ck) (K:Next→List Ck→Prop):Prop:=
  ∀a w R,Kn a l→Sat w (H++R)→∃r jq gr,(execOp a.eval o).run P w=.ok r jq∧Sat jq (gr++R)∧Kept w jq∧K r gr
theorem WL.h {d:Nat} {op:Op} {ty:TypeId} {pos:String} {gJ:Array Edge} {rest:List Oper} (hd:Nat.blt d n=true)
    (hh:Hd P ⟨some d,op,ty,pos,gJ,none⟩ l H fun r gr=>∃v,r=.value v∧WL P n w0 R ops Q rest ((d,v)::l) gr):WL P n w0 R ops Q (⟨some d,op,ty,pos,gJ,none⟩::rest) l H:=by
  intro a w i
  obtain ⟨r,jq,gr,hr,hs,hk,v,rfl,hw⟩:=hh a w R i.kn i.sat
  have tk:=i.put hd v
  exact PC rfl hr (hw _ _ ⟨tk.size,tk.defers,tk.kn,hs,i.kept.trans hk⟩)
theorem WL.s {op:Op} {ty:TypeId} {pos:String} {gJ:Array Edge} {rest:List Oper}
    (hh:Hd P ⟨none,op,ty,pos,gJ,none⟩ l H fun r gr=>r=.skip∧WL P n w0 R ops Q rest l gr):WL P n w0 R ops Q (⟨none,op,ty,pos,gJ,none⟩::rest) l H:=by
  intro a w i
  obtain ⟨r,jq,gr,hr,hs,hk,rfl,hw⟩:=hh a w R i.kn i.sat
  refine wpList_plain rfl fun K hK=>?_
  unfold Oper.wp
  rw[hr]
  exact hK _ _ (hw _ _ ⟨i.size,i.defers,i.kn,hs,i.kept.trans hk⟩)
theorem aS {d j:Nat} {b:Bool} {dj:Nat} {op:Op} {ty:TypeId} {pos:String} {gJ:Array Edge} {rest:List Oper} (hj:(ops[j]?).bind (·.dst)=some dj) (hg:iF l dj=some (.bool b)) (hd:Nat.blt d n=true)
    (hh:Hd P ⟨some d,op,ty,pos,gJ,some (j,b)⟩ l H fun r gr=>∃v,r=.value v∧WL P n w0 R ops Q rest ((d,v)::l) gr):WL P n w0 R ops Q (⟨some d,op,ty,pos,gJ,some (j,b)⟩::rest) l H:=by
  intro a w i
  obtain ⟨r,jq,gr,hr,hs,hk,v,rfl,h⟩:=hh a w R i.kn i.sat
  refine wpList_step fun K hK=>?_
  have hw:Region.wanted ⟨some d,op,ty,pos,gJ,some (j,b)⟩ (yielded ops a.tmps)=true:=by
    rw[Fv hj (i.kn dj _ hg)];simp
  rw[dx hw]
  unfold Oper.wp
  rw[hr]
  have tk:=i.put hd v
  exact hK _ _ (h _ _ ⟨tk.size,tk.defers,tk.kn,hs,i.kept.trans hk⟩)
def rN (l:Sl):List Operand→Option (List Value)
  |[]=>some []
  | x::r=>match ev l x,rN l r with
    |some v,some vs=>some (v::vs)
    |_,_=>none
theorem Kn.rN {a:Act} {l:Sl} (k:Kn a l):∀{xs:List Operand} {vs:List Value},rN l xs=some vs→xs.map a.eval=vs
  |[],vs,h=>by simp[SL.rN] at h;simp[h]
  | x ::r,vs,h=>by
    simp only[SL.rN] at h
    split at h
    · rename_i v ahL h1 h2
      simp at h
      subst h
      simp[k.ev h1,Kn.rN k h2]
    · cases h
def iE (P:Program) (o:Oper) (l:Sl) (f:FuncId) (args:List Value):Prop:=∀a,Kn a l→∀w,(execOp a.eval o).run P w=.ok (.enter f args.toArray) w
theorem iE.func {d:Option Nat} {f:FuncId} {xs:List Operand} {qz:Array TypeId} {ty:TypeId} {pos:String} {gJ:Array Edge} {g:Option (Nat×Bool)} {vs:List Value}
    (hc:∀(args:Array Value) (w:World),(callFunc f args).run P w=.ok (.enter f args) w) (hv:rN l xs=some vs):
    iE P ⟨d,.call ⟨.value (.func f),xs.toArray,qz⟩,ty,pos,gJ,g⟩ l f vs:=by
  intro a k w
  have:=k.rN hv
  simp[execOp,resolve,Deferred.ofValue,Act.eval,invoke,this,hc]
theorem WL.c {d:Nat} {op:Op} {ty:TypeId} {pos:String} {gJ:Array Edge} {rest:List Oper} {f:FuncId} {args:List Value} {C D:List Ck} {jE:Value→List Ck→Prop} (hd:Nat.blt d n=true)
    (he:iE P ⟨some d,op,ty,pos,gJ,none⟩ l f args) (hs:gC P f args C jE) (hH:H.Perm (C++D))
    (h:∀v gP,jE v gP→WL P n w0 R ops Q rest ((d,v)::l) (gP++D)):WL P n w0 R ops Q (⟨some d,op,ty,pos,gJ,none⟩::rest) l H:=by
  intro a w i
  refine wpList_plain rfl fun K hK=>?_
  unfold Oper.wp
  rw[he a i.kn w,Oper.upon_enter]
  have zE:Sat w (C++(D++R)):=by
    have:=i.sat.perm (hH.append_right R)
    simpa using this
  refine (hs w (D++R) zE).mono fun e jq ⟨v,gP,vS,hp,oT,hk⟩=>?_
  subst vS
  have tk:=i.put hd v
  exact hK _ _ (h v gP hp _ _ ⟨tk.size,tk.defers,tk.kn,by simpa using oT,i.kept.trans hk⟩)
theorem WL.gc {d j:Nat} {b:Bool} {dj:Nat} {op:Op} {ty:TypeId} {pos:String} {gJ:Array Edge} {rest:List Oper} {f:FuncId} {args:List Value} {C D:List Ck} {jE:Value→List Ck→Prop} (hj:(ops[j]?).bind (·.dst)=some dj) (hg:iF l dj=some (.bool b)) (hd:Nat.blt d n=true)
    (he:iE P ⟨some d,op,ty,pos,gJ,some (j,b)⟩ l f args) (hs:gC P f args C jE) (hH:H.Perm (C++D))
    (h:∀v gP,jE v gP→WL P n w0 R ops Q rest ((d,v)::l) (gP++D)):WL P n w0 R ops Q (⟨some d,op,ty,pos,gJ,some (j,b)⟩::rest) l H:=by
  intro a w i
  refine wpList_step fun K hK=>?_
  have hw:Region.wanted ⟨some d,op,ty,pos,gJ,some (j,b)⟩ (yielded ops a.tmps)=true:=by
    rw[Fv hj (i.kn dj _ hg)];simp
  rw[dx hw]
  unfold Oper.wp
  rw[he a i.kn w,Oper.upon_enter]
  have zE:Sat w (C++(D++R)):=by
    have:=i.sat.perm (hH.append_right R)
    simpa using this
  refine (hs w (D++R) zE).mono fun e jq ⟨v,gP,vS,hp,oT,hk⟩=>?_
  subst vS
  have tk:=i.put hd v
  exact hK _ _ (h v gP hp _ _ ⟨tk.size,tk.defers,tk.kn,by simpa using oT,i.kept.trans hk⟩)
theorem bK {d:Nat} {op:Op} {ty:TypeId} {pos:String} {gJ:Array Edge} {rest:List Oper} {f:FuncId} {args:List Value} {jE:Value→List Ck→Prop} (hd:Nat.blt d n=true)
    (he:iE P ⟨some d,op,ty,pos,gJ,none⟩ l f args) (hs:gC P f args H jE)
    (h:∀v gr,jE v gr→WL P n w0 R ops Q rest ((d,v)::l) gr):WL P n w0 R ops Q (⟨some d,op,ty,pos,gJ,none⟩::rest) l H:=
  WL.c (D:=[]) hd he hs (by simp) fun v gP hp=>by simpa using h v gP hp
def Reads (P:Program) (f:FuncId) (args:List Value) (H:List Ck) (v:Value):Prop:=gC P f args H fun iJ gr=>iJ=v∧gr=H
theorem WL.r {d:Nat} {op:Op} {ty:TypeId} {pos:String} {gJ:Array Edge} {rest:List Oper} {f:FuncId} {args:List Value} {v:Value} (hd:Nat.blt d n=true)
    (he:iE P ⟨some d,op,ty,pos,gJ,none⟩ l f args) (hs:Reads P f args H v) (h:WL P n w0 R ops Q rest ((d,v)::l) H):WL P n w0 R ops Q (⟨some d,op,ty,pos,gJ,none⟩::rest) l H:=
  WL.c (D:=[]) hd he hs (by simp) fun iJ gP ⟨h1,h2⟩=>by subst h1 h2;simpa using h
theorem bq {d j:Nat} {b:Bool} {dj:Nat} {op:Op} {ty:TypeId} {pos:String} {gJ:Array Edge} {rest:List Oper} {f:FuncId} {args:List Value} {v:Value} (hj:(ops[j]?).bind (·.dst)=some dj) (hg:iF l dj=some (.bool b)) (hd:Nat.blt d n=true)
    (he:iE P ⟨some d,op,ty,pos,gJ,some (j,b)⟩ l f args) (hs:Reads P f args H v) (h:WL P n w0 R ops Q rest ((d,v)::l) H):WL P n w0 R ops Q (⟨some d,op,ty,pos,gJ,some (j,b)⟩::rest) l H:=
  WL.gc (D:=[]) hj hg hd he hs (by simp) fun iJ gP ⟨h1,h2⟩=>by subst h1 h2;simpa using h
variable {fuel:Nat} {U5:Array Bool}
def Wt (ops:Array Oper) (l:Sl) (o:Oper):Prop:=∀a,Kn a l→Region.wanted o (yielded ops a.tmps)=true
theorem Wt.none {d:Option Nat} {op:Op} {ty:TypeId} {pos:String} {gJ:Array Edge}:Wt ops l ⟨d,op,ty,pos,gJ,.none⟩:=fun a k=>rfl
theorem aP {d:Option Nat} {op:Op} {ty:TypeId} {pos:String} {gJ:Array Edge} {j dj:Nat} {b:Bool} (hj:(ops[j]?).bind (·.dst)=some dj) (hg:iF l dj=some (.bool b)):Wt ops l ⟨d,op,ty,pos,gJ,some (j,b)⟩:=fun a k=>by
  rw[Fv hj (k dj _ hg)];simp
end rules
end
section
variable {P:Program} {l:Sl} {H:List Ck} {d:Option Nat} {ty:TypeId} {pos:String} {gJ:Array Edge} {g:Option (Nat×Bool)}
def sP (P:Program) (t:TypeId):Bool:=match P.underlying t with|some (.struct _)|some (.array _ _)=>true|some _=>false|none=>true
def me (P:Program) (t:TypeId):Option Nat:=(P.info? t).map (·.size)
def tm (P:Program) (t:TypeId) (s:Nat):Bool:=match P.underlying t with|some (.struct _)|some (.array _ _)=>me P t==some s|_=>false
def qw (P:Program) (t:TypeId):Option IntKind:=match P.underlying t with|some (.int k)=>some k|_=>none
def lk (P:Program) (t:TypeId):Option TypeId:=match P.underlying t with|some (.slice e)=>some e|_=>none
def arrayOf (P:Program) (t:TypeId):Option (Nat×TypeId):=match P.underlying t with|some (.array n e)=>some (n,e)|_=>none
def AI (P:Program) (s f:Nat):Option Nat:=match P.underlying s with
  | some (.struct fs)=>(match fs[f]? with
    |some fl=>(match P.info? fl.type with|some i=>if i.size=0 then none else some fl.offset|none=>none)
    |none=>none)
  |_=>none
def Io (P:Program) (t:TypeId):Option Bool:=match P.underlying t with|some (.struct _)|some (.array _ _)=>some true|some _=>some false|none=>none
def rM (P:Program) (e:TypeId):Option (Nat×List Value×Nat):=match P.info? e with
  |some i=>(match i.zero with|some z=>some (i.size,z.cells.toList,i.bytes)|none=>none)
  |none=>none
theorem Wq {t:TypeId} (h:sP P t=false) (w:World):(isAgg t).run P w=.ok false w:=by
  unfold sP at h
  split at h
  · cases h
  · cases h
  · rename_i x d h1 h2 hu
    simp only[isAgg,underlying]
    simp[hu]
  · cases h
theorem Wr {t:TypeId} {b:Bool} (h:Io P t=some b) (w:World):(isAgg t).run P w=.ok b w:=by
  unfold Io at h
  split at h
  · rename_i fs hu;simp at h;subst h;simp[isAgg,underlying,hu]
  · rename_i n e hu;simp at h;subst h;simp[isAgg,underlying,hu]
  · rename_i x vM h1 h2 hu
    simp at h
    subst h
    simp only[isAgg,underlying]
    simp[hu]
  · cases h
theorem ub {t s:Nat} (h:tm P t s=true) (w:World):(isAgg t).run P w=.ok true w∧(sizeOf t).run P w=.ok s w:=by
  unfold tm me at h
  split at h
  · rename_i fs hu
    simp at h
    obtain ⟨i,hi,hs⟩:=h
    exact ⟨by simp[isAgg,underlying,hu],by simp[sizeOf,typeInfo,hi,hs]⟩
  · rename_i n e hu
    simp at h
    obtain ⟨i,hi,hs⟩:=h
    exact ⟨by simp[isAgg,underlying,hu],by simp[sizeOf,typeInfo,hi,hs]⟩
  · cases h
theorem run_sizeOf {t s:Nat} (h:me P t=some s) (w:World):(sizeOf t).run P w=.ok s w:=by
  simp[me] at h
  obtain ⟨i,hi,hs⟩:=h
  simp[sizeOf,typeInfo,hi,hs]
theorem qR {t e:Nat} (h:lk P t=some e):P.underlying t=some (.slice e):=by
  unfold lk at h;split at h<;>simp_all
theorem HN {t n e:Nat} (h:arrayOf P t=some (n,e)):P.underlying t=some (.array n e):=by
  unfold arrayOf at h;split at h<;>simp_all
theorem Bz {t:Nat} {k:IntKind} (h:qw P t=some k):P.underlying t=some (.int k):=by
  unfold qw at h;split at h<;>simp_all
theorem wrap64_in {n:Int} (h1:-9223372036854775808≤n) (h2:n≤9223372036854775807):IntKind.i64.wrap n=n:=IntWalk.i64_in n ⟨h1,h2⟩
theorem Yd.move {x:Operand} {v:Value} (h:ev l x=some v):Yd P ⟨d,.move x,ty,pos,gJ,g⟩ l v:=fun a k w=>by
  simp[execOp,k.ev h]
theorem Yd.assign {x:Operand} {v:Value} (h:ev l x=some v):Yd P ⟨d,.assign x,ty,pos,gJ,g⟩ l v:=fun a k w=>by
  simp[execOp,k.ev h]
theorem cK {c x y:Operand} {u:Value} (hc:ev l c=some (.bool true)) (hx:ev l x=some u):Yd P ⟨d,.pick c x y,ty,pos,gJ,g⟩ l u:=fun a k w=>by
  simp[execOp,k.ev hc,k.ev hx,asBool]
theorem cO {c x y:Operand} {v:Value} (hc:ev l c=some (.bool false)) (hy:ev l y=some v):Yd P ⟨d,.pick c x y,ty,pos,gJ,g⟩ l v:=fun a k w=>by
  simp[execOp,k.ev hc,k.ev hy,asBool]
theorem Yd.extract {x:Operand} {i:Nat} {vs:Array Value} {v:Value} (hx:ev l x=some (.tuple vs)) (hv:vs[i]?=some v):Yd P ⟨d,.extract x i,ty,pos,gJ,g⟩ l v:=fun a k w=>by
  simp[execOp,k.ev hx,Instr.extract,hv]
theorem cC {x:Operand} {p:Addr} (hx:ev l x=some (.pointer (some p))):Yd P ⟨d,.nilCheck x,ty,pos,gJ,g⟩ l (.pointer (some p)):=fun a k w=>by
  simp[execOp,k.ev hx]
theorem Yd.J8 {x:Operand} {T:TypeId} {b:Bool} (hx:ev l x=some (.bool b)):Yd P ⟨d,.unOp .not T x,ty,pos,gJ,g⟩ l (.bool (!b)):=fun a k w=>by
  simp[execOp,k.ev hx,Op.unary]
theorem Yd.len {x:Operand} {T:TypeId} {e:TypeId} {ao:Option Addr} {n c:Nat} (hT:lk P T=some e) (hx:ev l x=some (.slice ao n c)):Yd P ⟨d,.call ⟨.builtin .len,#[x],#[T]⟩,ty,pos,gJ,g⟩ l (.int .i64 n):=fun a k w=>by
  simp[execOp,resolve,invoke,builtin,k.ev hx,Builtin.len_,dP (qR hT),goInt]
theorem Yd.Oa {x:Operand} {T:TypeId} {s:ByteArray} (hT:P.underlying T=some .string) (hx:ev l x=some (.string s)):Yd P ⟨d,.call ⟨.builtin .len,#[x],#[T]⟩,ty,pos,gJ,g⟩ l (.int .i64 s.size):=fun a k w=>by
  simp[execOp,resolve,invoke,builtin,k.ev hx,Builtin.len_,dP hT,goInt]
theorem add_plain (b o n:Nat):(⟨b,o,none⟩:Addr).add n=⟨b,o+n,none⟩:=by
  unfold Addr.add;split<;>simp_all
theorem Yd.fieldAddr {x:Operand} {S f b o k:Nat} (hf:AI P S f=some k) (hx:ev l x=some (.pointer (some ⟨b,o,none⟩))):Yd P ⟨d,.fieldAddr S x f,ty,pos,gJ,g⟩ l (.pointer (some ⟨b,o+k,none⟩)):=fun a kn w=>by
  unfold AI at hf
  split at hf
  · rename_i fs hu
    split at hf
    · rename_i fl zl
      split at hf
      · rename_i i hi
        split at hf
        · cases hf
        · rename_i hz
          simp at hf
          subst hf
          simp[execOp,kn.ev hx,Instr.fieldAt,dP hu,zl,Instr.sureAddr,fieldPlace,sizeOf,typeInfo,hi,hz,add_plain]
      · cases hf
    · cases hf
  · cases hf
theorem Yd.indexAddr {x y:Operand} {T e s b o n c:Nat} {k:IntKind} {m:Int} (hT:lk P T=some e) (hs:me P e=some s) (hx:ev l x=some (.slice (some ⟨b,o,none⟩) n c)) (hy:ev l y=some (.int k m)) (h0:0≤m) (hm:m<n):
    Yd P ⟨d,.indexAddr T x y,ty,pos,gJ,g⟩ l (.pointer (some ⟨b,o+m.toNat*s,none⟩)):=fun a kn w=>by
  simp[execOp,kn.ev hx,kn.ev hy,Instr.indexAt,asIntOf,dP (qR hT),run_sizeOf hs,h0,hm,add_plain]
theorem aN {x y:Operand} {T e s b o n:Nat} {k:IntKind} {m:Int} (hT:arrayOf P T=some (n,e)) (hs:me P e=some s) (hx:ev l x=some (.pointer (some ⟨b,o,none⟩))) (hy:ev l y=some (.int k m)) (h0:0≤m) (hm:m<n):
    Yd P ⟨d,.indexAddr T x y,ty,pos,gJ,g⟩ l (.pointer (some ⟨b,o+m.toNat*s,none⟩)):=fun a kn w=>by
  simp[execOp,kn.ev hx,kn.ev hy,Instr.indexAt,asIntOf,dP (HN hT),run_sizeOf hs,Instr.sureAddr,h0,hm,add_plain]
theorem Yd.slice {x:Operand} {lo hi:Option Operand} {T e s:Nat} {ao:Option Addr} {n c:Nat} {i j:Nat} (hT:lk P T=some e) (hs:me P e=some s) (hx:ev l x=some (.slice ao n c))
    (hl:match lo with|none=>i=0|some y=>∃k m,ev l y=some (.int k m)∧m=(i:Int)) (hh:match hi with|none=>j=n|some y=>∃k m,ev l y=some (.int k m)∧m=(j:Int)) (h1:i≤j) (h2:j≤c):
    Yd P ⟨d,.slice T x lo hi none,ty,pos,gJ,g⟩ l (.slice (if c=i then ao else ao.map (·.add (i*s))) (j-i) (c-i)):=fun a kn w=>by
  have hu:=dP (qR hT)
  have ho:∀(y:Operand) (k:IntKind) (m:Int),ev l y=some (.int k m)→a.eval y=.int k m:=fun y k m h=>kn.ev h
  cases lo with
  | none=>
    subst hl
    cases hi with
    |none=>subst hh;simp[execOp,kn.ev hx,Instr.sliceAt,Instr.slice,hu,Instr.sliceBounds,run_sizeOf hs]
    | some y=>
      obtain ⟨k,m,hy,rfl⟩:=hh
      simp[execOp,kn.ev hx,Instr.sliceAt,Instr.slice,hu,Instr.sliceBounds,Instr.sliceBound,asIntOf,ho y k _ hy,run_sizeOf hs,Int.ofNat_le,h1,h2]
  | some z=>
    obtain ⟨lS,im,hz,rfl⟩:=hl
    cases hi with
    |none=>subst hh;simp[execOp,kn.ev hx,Instr.sliceAt,Instr.slice,hu,Instr.sliceBounds,Instr.sliceBound,asIntOf,ho z lS _ hz,run_sizeOf hs,Int.ofNat_le,h1,h2]
    | some y=>
      obtain ⟨k,m,hy,rfl⟩:=hh
      simp[execOp,kn.ev hx,Instr.sliceAt,Instr.slice,hu,Instr.sliceBounds,Instr.sliceBound,asIntOf,ho y k _ hy,ho z lS _ hz,run_sizeOf hs,Int.ofNat_le,h1,h2]
theorem afM (op:BinOp) (T:TypeId) (x y:Operand) (k lS:IntKind) (m im:Int) (w:World):(eqGuard op T x y (.int k m) (.int lS im)).run P w=.ok () w:=by
  cases op<;>rfl
theorem bx {op:BinOp} {T gV:TypeId} {x y:Operand} {k:IntKind} {m im:Int} {v:Value} (hx:ev l x=some (.int k m)) (hy:ev l y=some (.int k im)) (hr:∀w,(binOp op T (.int k m) (.int k im)).run P w=.ok v w):Yd P ⟨d,.binOp op T x y gV,ty,pos,gJ,g⟩ l v:=fun a kn w=>by
  simp only[execOp,kn.ev hx,kn.ev hy,Sem.run_bind,afM,fT,hr,Sem.run_pure]
theorem Yd.add {T gV:TypeId} {x y:Operand} {m im:Int} (hx:ev l x=some (.int .i64 m)) (hy:ev l y=some (.int .i64 im)) (h1:-9223372036854775808≤m+im) (h2:m+im≤9223372036854775807):Yd P ⟨d,.binOp .add T x y gV,ty,pos,gJ,g⟩ l (.int .i64 (m+im)):=
  bx hx hy fun w=>by simp[binOp,Op.intArith,wrap64_in h1 h2]
theorem Yd.sub {T gV:TypeId} {x y:Operand} {m im:Int} (hx:ev l x=some (.int .i64 m)) (hy:ev l y=some (.int .i64 im)) (h1:-9223372036854775808≤m-im) (h2:m-im≤9223372036854775807):Yd P ⟨d,.binOp .sub T x y gV,ty,pos,gJ,g⟩ l (.int .i64 (m-im)):=
  bx hx hy fun w=>by simp[binOp,Op.intArith,wrap64_in h1 h2]
theorem Yd.mul {T gV:TypeId} {x y:Operand} {m im:Int} (hx:ev l x=some (.int .i64 m)) (hy:ev l y=some (.int .i64 im)) (h1:-9223372036854775808≤m*im) (h2:m*im≤9223372036854775807):Yd P ⟨d,.binOp .mul T x y gV,ty,pos,gJ,g⟩ l (.int .i64 (m*im)):=
  bx hx hy fun w=>by simp[binOp,Op.intArith,wrap64_in h1 h2]
theorem Yd.quo {T gV:TypeId} {x y:Operand} {m im:Int} (hx:ev l x=some (.int .i64 m)) (hy:ev l y=some (.int .i64 im)) (h0:0≤m) (h2:m≤9223372036854775807) (h1:1≤im):Yd P ⟨d,.binOp .quo T x y gV,ty,pos,gJ,g⟩ l (.int .i64 (m/im)):=
  bx hx hy fun w=>by
    have jk:¬im=0:=by omega
    simp[binOp,Op.intDiv,jk,IntWalk.i64_quo m im ⟨h0,h2,h1⟩]
theorem Yd.rem {T gV:TypeId} {x y:Operand} {m im:Int} (hx:ev l x=some (.int .i64 m)) (hy:ev l y=some (.int .i64 im)) (h0:0≤m) (h1:1≤im):Yd P ⟨d,.binOp .rem T x y gV,ty,pos,gJ,g⟩ l (.int .i64 (m%im)):=
  bx hx hy fun w=>by
    have jk:¬im=0:=by omega
    simp[binOp,Op.intDiv,jk,Int.tmod_eq_emod_of_nonneg h0]
theorem Yd.lss {T gV:TypeId} {x y:Operand} {k:IntKind} {m im:Int} (hx:ev l x=some (.int k m)) (hy:ev l y=some (.int k im)):Yd P ⟨d,.binOp .lss T x y gV,ty,pos,gJ,g⟩ l (.bool (decide (m<im))):=
  bx hx hy fun w=>by simp[binOp,Op.intCmp]
theorem Yd.leq {T gV:TypeId} {x y:Operand} {k:IntKind} {m im:Int} (hx:ev l x=some (.int k m)) (hy:ev l y=some (.int k im)):Yd P ⟨d,.binOp .leq T x y gV,ty,pos,gJ,g⟩ l (.bool (decide (m≤im))):=
  bx hx hy fun w=>by simp[binOp,Op.intCmp]
theorem Yd.gtr {T gV:TypeId} {x y:Operand} {k:IntKind} {m im:Int} (hx:ev l x=some (.int k m)) (hy:ev l y=some (.int k im)):Yd P ⟨d,.binOp .gtr T x y gV,ty,pos,gJ,g⟩ l (.bool (decide (im<m))):=
  bx hx hy fun w=>by simp[binOp,Op.intCmp]
theorem Yd.geq {T gV:TypeId} {x y:Operand} {k:IntKind} {m im:Int} (hx:ev l x=some (.int k m)) (hy:ev l y=some (.int k im)):Yd P ⟨d,.binOp .geq T x y gV,ty,pos,gJ,g⟩ l (.bool (decide (im≤m))):=
  bx hx hy fun w=>by simp[binOp,Op.intCmp]
theorem Yd.eql {T gV:TypeId} {x y:Operand} {k:IntKind} {m im:Int} (hx:ev l x=some (.int k m)) (hy:ev l y=some (.int k im)):Yd P ⟨d,.binOp .eql T x y gV,ty,pos,gJ,g⟩ l (.bool (decide (m=im))):=
  bx hx hy fun w=>by simp[binOp,Op.intCmp];rfl
theorem Yd.neq {T gV:TypeId} {x y:Operand} {k:IntKind} {m im:Int} (hx:ev l x=some (.int k m)) (hy:ev l y=some (.int k im)):Yd P ⟨d,.binOp .neq T x y gV,ty,pos,gJ,g⟩ l (.bool (decide (m≠im))):=
  bx hx hy fun w=>by
    simp[binOp,Op.intCmp,bne]
    by_cases h:m=im<;>simp[h]
theorem bQ {x:Operand} {S T:TypeId} {k:IntKind} {m:Int} (hS:(P.underlying S).isSome=true) (hT:qw P T=some .i64) (hx:ev l x=some (.int k m)) (h1:-9223372036854775808≤m) (h2:m≤9223372036854775807):Yd P ⟨d,.convert S T x,ty,pos,gJ,g⟩ l (.int .i64 m):=fun a kn w=>by
  obtain ⟨dS,jX⟩:=Option.isSome_iff_exists.mp hS
  simp[execOp,kn.ev hx,convert,dP jX,dP (Bz hT),Conv.intToInt,wrap64_in h1 h2]
theorem run_equal_bool {T:TypeId} (hT:P.underlying T=some .bool) (a b:Bool) (w:World):(Op.equal T (.bool a) (.bool b)).run P w=.ok (a==b) w:=by
  have h:∀d,(Op.equalIn (d+1) T (.bool a) (.bool b)).run P w=.ok (a==b) w:=fun d=>by simp[Op.equalIn,dP hT]
  exact h 9999
theorem Wn {T e:TypeId} (hT:P.underlying T=some (.pointer e)) (p:Option Addr) (w:World):(Op.equal T (.pointer p) (.pointer none)).run P w=.ok p.isNone w:=by
  have h:∀d,(Op.equalIn (d+1) T (.pointer p) (.pointer none)).run P w=.ok p.isNone w:=fun d=>by cases p<;>simp[Op.equalIn,dP hT]
  exact h 9999
theorem Yd.R1 {T gV:TypeId} {x y:Operand} {b oJ:Bool} (hT:P.underlying T=some .bool) (hx:ev l x=some (.bool b)) (hy:ev l y=some (.bool oJ)):Yd P ⟨d,.binOp .eql T x y gV,ty,pos,gJ,g⟩ l (.bool (b==oJ)):=fun a kn w=>by
  have:(eqGuard .eql T x y (.bool b) (.bool oJ)).run P w=.ok () w:=by unfold eqGuard;simp
  simp[execOp,kn.ev hx,kn.ev hy,this,binOp,run_equal_bool hT]
theorem Yd.Vo {T gV:TypeId} {x y:Operand} {b oJ:Bool} (hT:P.underlying T=some .bool) (hx:ev l x=some (.bool b)) (hy:ev l y=some (.bool oJ)):Yd P ⟨d,.binOp .neq T x y gV,ty,pos,gJ,g⟩ l (.bool (!(b==oJ))):=fun a kn w=>by
  have:(eqGuard .neq T x y (.bool b) (.bool oJ)).run P w=.ok () w:=by unfold eqGuard;simp
  simp[execOp,kn.ev hx,kn.ev hy,this,binOp,run_equal_bool hT]
theorem an {T gV e:TypeId} {x y:Operand} {p:Option Addr} (hT:P.underlying T=some (.pointer e)) (hx:ev l x=some (.pointer p)) (hy:ev l y=some (.pointer none)):Yd P ⟨d,.binOp .eql T x y gV,ty,pos,gJ,g⟩ l (.bool p.isNone):=fun a kn w=>by
  have:(eqGuard .eql T x y (.pointer p) (.pointer none)).run P w=.ok () w:=by unfold eqGuard;simp
  cases p<;>simp[execOp,kn.ev hx,kn.ev hy,this,binOp,Wn hT]
theorem aK {T gV e:TypeId} {x y:Operand} {p:Option Addr} (hT:P.underlying T=some (.pointer e)) (hx:ev l x=some (.pointer p)) (hy:ev l y=some (.pointer none)):Yd P ⟨d,.binOp .neq T x y gV,ty,pos,gJ,g⟩ l (.bool p.isSome):=fun a kn w=>by
  have:(eqGuard .neq T x y (.pointer p) (.pointer none)).run P w=.ok () w:=by unfold eqGuard;simp
  cases p<;>simp[execOp,kn.ev hx,kn.ev hy,this,binOp,Wn hT]
theorem cg {x y:Operand} {Ts:Array TypeId} {k lS:IntKind} {m im:Int} (hx:ev l x=some (.int k m)) (hy:ev l y=some (.int lS im)):Yd P ⟨d,.call ⟨.builtin .min,#[x,y],Ts⟩,ty,pos,gJ,g⟩ l (.int k (min m im)):=fun a kn w=>by
  have:(if im<m then im else m)=min m im:=by simp only[Int.min_def];split<;>split<;>omega
  simp[execOp,resolve,invoke,builtin,kn.ev hx,kn.ev hy,Builtin.min_,Builtin.min2,this]
theorem cF {x y:Operand} {Ts:Array TypeId} {k lS:IntKind} {m im:Int} (hx:ev l x=some (.int k m)) (hy:ev l y=some (.int lS im)):Yd P ⟨d,.call ⟨.builtin .max,#[x,y],Ts⟩,ty,pos,gJ,g⟩ l (.int k (max m im)):=fun a kn w=>by
  have:(if im>m then im else m)=max m im:=by simp only[Int.max_def];split<;>split<;>omega
  simp[execOp,resolve,invoke,builtin,kn.ev hx,kn.ev hy,Builtin.max_,Builtin.max2,this]
theorem ah4 (n:Int):IntKind.u8.wrap n=((BitVec.ofInt 8 n).toNat:Int):=by
  simp[IntKind.wrap,IntKind.bits,IntKind.signed,dX]
  omega
theorem Yd.R0 {T gV:TypeId} {x y:Operand} {m im:Int} (p q:BitVec 8) (hx:ev l x=some (.int .u8 m)) (hy:ev l y=some (.int .u8 im)) (hm:m=(p.toNat:Int)) (lD:im=(q.toNat:Int)):Yd P ⟨d,.binOp .eql T x y gV,ty,pos,gJ,g⟩ l (.bool (decide (p=q))):=by
  have h:=Yd.eql (P:=P) (d:=d) (ty:=ty) (pos:=pos) (gJ:=gJ) (g:=g) (T:=T) (gV:=gV) hx hy
  have e:decide (m=im)=decide (p=q):=by subst hm lD;rw[decide_eq_decide];exact ⟨fun h=>dB gz,fun h=>by rw[h]⟩
  rw[e] at h;exact h
theorem Yd.aeB {T gV:TypeId} {x y:Operand} {m im:Int} (p q:BitVec 8) (hx:ev l x=some (.int .u8 m)) (hy:ev l y=some (.int .u8 im)) (hm:m=(p.toNat:Int)) (lD:im=(q.toNat:Int)):Yd P ⟨d,.binOp .neq T x y gV,ty,pos,gJ,g⟩ l (.bool (decide (p≠q))):=by
  have h:=Yd.neq (P:=P) (d:=d) (ty:=ty) (pos:=pos) (gJ:=gJ) (g:=g) (T:=T) (gV:=gV) hx hy
  have e:decide (m≠im)=decide (p≠q):=by subst hm lD;rw[decide_eq_decide];exact ⟨fun h e=>h (by rw[e]),fun h e=>h (dB gz)⟩
  rw[e] at h;exact h
theorem bT {x:Operand} {S T:TypeId} {lS:IntKind} {m:Int} (p:BitVec 8) (hS:(P.underlying S).isSome=true) (hT:qw P T=some .u8) (hx:ev l x=some (.int lS m)) (hp:BitVec.ofInt 8 m=p):Yd P ⟨d,.convert S T x,ty,pos,gJ,g⟩ l (.int .u8 (p.toNat:Int)):=fun a kn w=>by
  obtain ⟨dS,jX⟩:=Option.isSome_iff_exists.mp hS
  subst hp
  simp[execOp,kn.ev hx,convert,dP jX,dP (Bz hT),Conv.intToInt,ah4]
theorem ah3 (n:Int):IntKind.u16.wrap n=((BitVec.ofInt 16 n).toNat:Int):=by
  simp[IntKind.wrap,IntKind.bits,IntKind.signed,dX]
  omega
theorem Yd.aeA {T gV:TypeId} {x y:Operand} {m im:Int} (p q:BitVec 16) (hx:ev l x=some (.int .u16 m)) (hy:ev l y=some (.int .u16 im)) (hm:m=(p.toNat:Int)) (lD:im=(q.toNat:Int)):Yd P ⟨d,.binOp .neq T x y gV,ty,pos,gJ,g⟩ l (.bool (decide (p≠q))):=by
  have h:=Yd.neq (P:=P) (d:=d) (ty:=ty) (pos:=pos) (gJ:=gJ) (g:=g) (T:=T) (gV:=gV) hx hy
  have e:decide (m≠im)=decide (p≠q):=by subst hm lD;rw[decide_eq_decide];exact ⟨fun h e=>h (by rw[e]),fun h e=>h (dB gz)⟩
  rw[e] at h;exact h
theorem Yd.Pp {x:Operand} {S T:TypeId} {lS:IntKind} {m:Int} (p:BitVec 16) (hS:(P.underlying S).isSome=true) (hT:qw P T=some .u16) (hx:ev l x=some (.int lS m)) (hp:BitVec.ofInt 16 m=p):Yd P ⟨d,.convert S T x,ty,pos,gJ,g⟩ l (.int .u16 (p.toNat:Int)):=fun a kn w=>by
  obtain ⟨dS,jX⟩:=Option.isSome_iff_exists.mp hS
  subst hp
  simp[execOp,kn.ev hx,convert,dP jX,dP (Bz hT),Conv.intToInt,ah3]
theorem KD (n:Int):IntKind.u32.wrap n=((BitVec.ofInt 32 n).toNat:Int):=by
  simp[IntKind.wrap,IntKind.bits,IntKind.signed,dX]
  omega
theorem Dn (x:BitVec 32):BitVec.ofInt 32 (x.toNat:Int)=x:=by
  apply dB
  simp[dX]
theorem Lj (op:BinOp) (x y:BitVec 32) (z:BitVec 32) (h:match op with| .and=>z=x&&& y| .or=>z=x|||y| .xor=>z=x ^^^ y| .andNot=>z=x&&& ~~~y|_=>False) (w:World):
    (Op.intBits op .u32 (x.toNat:Int) (y.toNat:Int)).run P w=.ok (.int .u32 (z.toNat:Int)) w:=by
  have e:∀z:BitVec 32,IntKind.u32.wrap (z.toNat:Int)=(z.toNat:Int):=fun z=>by rw[KD,Dn]
  cases op<;>first|exact h.elim|skip
  all_goals
    simp only at h
    subst h
    have hx:=Dn x
    have hy:=Dn y
    simp only[Op.intBits,IntKind.bits]
    rw[hx,hy,e]
    rfl
theorem cw (p:BitVec 32): ~~~p=BitVec.allOnes 32 ^^^ p:=by
  rw[BitVec.allOnes_xor]
theorem Yd.Yo {T gV:TypeId} {x y:Operand} {m im:Int} (p q:BitVec 32) (hx:ev l x=some (.int .u32 m)) (hy:ev l y=some (.int .u32 im)) (hm:m=(p.toNat:Int)) (lD:im=(q.toNat:Int)):Yd P ⟨d,.binOp .and T x y gV,ty,pos,gJ,g⟩ l (.int .u32 ((p&&& q).toNat:Int)):=by
  subst hm lD;exact bx hx hy fun w=>by simp[binOp];exact Lj .and p q _ rfl w
theorem Yd.XH {T gV:TypeId} {x y:Operand} {m im:Int} (p q:BitVec 32) (hx:ev l x=some (.int .u32 m)) (hy:ev l y=some (.int .u32 im)) (hm:m=(p.toNat:Int)) (lD:im=(q.toNat:Int)):Yd P ⟨d,.binOp .xor T x y gV,ty,pos,gJ,g⟩ l (.int .u32 ((p ^^^ q).toNat:Int)):=by
  subst hm lD;exact bx hx hy fun w=>by simp[binOp];exact Lj .xor p q _ rfl w
theorem Yd.Vu {T:TypeId} {x:Operand} {m:Int} (p:BitVec 32) (hx:ev l x=some (.int .u32 m)) (hm:m=(p.toNat:Int)):Yd P ⟨d,.unOp .xor T x,ty,pos,gJ,g⟩ l (.int .u32 ((~~~p).toNat:Int)):=fun a kn w=>by
  subst hm
  have h:=Lj (P:=P) .xor (BitVec.allOnes 32) p (~~~p) (cw p) w
  have e:((BitVec.allOnes 32).toNat:Int)=IntKind.u32.max:=by decide
  rw[e] at h
  simp[execOp,kn.ev hx,Op.unary,IntKind.signed,h]
theorem Yd.KY {T gV:TypeId} {x y:Operand} {m im:Int} (p q:BitVec 32) (hx:ev l x=some (.int .u32 m)) (hy:ev l y=some (.int .u32 im)) (hm:m=(p.toNat:Int)) (lD:im=(q.toNat:Int)):Yd P ⟨d,.binOp .add T x y gV,ty,pos,gJ,g⟩ l (.int .u32 ((p+q).toNat:Int)):=by
  subst hm lD
  exact bx hx hy fun w=>by
    have:BitVec.ofInt 32 ((p.toNat:Int)+(q.toNat:Int))=p+q:=by rw[BitVec.ofInt_add,Dn,Dn]
    simp[binOp,Op.intArith,KD,this]
theorem cN {T gV:TypeId} {x y:Operand} {m im:Int} (p q:BitVec 32) (hx:ev l x=some (.int .u32 m)) (hy:ev l y=some (.int .u32 im)) (hm:m=(p.toNat:Int)) (lD:im=(q.toNat:Int)):Yd P ⟨d,.binOp .sub T x y gV,ty,pos,gJ,g⟩ l (.int .u32 ((p-q).toNat:Int)):=by
  subst hm lD
  exact bx hx hy fun w=>by
    have:BitVec.ofInt 32 ((p.toNat:Int)-(q.toNat:Int))=p-q:=by rw[Int.sub_eq_add_neg,BitVec.ofInt_add,BitVec.ofInt_neg,Dn,Dn,←BitVec.sub_eq_add_neg]
    simp[binOp,Op.intArith,KD,this]
theorem Yd.WK {T gV:TypeId} {x y:Operand} {lS:IntKind} {m im:Int} (p:BitVec 32) (s:Nat) (hx:ev l x=some (.int .u32 m)) (hy:ev l y=some (.int lS im)) (hm:m=(p.toNat:Int)) (lD:im=(s:Int)):Yd P ⟨d,.binOp .shr T x y gV,ty,pos,gJ,g⟩ l (.int .u32 ((p>>>s).toNat:Int)):=fun a kn w=>by
  subst hm lD
  have nC:(eqGuard .shr T x y (.int .u32 (p.toNat:Int)) (.int lS (s:Int))).run P w=.ok () w:=by unfold eqGuard;simp
  have zw:¬((s:Int)<0):=by omega
  have e:(p.toNat:Int).fdiv (2 ^ (min s 32))=((p>>>s).toNat:Int):=by
    have h2:((2:Int) ^ (min s 32))=((2 ^ (min s 32):Nat):Int):=by simp
    rw[h2,Int.fdiv_eq_ediv_of_nonneg _ (Int.natCast_nonneg _),←Int.natCast_ediv]
    congr 1
    simp only[fe,eZ]
    by_cases h:s≤32
    · rw[eE h]
    · rw[Nat.min_eq_right gz,Nat.div_eq_of_lt p.isLt,Nat.div_eq_of_lt]
      exact Nat.lt_of_lt_of_le p.isLt (Nat.pow_le_pow_right gz gz)
  simp only[execOp,kn.ev hx,kn.ev hy]
  simp[nC,binOp,Op.shift,zw,IntKind.bits,e]
theorem aD {T gV:TypeId} {x y:Operand} {m im:Int} (p q:BitVec 32) (hx:ev l x=some (.int .u32 m)) (hy:ev l y=some (.int .u32 im)) (hm:m=(p.toNat:Int)) (lD:im=(q.toNat:Int)):Yd P ⟨d,.binOp .eql T x y gV,ty,pos,gJ,g⟩ l (.bool (decide (p=q))):=by
  have h:=Yd.eql (P:=P) (d:=d) (ty:=ty) (pos:=pos) (gJ:=gJ) (g:=g) (T:=T) (gV:=gV) hx hy
  have e:decide (m=im)=decide (p=q):=by subst hm lD;rw[decide_eq_decide];exact ⟨fun h=>dB gz,fun h=>by rw[h]⟩
  rw[e] at h;exact h
theorem bZ {T gV:TypeId} {x y:Operand} {m im:Int} (p q:BitVec 32) (hx:ev l x=some (.int .u32 m)) (hy:ev l y=some (.int .u32 im)) (hm:m=(p.toNat:Int)) (lD:im=(q.toNat:Int)):Yd P ⟨d,.binOp .neq T x y gV,ty,pos,gJ,g⟩ l (.bool (decide (p≠q))):=by
  have h:=Yd.neq (P:=P) (d:=d) (ty:=ty) (pos:=pos) (gJ:=gJ) (g:=g) (T:=T) (gV:=gV) hx hy
  have e:decide (m≠im)=decide (p≠q):=by subst hm lD;rw[decide_eq_decide];exact ⟨fun h e=>h (by rw[e]),fun h e=>h (dB gz)⟩
  rw[e] at h;exact h
theorem Yd.Kz {x:Operand} {S T:TypeId} {lS:IntKind} {m:Int} (p:BitVec 32) (hS:(P.underlying S).isSome=true) (hT:qw P T=some .u32) (hx:ev l x=some (.int lS m)) (hp:BitVec.ofInt 32 m=p):Yd P ⟨d,.convert S T x,ty,pos,gJ,g⟩ l (.int .u32 (p.toNat:Int)):=fun a kn w=>by
  obtain ⟨dS,jX⟩:=Option.isSome_iff_exists.mp hS
  subst hp
  simp[execOp,kn.ev hx,convert,dP jX,dP (Bz hT),Conv.intToInt,KD]
theorem HT (n:Int):IntKind.u64.wrap n=((BitVec.ofInt 64 n).toNat:Int):=by
  simp[IntKind.wrap,IntKind.bits,IntKind.signed,dX]
  omega
theorem Dp (x:BitVec 64):BitVec.ofInt 64 (x.toNat:Int)=x:=by
  apply dB
  simp[dX]
theorem YV (op:BinOp) (x y:BitVec 64) (z:BitVec 64) (h:match op with| .and=>z=x&&& y| .or=>z=x|||y| .xor=>z=x ^^^ y| .andNot=>z=x&&& ~~~y|_=>False) (w:World):
    (Op.intBits op .u64 (x.toNat:Int) (y.toNat:Int)).run P w=.ok (.int .u64 (z.toNat:Int)) w:=by
  have e:∀z:BitVec 64,IntKind.u64.wrap (z.toNat:Int)=(z.toNat:Int):=fun z=>by rw[HT,Dp]
  cases op<;>first|exact h.elim|skip
  all_goals
    simp only at h
    subst h
    have hx:=Dp x
    have hy:=Dp y
    simp only[Op.intBits,IntKind.bits]
    rw[hx,hy,e]
    rfl
theorem Yd.OE {T gV:TypeId} {x y:Operand} {m im:Int} (p q:BitVec 64) (hx:ev l x=some (.int .u64 m)) (hy:ev l y=some (.int .u64 im)) (hm:m=(p.toNat:Int)) (lD:im=(q.toNat:Int)):Yd P ⟨d,.binOp .or T x y gV,ty,pos,gJ,g⟩ l (.int .u64 ((p|||q).toNat:Int)):=by
  subst hm lD;exact bx hx hy fun w=>by simp[binOp];exact YV .or p q _ rfl w
theorem aY {T gV:TypeId} {x y:Operand} {m im:Int} (p q:BitVec 64) (hx:ev l x=some (.int .u64 m)) (hy:ev l y=some (.int .u64 im)) (hm:m=(p.toNat:Int)) (lD:im=(q.toNat:Int)):Yd P ⟨d,.binOp .add T x y gV,ty,pos,gJ,g⟩ l (.int .u64 ((p+q).toNat:Int)):=by
  subst hm lD
  exact bx hx hy fun w=>by
    have:BitVec.ofInt 64 ((p.toNat:Int)+(q.toNat:Int))=p+q:=by rw[BitVec.ofInt_add,Dp,Dp]
    simp[binOp,Op.intArith,HT,this]
theorem aL {T gV:TypeId} {x y:Operand} {m im:Int} (p q:BitVec 64) (hx:ev l x=some (.int .u64 m)) (hy:ev l y=some (.int .u64 im)) (hm:m=(p.toNat:Int)) (lD:im=(q.toNat:Int)):Yd P ⟨d,.binOp .sub T x y gV,ty,pos,gJ,g⟩ l (.int .u64 ((p-q).toNat:Int)):=by
  subst hm lD
  exact bx hx hy fun w=>by
    have:BitVec.ofInt 64 ((p.toNat:Int)-(q.toNat:Int))=p-q:=by rw[Int.sub_eq_add_neg,BitVec.ofInt_add,BitVec.ofInt_neg,Dp,Dp,←BitVec.sub_eq_add_neg]
    simp[binOp,Op.intArith,HT,this]
theorem Yd.afu {T gV:TypeId} {x y:Operand} {m im:Int} (p q:BitVec 64) (hx:ev l x=some (.int .u64 m)) (hy:ev l y=some (.int .u64 im)) (hm:m=(p.toNat:Int)) (lD:im=(q.toNat:Int)) (h0:q.toNat≠0):Yd P ⟨d,.binOp .rem T x y gV,ty,pos,gJ,g⟩ l (.int .u64 ((p%q).toNat:Int)):=by
  subst hm lD
  exact bx hx hy fun w=>by
    have jk:¬((q.toNat:Int)=0):=by omega
    have e:(p.toNat:Int).tmod (q.toNat:Int)=(((p%q).toNat:Nat):Int):=by
      rw[Int.tmod_eq_emod_of_nonneg gz,BitVec.toNat_umod];rfl
    simp only[binOp,Op.intDiv,dp jk]
    simp[e]
theorem Yd.Ph {T gV:TypeId} {x y:Operand} {lS:IntKind} {m im:Int} (p:BitVec 64) (s:Nat) (hx:ev l x=some (.int .u64 m)) (hy:ev l y=some (.int lS im)) (hm:m=(p.toNat:Int)) (lD:im=(s:Int)):Yd P ⟨d,.binOp .shl T x y gV,ty,pos,gJ,g⟩ l (.int .u64 ((p<<<s).toNat:Int)):=fun a kn w=>by
  subst hm lD
  have nC:(eqGuard .shl T x y (.int .u64 (p.toNat:Int)) (.int lS (s:Int))).run P w=.ok () w:=by unfold eqGuard;simp
  have zw:¬((s:Int)<0):=by omega
  have e:IntKind.u64.wrap ((p.toNat:Int)*2 ^ (min s 64))=((p<<<s).toNat:Int):=by
    rw[HT]
    congr 1
    have h2:((p.toNat:Int)*2 ^ (min s 64))=((p.toNat*2 ^ (min s 64):Nat):Int):=by simp
    rw[h2]
    simp only[dX,BitVec.toNat_shiftLeft,Nat.shiftLeft_eq]
    rw[show ((2 ^ 64:Nat):Int)=((2 ^ 64:Nat):Int) from rfl,←Int.natCast_emod,Int.toNat_natCast]
    by_cases h:s≤64
    · rw[eE h]
    · rw[Nat.min_eq_right gz]
      have h3:p.toNat*2 ^ s=p.toNat*2 ^ (s-64)*2 ^ 64:=by
        rw[Nat.mul_assoc,←Nat.pow_add];congr 2;omega
      rw[h3,Nat.mul_mod_left,Nat.mul_mod_left]
  simp only[execOp,kn.ev hx,kn.ev hy]
  simp[nC,binOp,Op.shift,zw,IntKind.bits,e]
theorem cJ {T gV:TypeId} {x y:Operand} {lS:IntKind} {m im:Int} (p:BitVec 64) (s:Nat) (hx:ev l x=some (.int .u64 m)) (hy:ev l y=some (.int lS im)) (hm:m=(p.toNat:Int)) (lD:im=(s:Int)):Yd P ⟨d,.binOp .shr T x y gV,ty,pos,gJ,g⟩ l (.int .u64 ((p>>>s).toNat:Int)):=fun a kn w=>by
  subst hm lD
  have nC:(eqGuard .shr T x y (.int .u64 (p.toNat:Int)) (.int lS (s:Int))).run P w=.ok () w:=by unfold eqGuard;simp
  have zw:¬((s:Int)<0):=by omega
  have e:(p.toNat:Int).fdiv (2 ^ (min s 64))=((p>>>s).toNat:Int):=by
    have h2:((2:Int) ^ (min s 64))=((2 ^ (min s 64):Nat):Int):=by simp
    rw[h2,Int.fdiv_eq_ediv_of_nonneg _ (Int.natCast_nonneg _),←Int.natCast_ediv]
    congr 1
    simp only[fe,eZ]
    by_cases h:s≤64
    · rw[eE h]
    · rw[Nat.min_eq_right gz,Nat.div_eq_of_lt p.isLt,Nat.div_eq_of_lt]
      exact Nat.lt_of_lt_of_le p.isLt (Nat.pow_le_pow_right gz gz)
  simp only[execOp,kn.ev hx,kn.ev hy]
  simp[nC,binOp,Op.shift,zw,IntKind.bits,e]
theorem cc {T gV:TypeId} {x y:Operand} {m im:Int} (p q:BitVec 64) (hx:ev l x=some (.int .u64 m)) (hy:ev l y=some (.int .u64 im)) (hm:m=(p.toNat:Int)) (lD:im=(q.toNat:Int)):Yd P ⟨d,.binOp .eql T x y gV,ty,pos,gJ,g⟩ l (.bool (decide (p=q))):=by
  have h:=Yd.eql (P:=P) (d:=d) (ty:=ty) (pos:=pos) (gJ:=gJ) (g:=g) (T:=T) (gV:=gV) hx hy
  have e:decide (m=im)=decide (p=q):=by subst hm lD;rw[decide_eq_decide];exact ⟨fun h=>dB gz,fun h=>by rw[h]⟩
  rw[e] at h;exact h
theorem bA {T gV:TypeId} {x y:Operand} {m im:Int} (p q:BitVec 64) (hx:ev l x=some (.int .u64 m)) (hy:ev l y=some (.int .u64 im)) (hm:m=(p.toNat:Int)) (lD:im=(q.toNat:Int)):Yd P ⟨d,.binOp .neq T x y gV,ty,pos,gJ,g⟩ l (.bool (decide (p≠q))):=by
  have h:=Yd.neq (P:=P) (d:=d) (ty:=ty) (pos:=pos) (gJ:=gJ) (g:=g) (T:=T) (gV:=gV) hx hy
  have e:decide (m≠im)=decide (p≠q):=by subst hm lD;rw[decide_eq_decide];exact ⟨fun h e=>h (by rw[e]),fun h e=>h (dB gz)⟩
  rw[e] at h;exact h
theorem bM {x:Operand} {S T:TypeId} {lS:IntKind} {m:Int} (p:BitVec 64) (hS:(P.underlying S).isSome=true) (hT:qw P T=some .u64) (hx:ev l x=some (.int lS m)) (hp:BitVec.ofInt 64 m=p):Yd P ⟨d,.convert S T x,ty,pos,gJ,g⟩ l (.int .u64 (p.toNat:Int)):=fun a kn w=>by
  obtain ⟨dS,jX⟩:=Option.isSome_iff_exists.mp hS
  subst hp
  simp[execOp,kn.ev hx,convert,dP jX,dP (Bz hT),Conv.intToInt,HT]
theorem Yd.ZC {x:Operand} {S T:TypeId} {m:Int} (p:BitVec 8) (hS:(P.underlying S).isSome=true) (hT:qw P T=some .u32) (hx:ev l x=some (.int .u8 m)) (hm:m=(p.toNat:Int)):Yd P ⟨d,.convert S T x,ty,pos,gJ,g⟩ l (.int .u32 ((p.setWidth 32).toNat:Int)):=by
  subst hm
  refine Yd.Kz _ hS hT hx ?_
  apply dB
  simp[dX]
theorem cW {x:Operand} {S T:TypeId} {m:Int} (p:BitVec 8) (hS:(P.underlying S).isSome=true) (hT:qw P T=some .u64) (hx:ev l x=some (.int .u8 m)) (hm:m=(p.toNat:Int)):Yd P ⟨d,.convert S T x,ty,pos,gJ,g⟩ l (.int .u64 ((p.setWidth 64).toNat:Int)):=by
  subst hm
  refine bM _ hS hT hx ?_
  apply dB
  simp[dX]
theorem cj {x:Operand} {S T:TypeId} {m:Int} (p:BitVec 8) (hS:(P.underlying S).isSome=true) (hT:qw P T=some .i64) (hx:ev l x=some (.int .u8 m)) (hm:m=(p.toNat:Int)):Yd P ⟨d,.convert S T x,ty,pos,gJ,g⟩ l (.int .i64 (p.toNat:Int)):=by
  subst hm
  have:=p.isLt
  exact bQ hS hT hx gz gz
theorem Yd.Zz {x:Operand} {S T:TypeId} {m:Int} (p:BitVec 16) (hS:(P.underlying S).isSome=true) (hT:qw P T=some .u64) (hx:ev l x=some (.int .u16 m)) (hm:m=(p.toNat:Int)):Yd P ⟨d,.convert S T x,ty,pos,gJ,g⟩ l (.int .u64 ((p.setWidth 64).toNat:Int)):=by
  subst hm
  refine bM _ hS hT hx ?_
  apply dB
  simp[dX]
theorem Yd.acK {x:Operand} {S T:TypeId} {m:Int} (p:BitVec 16) (hS:(P.underlying S).isSome=true) (hT:qw P T=some .i64) (hx:ev l x=some (.int .u16 m)) (hm:m=(p.toNat:Int)):Yd P ⟨d,.convert S T x,ty,pos,gJ,g⟩ l (.int .i64 (p.toNat:Int)):=by
  subst hm
  have:=p.isLt
  exact bQ hS hT hx gz gz
theorem cU {x:Operand} {S T:TypeId} {m:Int} (p:BitVec 32) (hS:(P.underlying S).isSome=true) (hT:qw P T=some .u64) (hx:ev l x=some (.int .u32 m)) (hm:m=(p.toNat:Int)):Yd P ⟨d,.convert S T x,ty,pos,gJ,g⟩ l (.int .u64 ((p.setWidth 64).toNat:Int)):=by
  subst hm
  refine bM _ hS hT hx ?_
  apply dB
  simp[dX]
theorem bS {x:Operand} {S T:TypeId} {m:Int} (p:BitVec 32) (hS:(P.underlying S).isSome=true) (hT:qw P T=some .i64) (hx:ev l x=some (.int .u32 m)) (hm:m=(p.toNat:Int)):Yd P ⟨d,.convert S T x,ty,pos,gJ,g⟩ l (.int .i64 (p.toNat:Int)):=by
  subst hm
  have:=p.isLt
  exact bQ hS hT hx gz gz
theorem cV {x:Operand} {S T:TypeId} {m:Int} (p:BitVec 64) (hS:(P.underlying S).isSome=true) (hT:qw P T=some .u8) (hx:ev l x=some (.int .u64 m)) (hm:m=(p.toNat:Int)):Yd P ⟨d,.convert S T x,ty,pos,gJ,g⟩ l (.int .u8 ((p.setWidth 8).toNat:Int)):=by
  subst hm
  refine bT _ hS hT hx ?_
  apply dB
  simp[dX]
theorem Yd.ZA {x:Operand} {S T:TypeId} {m:Int} (p:BitVec 64) (hS:(P.underlying S).isSome=true) (hT:qw P T=some .u16) (hx:ev l x=some (.int .u64 m)) (hm:m=(p.toNat:Int)):Yd P ⟨d,.convert S T x,ty,pos,gJ,g⟩ l (.int .u16 ((p.setWidth 16).toNat:Int)):=by
  subst hm
  refine Yd.Pp _ hS hT hx ?_
  apply dB
  simp[dX]
theorem Yd.ZB {x:Operand} {S T:TypeId} {m:Int} (p:BitVec 64) (hS:(P.underlying S).isSome=true) (hT:qw P T=some .u32) (hx:ev l x=some (.int .u64 m)) (hm:m=(p.toNat:Int)):Yd P ⟨d,.convert S T x,ty,pos,gJ,g⟩ l (.int .u32 ((p.setWidth 32).toNat:Int)):=by
  subst hm
  refine Yd.Kz _ hS hT hx ?_
  apply dB
  simp[dX]
abbrev row (b:Nat) (cs:List Value) (T:TypeId):Ck:=⟨b,.cells cs.toArray T (0,0),true⟩
theorem tD {w:World} {b o:Nat} {cs:Array Value} {T:TypeId} {fr:Nat×Nat} (h:w.heap[b]?=some (.cells cs T fr)):w.cell? ⟨b,o,none⟩=cs[o]?:=by
  simp[World.cell?,h]
theorem ak {T:TypeId} {x:Operand} {b o:Nat} {cs:List Value} {gV:TypeId} {fr:Nat×Nat} {ex:Bool} {v:Value} {K:Next→List Ck→Prop} (hT:sP P T=false) (hx:ev l x=some (.pointer (some ⟨b,o,none⟩)))
    (hm:(⟨b,.cells cs.toArray gV fr,ex⟩:Ck)∈H) (hc:cs[o]?=some v) (k:K (.value v) H):Hd P ⟨d,.load T x,ty,pos,gJ,g⟩ l H K:=fun a w R kn s=>by
  have h:=s.holds _ (dw R hm)
  have j6:w.cell? ⟨b,o,none⟩=some v:=by rw[tD h];simpa using hc
  refine ⟨.value v,w,H,?_,s,.refl w,k⟩
  simp[execOp,kn.ev hx,Instr.loadAt,Instr.sureAddr,loadVar,Wq hT,j6]
theorem aJ {T:TypeId} {x:Operand} {b o n:Nat} {cs:List Value} {gV:TypeId} {fr:Nat×Nat} {ex:Bool} {vs:List Value} {K:Next→List Ck→Prop} (hT:tm P T n=true) (hx:ev l x=some (.pointer (some ⟨b,o,none⟩)))
    (hm:(⟨b,.cells cs.toArray gV fr,ex⟩:Ck)∈H) (hn:vs.length=n) (hc:(cs.drop o).take n=vs) (k:K (.value (.agg vs.toArray)) H):Hd P ⟨d,.load T x,ty,pos,gJ,g⟩ l H K:=fun a w R kn s=>by
  have h:=s.holds _ (dw R hm)
  have hl:=gm (P:=P) w ⟨b,o,none⟩ vs (fun j v hv=>by
    rw[add_plain,tD h]
    subst hc
    rw[fF] at hv
    split at hv
    · simpa using hv
    · cases hv)
  rw[hn] at hl
  refine ⟨.value (.agg vs.toArray),w,H,?_,s,.refl w,k⟩
  simp[execOp,kn.ev hx,Instr.loadAt,Instr.sureAddr,loadVar,(ub hT w).1,(ub hT w).2,hl]
theorem EM (w:World) (b:Nat) (cs:Array Value):Kept w (w.setRow b cs):=⟨rfl,rfl,rfl,by simp,by first|exact dA _|exact eh _⟩
theorem Sat.setRow {w:World} {b:Nat} {cs iT:Array Value} {T:TypeId} {D:List Ck} (s:Sat w (⟨b,.cells cs T (0,0),true⟩::D)):Sat (w.setRow b iT) (⟨b,.cells iT T (0,0),true⟩::D):=
  s.write (setRow_heap w b cs iT T (0,0) (s.holds _ dy)) (fun k hk=>setRow_other w b k iT hk)
def oZ (cs:List Value) (o:Nat) (vs:List Value):List Value:=cs.take o++vs++cs.drop (o+vs.length)
theorem cx {T:TypeId} {x y:Operand} {b o n:Nat} {cs:List Value} {gV:TypeId} {v:Value} {D:List Ck} {K:Next→List Ck→Prop} (hT:me P T=some n) (hx:ev l x=some (.pointer (some ⟨b,o,none⟩))) (hy:ev l y=some v)
    (hv:v.cells.size=n) (h1:∀u∈v.cells.toList,u.oneCell'=true) (hm:H.Perm (row b cs gV::D)) (hc:o+n≤cs.length) (k:K .skip (row b (oZ cs o v.cells.toList) gV::D)):Hd P ⟨d,.store T x y,ty,pos,gJ,g⟩ l H K:=fun a w R kn s=>by
  have jj:Sat w (row b cs gV::(D++R)):=s.perm (hm.append_right R)
  have h:=jj.holds _ dy
  have jB:=run_storeCells_at P b o gV v.cells.toList 0 cs.toArray w h (by simp;omega) h1
  refine ⟨.skip,_,row b (oZ cs o v.cells.toList) gV::D,?_,Sat.setRow (iT:=(oZ cs o v.cells.toList).toArray) jj,EM _ _ _,k⟩
  simp only[fG] at jB
  have e:(cs.toArray.toList.take o++v.cells.toList++cs.toArray.toList.drop (o+v.cells.toList.length)).toArray=(oZ cs o v.cells.toList).toArray:=by simp[oZ]
  rw[e] at jB
  simp only[execOp,kn.ev hx,kn.ev hy,Instr.storeAt,Instr.sureAddr,storeVar]
  simp[run_sizeOf hT,hv,jB]
theorem agp (cs:List Value) (o:Nat) (v:Value) (h:o<cs.length):oZ cs o [v]=cs.set o v:=by
  rw[oZ,List.set_eq_take_append_cons_drop,dx h]
  simp
theorem cD {T:TypeId} {x y:Operand} {b o:Nat} {cs:List Value} {gV:TypeId} {v:Value} {D:List Ck} {K:Next→List Ck→Prop} (hT:me P T=some 1) (hx:ev l x=some (.pointer (some ⟨b,o,none⟩))) (hy:ev l y=some v)
    (h1:v.oneCell'=true) (hm:H.Perm (row b cs gV::D)) (hc:o<cs.length) (k:K .skip (row b (cs.set o v) gV::D)):Hd P ⟨d,.store T x y,ty,pos,gJ,g⟩ l H K:=by
  have sZ:v.cells=#[v]:=by cases v<;>first|rfl|cases h1
  refine cx hT hx hy (by rw[sZ];rfl) (by rw[sZ];simpa using h1) hm hc ?_
  rw[sZ]
  rw[show (#[v]:Array Value).toList=[v] from rfl,agp _ _ _ hc]
  exact k
def zeroOf (P:Program) (t:TypeId):Option (List Value):=match P.info? t with
  |some i=>(match i.zero with|some z=>some z.cells.toList|none=>none)
  |none=>none
theorem O2 {t:TypeId} {zs:List Value} (h:zeroOf P t=some zs):∃z:Value,z.cells=zs.toArray∧∀w,(zeroValue t).run P w=.ok z w:=by
  unfold zeroOf at h
  split at h
  · rename_i i hi
    split at h
    · rename_i z hz
      simp at h
      exact ⟨z,by rw[←h],fun w=>by simp[zeroValue,typeInfo,hi,hz]⟩
    · cases h
  · cases h
theorem Hd.alloc {T:TypeId} {zs:List Value} {K:Next→List Ck→Prop} (hz:zeroOf P T=some zs) (k:∀b,K (.value (.pointer (some ⟨b,0,none⟩))) (row b zs T::H)):Hd P ⟨d,.alloc T,ty,pos,gJ,g⟩ l H K:=fun a w R kn s=>by
  obtain ⟨z,xl,hr⟩:=O2 hz
  refine ⟨_,_,row w.heap.size zs T::H,?_,s.push (.cells zs.toArray T) true,⟨rfl,rfl,rfl,by simp,by first|exact dA _|exact eh _⟩,k w.heap.size⟩
  simp[execOp,Instr.alloc,hr,newVar,newRow,xl]
theorem Hd.box {T:TypeId} {x:Operand} {v:Value} {K:Next→List Ck→Prop} (hx:ev l x=some v) (k:∀b,K (.value (.pointer (some ⟨b,0,none⟩))) (row b v.cells.toList T::H)):Hd P ⟨d,.box T x,ty,pos,gJ,g⟩ l H K:=fun a w R kn s=>by
  refine ⟨_,_,row w.heap.size v.cells.toList T::H,?_,s.push (.cells v.cells.toList.toArray T) true,⟨rfl,rfl,rfl,by simp,by first|exact dA _|exact eh _⟩,k w.heap.size⟩
  simp[execOp,kn.ev hx,Instr.box,newVar,newRow]
def Rs (v:Value) (m:Nat) (xs:List Value) (H:List Ck):Prop:=
  (∃ao cap,v=.slice ao 0 cap∧m=0∧xs=[])∨
  ∃(b o cap:Nat) (cs:List Value) (T:TypeId) (fr:Nat×Nat) (ex:Bool),v=.slice (some ⟨b,o,none⟩) m cap∧m≤cap∧(⟨b,.cells cs.toArray T fr,ex⟩:Ck)∈H∧(cs.drop o).take xs.length=xs
theorem Rs.mono {v:Value} {m:Nat} {xs:List Value} {A B:List Ck} (h:Rs v m xs A) (s:∀c∈A,c∈B):Rs v m xs B:=by
  rcases h with h|⟨b,o,cap,cs,T,fr,ex,h1,h2,h3,h4⟩
  · exact .inl h
  · exact .inr ⟨b,o,cap,cs,T,fr,ex,h1,h2,s _ h3,h4⟩
theorem Rs.form {v:Value} {m:Nat} {xs:List Value} {A:List Ck} (h:Rs v m xs A):∃ao cap,v=.slice ao m cap∧m≤cap:=by
  rcases h with ⟨ao,cap,rfl,rfl,rfl⟩|⟨b,o,cap,cs,T,fr,ex,h1,h2,h3,h4⟩
  · exact ⟨_,_,rfl,dN _⟩
  · exact ⟨_,_,h1,h2⟩
theorem Rs.at {ao:Option Addr} {n c m:Nat} {xs:List Value} {A:List Ck} (h:Rs (.slice ao n c) m xs A) (jk:xs≠[]):∃(b o:Nat) (cs:Array Value) (T:TypeId) (fr:Nat×Nat) (ex:Bool),ao=some ⟨b,o,none⟩∧(⟨b,.cells cs T fr,ex⟩:Ck)∈A∧∀i v,xs[i]?=some v→cs[o+i]?=some v:=by
  rcases h with ⟨_,_,h,rfl,rfl⟩|⟨b,o,cap,cs,T,fr,ex,h1,h2,h3,h4⟩
  · exact absurd rfl jk
  · cases h1
    refine ⟨b,o,cs.toArray,T,fr,ex,rfl,h3,fun i v hv=>?_⟩
    rw[←h4,fF] at hv
    split at hv
    · simpa using hv
    · cases hv
theorem bX {n:Nat} {w0:World} {R:List Ck} {ops:Array Oper} {Q:Exit→Act→World→Prop} {d1 d2:Nat} {T e T2:TypeId} {x y:Operand} {HL HM:TypeId} {p1 p2:String} {a1 a2:Array Edge} {rest:List Oper} {ao:Option Addr} {len c m:Nat} {xs:List Value} {k:IntKind} {i:Nat} {mi:Int} {v:Value}
    (hT:lk P T=some e) (hs:me P e=some 1) (ya:sP P T2=false) (hx:ev l x=some (.slice ao len c)) (hy:ev l y=some (.int k mi)) (GU:mi=(i:Int)) (hr:Rs (.slice ao len c) m xs H) (hv:xs[i]?=some v) (gQ:i<len) (h1:Nat.blt d1 n=true) (h2:Nat.blt d2 n=true)
    (h:∀p,WL P n w0 R ops Q rest ((d2,v)::(d1,p)::l) H):WL P n w0 R ops Q (⟨some d1,.indexAddr T x y,HL,p1,a1,none⟩::⟨some d2,.load T2 (.tmp d1),HM,p2,a2,none⟩::rest) l H:=by
  subst GU
  have jk:xs≠[]:=fun e=>by subst e;simp at hv
  obtain ⟨b,o,cs,gV,fr,ex,rfl,hm,sA⟩:=hr.at jk
  refine ae h1 (Yd.indexAddr hT hs hx hy gz gz) ?_
  refine WL.h h2 (ak (b:=b) (o:=o+(i:Int).toNat*1) (cs:=cs.toList) ya (by simp[ev,pW]) (by simpa using hm) (by have:=sA i v hv;simpa using this) ⟨v,rfl,h _⟩)
theorem WL.Z6 {n:Nat} {w0:World} {R:List Ck} {ops:Array Oper} {Q:Exit→Act→World→Prop} {d1 d2 j dj:Nat} {b:Bool} {T e T2:TypeId} {x y:Operand} {HL HM:TypeId} {p1 p2:String} {a1 a2:Array Edge} {rest:List Oper} {ao:Option Addr} {len c m:Nat} {xs:List Value} {k:IntKind} {i:Nat} {mi:Int} {v:Value}
    (hT:lk P T=some e) (hs:me P e=some 1) (ya:sP P T2=false) (hx:ev l x=some (.slice ao len c)) (hy:ev l y=some (.int k mi)) (GU:mi=(i:Int)) (hr:Rs (.slice ao len c) m xs H) (hv:xs[i]?=some v) (gQ:i<len) (h1:Nat.blt d1 n=true) (h2:Nat.blt d2 n=true)
    (hj:(ops[j]?).bind (·.dst)=some dj) (hg:iF l dj=some (.bool b)) (jk:Nat.beq d1 dj=false)
    (h:∀p,WL P n w0 R ops Q rest ((d2,v)::(d1,p)::l) H):WL P n w0 R ops Q (⟨some d1,.indexAddr T x y,HL,p1,a1,some (j,b)⟩::⟨some d2,.load T2 (.tmp d1),HM,p2,a2,some (j,b)⟩::rest) l H:=by
  subst GU
  have ab8:xs≠[]:=fun e=>by subst e;simp at hv
  obtain ⟨bb,o,cs,gV,fr,ex,rfl,hm,sA⟩:=hr.at ab8
  refine WL.gy hj hg h1 (Yd.indexAddr hT hs hx hy gz gz) ?_
  refine aS hj (by rw[iF];rw[jk];exact hg) h2 (ak (b:=bb) (o:=o+(i:Int).toNat*1) (cs:=cs.toList) ya (by simp[ev,pW]) (by simpa using hm) (by have:=sA i v hv;simpa using this) ⟨v,rfl,h _⟩)
def il (v:Value) (n:Nat) (xs:List Value) (T:TypeId) (sz:Nat) (C:List Ck):Prop:=
  (v=.slice none 0 0∧n=0∧xs=[]∧C=[])∨
  ∃(b cap:Nat) (extra:List Value),v=.slice (some ⟨b,0,none⟩) n cap∧n≤cap∧cap≤maxLen∧xs.length=n*sz∧extra.length=(cap-n)*sz∧C=[row b (xs++extra) T]
theorem il.len {v:Value} {n:Nat} {xs:List Value} {T:TypeId} {sz:Nat} {C:List Ck} (h:il v n xs T sz C):xs.length=n*sz:=by
  rcases h with ⟨_,rfl,rfl,_⟩|⟨_,_,_,_,_,_,h,_⟩
  · simp
  · exact h
theorem il.nil (T:TypeId) (sz:Nat):il (.slice none 0 0) 0 [] T sz []:=.inl ⟨rfl,rfl,rfl,rfl⟩
theorem il.rs {v:Value} {n:Nat} {xs:List Value} {T:TypeId} {sz:Nat} {C:List Ck} (h:il v n xs T sz C):Rs v n xs C:=by
  rcases h with ⟨rfl,rfl,rfl,rfl⟩|⟨b,cap,extra,rfl,h1,h2,h3,h4,rfl⟩
  · exact .inl ⟨_,_,rfl,rfl,rfl⟩
  · exact .inr ⟨b,0,cap,xs++extra,T,(0,0),true,rfl,h1,dy,by simp⟩
theorem il.form {v:Value} {n:Nat} {xs:List Value} {T:TypeId} {sz:Nat} {C:List Ck} (h:il v n xs T sz C):∃ao cap,v=.slice ao n cap∧n≤cap:=h.rs.form
theorem BT {e sz bytes:Nat} {zs:List Value} (h:rM P e=some (sz,zs,bytes)):∃i z,P.info? e=some i∧i.zero=some z∧i.size=sz∧i.bytes=bytes∧z.cells.toList=zs:=by
  unfold rM at h
  split at h
  · rename_i i hi
    split at h
    · rename_i z hz
      simp at h
      exact ⟨i,z,hi,hz,h.1,h.2.2,h.2.1⟩
    · cases h
  · cases h
theorem Rs.cells {w:World} {u:Value} {m:Nat} {xs:List Value} {A R:List Ck} (h:Rs u m xs A) (s:Sat w (A++R)):
    (∃ao cap,u=.slice ao 0 cap∧m=0∧xs=[])∨∃(a:Addr) (c:Nat),u=.slice (some a) m c∧∀j v,xs[j]?=some v→w.cell? (a.add j)=some v:=by
  rcases h with h|⟨b,o,cap,cs,T,fr,ex,rfl,h2,h3,h4⟩
  · exact .inl h
  · refine .inr ⟨_,_,rfl,fun j v hv=>?_⟩
    rw[add_plain,tD (s.holds _ (dw R h3))]
    rw[←h4,fF] at hv
    split at hv
    · simpa using hv
    · cases hv
theorem Kt (z:Array Value) (n:Nat):(Builtin.zeroCells z n).toList.length=n*z.size:=by simp[Builtin.zeroCells]
theorem afI {w:World} {T e sz bytes:Nat} {zs:List Value} {v u:Value} {n m:Nat} {xs news:List Value} {C D:List Ck} {ty:TypeId} (hT:lk P T=some e) (hE:rM P e=some (sz,zs,bytes)) (hz:zs.length=sz) (mR:0<sz)
    (own:il v n xs e sz C) (src:Rs u m news (C++D)) (hl:news.length=m*sz) (h1:∀u∈news,u.oneCell'=true) (pZ:n+m≤maxLen) (hb:(n+m)*bytes≤140737488355328) (s:Sat w (C++D)):
    ∃iJ jq gP,(Builtin.append_ #[T,T] ty #[v,u]).run P w=.ok iJ jq∧il iJ (n+m) (xs++news) e sz gP∧Sat jq (gP++D)∧Kept w jq∧(iJ=.slice none 0 0↔v=.slice none 0 0∧m=0):=by
  obtain ⟨i,z,hi,tX,rfl,rfl,rfl⟩:=BT hE
  have hu:=qR hT
  have G7:n+m≤9223372036854775807:=by simp only[maxLen] at pZ;omega
  have hlen:(xs++news).length=(n+m)*i.size:=by rw[dr,own.len,hl,fZ]
  have grown:∀(gT:Nat),gT<n+m→
      il (.slice (some ⟨w.heap.size,0,none⟩) (n+m) (grownCap w (n+m) gT e)) (n+m) (xs++news) e i.size [row w.heap.size ((xs++news)++(Builtin.zeroCells z.cells (grownCap w (n+m) gT e-(n+m))).toList) e]∧
      Sat (w.drew.alloc (.cells (xs.toArray++news.toArray++Builtin.zeroCells z.cells (grownCap w (n+m) gT e-(n+m))) e)) ([row w.heap.size ((xs++news)++(Builtin.zeroCells z.cells (grownCap w (n+m) gT e-(n+m))).toList) e]++D):=by
    intro gT ho
    have nC:=grownCap_ge w (n+m) gT e
    have tM:grownCap w (n+m) gT e≤maxLen:=grownCap_le_maxLen w (n+m) gT e pZ
    refine ⟨.inr ⟨_,_,_,rfl,nC,tM,hlen,?_,rfl⟩,?_⟩
    · rw[Kt]
      congr 1
    · have:=(s.drop).heap (jq:=w.drew) rfl
      have h2:=this.push (.cells (xs.toArray++news.toArray++Builtin.zeroCells z.cells (grownCap w (n+m) gT e-(n+m))) e) true
      have e1:(xs.toArray++news.toArray++Builtin.zeroCells z.cells (grownCap w (n+m) gT e-(n+m)))=(((xs++news)++(Builtin.zeroCells z.cells (grownCap w (n+m) gT e-(n+m))).toList)).toArray:=by
        apply Array.ext'
        simp
      rw[e1] at h2 ⊢
      exact h2
  have kg:∀o,Kept w (w.drew.alloc o):=fun o=>⟨rfl,rfl,rfl,by simp,by first|exact dA _|exact eh _⟩
  rcases Rs.cells (R:=[]) src (by simpa using s) with ⟨uo,uc,rfl,rfl,rfl⟩|⟨a,c,rfl,sZ⟩
  · refine ⟨v,w,C,?_,by simpa using own,s,.refl w,by simp⟩
    obtain ⟨ao,cap,rfl,hc⟩:=own.form
    have jB:∀gX:Addr,(storeCells gX []).run P w=.ok () w:=fun gX=>by simp[storeCells]
    have Jq:∀gX:Addr,(loadCells gX 0).run P w=.ok #[] w:=fun gX=>by simp[loadCells,loadCellsFrom]
    cases ao with
    |none=>cases uo<;>simp[Builtin.append_,dP hu,sizeOf,typeInfo,hi,Builtin.lenOf,hc,Builtin.firstCells,Jq]
    |some gX=>cases uo<;>simp[Builtin.append_,dP hu,sizeOf,typeInfo,hi,Builtin.lenOf,hc,Builtin.firstCells,jB,Jq]
  · rcases own with ⟨rfl,rfl,rfl,rfl⟩|⟨b,cap,extra,rfl,yj,tM,zJ,uK,rfl⟩
    · by_cases hm:m=0
      · subst hm
        have hn:news=[]:=dU (by simpa using hl)
        subst hn
        refine ⟨.slice none 0 0,w,[],?_,il.nil e i.size,by simpa using s,.refl w,by simp⟩
        simp[Builtin.append_,dP hu,sizeOf,typeInfo,hi,Builtin.lenOf,Builtin.firstCells,loadCells,loadCellsFrom]
      · have hr:=run_append_nil (P:=P) w T ty e i z hu hi tX a m c news hl sZ gz gz (by simp only[eV] at hb;omega)
        have uP:=grown 0 gz
        simp only[eV,eC] at uP hr ⊢
        refine ⟨_,_,_,hr,uP.1,?_,kg _,by simp[hm]⟩
        simpa using uP.2
    · by_cases G3:n+m≤cap
      · have hg:=s.holds _ (dw D dy)
        have lA:n*i.size+news.length≤(xs++extra).toArray.size:=by
          simp only[List.size_toArray,dr,zJ,uK,hl,←fZ]
          apply fM
          omega
        have hr:=run_append_room (P:=P) w T ty e i hu hi b n cap _ hg a m c news hl sZ h1 G3 lA
        have e1:((xs++extra).toArray.toList.take (n*i.size)++news++(xs++extra).toArray.toList.drop (n*i.size+news.length))=(xs++news)++extra.drop news.length:=by
          rw[←zJ]
          simp[List.drop_append]
        rw[e1] at hr
        refine ⟨_,_,[row b ((xs++news)++extra.drop news.length) e],hr,.inr ⟨b,cap,_,rfl,G3,tM,hlen,?_,rfl⟩,Sat.setRow s,EM _ _ _,by simp⟩
        rw[eg,uK,hl,←Nat.sub_mul]
        congr 1
        omega
      · have holds:∀j u,xs[j]?=some u→w.cell? ((⟨b,0,none⟩:Addr).add j)=some u:=fun j u hu=>by
          rw[add_plain,tD (s.holds _ (dw D dy))]
          have hj:j<xs.length:=(dV.1 hu).1
          simp only[List.getElem?_toArray,eV]
          rw[eT hj]
          exact hu
        have hr:=run_append_grow (P:=P) w T ty e i z hu hi tX ⟨b,0,none⟩ n cap xs zJ holds a m c news hl sZ gz gz (growslice_fits gz hb)
        have uP:=grown cap gz
        exact ⟨_,_,_,hr,uP.1,uP.2,kg _,by simp⟩
theorem Hd.append {x y:Operand} {T e sz bytes:Nat} {zs:List Value} {v u:Value} {n m:Nat} {xs news:List Value} {C D:List Ck} {K:Next→List Ck→Prop} (hT:lk P T=some e) (hE:rM P e=some (sz,zs,bytes)) (hz:zs.length=sz) (mR:0<sz)
    (hx:ev l x=some v) (hy:ev l y=some u) (own:il v n xs e sz C) (src:Rs u m news (C++D)) (hl:news.length=m*sz) (h1:∀u∈news,u.oneCell'=true) (pZ:n+m≤maxLen) (hb:(n+m)*bytes≤140737488355328) (hH:H.Perm (C++D))
    (k:∀iJ gP,il iJ (n+m) (xs++news) e sz gP→(iJ=.slice none 0 0↔v=.slice none 0 0∧m=0)→K (.value iJ) (gP++D)):Hd P ⟨d,.call ⟨.builtin .append,#[x,y],#[T,T]⟩,ty,pos,gJ,g⟩ l H K:=fun a w R kn s=>by
  have jj:Sat w (C++(D++R)):=by have:=s.perm (hH.append_right R);simpa using this
  obtain ⟨iJ,jq,gP,hr,ho,oT,hk,hn⟩:=afI (ty:=ty) (D:=D++R) hT hE hz mR own (src.mono fun c hc=>by simp at hc ⊢;rcases hc with hc|hc<;>simp[hc]) hl h1 pZ hb jj
  refine ⟨.value iJ,jq,gP++D,?_,by simpa using oT,hk,k iJ gP ho hn⟩
  simp[execOp,resolve,invoke,builtin,kn.ev hx,kn.ev hy,hr]
theorem Hd.buildSlice {T e sz len:Nat} {zs:List Value} {parts:List (Nat×Operand)} {vs:List (Nat×Value)} {cells:List Value} {K:Next→List Ck→Prop} (hT:lk P T=some e) (hS:me P e=some sz) (hz:zeroOf P e=some zs) (hp:(parts.map fun p=>(ev l p.2).map fun v=>(p.1,v))=vs.map some) (G7:Nat.ble (len*sz) 16777216=true)
    (hf:Instr.fill (fun i=>some (i*sz,sz)) ((Array.range (len*sz)).map (zs.toArray[·%zs.toArray.size]!)) vs=some cells.toArray)
    (k:∀b,K (.value (.slice (some ⟨b,0,none⟩) len len)) (row b cells e::H)):Hd P ⟨d,.buildSlice T len parts.toArray,ty,pos,gJ,g⟩ l H K:=fun a w R kn s=>by
  have NG:(parts.toArray.map fun (x:Nat×Operand)=>(x.1,a.eval x.2)).toList=vs:=by
    simp only[List.map_toArray]
    have:∀(ps:List (Nat×Operand)) (us:List (Nat×Value)),(ps.map fun p=>(ev l p.2).map fun v=>(p.1,v))=us.map some→ps.map (fun x=>(x.1,a.eval x.2))=us:=by
      intro ps
      induction ps with
      |nil=>intro us h;cases us<;>simp_all
      | cons p r ih=>
        intro us h
        cases us with
        |nil=>simp at h
        | cons u us=>
          simp only[dY,fI] at h ⊢
          refine ⟨?_,ih us h.2⟩
          have h1:=h.1
          cases w6:ev l p.2 with
          |none=>simp[w6] at h1
          |some v=>simp[w6] at h1;rw[kn.ev w6];exact h1
    exact this parts vs hp
  obtain ⟨z,xl,hr⟩:=O2 hz
  have hle:¬(len*sz>2 ^ 24):=by have:=Nat.le_of_ble_eq_true G7;simp;omega
  refine ⟨_,_,row w.heap.size cells e::H,?_,s.push (.cells cells.toArray e) true,⟨rfl,rfl,rfl,by simp,by first|exact dA _|exact eh _⟩,k w.heap.size⟩
  simp only[execOp,Instr.buildSlice,Sem.run_bind,dP (qR hT),run_sizeOf hS,fT,hle,if_false,NG]
  by_cases h0:len*sz=0
  · have e0:(Array.range (len*sz)).map (zs.toArray[·%zs.toArray.size]!)=(Array.range (len*sz)).map ((#[]:Array Value)[·%(#[]:Array Value).size]!):=by rw[h0];simp
    rw[e0] at hf
    rw[dx h0]
    simp only[Sem.run_bind,Sem.run_pure,fT]
    rw[hf]
    simp[newRow]
  · rw[dp h0]
    simp only[Sem.run_bind,Sem.run_pure,fT,hr,xl]
    rw[hf]
    simp[newRow]
def bc (l:List (BitVec 8)):List Value:=l.map fun x=>.int .u8 x.toNat
theorem je (l:List (BitVec 8)):(bc l).length=l.length:=by simp[bc]
theorem Le {l:List (BitVec 8)} {i:Nat} (h:i<l.length):(bc l)[i]?=some (.int .u8 l[i].toNat):=by simp[bc,h]
theorem yP (a b:List (BitVec 8)):bc (a++b)=bc a++bc b:=by simp[bc]
theorem Ay (a:List (BitVec 8)) (k:Nat):bc (a.take k)=(bc a).take k:=by simp[bc]
theorem BQ (a:List (BitVec 8)) (k:Nat):bc (a.drop k)=(bc a).drop k:=by simp[bc]
theorem qA (l:List (BitVec 8)):∀u∈bc l,u.oneCell'=true:=by
  intro u hu
  simp[bc] at hu
  obtain ⟨x,_,rfl⟩:=hu
  rfl
def Bs (v:Value) (l:List (BitVec 8)) (H:List Ck):Prop:=Rs v l.length (bc l) H
theorem Bs.mono {v:Value} {l:List (BitVec 8)} {A B:List Ck} (h:Bs v l A) (s:∀c∈A,c∈B):Bs v l B:=Rs.mono h s
theorem Bs.form {v:Value} {l:List (BitVec 8)} {A:List Ck} (h:Bs v l A):∃ao cap,v=.slice ao l.length cap∧l.length≤cap:=Rs.form h
def Ob (T:TypeId) (v:Value) (l:List (BitVec 8)) (C:List Ck):Prop:=il v l.length (bc l) T 1 C
theorem Ob.bs {T:TypeId} {v:Value} {l:List (BitVec 8)} {C:List Ck} (h:Ob T v l C):Bs v l C:=il.rs h
theorem Ob.form {T:TypeId} {v:Value} {l:List (BitVec 8)} {A:List Ck} (h:Ob T v l A):∃ao cap,v=.slice ao l.length cap∧l.length≤cap:=il.form h
def str (l:List (BitVec 8)):ByteArray:=⟨(l.map fun x=>UInt8.ofNat x.toNat).toArray⟩
theorem Rj:∀{a b:List (BitVec 8)},a.map (fun x=>UInt8.ofNat x.toNat)=b.map (fun x=>UInt8.ofNat x.toNat)→a=b
  |[],[],_=>rfl
  |[],_::_,h=>by simp at h
  |_::_,[],h=>by simp at h
  | x ::a,y::b,h=>by
    simp only[dY,fI] at h
    have e:x=y:=by
      have:=congrArg UInt8.toNat h.1
      simp at this
      exact dB (by have:=x.isLt;have:=y.isLt;omega)
    rw[e,Rj h.2]
theorem str_inj {a b:List (BitVec 8)}:str a=str b↔a=b:=by
  refine ⟨fun h=>?_,fun h=>by rw[h]⟩
  simp only[str,ByteArray.mk.injEq] at h
  exact Rj (by simpa using congrArg Array.toList h)
theorem Kw (l:List (BitVec 8)):(str l).size=l.length:=by simp[str,ByteArray.size]
theorem foldl_push (l:List (BitVec 8)):∀s:ByteArray,(l.map fun x=>(x.toNat:Int)).foldl (fun r n=>r.push (UInt8.ofNat n.toNat)) s=⟨s.data++(l.map fun x=>UInt8.ofNat x.toNat).toArray⟩:=by
  induction l with
  |nil=>intro s;simp
  | cons x l ih=>
    intro s
    simp only[dY,List.foldl_cons]
    rw[ih]
    simp[ByteArray.push]
theorem aM {x:Operand} {S T e:TypeId} {v:Value} {bs:List (BitVec 8)} {K:Next→List Ck→Prop} (hS:lk P S=some e) (he:qw P e=some .u8) (hT:P.underlying T=some .string) (hx:ev l x=some v) (hb:Bs v bs H) (k:K (.value (.string (str bs))) H):
    Hd P ⟨d,.convert S T x,ty,pos,gJ,g⟩ l H K:=fun a w R kn s=>by
  refine ⟨.value (.string (str bs)),w,H,?_,s,.refl w,k⟩
  obtain ⟨ao,c,rfl,hc⟩:=hb.form
  have h1:=run_convert_bytes_string w S T e ao bs.length c (qR hS) (Bz he) hT
  have h2:(Conv.bytesToString (.slice ao bs.length c)).run P w=.ok (.string (str bs)) w:=by
    rcases Rs.cells (R:=R) hb s with ⟨uo,uc,h3,h4,h5⟩|⟨ad,tC,h3,h4⟩
    · simp at h3
      obtain ⟨rfl,h5,rfl⟩:=h3
      have:bs=[]:=dU h4
      subst this
      have Jq:∀gX:Addr,(loadCells gX 0).run P w=.ok #[] w:=fun gX=>by simp[loadCells,loadCellsFrom]
      cases ao<;>simp[Conv.bytesToString,str,Jq]
      all_goals rfl
    · cases h3
      have hl:=gm (P:=P) w ad (bc bs) h4
      rw[je] at hl
      have e1:(bc bs).toArray=((bs.map fun x=>(x.toNat:Int)).map (Value.int .u8)).toArray:=by simp[bc]
      rw[e1] at hl
      rw[run_bytesToString w ad bs.length c (bs.map fun x=>(x.toNat:Int)) hl,foldl_push]
      simp[str]
  simp[execOp,kn.ev hx,h1,h2]
theorem bN {T gV:TypeId} {x y:Operand} {s jj:ByteArray} (hx:ev l x=some (.string s)) (hy:ev l y=some (.string jj)):Yd P ⟨d,.binOp .eql T x y gV,ty,pos,gJ,g⟩ l (.bool (decide (s=jj))):=fun a kn w=>by
  have h:(eqGuard .eql T x y (.string s) (.string jj)).run P w=.ok () w:=by rfl
  have e:(s.toList==jj.toList)=decide (s=jj):=by
    by_cases h:s=jj
    · simp[h]
    · have:s.toList≠jj.toList:=fun e=>h (by
        rw[ByteArray.toList_eq,ByteArray.toList_eq] at e
        cases s;cases jj;simp at e;simp[e])
      simp[h,this]
  simp[execOp,kn.ev hx,kn.ev hy,h,binOp,Op.stringOp,e]
theorem Ob.nil (T:TypeId):Ob T (.slice none 0 0) [] []:=il.nil T 1
theorem cM {x y:Operand} {T e:TypeId} {zs:List Value} {v u:Value} {a b:List (BitVec 8)} {C D:List Ck} {K:Next→List Ck→Prop} (hT:lk P T=some e) (hE:rM P e=some (1,zs,1)) (hz:zs.length=1)
    (hx:ev l x=some v) (hy:ev l y=some u) (own:Ob e v a C) (src:Bs u b (C++D)) (pZ:a.length+b.length≤140737488355328) (hH:H.Perm (C++D))
    (k:∀iJ gP,Ob e iJ (a++b) gP→(iJ=.slice none 0 0↔v=.slice none 0 0∧b.length=0)→K (.value iJ) (gP++D)):Hd P ⟨d,.call ⟨.builtin .append,#[x,y],#[T,T]⟩,ty,pos,gJ,g⟩ l H K:=
  Hd.append hT hE hz gz hx hy own src (by rw[je];omega) (qA b) (by simp only[maxLen];omega) gz hH fun iJ gP h hn=>k iJ gP (by
    show il _ _ _ _ _ _
    rw[dr,yP];exact h) hn
theorem Rs.sub {ao:Option Addr} {n c i j s:Nat} {xs:List Value} {A:List Ck} (h:Rs (.slice ao n c) n xs A) (hl:xs.length=n*s) (h1:i≤j) (h2:j≤n):
    Rs (.slice (if c=i then ao else ao.map (·.add (i*s))) (j-i) (c-i)) (j-i) ((xs.drop (i*s)).take ((j-i)*s)) A:=by
  rcases h with ⟨K4,sS,h,rfl,rfl⟩|⟨b,o,cap,cs,T,fr,ex,h3,h4,h5,h6⟩
  · have:j=0:=by omega
    subst this
    have:i=0:=by omega
    subst this
    exact .inl ⟨_,_,rfl,rfl,by simp⟩
  · simp at h3
    obtain ⟨rfl,rfl⟩:=h3
    have hlen:((xs.drop (i*s)).take ((j-i)*s)).length=(j-i)*s:=by
      rw[dE,eg,hl,←Nat.sub_mul]
      exact eE (fM _ gz)
    by_cases zh:c=i
    · have:j=i:=by omega
      subst this
      refine .inr ⟨b,o,c-j,cs,T,fr,ex,by simp[zh],by omega,h5,?_⟩
      simp
    · refine .inr ⟨b,o+i*s,c-i,cs,T,fr,ex,by simp[zh,add_plain],by omega,h5,?_⟩
      rw[hlen,←h6]
      simp only[hl,List.drop_take,gv,gd]
      congr 1
      rw[←Nat.sub_mul]
      exact (eE (fM _ gz)).symm
theorem Bs.sub {ao:Option Addr} {c i j:Nat} {bs:List (BitVec 8)} {A:List Ck} (h:Bs (.slice ao bs.length c) bs A) (h1:i≤j) (h2:j≤bs.length):
    Bs (.slice (if c=i then ao else ao.map (·.add (i*1))) (j-i) (c-i)) ((bs.drop i).take (j-i)) A:=by
  have:=Rs.sub (s:=1) h (by rw[je];omega) h1 h2
  have hl:((bs.drop i).take (j-i)).length=j-i:=by simp;omega
  show Rs _ ((bs.drop i).take (j-i)).length _ _
  rw[hl,Ay,BQ]
  simpa using this
theorem bJ {x y:Operand} {T e s:Nat} {ao:Option Addr} {n c:Nat} {k:IntKind} {m:Int} {j:Nat} (hT:lk P T=some e) (hs:me P e=some s) (hx:ev l x=some (.slice ao n c)) (hy:ev l y=some (.int k m)) (hm:m=(j:Int)) (h2:j≤c):
    Yd P ⟨d,.slice T x none (some y) none,ty,pos,gJ,g⟩ l (.slice ao j c):=by
  have h:=Yd.slice (P:=P) (d:=d) (ty:=ty) (pos:=pos) (gJ:=gJ) (g:=g) (lo:=none) (hi:=some y) (i:=0) (j:=j) hT hs hx rfl ⟨k,m,hy,hm⟩ (dN _) h2
  have e1:(if c=0 then ao else ao.map (·.add (0*s)))=ao:=by
    split
    · rfl
    · cases ao<;>simp[Addr.add]
  rw[e1] at h
  simpa using h
theorem Rs.upto {ao:Option Addr} {n c j s:Nat} {xs:List Value} {A:List Ck} (h:Rs (.slice ao n c) n xs A) (hl:xs.length=n*s) (h2:j≤n):Rs (.slice ao j c) j (xs.take (j*s)) A:=by
  have h:=Rs.sub (i:=0) h hl (dN _) h2
  have e1:(if c=0 then ao else ao.map (·.add (0*s)))=ao:=by
    split
    · rfl
    · cases ao<;>simp[Addr.add]
  rw[e1] at h
  simpa using h
theorem Bs.len {ao:Option Addr} {n c:Nat} {bs:List (BitVec 8)} {A:List Ck} (h:Bs (.slice ao n c) bs A):n=bs.length:=by
  obtain ⟨_,_,h1,_⟩:=Bs.form h
  simp at h1
  exact h1.2.1
theorem Bs.upto {ao:Option Addr} {n c j:Nat} {bs:List (BitVec 8)} {A:List Ck} (h:Bs (.slice ao n c) bs A) (h2:j≤n):Bs (.slice ao j c) (bs.take j) A:=by
  have hn:=Bs.len h
  subst hn
  have:=Rs.upto (s:=1) h (by rw[je];omega) h2
  have hl:(bs.take j).length=j:=by simp;omega
  show Rs _ (bs.take j).length _ _
  rw[hl,Ay]
  simpa using this
theorem Bs.block {b n cap:Nat} {T:TypeId} {fr:Nat×Nat} {ex:Bool} {bs:List (BitVec 8)} (hn:n=bs.length) (hc:n≤cap) (hm:(⟨b,.cells (bc bs).toArray T fr,ex⟩:Ck)∈H):Bs (.slice (some ⟨b,0,none⟩) n cap) bs H:=by
  subst hn
  exact .inr ⟨b,0,cap,bc bs,T,fr,ex,rfl,hc,hm,by simp⟩
theorem aU {T e len:Nat} {parts:List (Nat×Operand)} (bs:List (BitVec 8)) {K:Next→List Ck→Prop} (hT:lk P T=some e) (hS:me P e=some 1) (hz:zeroOf P e=some [.int .u8 0]) (hp:(parts.map fun p=>(ev l p.2).map fun v=>(p.1,v))=(bs.zipIdx.map fun p=>(p.2,Value.int .u8 p.1.toNat)).map some) (G7:Nat.ble (len*1) 16777216=true)
    (hf:Instr.fill (fun i=>some (i*1,1)) ((Array.range (len*1)).map ([Value.int .u8 0].toArray[·% [Value.int .u8 0].toArray.size]!)) (bs.zipIdx.map fun p=>(p.2,Value.int .u8 p.1.toNat))=some (bc bs).toArray)
    (k:∀b,K (.value (.slice (some ⟨b,0,none⟩) len len)) (row b (bc bs) e::H)):Hd P ⟨d,.buildSlice T len parts.toArray,ty,pos,gJ,g⟩ l H K:=
  Hd.buildSlice hT hS hz hp G7 hf k
end
end Go.SL
namespace Go.SL
section
variable {P:Program} {l:Sl} {H:List Ck} {d:Option Nat} {ty:TypeId} {pos:String} {gJ:Array Edge} {g:Option (Nat×Bool)}
theorem aB {n:Nat} {w0:World} {R:List Ck} {fn:Func} {jE:Value→List Ck→Prop} {t T s b:Nat} {cs:List Value} {gV:TypeId} {fr:Nat×Nat} {ex:Bool} (gr:List Ck) (hr:fn.results=#[.cell t T]) (hT:tm P T s=true) (hv:iF l t=some (.pointer (some ⟨b,0,none⟩)))
    (hm:(⟨b,.cells cs.toArray gV fr,ex⟩:Ck)∈H) (hs:cs.length=s) (hH:gr.Sublist H) (hp:jE (.agg cs.toArray) gr):DN P n w0 R (bodyPost P fn (wE P w0 R jE)) .ret l H:=fun a w i=>by
  have h:=i.sat.holds _ (dw R hm)
  have hl:=gm (P:=P) w ⟨b,0,none⟩ cs (fun j v hv=>by rw[add_plain,tD h];simpa using hv)
  rw[hs] at hl
  have tV:=i.kn t _ hv
  simp only[fj] at tV
  refine bodyPost_ret (v:=.agg cs.toArray) ?_ i.defers ⟨_,gr,rfl,hp,i.sat.sublist (hH.append_right R),i.kept⟩
  simp[results,hr,tV,asAddr,loadVar,(ub hT w).1,(ub hT w).2,hl]
theorem bp {T e:TypeId} {x:Operand} {v z:Value} {K:Next→List Ck→Prop} (hT:lk P T=some e) (hS:me P e=some 1) (hz:zeroOf P e=some [z]) (hx:ev l x=some v) (h1:v.oneCell'=true)
    (k:∀b,K (.value (.slice (some ⟨b,0,none⟩) 1 1)) (row b [v] e::H)):Hd P ⟨d,.buildSlice T 1 #[(0,x)],ty,pos,gJ,g⟩ l H K:=by
  have hc:v.cells=#[v]:=by cases v<;>first|rfl|cases h1
  refine Hd.buildSlice (parts:=[(0,x)]) (vs:=[(0,v)]) (cells:=[v]) hT hS hz (by simp[hx]) rfl ?_ k
  have h01:Array.range 1=#[0]:=rfl
  simp[Instr.fill,hc,h01]
theorem Hd.Vg {T e n bytes:Nat} {x y:Operand} {z:Value} {k1 k2:IntKind} {m im:Int} {K:Next→List Ck→Prop} (hT:lk P T=some e) (hE:rM P e=some (1,[z],bytes)) (hx:ev l x=some (.int k1 m)) (hy:ev l y=some (.int k2 im)) (hm:m=(n:Int)) (lD:im=(n:Int)) (hb:bytes*n≤140737488355328) (hn:n≤4611686018427387904)
    (k:∀b,K (.value (.slice (some ⟨b,0,none⟩) n n)) (row b (List.replicate n z) e::H)):Hd P ⟨d,.makeSlice T x y,ty,pos,gJ,g⟩ l H K:=fun a w R kn s=>by
  obtain ⟨i,zz,hi,tX,qv,I5,xl⟩:=BT hE
  subst hm lD
  have hw:IntKind.i64.wrap (n:Int)=n:=wrap64_in gz gz
  refine ⟨_,_,row w.heap.size (List.replicate n z) e::H,?_,s.push (.cells (List.replicate n z).toArray e) true,⟨rfl,rfl,rfl,by simp,by first|exact dA _|exact eh _⟩,k w.heap.size⟩
  have aba:¬((i.bytes:Int)*(n:Int)>2 ^ 48):=by
    rw[I5]
    have:((bytes*n:Nat):Int)≤140737488355328:=by omega
    rw[Int.natCast_mul] at this
    have e:(2:Int) ^ 48=281474976710656:=by decide
    omega
  have zw:¬((n:Int)<0):=by omega
  have Dd:zz.cells=#[z]:=by apply Array.ext';simpa using xl
  have sZ:∀m,(Array.range m).map (fun x=>(#[z]:Array Value)[x%1]!)=(List.replicate m z).toArray:=fun m=>by
    apply Array.ext
    · simp
    · intro j h1 h2;simp[Nat.mod_one]
  simp only[execOp,kn.ev hx,kn.ev hy,Instr.makeSlice]
  by_cases h0:n=0
  · subst h0
    have Hf:IntKind.i64.wrap 0=0:=wrap64_in gz gz
    have AO:Array.range 0=#[]:=rfl
    simp[Hf,AO,dP (qR hT),asInt,asIntOf,typeInfo,hi,hw,sizeOf,qv,newRow]
  · have MG:¬(281474976710656<(i.bytes:Int)*(n:Int)):=by
      have e:(2:Int) ^ 48=281474976710656:=by decide
      omega
    have Tl:Array.map (fun x=>[z][x%1]?.getD default) (Array.range n)=Array.replicate n z:=by
      apply Array.ext
      · simp
      · intro j h1 h2;simp[Nat.mod_one]
    simp[Tl,MG,dP (qR hT),asInt,asIntOf,typeInfo,hi,hw,aba,zw,sizeOf,qv,h0,zeroValue,tX,Dd,newRow,sZ]
theorem WE {α:Type} (a b:List α) (i:Nat) (x:α) (h:i<a.length):(a++b).set i x=a.set i x++b:=by rw[List.set_append_left _ _ h]
def ic (l:List Int):List Value:=l.map (Value.int .i64)
theorem Bg (l:List Int):(ic l).length=l.length:=by simp[ic]
theorem JE {l:List Int} {i:Nat} (h:i<l.length):(ic l)[i]?=some (.int .i64 (l.getD i 0)):=by simp[ic,h]
theorem acA {l:List Int} {i:Nat} (h:i<l.length):(ic l)[i]?=some (.int .i64 l[i]):=by simp[ic,h]
theorem UF (a b:List Int):ic (a++b)=ic a++ic b:=by simp[ic]
theorem acB (l:List Int):∀u∈ic l,u.oneCell'=true:=by
  intro u hu
  simp[ic] at hu
  obtain ⟨x,_,rfl⟩:=hu
  rfl
end
section
variable {P:Program} {l:Sl} {H:List Ck} {d:Option Nat} {ty:TypeId} {pos:String} {gJ:Array Edge} {g:Option (Nat×Bool)}
theorem cG {T gV:TypeId} {x y:Operand} {s jj:ByteArray} (hx:ev l x=some (.string s)) (hy:ev l y=some (.string jj)):Yd P ⟨d,.binOp .neq T x y gV,ty,pos,gJ,g⟩ l (.bool (decide (s≠jj))):=fun a kn w=>by
  have h:(eqGuard .neq T x y (.string s) (.string jj)).run P w=.ok () w:=by rfl
  have e:(s.toList==jj.toList)=decide (s=jj):=by
    by_cases h:s=jj
    · simp[h]
    · have:s.toList≠jj.toList:=fun e=>h (by
        rw[ByteArray.toList_eq,ByteArray.toList_eq] at e
        cases s;cases jj;simp at e;simp[e])
      simp[h,this]
  simp[execOp,kn.ev hx,kn.ev hy,h,binOp,Op.stringOp,e]
theorem Bs.cut {ao:Option Addr} {c i j n:Nat} {bs:List (BitVec 8)} {A:List Ck} (h:Bs (.slice ao bs.length c) bs A) (hj:j=i+n) (h2:j≤bs.length):
    Bs (.slice (if c=i then ao else ao.map (·.add (i*1))) (j-i) (c-i)) ((bs.drop i).take n) A:=by
  have:=h.sub (i:=i) (j:=j) gz h2
  rwa [show (bs.drop i).take (j-i)=(bs.drop i).take n by rw[hj,Nat.add_sub_cancel_left]] at this
def placesOf (P:Program) (t:TypeId):Option (List (Nat×Nat)):=match P.underlying t with
  |some (.struct fs)=>fs.toList.mapM fun f=>(me P f.type).map fun n=>(f.offset,n)
  |_=>none
theorem run_places {w:World}:∀(fs:List Field) (pl:List (Nat×Nat)),(fs.mapM fun f=>(me P f.type).map fun n=>(f.offset,n))=some pl→
    (fs.mapM (m:=Sem) fun f=>do pure (f.offset,←sizeOf f.type)).run P w=.ok pl w:=by
  intro fs
  induction fs with
  |nil=>intro pl h;simp at h;subst h;simp
  | cons f r ih=>
    intro pl h
    simp only[List.mapM_cons] at h ⊢
    cases hs:me P f.type with
    |none=>simp[hs] at h
    | some n=>
      cases hr:(r.mapM fun f=>(me P f.type).map fun n=>(f.offset,n)) with
      |none=>simp[hs,hr] at h
      | some pr=>
        simp[hs,hr] at h
        subst h
        have h1:=ih pr hr
        simp only[Sem.run_bind,run_sizeOf hs,fT,Sem.run_pure,h1]
theorem Yd.build {T:TypeId} {zs:List Value} {pl:List (Nat×Nat)} {parts:List (Nat×Operand)} {vs:List (Nat×Value)} {cells:List Value} (hP:placesOf P T=some pl) (hz:zeroOf P T=some zs) (hp:(parts.map fun p=>(ev l p.2).map fun v=>(p.1,v))=vs.map some)
    (hf:Instr.fill (pl.toArray[·]?) zs.toArray vs=some cells.toArray):Yd P ⟨d,.build T parts.toArray,ty,pos,gJ,g⟩ l (.agg cells.toArray):=fun a kn w=>by
  have NG:(parts.toArray.map fun (x:Nat×Operand)=>(x.1,a.eval x.2)).toList=vs:=by
    simp only[List.map_toArray]
    have:∀(ps:List (Nat×Operand)) (us:List (Nat×Value)),(ps.map fun p=>(ev l p.2).map fun v=>(p.1,v))=us.map some→ps.map (fun x=>(x.1,a.eval x.2))=us:=by
      intro ps
      induction ps with
      |nil=>intro us h;cases us<;>simp_all
      | cons p r ih=>
        intro us h
        cases us with
        |nil=>simp at h
        | cons u us=>
          simp only[dY,fI] at h ⊢
          refine ⟨?_,ih us h.2⟩
          have h1:=h.1
          cases w6:ev l p.2 with
          |none=>simp[w6] at h1
          |some v=>simp[w6] at h1;rw[kn.ev w6];exact h1
    exact this parts vs hp
  obtain ⟨z,xl,hr⟩:=O2 hz
  unfold placesOf at hP
  split at hP
  · rename_i fs hu
    have h1:=run_places (w:=w) _ _ hP
    have h2:(fs.mapM (m:=Sem) fun f=>do pure (f.offset,←sizeOf f.type)).run P w=.ok pl.toArray w:=by
      rw[Array.mapM_eq_mapM_toList]
      simp only[map_eq_pure_bind,Sem.run_bind,h1,fT,Sem.run_pure]
    simp only[execOp,Instr.build,Sem.run_bind,hr w,fT,dP hu,h2,NG,xl,hf]
    simp
  · cases hP
theorem Ob.block {T:TypeId} (b:Nat) (bs:List (BitVec 8)) (h:bs.length≤maxLen):Ob T (.slice (some ⟨b,0,none⟩) bs.length bs.length) bs [row b (bc bs) T]:=
  .inr ⟨b,bs.length,[],rfl,dA _,h,by rw[je];omega,by simp,by simp⟩
inductive rJ (T:TypeId):List Value→List (List (BitVec 8))→List Ck→Prop
  |nil:rJ T [] [] []
  |cons {v:Value} {l:List (BitVec 8)} {C:List Ck} {vs:List Value} {ls:List (List (BitVec 8))} {D:List Ck}:Ob T v l C→rJ T vs ls D→rJ T (v::vs) (l::ls) (C++D)
theorem rJ.append {T:TypeId} {vs us:List Value} {ls ms:List (List (BitVec 8))} {D E:List Ck} (h:rJ T vs ls D) (k:rJ T us ms E):rJ T (vs++us) (ls++ms) (D++E):=by
  induction h with
  |nil=>exact k
  |cons h1 _ ih=>rw[fp,fp,dD];exact .cons h1 ih
theorem rJ.one {T:TypeId} {v:Value} {l:List (BitVec 8)} {C:List Ck} (h:Ob T v l C):rJ T [v] [l] C:=by
  have:=rJ.cons h rJ.nil
  simpa using this
theorem rJ.get {T:TypeId} {vs:List Value} {ls:List (List (BitVec 8))} {D:List Ck} (h:rJ T vs ls D):∀i (hi:i<ls.length),∃u,vs[i]?=some u∧Bs u ls[i] D:=by
  induction h with
  |nil=>intro i hi;simp at hi
  | cons h1 _ ih=>
    intro i hi
    cases i with
    |zero=>exact ⟨_,rfl,h1.bs.mono fun x hx=>dw _ hx⟩
    | succ i=>
      obtain ⟨u,h2,h3⟩:=ih i (by simpa using hi)
      exact ⟨u,by simpa using h2,h3.mono fun x hx=>dq _ hx⟩
theorem Ob.one_cell {T:TypeId} {v:Value} {l:List (BitVec 8)} {C:List Ck} (h:Ob T v l C):v.oneCell'=true:=by
  obtain ⟨_,_,rfl,_⟩:=h.form;rfl
theorem ae6 (r:Ck) (G C X:List Ck):(r::(G++(C++X))).Perm (C++(r::(G++X))):=by
  refine List.Perm.trans ?_ (List.perm_middle).symm
  refine List.Perm.cons _ ?_
  rw[←dD,←dD]
  exact List.Perm.append_right X List.perm_append_comm
theorem ae5 (C G D X:List Ck):(C++(G++(D++X))).Perm (C++((D++G)++X)):=by
  refine gf C ?_
  rw[←dD]
  exact List.Perm.append_right X List.perm_append_comm
end
section
variable {P:Program} {l:Sl} {H:List Ck} {d:Option Nat} {ty:TypeId} {pos:String} {gJ:Array Edge} {g:Option (Nat×Bool)}
def mapOf (P:Program) (T:TypeId):Option (TypeId×TypeId):=match P.underlying T with|some (.map k e)=>some (k,e)|_=>none
theorem ug {T k e:TypeId} (h:mapOf P T=some (k,e)):P.underlying T=some (.map k e):=by
  unfold mapOf at h
  split at h
  · rename_i lS oM hu
    simp only[ew,Prod.mk.injEq] at h
    rw[hu,h.1,h.2]
  · cases h
def qZ:List (Int×Value)→Int→Nat→Option (Nat×Value)
  |[],_,_=>none
  |p::m,n,i=>if n=p.1 then some (i,p.2) else qZ m n (i+1)
def getM (m:List (Int×Value)) (n:Int):Option Value:=(m.find? fun p=>decide (n=p.1)).map (·.2)
def sU (m:List (Int×Value)) (n:Int):List (Int×Value):=m.filter fun p=>decide (n≠p.1)
theorem LG (m:List (Int×Value)) (n:Int):∀i,(qZ m n i).map (·.2)=getM m n:=by
  induction m with
  |nil=>intro i;rfl
  | cons p m ih=>
    intro i
    by_cases h:n=p.1
    · simp[qZ,getM,h]
    · have:=ih (i+1)
      simp only[qZ,dp h,this]
      simp[getM,h]
def BG (kd:IntKind) (es:Array MapEntry) (m:List (Int×Value)):Prop:=es.toList.map (fun e=>(e.key,e.val))=m.map fun p=>(Value.int kd p.1,p.2)
theorem BG.size {kd:IntKind} {es:Array MapEntry} {m:List (Int×Value)} (h:BG kd es m):es.size=m.length:=by
  have:=congrArg List.length h
  simpa using this
theorem Sa (kd kt:IntKind) (n:Int):∀(es:List MapEntry) (m:List (Int×Value)) (i:Nat),es.map (fun e=>(e.key,e.val))=m.map (fun p=>(Value.int kd p.1,p.2))→Instr.findNow (.int kt) (.int kd n) es i=some (qZ m n i)
  |[],[],i,_=>rfl
  |[],_::_,i,h=>by simp at h
  |_::_,[],i,h=>by simp at h
  | e ::es,p::m,i,h=>by
    simp only[dY,fI,Prod.mk.injEq] at h
    obtain ⟨⟨h1,h2⟩,h3⟩:=h
    by_cases hn:n=p.1
    · simp[Instr.findNow,Instr.sameNow,h1,qZ,hn,h2]
    · have hb:(n==p.1)=false:=by simp[hn]
      simp[Instr.findNow,Instr.sameNow,h1,qZ,hn,hb,Sa kd kt n es m (i+1) h3]
theorem HC {w:World} {K:TypeId} {kt kd:IntKind} {n:Int} {es:Array MapEntry} {m:List (Int×Value)} (hK:P.underlying K=some (.int kt)) (h:BG kd es m):
    (Instr.findKey K (.int kd n) es.toList).run P w=.ok (qZ m n 0) w:=by
  simp[Instr.findKey,dP hK,Sa kd kt n _ _ 0 h]
theorem HB {w:World} {K:TypeId} {kt kd:IntKind} {n:Int} {b:Bool} (hK:P.underlying K=some (.int kt)):(Instr.checkKey b 10000 K (.int kd n)).run P w=.ok () w:=by
  show (Instr.checkKey b (9999+1) K (.int kd n)).run P w=_
  rw[Instr.checkKey]
  simp[dP hK]
theorem tt {w:World} {r:Nat} {o:Obj} (hb:w.heap[r]?=some o) (hm:∃es clock,o=.map es clock):(getObj r).run P w=.ok o w:=by
  obtain ⟨es,clock,rfl⟩:=hm
  simp[getObj,Sem.run,hb]
theorem zX {w:World} {r:Nat} {es:Array MapEntry} {clock:Nat} (o:Obj) (hb:w.heap[r]?=some (.map es clock)):(setObj r o).run P w=.ok () {w with heap:=w.heap.setIfInBounds r o}:=by
  simp only[setObj,Sem.run,hb]
def Mp (b:Nat) (kd:IntKind) (m:List (Int×Value)) (C:List Ck):Prop:=∃es clock,C=[⟨b,.map es clock,true⟩]∧BG kd es m∧(∀e∈es.toList,e.born<clock)∧(es.toList.map (·.born)).Nodup
theorem Hd.makeMap {T:TypeId} {kd:IntKind} {K:Next→List Ck→Prop} (k:∀b C,Mp b kd [] C→K (.value (.map (some b))) (C++H)):Hd P ⟨d,.makeMap T none,ty,pos,gJ,g⟩ l H K:=fun a w R kn s=>by
  refine ⟨_,_,⟨w.heap.size,.map #[] 0,true⟩::H,?_,s.push (.map #[] 0) true,⟨rfl,rfl,rfl,by simp,by first|exact dA _|exact eh _⟩,k w.heap.size [⟨w.heap.size,.map #[] 0,true⟩] ⟨#[],0,rfl,rfl,by simp,by simp⟩⟩
  simp[execOp,Instr.makeMap]
theorem Mp.holds {w:World} {b:Nat} {kd:IntKind} {m:List (Int×Value)} {C R:List Ck} (h:Mp b kd m C) (s:Sat w (C++R)):∃es clock,w.heap[b]?=some (.map es clock)∧BG kd es m:=by
  obtain ⟨es,clock,rfl,h1,_⟩:=h
  exact ⟨es,clock,s.holds _ (dw R dy),h1⟩
theorem cZ {T KT ET:TypeId} {x y:Operand} {b:Nat} {kd kt:IntKind} {n:Int} {m:List (Int×Value)} {z:Value} {C D:List Ck} {K:Next→List Ck→Prop} (hT:mapOf P T=some (KT,ET)) (hK:P.underlying KT=some (.int kt)) (Hj:(P.info? ET).bind (·.zero)=some z)
    (hx:ev l x=some (.map (some b))) (hy:ev l y=some (.int kd n)) (hm:Mp b kd m C) (hH:H.Perm (C++D)) (k:K (.value (.tuple #[(getM m n).getD z,.bool (getM m n).isSome])) H):
    Hd P ⟨d,.lookup T x y true,ty,pos,gJ,g⟩ l H K:=fun a w R kn s=>by
  have hz:∀w,(zeroValue ET).run P w=.ok z w:=fun w=>by
    obtain ⟨i,hi,Hl⟩:=Option.bind_eq_some_iff.1 Hj
    simp[zeroValue,typeInfo,hi,Hl]
  obtain ⟨es,clock,h1,h2⟩:=hm.holds (by have:=s.perm (hH.append_right R);simpa using this:Sat w (C++(D++R)))
  refine ⟨_,w,H,?_,s,Kept.refl w,k⟩
  have hg:=LG m n 0
  cases hf:qZ m n 0 with
  | none=>
    have w7:getM m n=none:=by rw[←hg,hf];rfl
    simp[execOp,kn.ev hx,kn.ev hy,Instr.lookup,dP (ug hT),tt h1 ⟨_,_,rfl⟩,HB hK,HC hK h2,hf,hz,w7]
  | some p=>
    have w7:getM m n=some p.2:=by rw[←hg,hf];rfl
    simp[execOp,kn.ev hx,kn.ev hy,Instr.lookup,dP (ug hT),tt h1 ⟨_,_,rfl⟩,HB hK,HC hK h2,hf,w7]
theorem Sat.zZ {w:World} {b:Nat} {o oe:Obj} {D:List Ck} (s:Sat w (⟨b,o,true⟩::D)):Sat {w with heap:=w.heap.setIfInBounds b oe} (⟨b,oe,true⟩::D):=by
  have hb:b<w.heap.size:=s.lt (c:=⟨b,o,true⟩) dy
  exact s.write (by simp[hb]) (fun k hk=>by simp[Array.getElem?_setIfInBounds,Ne.symm hk])
theorem zL (w:World) (b:Nat) (o:Obj):Kept w {w with heap:=w.heap.setIfInBounds b o}:=⟨rfl,rfl,rfl,by simp,by first|exact dA _|exact eh _⟩
theorem R8 (m:List (Int×Value)) (n:Int):∀i j v,qZ m n i=some (j,v)→i≤j∧j<i+m.length∧∃p,m[j-i]?=some p∧n=p.1∧v=p.2:=by
  induction m with
  |nil=>intro i j v h;cases h
  | cons p m ih=>
    intro i j v h
    by_cases hn:n=p.1
    · simp only[qZ,dx hn,ew,Prod.mk.injEq] at h
      obtain ⟨rfl,rfl⟩:=h
      exact ⟨dA _,by simp,p,by simp,hn,rfl⟩
    · simp only[qZ,dp hn] at h
      obtain ⟨h1,h2,q,h3,h4⟩:=ih (i+1) j v h
      refine ⟨by omega,by simp;omega,q,?_,h4⟩
      rw[show j-i=(j-(i+1))+1 by omega]
      simpa using h3
theorem Hd.aeo {T KT ET:TypeId} {x y z:Operand} {b:Nat} {kd kt:IntKind} {n:Int} {v:Value} {m:List (Int×Value)} {C D:List Ck} {K:Next→List Ck→Prop} (hT:mapOf P T=some (KT,ET)) (hK:P.underlying KT=some (.int kt))
    (hx:ev l x=some (.map (some b))) (hy:ev l y=some (.int kd n)) (hz:ev l z=some v) (hm:Mp b kd m C) (hn:getM m n=none) (hH:H.Perm (C++D)) (k:∀gP,Mp b kd (m++[(n,v)]) gP→K .skip (gP++D)):
    Hd P ⟨d,.mapUpdate T x y z,ty,pos,gJ,g⟩ l H K:=fun a w R kn s=>by
  obtain ⟨es,clock,rfl,h2,h3,h4⟩:=hm
  have jj:Sat w (⟨b,.map es clock,true⟩::(D++R)):=by have:=s.perm (hH.append_right R);simpa using this
  have h1:=jj.holds _ dy
  have hf:qZ m n 0=none:=by
    have:=LG m n 0
    rw[hn] at this
    cases h:qZ m n 0 with
    |none=>rfl
    |some p=>rw[h] at this;cases this
  refine ⟨.skip,{w with heap:=w.heap.setIfInBounds b (.map (es.push {key:=.int kd n,val:=v,born:=clock}) (clock+1))},[⟨b,.map (es.push {key:=.int kd n,val:=v,born:=clock}) (clock+1),true⟩]++D,?_,jj.zZ,zL _ _ _,k _ ⟨_,_,rfl,?_,?_,?_⟩⟩
  · simp only[execOp,kn.ev hx,kn.ev hy,kn.ev hz,Instr.mapUpdate]
    simp[dP (ug hT),tt h1 ⟨_,_,rfl⟩,HB hK,HC hK h2,hf,zX _ h1]
  · unfold BG at h2 ⊢
    simp[h2]
  · intro e he
    simp at he
    rcases he with he|rfl
    · have:=h3 e (by simpa using he);omega
    · simp
  · simp only[Array.toList_push,fW,dY,List.map_nil]
    rw[List.nodup_append]
    refine ⟨h4,by simp,?_⟩
    intro x hx y hy
    simp at hx hy
    obtain ⟨e,he,rfl⟩:=hx
    have:=h3 e (by simpa using he)
    omega
theorem RB (n:Int):∀(m:List (Int×Value)) (k i:Nat) (v:Value),qZ m n k=some (i,v)→(m.map (·.1)).Nodup→sU m n=m.eraseIdx (i-k)
  |[],k,i,v,h,_=>by cases h
  | p ::m,k,i,v,h,hn=>by
    simp only[dY,fX] at hn
    by_cases e:n=p.1
    · simp only[qZ,dx e,ew,Prod.mk.injEq] at h
      obtain ⟨rfl,rfl⟩:=h
      rw[Nat.sub_self]
      have hm:∀q∈m,decide (n≠q.1)=true:=by
        intro q hq
        simp only[dz]
        intro e2
        exact hn.1 (ei.2 ⟨q,hq,by rw[←e2,e]⟩)
      simp only[sU,List.eraseIdx_zero,List.tail_cons]
      rw[eI (by simp[e]),List.filter_eq_self.2 hm]
    · simp only[qZ,dp e] at h
      have ih:=RB n m (k+1) i v h hn.2
      obtain ⟨h1,_⟩:=R8 m n (k+1) i v h
      have:sU (p::m) n=p::sU m n:=by
        simp only[sU]
        rw[ez (by simp[e])]
      rw[this,ih,show i-k=(i-(k+1))+1 by omega]
      rfl
theorem Hu {α β:Type} (f:α→β):∀(l:List α) (i:Nat),(l.eraseIdx i).map f=(l.map f).eraseIdx i
  |[],_=>rfl
  |_::_,0=>rfl
  |a::l,i+1=>by simp only[List.eraseIdx_cons_succ,dY,Hu f l i]
theorem toList_erase (es:Array MapEntry) (i:Nat) (h:i<es.size):(es.eraseIdxIfInBounds i).toList=es.toList.eraseIdx i:=by
  simp[Array.eraseIdxIfInBounds,h]
theorem Hd.delete {T KT ET:TypeId} {Ts:Array TypeId} {x y:Operand} {b:Nat} {kd kt:IntKind} {n:Int} {m:List (Int×Value)} {C D:List Ck} {K:Next→List Ck→Prop} (hT:mapOf P T=some (KT,ET)) (hK:P.underlying KT=some (.int kt)) (Gx:Ts[0]?=some T)
    (hx:ev l x=some (.map (some b))) (hy:ev l y=some (.int kd n)) (hm:Mp b kd m C) (nu:(m.map (·.1)).Nodup) (hH:H.Perm (C++D)) (k:∀gP,Mp b kd (sU m n) gP→K (.value (.tuple #[])) (gP++D)):
    Hd P ⟨d,.call ⟨.builtin .delete,#[x,y],Ts⟩,ty,pos,gJ,g⟩ l H K:=fun a w R kn s=>by
  obtain ⟨es,clock,rfl,h2,h3,h4⟩:=hm
  have jj:Sat w (⟨b,.map es clock,true⟩::(D++R)):=by have:=s.perm (hH.append_right R);simpa using this
  have h1:=jj.holds _ dy
  cases hf:qZ m n 0 with
  | none=>
    have hd:sU m n=m:=by
      unfold sU
      apply List.filter_eq_self.2
      intro p hp
      have hg:=LG m n 0
      rw[hf] at hg
      have:m.find? (fun p=>decide (n=p.1))=none:=by
        unfold getM at hg
        cases h:m.find? (fun p=>decide (n=p.1)) with
        |none=>rfl
        |some q=>rw[h] at hg;cases hg
      have:=List.find?_eq_none.1 this p hp
      simpa using this
    refine ⟨_,{w with heap:=w.heap.setIfInBounds b (.map es clock)},[⟨b,.map es clock,true⟩]++D,?_,jj.zZ,zL _ _ _,k _ ⟨es,clock,rfl,by rw[hd];exact h2,h3,h4⟩⟩
    simp only[execOp,resolve,invoke,builtin,kn.ev hx,kn.ev hy,Builtin.delete_]
    simp[Gx,dP (ug hT),tt h1 ⟨_,_,rfl⟩,HB hK,HC hK h2,hf,zX _ h1,kn.ev hx,kn.ev hy]
  | some p=>
    obtain ⟨i,v⟩:=p
    obtain ⟨_,hi,q,hq,CW,_⟩:=R8 m n 0 i v hf
    have mR:=h2.size
    have jV:i<es.size:=by omega
    have mh:=RB n m 0 i v hf nu
    rw[Nat.sub_zero] at mh
    refine ⟨_,{w with heap:=w.heap.setIfInBounds b (.map (es.eraseIdxIfInBounds i) clock)},[⟨b,.map (es.eraseIdxIfInBounds i) clock,true⟩]++D,?_,jj.zZ,zL _ _ _,k _ ⟨_,clock,rfl,?_,?_,?_⟩⟩
    · simp only[execOp,resolve,invoke,builtin,kn.ev hx,kn.ev hy,Builtin.delete_]
      simp[Gx,dP (ug hT),tt h1 ⟨_,_,rfl⟩,HB hK,HC hK h2,hf,zX _ h1,kn.ev hx,kn.ev hy]
    · unfold BG at h2 ⊢
      rw[toList_erase es i jV,mh,Hu,Hu,h2]
    · intro e he
      rw[toList_erase es i jV] at he
      exact h3 e (List.mem_of_mem_eraseIdx he)
    · rw[toList_erase es i jV]
      exact h4.sublist ((List.eraseIdx_sublist _ _).map _)
theorem Xa {ops:Array Oper} {d:Option Nat} {j dj:Nat} {b:Bool} {op:Op} {tmps:Array Value} (hj:(ops[j]?).bind (·.dst)=some dj) (hv:tmps.getD dj undef=undef):
    Region.wanted ⟨d,op,ty,pos,gJ,some (j,b)⟩ (yielded ops tmps)=false:=by
  simp only[Region.wanted,yielded]
  cases ho:ops[j]? with
  |none=>simp
  | some oj=>
    simp[ho] at hj
    simp only[fj] at hv
    cases ht:tmps[dj]? with
    |none=>simp[hj,ht]
    | some u=>
      rw[ht] at hv
      simp at hv
      subst hv
      simp[hj,ht,undef]
theorem WL.gu {n:Nat} {w0:World} {R:List Ck} {ops:Array Oper} {Q:Exit→Act→World→Prop} {dd j:Nat} {b:Bool} {dj:Nat} {op:Op} {rest:List Oper} (hj:(ops[j]?).bind (·.dst)=some dj) (hg:iF l dj=some undef)
    (hd:Nat.blt dd n=true) (h:WL P n w0 R ops Q rest ((dd,undef)::l) H):WL P n w0 R ops Q (⟨some dd,op,ty,pos,gJ,some (j,b)⟩::rest) l H:=by
  intro a w i
  refine wpList_step fun K hK=>?_
  have hw:Region.wanted ⟨some dd,op,ty,pos,gJ,some (j,b)⟩ (yielded ops a.tmps)=false:=Xa hj (i.kn dj _ hg)
  rw[hw]
  exact hK _ _ (h _ _ (i.put hd undef))
theorem WL.h0 {n:Nat} {w0:World} {R:List Ck} {ops:Array Oper} {Q:Exit→Act→World→Prop} {op:Op} {rest:List Oper}
    (hh:Hd P ⟨none,op,ty,pos,gJ,none⟩ l H fun r gr=>∃v,r=.value v∧WL P n w0 R ops Q rest l gr):WL P n w0 R ops Q (⟨none,op,ty,pos,gJ,none⟩::rest) l H:=by
  intro a w i
  obtain ⟨r,jq,gr,hr,hs,hk,v,rfl,hw⟩:=hh a w R i.kn i.sat
  exact PC rfl hr (hw _ _ ⟨i.size,i.defers,i.kn,hs,i.kept.trans hk⟩)
theorem iE.val {f:FuncId} {x:Operand} {xs:List Operand} {qz:Array TypeId} {vs:List Value}
    (hc:∀(args:Array Value) (w:World),(callFunc f args).run P w=.ok (.enter f args) w) (hx:ev l x=some (.func (.func f) #[] #[])) (hv:rN l xs=some vs):
    iE P ⟨d,.call ⟨.value x,xs.toArray,qz⟩,ty,pos,gJ,g⟩ l f vs:=by
  intro a k w
  have:=k.rN hv
  simp[execOp,resolve,k.ev hx,Deferred.ofValue,invoke,this,hc]
theorem cf {n:Nat} {w0:World} {R:List Ck} {ops:Array Oper} {Q:Exit→Act→World→Prop} {d1 d2 s:Nat} {T e T2:TypeId} {x y:Operand} {HL HM:TypeId} {p1 p2:String} {a1 a2:Array Edge} {rest:List Oper} {ao:Option Addr} {len c m:Nat} {xs vs:List Value} {k:IntKind} {i:Nat} {mi:Int}
    (hT:lk P T=some e) (hs:me P e=some s) (ya:tm P T2 s=true) (hx:ev l x=some (.slice ao len c)) (hy:ev l y=some (.int k mi)) (GU:mi=(i:Int)) (hr:Rs (.slice ao len c) m xs H) (hv:(xs.drop (i*s)).take s=vs) (kT:vs.length=s) (zD:0<s) (gQ:i<len) (h1:Nat.blt d1 n=true) (h2:Nat.blt d2 n=true)
    (h:∀p,WL P n w0 R ops Q rest ((d2,.agg vs.toArray)::(d1,p)::l) H):WL P n w0 R ops Q (⟨some d1,.indexAddr T x y,HL,p1,a1,none⟩::⟨some d2,.load T2 (.tmp d1),HM,p2,a2,none⟩::rest) l H:=by
  subst GU
  have h8:vs.length=min s (xs.length-i*s):=by rw[←hv,dE,eg]
  have jk:xs≠[]:=fun e=>by
    rw[e] at h8
    simp only[dR,Nat.zero_sub,Nat.min_zero,Nat.le_zero_eq] at h8
    omega
  rcases hr with ⟨K4,sS,_,_,e0⟩|⟨b,o,cap,cs,gV,fr,ex,ie,hc,hm,sA⟩
  · exact absurd e0 jk
  simp only[dI] at ie
  obtain ⟨rfl,rfl,rfl⟩:=ie
  have hlen:i*s+s≤xs.length:=by omega
  have qF:o+xs.length≤cs.length:=by
    have:=congrArg List.length sA
    rw[dE,eg] at this
    by_cases h0:xs.length=0
    · exact absurd (dU h0) jk
    · omega
  refine ae h1 (Yd.indexAddr hT hs hx hy gz gz) ?_
  refine WL.h h2 (aJ (n:=s) (b:=b) (o:=o+(i:Int).toNat*s) (cs:=cs) (vs:=vs) ya (by simp[ev,pW]) hm kT ?_ ⟨_,rfl,h _⟩)
  rw[←hv,Int.toNat_natCast]
  rw[←sA,List.drop_take,gd,gv]
  congr 1
  omega
end
end Go.SL
