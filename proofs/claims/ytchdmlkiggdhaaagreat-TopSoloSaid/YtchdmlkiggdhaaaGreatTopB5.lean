/-
  Lemmas and walks that TopOne and TopSolo stands on (part 5); no condition.
-/
import Derived.Lib.Bytealg
import Derived.Shelf.SlSortCmp.NoneTotal
import Derived.Test.YtchdmlkiggdhaaaGreatTopB4
set_option linter.unusedVariables false
set_option linter.unusedSimpArgs false
set_option linter.unusedSectionVars false
namespace Go.SL
open Top
structure Rl where
  ep:BitVec 32
  iC:BitVec 64
  mode:Int
  ui:Int
  next:BitVec 64
  iU:BitVec 64
def jO (r:Rl) (pl:Nat):List Value:=[.int .u32 r.ep.toNat,.int .u64 r.iC.toNat,.int .i64 r.mode,.int .i64 r.ui,ptr pl,.int .u64 r.next.toNat,.int .u64 r.iU.toNat]
def iN (vp:Value) (pj:Nat) (seen:BitVec 32) (vr:Value):List Value:=[vp,ptr pj,.int .u32 seen.toNat,vr]
def Ik (TR TL TO:Nat) (vr:Value) (ps:List (List ia)) (r:Option Rl) (L:Ld) (C:List Ck):Prop:=match r with
  |none=>vr=.pointer none∧C=[]
  |some r=>∃q pl CL,vr=ptr q∧C=row q (jO r pl) TR::CL∧ln TL TO pl ps L CL∧l4 ps L
def FP (vr:Value) (ps:List (List ia)) (r:Option Rl) (L:Ld) (H:List Ck):Prop:=match r with
  |none=>vr=.pointer none
  |some r=>∃q pl T fr ex,vr=ptr q∧(⟨q,.cells (jO r pl).toArray T fr,ex⟩:Ck)∈H∧mN pl ps L H∧l4 ps L
theorem FP.mono {vr:Value} {ps:List (List ia)} {r:Option Rl} {L:Ld} {A B:List Ck} (h:FP vr ps r L A) (s:∀c∈A,c∈B):FP vr ps r L B:=by
  cases r with
  |none=>exact h
  | some r=>
    obtain ⟨q,pl,T,fr,ex,h1,h2,h3,h4⟩:=h
    exact ⟨q,pl,T,fr,ex,h1,s _ h2,h3.mono s,h4⟩
theorem Ik.v {TR TL TO:Nat} {vr:Value} {ps:List (List ia)} {r:Option Rl} {L:Ld} {C:List Ck} (h:Ik TR TL TO vr ps r L C):FP vr ps r L C:=by
  cases r with
  |none=>exact h.1
  | some r=>
    obtain ⟨q,pl,CL,h1,rfl,h2,h3⟩:=h
    exact ⟨q,pl,_,_,_,h1,dy,h2.v.mono fun c hc=>dt _ hc,h3⟩
def iY (TS TR TL TO TJ TP TG TI TE:Nat) (p pd:Nat) (ps:List (List ia)) (ss:List gR) (seen:BitVec 32) (r:Option Rl) (L:Ld) (C:List Ck):Prop:=
  ∃vp pj vr CJ CR V,C=row p (iN vp pj seen vr) TS::(CJ++(CR++V))∧na TJ TP TG TI TE pj pd ss (js (gh ss)) CJ∧Ik TR TL TO vr ps r L CR∧yL vp ps V
def kX (p pd:Nat) (ps:List (List ia)) (ss:List gR) (seen:BitVec 32) (r:Option Rl) (L:Ld) (H:List Ck):Prop:=
  ∃vp pj vr T fr ex,(⟨p,.cells (iN vp pj seen vr).toArray T fr,ex⟩:Ck)∈H∧JV pj pd ss (js (gh ss)) H∧FP vr ps r L H∧yL vp ps H
theorem kX.mono {p pd:Nat} {ps:List (List ia)} {ss:List gR} {seen:BitVec 32} {r:Option Rl} {L:Ld} {A B:List Ck} (h:kX p pd ps ss seen r L A) (s:∀c∈A,c∈B):kX p pd ps ss seen r L B:=by
  obtain ⟨vp,pj,vr,T,fr,ex,h1,h2,h3,h4⟩:=h
  exact ⟨vp,pj,vr,T,fr,ex,s _ h1,h2.mono s,h3.mono s,VS.mono h4 s⟩
theorem iY.v {TS TR TL TO TJ TP TG TI TE:Nat} {p pd:Nat} {ps:List (List ia)} {ss:List gR} {seen:BitVec 32} {r:Option Rl} {L:Ld} {C:List Ck} (h:iY TS TR TL TO TJ TP TG TI TE p pd ps ss seen r L C):kX p pd ps ss seen r L C:=by
  obtain ⟨vp,pj,vr,CJ,CR,V,rfl,h1,h2,h3⟩:=h
  exact ⟨vp,pj,vr,_,_,_,dy,h1.v.mono fun c hc=>dt _ (dw _ hc),h2.v.mono fun c hc=>dt _ (dq _ (dw _ hc)),VS.mono h3 fun c hc=>dt _ (dq _ (dq _ hc))⟩
def nV (r:Option Rl):BitVec 32:=match r with|none=>0#32|some r=>r.ep
def lj (r:Option Rl) (now:BitVec 64):Bool:=match r with|none=>false|some r=>decide (now.toNat≤r.iC.toNat)
def ng (r:Option Rl) (l:List En):BitVec 64:=match r with|none=>0#64|some r=>yS r.mode (js l) r.iU
theorem iz {x:Ck} {H D:List Ck} (h:Fr H x D:=by repeat (first|exact Fr.here|apply bE|apply bD|apply bC)):x∈H:=h.p.symm.subset dy
structure jt where
  order:BitVec 32
  key:List (BitVec 8)
  data:List (BitVec 8)
  code:Int
deriving DecidableEq
def jY (a:jt):List Value:=[.int .u32 a.order.toNat,.string (str a.key),.string (str a.data),.int .i64 a.code]
def oW (l:List jt) (a:jt):List jt:=if a∈l then l else l++[a]
theorem K3 (l:List jt):(l.flatMap jY).length=l.length*4:=by
  induction l with
  |nil=>rfl
  |cons a l ih=>rw[List.flatMap_cons,dr,ih,dF,fZ];show 4+_=_;omega
theorem afN (x y:jt):tE [0,1,1,0] (jY x) (jY y)=some (decide (x=y)):=by
  obtain ⟨a,b,c,d⟩:=x
  obtain ⟨gX,oJ,tC,vM⟩:=y
  simp only[jY,tE,yQ,if_true,Option.bind_some,Option.map_some,ew]
  rw[dM]
  simp[str_inj]
  intro _ _ _
  exact ⟨fun h=>dB gz,fun h=>by rw[h]⟩
theorem Ip:∀(l:List jt) (i:Nat) (h:i<l.length),((l.flatMap jY).drop (i*4)).take 4=jY l[i]
  |a::l,0,_=>rfl
  | a::l,i+1,h=>by
    rw[List.flatMap_cons,show (i+1)*4=(jY a).length+i*4 by show _=4+i*4;omega,fH]
    exact Ip l i (by simpa using h)
end Go.SL
namespace Go.SL
structure Kp where
  order:BitVec 32
  step:Int
  iy:Bool
  asked:List (BitVec 8)
  code:Int
  iq:List (BitVec 8)
deriving DecidableEq
def kc (k:Kp) (va vr:Value):List Value:=[.int .u32 k.order.toNat,.int .i64 k.step,.bool k.iy,va,.int .i64 k.code,vr]
theorem Hr (k:Kp) (va vr:Value):(kc k va vr).length=6:=rfl
def Kp.z:Kp:=⟨0#32,0,false,[],0,[]⟩
def N5 (o:BitVec 32) (s:Int) (u:Bool):List Value:=[.int .u32 o.toNat,.int .i64 s,.bool u]
def kx (o:BitVec 32) (s:Int) (u:Bool):Nat:=o.toNat*256+s.toNat*2+(if u then 1 else 0)
def Kp.num (k:Kp):Nat:=kx k.order k.step k.iy
theorem aeN {o oe:BitVec 32} {s jj:Int} {u jn:Bool} (h0:0≤s) (h:s<16) (aiX:0≤jj) (lK:jj<16) (e:kx o s u=kx oe jj jn):o=oe∧s=jj∧u=jn:=by
  unfold kx at e
  have e1:o.toNat=oe.toNat:=by revert e;split<;>split<;>omega
  have e2:s=jj:=by revert e;split<;>split<;>omega
  refine ⟨dB e1,e2,?_⟩
  revert e
  cases u<;>cases jn<;>simp<;>omega
theorem Ox {o:BitVec 32} {s:Int} (h0:0≤s) (h:s<16):((o.setWidth 64<<<8)|||(BitVec.ofInt 64 s<<<1)).toNat=o.toNat*256+s.toNat*2:=by
  obtain ⟨n,rfl⟩:=Int.eq_ofNat_of_zero_le h0
  have hn:n<16:=by omega
  have ho:=o.isLt
  have e1:(BitVec.ofInt 64 (n:Int)<<<1).toNat=n*2:=by
    simp[BitVec.toNat_shiftLeft,Nat.shiftLeft_eq]
    omega
  have e2:(o.setWidth 64<<<8).toNat=2 ^ 8*o.toNat:=by
    simp[BitVec.toNat_shiftLeft,Nat.shiftLeft_eq]
    omega
  rw[BitVec.toNat_or,e1,e2,←Nat.two_pow_add_eq_or_of_lt gz]
  simp
  omega
theorem aeL {x:BitVec 64} (h:x.toNat%2=0):(x|||1#64).toNat=x.toNat+1:=by
  have e:x.toNat=2 ^ 1*(x.toNat/2):=by omega
  rw[BitVec.toNat_or,e]
  have:=Nat.two_pow_add_eq_or_of_lt (i:=1) (b:=1) gz (x.toNat/2)
  simpa using this.symm
theorem aeM {o:BitVec 32} {s:Int} (h0:0≤s) (h:s<16):(((o.setWidth 64<<<8)|||(BitVec.ofInt 64 s<<<1))|||1#64).toNat=o.toNat*256+s.toNat*2+1:=by
  rw[aeL (by rw[Ox h0 h];omega),Ox h0 h]
def mZ (k:Kp):Prop:=0<k.order.toNat∧0≤k.step∧k.step<16∧k.asked.length≤255∧k.iq.length≤255∧(k.code=1∨k.code=2)
instance (k:Kp):Decidable (mZ k):=by unfold mZ;infer_instance
def lP (ks:List Kp):Prop:=ks.length≤200∧(∀k∈ks,mZ k)∧ks.Pairwise fun a b=>a.num<b.num
instance (ks:List Kp):Decidable (lP ks):=by unfold lP;infer_instance
theorem Rk:lP []:=⟨dN _,fun _ h=>absurd h ej,List.Pairwise.nil⟩
theorem Zm (ks:List Kp):lP (ks.take 0):=by rw[fJ];exact Rk
theorem F6 {ks:List Kp} (h:lP ks) {i:Nat} (hi:i<ks.length):mZ ks[i]:=h.2.1 _ (dG hi)
theorem DZ {ks:List Kp} (h:lP ks) {i j:Nat} (A0:i<j) (hj:j<ks.length):(ks[i]'gz).num<ks[j].num:=fN.1 h.2.2 i j gz hj A0
theorem Rm {ks:List Kp} {i:Nat} (h:lP (ks.take i)) (hl:ks.length≤200) (hi:i<ks.length) (hr:mZ ks[i]) (ho:i=0∨(ks[i-1]'gz).num<ks[i].num):lP (ks.take (i+1)):=by
  rw[dJ hi]
  refine ⟨by simp;omega,fun k hk=>?_,List.pairwise_append.2 ⟨h.2.2,List.pairwise_singleton _ _,fun x hx y hy=>?_⟩⟩
  · rcases dT.1 hk with hk|hk
    · exact h.2.1 k hk
    · rw[dH.1 hk];exact hr
  · rw [dH.1 hy]
    obtain ⟨j,hj,rfl⟩:=List.mem_iff_getElem.1 hx
    rw[dE] at hj
    rcases ho with rfl|ho
    · omega
    · by_cases e:j=i-1
      · subst e;simpa using ho
      · have:=DZ h (i:=j) (j:=i-1) gz (by rw[dE];omega)
        simp only[List.getElem_take] at this ⊢
        omega
theorem Zl {ks:List Kp} (h:lP ks) {i:Nat} (h0:0<i) (hi:i<ks.length):(ks[i-1]'gz).num<ks[i].num:=DZ h gz hi
def pos (ks:List Kp) (n:Nat):Nat:=(ks.takeWhile fun k=>decide (k.num<n)).length
def lJ (ks:List Kp) (n:Nat):Option Kp:=ks.find? fun k=>decide (k.num=n)
theorem Dt (ks:List Kp) (n:Nat):pos ks n≤ks.length:=(List.takeWhile_sublist _).length_le
theorem OQ {k:Kp} {ks:List Kp} {n:Nat} (h:k.num<n):pos (k::ks) n=pos ks n+1:=by
  unfold pos
  rw[List.takeWhile_cons_of_pos (by simpa using h),dF]
theorem OP {k:Kp} {ks:List Kp} {n:Nat} (h:¬k.num<n):pos (k::ks) n=0:=by
  unfold pos
  rw[List.takeWhile_cons_of_neg (by simpa using h)]
  rfl
theorem pos_eq {n:Nat}:∀{ks:List Kp} {i:Nat},i≤ks.length→(∀t (h:t<ks.length),t<i→ks[t].num<n)→(∀(h:i<ks.length),n≤ks[i].num)→pos ks n=i
  |[],i,h,_,_=>by simp at h;subst h;rfl
  |k::ks,0,_,_,h2=>OP (by have:=h2 (by simp);simp only[List.getElem_cons_zero] at this;omega)
  | k::ks,i+1,h,h1,h2=>by
    have h0:=h1 0 (by simp) gz
    simp only[List.getElem_cons_zero] at h0
    have ih:=pos_eq (n:=n) (ks:=ks) (i:=i) (by simpa using h) (fun t ht oU=>by have:=h1 (t+1) (by simpa using ht) gz;rwa [List.getElem_cons_succ] at this) (fun hi=>by have:=h2 (by simpa using hi);rwa [List.getElem_cons_succ] at this)
    rw[OQ h0,ih]
theorem VY {n:Nat}:∀{ks:List Kp} {t:Nat} (h:t<ks.length),t<pos ks n→ks[t].num<n
  | k ::ks,t,h,ht=>by
    by_cases e:k.num<n
    · cases t with
      |zero=>exact e
      | succ t=>
        rw[OQ e] at ht
        exact VY (ks:=ks) (by simpa using h) gz
    · rw[OP e] at ht;omega
theorem VX {n:Nat}:∀{ks:List Kp} {t:Nat} (h:t<ks.length),t=pos ks n→n≤ks[t].num
  | k ::ks,t,h,ht=>by
    by_cases e:k.num<n
    · rw[OQ e] at ht
      subst ht
      exact VX (ks:=ks) (by simpa using h) rfl
    · rw[OP e] at ht
      subst ht
      simpa using e
theorem IT {ks:List Kp} {n:Nat} {k:Kp} (h:lJ ks n=some k):k∈ks∧k.num=n:=by
  unfold lJ at h
  exact ⟨List.mem_of_find?_eq_some h,by simpa using List.find?_some h⟩
theorem SF {ks:List Kp} {n:Nat} (h:lJ ks n=none):∀k∈ks,k.num≠n:=fun k hk e=>by
  have:=List.find?_eq_none.1 h k hk
  simp at this
  exact this e
theorem SG {ks:List Kp} (h:lP ks) {n:Nat}:(lJ ks n=none∧∀(hi:pos ks n<ks.length),ks[pos ks n].num≠n)∨∃hi:pos ks n<ks.length,ks[pos ks n].num=n∧lJ ks n=some ks[pos ks n]:=by
  cases e:lJ ks n with
  |none=>exact .inl ⟨rfl,fun hi=>SF e _ (dG _)⟩
  | some k=>
    right
    obtain ⟨hk,hn⟩:=IT e
    obtain ⟨i,hi,rfl⟩:=List.mem_iff_getElem.1 hk
    have:pos ks n=i:=pos_eq gz (fun t ht oU=>by have:=DZ h oU hi;omega) (fun _=>by omega)
    subst this
    exact ⟨hi,hn,rfl⟩
def uU (ks:List Kp) (i:Nat) (k:Kp):List Kp:=ks.take i++k::ks.drop i
theorem Hn {ks:List Kp} {i:Nat} (k:Kp) (h:i≤ks.length):(uU ks i k).length=ks.length+1:=by
  simp[uU]
  omega
theorem Gr.get {A B:List Ck} {c:Ck} (h:∀x∈A,x∈B) (hm:c∈A):c∈B:=h c hm
inductive vC (H:List Ck):List Value→List Kp→Prop
  |nil:vC H [] []
  |cons {k:Kp} {va vr:Value} {cs:List Value} {ks:List Kp}:Bs va k.asked H→Bs vr k.iq H→vC H cs ks→vC H (kc k va vr++cs) (k::ks)
theorem vC.len {H:List Ck} {cs:List Value} {ks:List Kp} (h:vC H cs ks):cs.length=ks.length*6:=by
  induction h with
  |nil=>rfl
  |cons _ _ _ ih=>simp only[dr,Hr,ih,dF];omega
theorem vC.mono {A B:List Ck} {cs:List Value} {ks:List Kp} (h:vC A cs ks) (s:∀c∈A,c∈B):vC B cs ks:=by
  induction h with
  |nil=>exact .nil
  |cons h1 h2 _ ih=>exact .cons (h1.mono s) (h2.mono s) ih
theorem vC.at {H:List Ck} {cs:List Value} {ks:List Kp} (h:vC H cs ks):∀(i:Nat) (hi:i<ks.length),∃va vr,(cs.drop (i*6)).take 6=kc ks[i] va vr∧Bs va ks[i].asked H∧Bs vr ks[i].iq H:=by
  induction h with
  |nil=>intro i hi;simp at hi
  | @cons k va vr cs ks h1 h2 h3 ih=>
    intro i hi
    cases i with
    |zero=>exact ⟨va,vr,by simp[List.take_append,Hr];rfl,h1,h2⟩
    | succ i=>
      obtain ⟨ahI,ahK,g1,g2,g3⟩:=ih i (by simpa using hi)
      refine ⟨ahI,ahK,?_,g2,g3⟩
      rw[show (i+1)*6=(kc k va vr).length+i*6 by rw[Hr];omega,fH]
      exact g1
def KV (v:Value) (ks:List Kp) (H:List Ck):Prop:=∃cs,Rs v ks.length cs H∧vC H cs ks
theorem KV.mono {v:Value} {ks:List Kp} {A B:List Ck} (h:KV v ks A) (s:∀c∈A,c∈B):KV v ks B:=by
  obtain ⟨cs,h1,h2⟩:=h
  exact ⟨cs,h1.mono s,h2.mono s⟩
theorem KV.form {v:Value} {ks:List Kp} {A:List Ck} (h:KV v ks A):∃ao cap,v=.slice ao ks.length cap∧ks.length≤cap:=by
  obtain ⟨cs,h1,_⟩:=h
  exact h1.form
theorem bG {v:Value} {l:List (BitVec 8)} {A:List Ck} (h:Bs v l A):mm v l.length:=by
  obtain ⟨ao,c,rfl,_⟩:=h.form
  exact ⟨ao,c,rfl⟩
inductive nz (T:TypeId):List Value→List Kp→List Ck→Prop
  |nil:nz T [] [] []
  |cons {k:Kp} {va vr:Value} {A B:List Ck} {cs:List Value} {ks:List Kp} {D:List Ck}:Ob T va k.asked A→Ob T vr k.iq B→nz T cs ks D→nz T (kc k va vr++cs) (k::ks) (A++(B++D))
theorem xp {k:Kp} {va vr:Value} (h1:va.oneCell'=true) (h2:vr.oneCell'=true):∀u∈kc k va vr,u.oneCell'=true:=by
  intro u hu
  simp only[kc,eS,ej,or_false] at hu
  rcases hu with rfl|rfl|rfl|rfl|rfl|rfl<;>first|rfl|exact h1|exact h2
theorem nz.one {T:TypeId} {cs:List Value} {ks:List Kp} {D:List Ck} (h:nz T cs ks D):∀u∈cs,u.oneCell'=true:=by
  induction h with
  |nil=>intro u hu;cases hu
  | cons h1 h2 _ ih=>
    intro u hu
    rcases dT.1 hu with hu|hu
    · exact xp h1.one_cell h2.one_cell u hu
    · exact ih u hu
theorem nz.append {T:TypeId} {cs iT:List Value} {ks JP:List Kp} {D pf:List Ck} (h:nz T cs ks D) (k:nz T iT JP pf):nz T (cs++iT) (ks++JP) (D++pf):=by
  induction h with
  |nil=>exact k
  | cons h1 h2 _ ih=>
    rw[dD,fp,dD,dD]
    exact .cons h1 h2 ih
theorem nz.aeS {T:TypeId} {k:Kp} {va vr:Value} {A B:List Ck} (h1:Ob T va k.asked A) (h2:Ob T vr k.iq B):nz T (kc k va vr) [k] (A++B):=by
  have:=nz.cons h1 h2 nz.nil
  simpa using this
theorem nz.split {T:TypeId} {cs:List Value} {ks:List Kp} {D:List Ck} (h:nz T cs ks D):∀(i:Nat),i≤ks.length→∃D1 D2,D=D1++D2∧nz T (cs.take (i*6)) (ks.take i) D1∧nz T (cs.drop (i*6)) (ks.drop i) D2:=by
  induction h with
  |nil=>intro i hi;simp at hi;subst hi;exact ⟨[],[],rfl,.nil,.nil⟩
  | @cons k va vr A B cs ks D h1 h2 h3 ih=>
    intro i hi
    cases i with
    |zero=>exact ⟨[],A++(B++D),rfl,.nil,.cons h1 h2 h3⟩
    | succ i=>
      obtain ⟨D1,D2,rfl,g1,g2⟩:=ih i (by simpa using hi)
      refine ⟨A++(B++D1),D2,by simp,?_,?_⟩
      · rw[show (i+1)*6=(kc k va vr).length+i*6 by rw[Hr];omega,List.take_length_add_append,List.take_succ_cons]
        exact .cons h1 h2 g1
      · rw[show (i+1)*6=(kc k va vr).length+i*6 by rw[Hr];omega,fH,List.drop_succ_cons]
        exact g2
theorem nz.ins {T:TypeId} {cs:List Value} {ks:List Kp} {D:List Ck} (h:nz T cs ks D) {i:Nat} (hi:i≤ks.length) {k:Kp} {va vr:Value} {A B:List Ck} (h1:Ob T va k.asked A) (h2:Ob T vr k.iq B):
    ∃pf,nz T (cs.take (i*6)++(kc k va vr++cs.drop (i*6))) (uU ks i k) pf∧pf.Perm (D++(A++B)):=by
  obtain ⟨D1,D2,rfl,g1,g2⟩:=h.split i hi
  refine ⟨_,g1.append (.cons h1 h2 g2),?_⟩
  classical
  exact fQ.2 fun q=>by simp only[gb];omega
theorem nz.views {T:TypeId} {cs:List Value} {ks:List Kp} {D:List Ck} (h:nz T cs ks D):vC D cs ks:=by
  induction h with
  |nil=>exact .nil
  |@cons k va vr A B cs ks D h1 h2 h3 ih=>exact .cons (h1.bs.mono fun c hc=>dw _ hc) (h2.bs.mono fun c hc=>dq _ (dw _ hc)) (ih.mono fun c hc=>dq _ (dq _ hc))
def rI (T8 TK:TypeId) (v:Value) (ks:List Kp) (H:List Ck):Prop:=∃cs C D,il v ks.length cs TK 6 C∧nz T8 cs ks D∧H=C++D
theorem rI.kv {T8 TK:TypeId} {v:Value} {ks:List Kp} {H:List Ck} (h:rI T8 TK v ks H):KV v ks H:=by
  obtain ⟨cs,C,D,h1,h2,rfl⟩:=h
  exact ⟨cs,h1.rs.mono fun c hc=>dw _ hc,h2.views.mono fun c hc=>dq _ hc⟩
theorem rI.nil (T8 TK:TypeId):rI T8 TK (.slice none 0 0) [] []:=⟨[],[],[],il.nil _ _,.nil,rfl⟩
theorem rI.form {T8 TK:TypeId} {v:Value} {ks:List Kp} {H:List Ck} (h:rI T8 TK v ks H):∃ao c,v=.slice ao ks.length c:=by
  obtain ⟨cs,C,D,h1,h2,rfl⟩:=h
  obtain ⟨ao,c,rfl,_⟩:=h1.form
  exact ⟨ao,c,rfl⟩
def findF (ks:List Kp) (o:BitVec 32) (s:Int) (u:Bool):Option Kp:=if lP ks∧0≤s∧s<16 then lJ ks (kx o s u) else none
def mF (ks:List Kp) (n:Nt):Prop:=¬lP ks∨n.kind≠7∨mS n=true∨n.gE=0#32∨n.order=0#32
instance (ks:List Kp) (n:Nt):Decidable (mF ks n):=by unfold mF;infer_instance
def ix (e:BitVec 32) (ks:List Kp) (n:Nt):Int×Kp×Int:=
  if mF ks n then (0,Kp.z,2)
  else if n.gE.toNat<e.toNat then (0,Kp.z,72)
  else match lJ ks (kx n.order n.step n.iy) with
    |some k=>if k.asked=n.data then (2,k,0) else (0,Kp.z,80)
    | none=>match lJ ks (kx n.order n.step (!n.iy)) with
      |some k=>if n.iy=false then (3,Kp.z,0) else if k.code=2 then (4,Kp.z,0) else (1,Kp.z,0)
      |none=>if n.iy=true then (4,Kp.z,0) else (1,Kp.z,0)
def lF (n:Nt) (code:Int) (iq:List (BitVec 8)):Kp:=⟨n.order,n.step,n.iy,n.data,code,iq⟩
def rZ (e:BitVec 32) (ks:List Kp) (n:Nt) (code:Int) (iq:List (BitVec 8)):BitVec 32×List Kp×Int:=
  if (ix e ks n).2.2≠0 then (0#32,[],(ix e ks n).2.2)
  else if ¬mZ (lF n code iq)∨((ix e ks n).1=3∧code≠2)∨((ix e ks n).1=4∧code≠1) then (0#32,[],2)
  else if (ix e ks n).1=2 then (0#32,[],81)
  else if 200≤ks.length then (0#32,[],5)
  else (n.gE,uU ks (pos ks (lF n code iq).num) (lF n code iq),0)
def rB (e:BitVec 32) (ks:List Kp) (x:BitVec 32):BitVec 32×List Kp×Int:=
  if ¬lP ks then (0#32,[],2) else if x.toNat<e.toNat then (0#32,[],72) else (x,ks,0)
theorem Ow {n:Nt} (h:mS n=false):0≤n.step∧n.step<16∧n.data.length≤255:=by
  have h2:qE n=false:=by
    cases e:qE n
    · rfl
    · rw[mS,e] at h;simp at h
  simp only[qE,Bool.or_eq_false_iff,fi] at h2
  omega
theorem LF {ks:List Kp} {o:BitVec 32} {s:Int} {u:Bool} (h:lP ks) (h0:0≤s) (h1:s<16):findF ks o s u=lJ ks (kx o s u):=dx ⟨h,h0,h1⟩
theorem aao {ks:List Kp} {o:BitVec 32} {s:Int} {u:Bool} (h:¬(lP ks∧0≤s∧s<16)):findF ks o s u=none:=dp h
section
variable {e:BitVec 32} {ks:List Kp} {n:Nt}
theorem Av (h:mF ks n):ix e ks n=(0,Kp.z,2):=dx h
theorem K7 (h:¬mF ks n) (h2:n.gE.toNat<e.toNat):ix e ks n=(0,Kp.z,72):=by
  unfold ix;rw[dp h,dx h2]
theorem QN (h:¬mF ks n) (h2:¬n.gE.toNat<e.toNat) {k:Kp} (hk:lJ ks (kx n.order n.step n.iy)=some k) (ha:k.asked=n.data):ix e ks n=(2,k,0):=by
  unfold ix;rw[dp h,dp h2];simp only[hk,ha,if_true]
theorem QO (h:¬mF ks n) (h2:¬n.gE.toNat<e.toNat) {k:Kp} (hk:lJ ks (kx n.order n.step n.iy)=some k) (ha:k.asked≠n.data):ix e ks n=(0,Kp.z,80):=by
  unfold ix;rw[dp h,dp h2];simp only[hk,dp ha]
theorem QQ (h:¬mF ks n) (h2:¬n.gE.toNat<e.toNat) (hk:lJ ks (kx n.order n.step n.iy)=none) {k:Kp} (ma:lJ ks (kx n.order n.step (!n.iy))=some k) (hu:n.iy=false):ix e ks n=(3,Kp.z,0):=by
  unfold ix;rw[dp h,dp h2];simp only[hk,ma,dx hu]
theorem QR (h:¬mF ks n) (h2:¬n.gE.toNat<e.toNat) (hk:lJ ks (kx n.order n.step n.iy)=none) {k:Kp} (ma:lJ ks (kx n.order n.step (!n.iy))=some k) (hu:n.iy=true):ix e ks n=(if k.code=2 then (4,Kp.z,0) else (1,Kp.z,0)):=by
  unfold ix;rw[dp h,dp h2];simp only[hk,ma,dp (show ¬n.iy=false by rw[hu];decide)]
theorem QP (h:¬mF ks n) (h2:¬n.gE.toNat<e.toNat) (hk:lJ ks (kx n.order n.step n.iy)=none) (ma:lJ ks (kx n.order n.step (!n.iy))=none):ix e ks n=(if n.iy=true then (4,Kp.z,0) else (1,Kp.z,0)):=by
  unfold ix;rw[dp h,dp h2];simp only[hk,ma]
theorem yO (h:¬mF ks n) (h2:¬n.gE.toNat<e.toNat) (hk:lJ ks (kx n.order n.step n.iy)=none) {g:Option Kp} (hg:g=lJ ks (kx n.order n.step (!n.iy))):
    ix e ks n=if n.iy=false∧g.isSome=true then (3,Kp.z,0) else if n.iy=true∧(g.isSome=false∨(g.getD Kp.z).code=2) then (4,Kp.z,0) else (1,Kp.z,0):=by
  cases g with
  | none=>
    rw[QP h h2 hk hg.symm]
    simp
  | some k=>
    cases hu:n.iy with
    |false=>rw[QQ h h2 hk hg.symm hu];simp
    |true=>rw[QR h h2 hk hg.symm hu];simp
theorem FW (h:(ix e ks n).2.2=0):¬mF ks n∧¬n.gE.toNat<e.toNat:=by
  refine ⟨fun hb=>?_,fun hb=>?_⟩
  · rw[Av hb] at h;exact absurd h gB
  · by_cases h2:mF ks n
    · rw[Av h2] at h;exact absurd h gB
    · rw[K7 h2 hb] at h;exact absurd h gB
theorem aaR (h:¬mF ks n):lP ks:=dW fun h2=>h (.inl h2)
end
def tn (q:Int×Kp×Int) (k:Kp):Prop:=¬mZ k∨(q.1=3∧k.code≠2)∨(q.1=4∧k.code≠1)
instance (q:Int×Kp×Int) (k:Kp):Decidable (tn q k):=by unfold tn;infer_instance
section
variable {e:BitVec 32} {ks:List Kp} {n:Nt} {code:Int} {iq:List (BitVec 8)}
theorem adr (h:(ix e ks n).2.2≠0):rZ e ks n code iq=(0#32,[],(ix e ks n).2.2):=dx h
theorem adq (h:¬(ix e ks n).2.2≠0) (h2:tn (ix e ks n) (lF n code iq)):rZ e ks n code iq=(0#32,[],2):=by
  unfold rZ;rw[dp h];exact dx h2
theorem adt (h:¬(ix e ks n).2.2≠0) (h2:¬tn (ix e ks n) (lF n code iq)) (h3:(ix e ks n).1=2):rZ e ks n code iq=(0#32,[],81):=by
  unfold rZ;rw[dp h];exact (dp h2).trans (dx h3)
theorem ads (h:¬(ix e ks n).2.2≠0) (h2:¬tn (ix e ks n) (lF n code iq)) (h3:¬(ix e ks n).1=2) (h4:200≤ks.length):rZ e ks n code iq=(0#32,[],5):=by
  unfold rZ;rw[dp h];exact (dp h2).trans ((dp h3).trans (dx h4))
theorem US (h:¬(ix e ks n).2.2≠0) (h2:¬tn (ix e ks n) (lF n code iq)) (h3:¬(ix e ks n).1=2) (h4:¬200≤ks.length):rZ e ks n code iq=(n.gE,uU ks (pos ks (lF n code iq).num) (lF n code iq),0):=by
  unfold rZ;rw[dp h];exact (dp h2).trans ((dp h3).trans (dp h4))
end
section
variable {ρ κ:Type} [DecidableEq κ] (key:ρ→κ)
def iW (L:List ρ) (k:κ):Option ρ:=L.find? fun r=>decide (k=key r)
def mw (L:List ρ) (r:ρ):List ρ:=if (iW key L (key r)).isSome then L.map (fun x=>if key r=key x then r else x) else L++[r]
def pK (L:List ρ) (k:κ):List ρ:=L.filter fun r=>decide (k≠key r)
def jS (enc:ρ→Value) (L:List ρ):List (κ×Value):=L.map fun r=>(key r,enc r)
variable {key}
theorem wP {L:List ρ} {k:κ} {r:ρ} (h:iW key L k=some r):r∈L∧key r=k:=by
  have h1:=List.mem_of_find?_eq_some h
  have h2:=List.find?_some h
  exact ⟨h1,by simpa using (eR h2).symm⟩
theorem AJ {L:List ρ} {k:κ} (h:iW key L k=none):∀r∈L,key r≠k:=by
  intro r hr e
  have:=List.find?_eq_none.1 h r hr
  simp[e] at this
theorem Gb {L:List ρ} (hn:(L.map key).Nodup) {r:ρ} (hr:r∈L):iW key L (key r)=some r:=by
  induction L with
  |nil=>cases hr
  | cons x L ih=>
    simp only[dY,fX] at hn
    rcases eS.1 hr with rfl|hr
    · simp[iW]
    · have jk:key r≠key x:=fun e=>hn.1 (ei.2 ⟨r,hr,e⟩)
      unfold iW
      rw[fm (by simpa using jk)]
      exact ih hn.2 hr
theorem y5 (enc:ρ→Value) (L:List ρ) (k:κ):kB (jS key enc L) k=(iW key L k).map enc:=by
  induction L with
  |nil=>rfl
  | cons r L ih=>
    by_cases h:k=key r
    · simp[kB,jS,iW,h]
    · simp only[kB,jS,iW,dY] at*
      rw[fm (by simpa using h),fm (by simpa using h)]
      exact ih
theorem Ko (enc:ρ→Value) (L:List ρ) (r:ρ) (k:κ) (v:Value) (hk:k=key r) (hv:v=enc r):pF (jS key enc L) k v=jS key enc (mw key L r):=by
  subst hk hv
  unfold pF mw
  rw[y5]
  simp only[Option.isSome_map]
  split
  · simp only[jS,List.map_map]
    apply List.map_congr_left
    intro x _
    simp only[Function.comp]
    by_cases h:key r=key x
    · simp[h]
    · simp[h]
  · simp[jS]
theorem ZM (enc:ρ→Value) (L:List ρ) (k:κ):xQ (jS key enc L) k=jS key enc (pK key L k):=by
  induction L with
  |nil=>rfl
  | cons r L ih=>
    simp only[xQ,jS,pK,dY] at*
    by_cases h:k=key r
    · rw[eI (by simp[h]),eI (by simp[h])];exact ih
    · rw[ez (by simpa using h),ez (by simpa using h),dY];rw[ih]
theorem xq (enc:ρ→Value) (L:List ρ):(jS key enc L).map (·.1)=L.map key:=by simp[jS,Function.comp_def]
theorem OT (L:List ρ) (r:ρ):(mw key L r).map key=if (iW key L (key r)).isSome then L.map key else L.map key++[key r]:=by
  unfold mw
  split
  · rw[List.map_map]
    apply List.map_congr_left
    intro x _
    simp only[Function.comp]
    split
    · assumption
    · rfl
  · simp
theorem RA {L:List ρ} (h:(L.map key).Nodup) (k:κ):((pK key L k).map key).Nodup:=h.sublist (List.filter_sublist.map _)
theorem Vi (r:ρ) (k:κ):∀L:List ρ,iW key (L.map fun x=>if key r=key x then r else x) k=if k=key r then (if (iW key L (key r)).isSome then some r else none) else iW key L k
  |[]=>by simp[iW]
  | x ::L=>by
    have ih:=Vi r k L
    unfold iW at*
    by_cases h:key r=key x
    · rw[dY,dx h]
      by_cases hk:k=key r
      · rw[List.find?_cons_of_pos (by simpa using hk),dx hk,List.find?_cons_of_pos (by simpa using h)]
        rfl
      · rw[fm (by simpa using hk),ih,dp hk,dp hk,fm (by rw[←h];simpa using hk)]
    · rw[dY,dp h]
      by_cases hk:k=key x
      · have Jm:k≠key r:=fun e=>h (by rw[←e,hk])
        rw[List.find?_cons_of_pos (by simpa using hk),dp Jm,List.find?_cons_of_pos (by simpa using hk)]
      · rw[fm (by simpa using hk),ih,fm (by simpa using h),fm (by simpa using hk)]
theorem OS (L:List ρ) (r:ρ) (k:κ):iW key (mw key L r) k=if k=key r then some r else iW key L k:=by
  unfold mw
  cases hf:iW key L (key r) with
  | some x=>
    simp only[Option.isSome_some,if_true]
    rw[Vi,hf]
    rfl
  | none=>
    simp only[Option.isSome_none,eB,if_false]
    unfold iW at*
    rw[List.find?_append]
    by_cases hk:k=key r
    · subst hk
      rw[hf,dx rfl]
      simp
    · rw[dp hk,fm (by simpa using hk)]
      simp
theorem Rz {L:List ρ} {k:κ} {r:ρ}:r∈pK key L k↔r∈L∧key r≠k:=by
  unfold pK
  rw[fO,dz]
  exact ⟨fun h=>⟨h.1,fun e=>h.2 e.symm⟩,fun h=>⟨h.1,fun e=>h.2 e.symm⟩⟩
theorem aff {L:List ρ} {r x:ρ} (h:x∈mw key L r):x=r∨(x∈L∧key x≠key r)∨(x∈L∧iW key L (key r)=none):=by
  unfold mw at h
  split at h
  · obtain ⟨y,hy,rfl⟩:=ei.1 h
    split
    · exact .inl rfl
    · rename_i jk
      exact .inr (.inl ⟨hy,fun e=>jk e.symm⟩)
  · rename_i hn
    rcases dT.1 h with h|h
    · exact .inr (.inr ⟨h,by simpa using hn⟩)
    · exact .inl (dH.1 h)
end
structure Gd where
  name:ByteArray
  free:Int
  gone:Int
deriving DecidableEq
structure Ho where
  o:BitVec 32
  name:ByteArray
  n:Int
deriving DecidableEq
def qX (g:Gd):Value:=.agg #[.int .i64 g.free,.int .i64 g.gone]
def yW (h:Ho):Value:=.agg #[.int .u32 h.o.toNat,.string h.name,.int .i64 h.n]
def sT (g:Gd):List Value:=[.string g.name,.int .i64 g.free]
def Rh (h:Ho):List Value:=[.int .u32 h.o.toNat,.string h.name,.int .i64 h.n]
def oq (K:List Gd) (nm:ByteArray):Int:=((iW Gd.name K nm).map Gd.free).getD 0
def pL (K:List Gd) (nm:ByteArray):Int:=((iW Gd.name K nm).map Gd.gone).getD 0
def qV (K:List Gd) (nm:ByteArray) (df dg:Int):List Gd:=mw Gd.name K ⟨nm,oq K nm+df,pL K nm+dg⟩
def sI (L:List Ho) (nm:ByteArray):Int:=(L.map fun h=>if h.name=nm then h.n else 0).sum
def xf (K:List Gd) (L:List Ho) (o:BitVec 32) (nm:ByteArray) (n:Int):Bool:=decide (o≠0#32)&&(decide (1≤n)&&(!(iW Ho.o L o).isSome&&decide (n≤oq K nm)))
def Bc (K:List Gd) (L:List Ho) (o:BitVec 32) (nm:ByteArray) (n:Int):List Gd:=if xf K L o nm n then qV K nm (-n) 0 else K
def Bd (K:List Gd) (L:List Ho) (o:BitVec 32) (nm:ByteArray) (n:Int):List Ho:=if xf K L o nm n then L++[⟨o,nm,n⟩] else L
def vd (b:Bool):Int:=if b then 1 else 2
def uY (K:List Gd) (L:List Ho) (o:BitVec 32) (gone:Bool):List Gd:=match iW Ho.o L o with|none=>K|some h=>if gone then qV K h.name 0 h.n else qV K h.name h.n 0
theorem KZ (K:List Gd) (nm lE:ByteArray) (df dg:Int):oq (qV K nm df dg) lE=if lE=nm then oq K nm+df else oq K lE:=by
  unfold qV
  rw[oq,OS]
  split
  · rfl
  · rfl
theorem K0 (K:List Gd) (nm lE:ByteArray) (df dg:Int):pL (qV K nm df dg) lE=if lE=nm then pL K nm+dg else pL K lE:=by
  unfold qV
  rw[pL,OS]
  split
  · rfl
  · rfl
theorem Qz {K:List Gd} {nm:ByteArray} (h:(iW Gd.name K nm).isSome) (df dg:Int):(qV K nm df dg).map Gd.name=K.map Gd.name:=by
  unfold qV
  rw[OT,dx h]
theorem Sb {K:List Gd} {nm:ByteArray} (h:nm∈K.map Gd.name):(iW Gd.name K nm).isSome:=by
  cases hf:iW Gd.name K nm with
  |some x=>rfl
  | none=>
    obtain ⟨g,hg,rfl⟩:=ei.1 h
    exact absurd rfl (AJ hf g hg)
theorem aex {K:List Gd} {nm:ByteArray} (h:(iW Gd.name K nm).isSome):nm∈K.map Gd.name:=by
  obtain ⟨g,hg⟩:=fP.1 h
  obtain ⟨h1,h2⟩:=wP hg
  exact ei.2 ⟨g,h1,h2⟩
theorem Sr {K:List Gd} (hn:(K.map Gd.name).Nodup) {g:Gd} (hg:g∈K):oq K g.name=g.free∧pL K g.name=g.gone:=by
  unfold oq pL
  rw[Gb hn hg]
  exact ⟨rfl,rfl⟩
theorem LM {K:List Gd} {nm:ByteArray} (h:¬nm∈K.map Gd.name):oq K nm=0∧pL K nm=0:=by
  have:iW Gd.name K nm=none:=by
    cases hf:iW Gd.name K nm with
    |none=>rfl
    |some g=>exact absurd (aex (by rw[hf];rfl)) h
  unfold oq pL
  rw[this]
  exact ⟨rfl,rfl⟩
theorem ag3 (L:List Ho) (h:Ho) (nm:ByteArray):sI (L++[h]) nm=sI L nm+if h.name=nm then h.n else 0:=by simp[sI]
theorem WS {L:List Ho} (hn:(L.map Ho.o).Nodup) {o:BitVec 32} {h:Ho} (hf:iW Ho.o L o=some h) (nm:ByteArray):sI (pK Ho.o L o) nm+(if h.name=nm then h.n else 0)=sI L nm:=by
  induction L with
  |nil=>cases hf
  | cons c L ih=>
    simp only[dY,fX] at hn
    unfold iW pK sI at*
    by_cases e:o=c.o
    · rw[List.find?_cons_of_pos (by simpa using e)] at hf
      obtain rfl:c=h:=by simpa using hf
      rw[eI (by simp[e]),List.filter_eq_self.2 (fun x hx=>by
        simp only[dz]
        intro e2
        exact hn.1 (ei.2 ⟨x,hx,by rw[←e2,e]⟩))]
      simp only[dY,List.sum_cons]
      omega
    · rw[fm (by simpa using e)] at hf
      rw[ez (by simpa using e)]
      have:=ih hn.2 hf
      simp only[dY,List.sum_cons]
      omega
theorem WT {L:List Ho} (h:∀x∈L,1≤x.n) (nm:ByteArray):0≤sI L nm:=by
  induction L with
  |nil=>simp[sI]
  | cons b L ih=>
    have h1:=ih (fun c hc=>h c (dt _ hc))
    have h2:=h b dy
    simp only[sI,dY,List.sum_cons] at*
    split<;>omega
def y7 (g:Gd):Prop:=g.name≠⟨#[]⟩∧g.name.size≤32∧0≤g.free∧g.free≤1000000
structure nT (first K:List Gd) (L:List Ho):Prop where
  names:K.map Gd.name=first.map Gd.name
  nd:(first.map Gd.name).Nodup
  jW:first.length≤50
  ok:∀g∈first,y7 g∧g.gone=0
  holds:∀h∈L,1≤h.n∧h.o≠0#32∧h.name∈first.map Gd.name
  keys:(L.map Ho.o).Nodup
  wz:∀nm,0≤oq K nm∧0≤pL K nm∧oq K nm+pL K nm+sI L nm=oq first nm
def BH (gs:List Gd):Prop:=gs.length≤50∧(gs.map Gd.name).Nodup∧∀g∈gs,y7 g
theorem nT.top {first K:List Gd} {L:List Ho} (h:nT first K L) (nm:ByteArray):oq first nm≤1000000:=by
  by_cases hm:nm∈first.map Gd.name
  · obtain ⟨g,hg,rfl⟩:=ei.1 hm
    rw[(Sr h.nd hg).1]
    exact (h.ok g hg).1.2.2.2
  · rw[(LM hm).1];omega
theorem nT.EN {first K:List Gd} {L:List Ho} (h:nT first K L):(K.map Gd.name).Nodup:=by rw[h.names];exact h.nd
theorem nT.start {first:List Gd} (h1:first.length≤50) (h2:(first.map Gd.name).Nodup) (h3:∀g∈first,y7 g∧g.gone=0):nT first first []:=by
  refine ⟨rfl,h2,h1,h3,fun h hh=>(by cases hh),by simp,fun nm=>?_⟩
  by_cases hm:nm∈first.map Gd.name
  · obtain ⟨g,hg,rfl⟩:=ei.1 hm
    have h4:=Sr h2 hg
    have h5:=h3 g hg
    have h6:0≤g.free:=h5.1.2.2.1
    simp only[sI,List.map_nil,List.sum_nil]
    rw[h4.1,h4.2,h5.2]
    omega
  · have:=LM hm
    simp only[sI,List.map_nil,List.sum_nil]
    omega
theorem nT.hold {first K:List Gd} {L:List Ho} (h:nT first K L) (o:BitVec 32) (nm:ByteArray) (n:Int):nT first (Bc K L o nm n) (Bd K L o nm n):=by
  unfold Bc Bd
  cases hb:xf K L o nm n with
  |false=>exact h
  | true=>
    simp only[if_true]
    unfold xf at hb
    simp only[eu,dz,fq] at hb
    obtain ⟨ho,hn,hf,hle⟩:=hb
    have abn:iW Ho.o L o=none:=by simpa using hf
    have rq:nm∈K.map Gd.name:=by
      apply dW
      intro hc
      have:=(LM hc).1
      omega
    refine ⟨by rw[Qz (Sb rq)];exact h.names,h.nd,h.jW,h.ok,?_,?_,fun lE=>?_⟩
    · intro x hx
      rcases dT.1 hx with hx|hx
      · exact h.holds x hx
      · rw[dH.1 hx]
        exact ⟨hn,ho,by rw[←h.names];exact rq⟩
    · rw[fW,List.nodup_append]
      refine ⟨h.keys,by simp,?_⟩
      intro x hx y hy
      obtain ⟨c,hc,rfl⟩:=ei.1 hx
      simp only[dY,List.map_nil,dH] at hy
      subst hy
      exact AJ abn c hc
    · have h1:=h.wz lE
      rw[KZ,K0,ag3]
      by_cases e:lE=nm
      · subst e
        simp only[if_true]
        omega
      · have e2:¬nm=lE:=fun x=>e x.symm
        simp only[dp e,dp e2]
        omega
theorem nT.leave {first K:List Gd} {L:List Ho} (h:nT first K L) (o:BitVec 32) (gone:Bool):nT first (uY K L o gone) (pK Ho.o L o):=by
  unfold uY
  cases hf:iW Ho.o L o with
  | none=>
    have e:pK Ho.o L o=L:=by
      unfold pK
      rw[List.filter_eq_self]
      intro x hx
      have:=AJ hf x hx
      simp only[dz]
      exact fun e=>this e.symm
    rw[e];exact h
  | some x=>
    obtain ⟨hx,EJ⟩:=wP hf
    have hh:=h.holds x hx
    have rq:x.name∈K.map Gd.name:=by rw[h.names];exact hh.2.2
    have Ub:∀df dg,(qV K x.name df dg).map Gd.name=first.map Gd.name:=fun df dg=>by rw[Qz (Sb rq)];exact h.names
    have Uq:∀lE,sI (pK Ho.o L o) lE+(if x.name=lE then x.n else 0)=sI L lE:=fun lE=>WS h.keys hf lE
    have vX:∀y∈pK Ho.o L o,1≤y.n∧y.o≠0#32∧y.name∈first.map Gd.name:=fun y hy=>h.holds y (Rz.1 hy).1
    cases gone
    · refine ⟨Ub _ _,h.nd,h.jW,h.ok,vX,RA h.keys o,fun lE=>?_⟩
      have h1:=h.wz lE
      have h2:=Uq lE
      simp only[eB,if_false]
      rw[KZ,K0]
      by_cases e:lE=x.name
      · subst e
        simp only[if_true] at h2 ⊢
        omega
      · have e2:¬x.name=lE:=fun z=>e z.symm
        simp only[dp e,dp e2] at h2 ⊢
        omega
    · refine ⟨Ub _ _,h.nd,h.jW,h.ok,vX,RA h.keys o,fun lE=>?_⟩
      have h1:=h.wz lE
      have h2:=Uq lE
      simp only[if_true]
      rw[KZ,K0]
      by_cases e:lE=x.name
      · subst e
        simp only[if_true] at h2 ⊢
        omega
      · have e2:¬x.name=lE:=fun z=>e z.symm
        simp only[dp e,dp e2] at h2 ⊢
        omega
theorem nT.Bl {first K:List Gd} {L:List Ho} (h:nT first K L) (nm:ByteArray):0≤oq K nm∧oq K nm≤1000000∧0≤pL K nm∧pL K nm≤1000000∧0≤sI L nm∧sI L nm≤1000000:=by
  have h1:=h.wz nm
  have h2:=h.top nm
  have h3:=WT (fun x hx=>(h.holds x hx).1) nm
  omega
theorem nT.nle {first K:List Gd} {L:List Ho} (h:nT first K L) {x:Ho} (hx:x∈L):1≤x.n∧x.n≤1000000:=by
  have h1:=WS h.keys (Gb h.keys hx) x.name
  have h2:=WT (L:=pK Ho.o L x.o) (fun y hy=>(h.holds y (Rz.1 hy).1).1) x.name
  have h3:=h.Bl x.name
  have h4:=(h.holds x hx).1
  rw[dx rfl] at h1
  omega
theorem Lu {L:List Ho} {o:BitVec 32} (hf:iW Ho.o L o=none):pK Ho.o L o=L:=by
  unfold pK
  rw[List.filter_eq_self]
  intro x hx
  have:=AJ hf x hx
  simp only[dz]
  exact fun e=>this e.symm
def wI (TD p:Nat) (K:List Gd) (L:List Ho) (C:List Ck):Prop:=
  ∃b1 b2 C1 C2,C=row p [.map (some b1),.map (some b2)] TD::(C1++C2)∧mO kU b1 (jS Gd.name qX K) C1∧mO uV b2 (jS Ho.o yW L) C2
theorem Oc (K:List Gd) (nm:ByteArray):(if false=true then Value.tuple #[(kB (jS Gd.name qX K) nm).getD (.agg #[.int .i64 0,.int .i64 0]),.bool (kB (jS Gd.name qX K) nm).isSome] else (kB (jS Gd.name qX K) nm).getD (.agg #[.int .i64 0,.int .i64 0]))=.agg #[.int .i64 (oq K nm),.int .i64 (pL K nm)]:=by
  rw[dp (by simp),y5]
  unfold oq pL
  cases iW Gd.name K nm<;>rfl
theorem U6 (K:List Gd) (nm:ByteArray):(if true=true then Value.tuple #[(kB (jS Gd.name qX K) nm).getD (.agg #[.int .i64 0,.int .i64 0]),.bool (kB (jS Gd.name qX K) nm).isSome] else (kB (jS Gd.name qX K) nm).getD (.agg #[.int .i64 0,.int .i64 0]))=.tuple #[.agg #[.int .i64 (oq K nm),.int .i64 (pL K nm)],.bool (iW Gd.name K nm).isSome]:=by
  rw[dx rfl,y5]
  unfold oq pL
  cases iW Gd.name K nm<;>rfl
def PM:Ho:=⟨0#32,⟨#[]⟩,0⟩
theorem U7 (L:List Ho) (o:BitVec 32):(if true=true then Value.tuple #[(kB (jS Ho.o yW L) o).getD (.agg #[.int .u32 0,.string ⟨#[]⟩,.int .i64 0]),.bool (kB (jS Ho.o yW L) o).isSome] else (kB (jS Ho.o yW L) o).getD (.agg #[.int .u32 0,.string ⟨#[]⟩,.int .i64 0]))=.tuple #[.agg (Rh ((iW Ho.o L o).getD PM)).toArray,.bool (iW Ho.o L o).isSome]:=by
  rw[dx rfl,y5]
  cases iW Ho.o L o<;>rfl
theorem Kf (K:List Gd) (nm:ByteArray) (a b:Int):pF (jS Gd.name qX K) nm (.agg #[.int .i64 a,.int .i64 b])=jS Gd.name qX (mw Gd.name K ⟨nm,a,b⟩):=Ko qX K ⟨nm,a,b⟩ nm _ rfl rfl
theorem afe (L:List Ho) (o:BitVec 32) (nm:ByteArray) (n:Int) (h:iW Ho.o L o=none):pF (jS Ho.o yW L) o (.agg #[.int .u32 o.toNat,.string nm,.int .i64 n])=jS Ho.o yW (L++[⟨o,nm,n⟩]):=by
  have e:pF (jS Ho.o yW L) o (.agg #[.int .u32 o.toNat,.string nm,.int .i64 n])=jS Ho.o yW (mw Ho.o L ⟨o,nm,n⟩):=Ko yW L ⟨o,nm,n⟩ o _ rfl rfl
  rw[e]
  unfold mw
  rw[show (iW Ho.o L (Ho.o ⟨o,nm,n⟩))=none from h]
  rfl
theorem Zj (g:Gd):(sT g).length=2:=rfl
theorem aeQ {L:List Gd} {g:Gd} (h:(L.map Gd.name).Nodup) (hn:iW Gd.name L g.name=none):((L++[g]).map Gd.name).Nodup:=by
  rw[fW,List.nodup_append]
  refine ⟨h,by simp,?_⟩
  intro x hx y hy
  obtain ⟨c,hc,rfl⟩:=ei.1 hx
  simp only[dY,List.map_nil,dH] at hy
  subst hy
  exact AJ hn c hc
theorem afl {b:Nat} {L:List Gd} {g:Gd} {C:List Ck} (h0:g.gone=0) (hn:iW Gd.name L g.name=none) (h:mO kU b (pF (jS Gd.name qX L) g.name (.agg #[.int .i64 g.free,.int .i64 0])) C):mO kU b (jS Gd.name qX (L++[g])) C:=by
  rw[Kf] at h
  have e:mw Gd.name L ⟨g.name,g.free,0⟩=L++[g]:=by
    unfold mw
    rw[show iW Gd.name L (Gd.name ⟨g.name,g.free,0⟩)=none from hn]
    cases g
    simp only at h0
    subst h0
    rfl
  rwa [e] at h
theorem ahu {gs:List Gd} {i:Nat} (hi:i<gs.length) (h:(iW Gd.name (gs.take i) gs[i].name).isSome=true):¬(gs.map Gd.name).Nodup:=by
  intro hn
  obtain ⟨g,hg⟩:=fP.1 h
  obtain ⟨h1,h2⟩:=wP hg
  obtain ⟨j,hj,rfl⟩:=fu h1
  simp only[dE] at hj
  rw[List.getElem_take] at h2
  have:=fN.1 hn j i (by simp;omega) (by simpa using hi) gz
  simp at this
  exact this h2
structure Au where
  name:ByteArray
  vg:Int
  held:Int
deriving DecidableEq
structure Py where
  o:BitVec 32
  name:ByteArray
  n:Int
  st:Int
deriving DecidableEq
def rL (a:Au):List Value:=[.string a.name,.int .i64 a.vg,.int .i64 a.held]
def Ri (x:Py):List Value:=[.int .u32 x.o.toNat,.string x.name,.int .i64 x.n,.int .i64 x.st]
def sk (a:Au):Value:=.agg #[.string a.name,.int .i64 a.vg,.int .i64 a.held]
def yX (x:Py):Value:=.agg #[.int .u32 x.o.toNat,.string x.name,.int .i64 x.n,.int .i64 x.st]
def PO:Au:=⟨⟨#[]⟩,0,0⟩
def PN:Py:=⟨0#32,⟨#[]⟩,0,0⟩
theorem Zk (g:Au):(rL g).length=3:=rfl
def acc (K:List Au) (nm:ByteArray):Au:=(iW Au.name K nm).getD PO
def oC (K:List Au) (nm:ByteArray):Int:=(acc K nm).vg
def qn (K:List Au) (nm:ByteArray):Int:=(acc K nm).held
def ux (K:List Au) (nm:ByteArray) (dm dh:Int):List Au:=mw Au.name K ⟨nm,oC K nm+dm,qn K nm+dh⟩
def rC (L:List Py) (nm:ByteArray) (s:Int):Int:=(L.map fun x=>if x.name=nm∧x.st=s then x.n else 0).sum
def tB (K:List Au) (L:List Py) (o:BitVec 32) (nm:ByteArray) (n:Int):Bool:=decide (o≠0#32)&&(decide (1≤n)&&(!(iW Py.o L o).isSome&&decide (n≤oC K nm-qn K nm)))
def Aw (K:List Au) (L:List Py) (o:BitVec 32) (nm:ByteArray) (n:Int):List Au:=if tB K L o nm n then ux K nm 0 n else K
def Ax (K:List Au) (L:List Py) (o:BitVec 32) (nm:ByteArray) (n:Int):List Py:=if tB K L o nm n then L++[⟨o,nm,n,1⟩] else L
def pH (b:Bool):Int:=if b then 1 else 2
def qQ (L:List Py) (o:BitVec 32) (s:Int):Bool:=match iW Py.o L o with|none=>false|some x=>decide (x.st=s)
def rE (K:List Au) (L:List Py) (o:BitVec 32) (s dm dh:Int):List Au:=match iW Py.o L o with|none=>K|some x=>if x.st=s then ux K x.name (dm*x.n) (dh*x.n) else K
def rF (L:List Py) (o:BitVec 32) (s t:Int):List Py:=match iW Py.o L o with|none=>L|some x=>if x.st=s then mw Py.o L ⟨x.o,x.name,x.n,t⟩ else L
theorem Qx (K:List Au) (nm lE:ByteArray) (dm dh:Int):acc (ux K nm dm dh) lE=if lE=nm then ⟨nm,oC K nm+dm,qn K nm+dh⟩ else acc K lE:=by
  unfold ux acc
  rw[OS]
  split<;>rfl
theorem Qy {K:List Au} {nm:ByteArray} (h:(iW Au.name K nm).isSome) (dm dh:Int):(ux K nm dm dh).map Au.name=K.map Au.name:=by
  unfold ux
  rw[OT,dx h]
theorem IK {K:List Au} {nm:ByteArray} (h:nm∈K.map Au.name):(iW Au.name K nm).isSome:=by
  cases hf:iW Au.name K nm with
  |some x=>rfl
  | none=>
    obtain ⟨g,hg,rfl⟩:=ei.1 h
    exact absurd rfl (AJ hf g hg)
theorem Qv {K:List Au} (hn:(K.map Au.name).Nodup) {g:Au} (hg:g∈K):acc K g.name=g:=by
  unfold acc
  rw[Gb hn hg]
  rfl
theorem Im {K:List Au} {nm:ByteArray} (h:nm∈K.map Au.name):(acc K nm).name=nm:=by
  unfold acc
  obtain ⟨x,hx⟩:=fP.1 (IK h)
  rw[hx]
  exact (wP hx).2
theorem KX {K:List Au} {nm:ByteArray} (h:¬nm∈K.map Au.name):acc K nm=PO:=by
  unfold acc
  cases hf:iW Au.name K nm with
  |none=>rfl
  |some g=>exact absurd (ei.2 ⟨g,(wP hf).1,(wP hf).2⟩) h
theorem WV (L:List Py) (x:Py) (nm:ByteArray) (s:Int):rC (L++[x]) nm s=rC L nm s+if x.name=nm∧x.st=s then x.n else 0:=by simp[rC]
theorem Pl {L:List Py} (h:∀x∈L,1≤x.n) (nm:ByteArray) (s:Int):0≤rC L nm s:=by
  induction L with
  |nil=>simp[rC]
  | cons b L ih=>
    have h1:=ih (fun c hc=>h c (dt _ hc))
    have h2:=h b dy
    simp only[rC,dY,List.sum_cons] at*
    split<;>omega
theorem aep {L:List Py} (h:∀x∈L,1≤x.n) {x:Py} (hx:x∈L):x.n≤rC L x.name x.st:=by
  induction L with
  |nil=>cases hx
  | cons b L ih=>
    have hh:=fun c hc=>h c (dt b hc)
    have h2:=h b dy
    have h3:=Pl hh x.name x.st
    rcases eS.1 hx with rfl|hx
    · simp only[rC,dY,List.sum_cons] at*
      rw[dx (by simp)];omega
    · have:=ih hh hx
      simp only[rC,dY,List.sum_cons] at*
      split<;>omega
theorem afh:∀{L:List Py} (hn:(L.map Py.o).Nodup) {x y:Py} (hx:x∈L) (he:y.o=x.o) (f:Py→Int),((mw Py.o L y).map f).sum=(L.map f).sum-f x+f y:=by
  intro L hn x y hx he f
  have hf:(iW Py.o L y.o).isSome=true:=by rw[he,Gb hn hx];rfl
  unfold mw
  rw[dx hf,List.map_map]
  clear hf
  induction L with
  |nil=>cases hx
  | cons b L ih=>
    simp only[dY,fX] at hn
    simp only[dY,List.sum_cons,Function.comp]
    rcases eS.1 hx with rfl|hx
    · rw[dx he]
      have e:L.map (f ∘ fun z=>if y.o=z.o then y else z)=L.map f:=List.map_congr_left fun z hz=>by
        simp only[Function.comp]
        rw[dp (fun e=>hn.1 (ei.2 ⟨z,hz,by rw[←e,he]⟩))]
      have e2:(List.map (fun z=>f (if y.o=z.o then y else z)) L)=L.map f:=e
      rw[show (L.map (f ∘ fun z=>if y.o=z.o then y else z))=L.map f from e]
      omega
    · have jk:¬y.o=b.o:=fun e=>hn.1 (ei.2 ⟨x,hx,by rw[←he,e]⟩)
      rw[dp jk]
      have:=ih hn.2 hx
      simp only[Function.comp_def] at this ⊢
      omega
theorem WU {L:List Py} (hn:(L.map Py.o).Nodup) {x y:Py} (hx:x∈L) (he:y.o=x.o) (nm:ByteArray) (s:Int):rC (mw Py.o L y) nm s=rC L nm s-(if x.name=nm∧x.st=s then x.n else 0)+(if y.name=nm∧y.st=s then y.n else 0):=afh hn hx he _
def yM (g:Au):Prop:=g.name≠⟨#[]⟩∧g.name.size≤32∧0≤g.vg∧g.vg≤1000000000∧g.held=0
structure nS (first K:List Au) (L:List Py):Prop where
  names:K.map Au.name=first.map Au.name
  nd:(first.map Au.name).Nodup
  jW:first.length≤50
  ok:∀g∈first,yM g
  zT:∀x∈L,1≤x.n∧x.n≤1000000000∧x.o≠0#32∧x.name∈first.map Au.name∧1≤x.st∧x.st≤3
  keys:(L.map Py.o).Nodup
  wz:∀nm,qn K nm=rC L nm 1∧oC K nm=oC first nm-rC L nm 2∧qn K nm≤oC K nm
def Ai (gs:List Au):Prop:=gs.length≤50∧(gs.map Au.name).Nodup∧∀g∈gs,yM g
theorem nS.EN {first K:List Au} {L:List Py} (h:nS first K L):(K.map Au.name).Nodup:=by rw[h.names];exact h.nd
theorem nS.top {first K:List Au} {L:List Py} (h:nS first K L) (nm:ByteArray):0≤oC first nm∧oC first nm≤1000000000:=by
  by_cases hm:nm∈first.map Au.name
  · obtain ⟨g,hg,rfl⟩:=ei.1 hm
    unfold oC
    rw[Qv h.nd hg]
    exact ⟨(h.ok g hg).2.2.1,(h.ok g hg).2.2.2.1⟩
  · unfold oC
    rw[KX hm]
    exact ⟨Int.le_refl _,by decide⟩
theorem nS.Bl {first K:List Au} {L:List Py} (h:nS first K L) (nm:ByteArray):0≤qn K nm∧qn K nm≤oC K nm∧oC K nm≤1000000000∧0≤rC L nm 1∧rC L nm 1≤1000000000∧0≤rC L nm 2∧rC L nm 2≤1000000000:=by
  have h1:=h.wz nm
  have h2:=h.top nm
  have h3:=Pl (fun x hx=>(h.zT x hx).1) nm 1
  have h4:=Pl (fun x hx=>(h.zT x hx).1) nm 2
  omega
theorem nS.start {first:List Au} (h:Ai first):nS first first []:=by
  refine ⟨rfl,h.2.1,h.1,h.2.2,fun h hh=>(by cases hh),by simp,fun nm=>?_⟩
  simp only[rC,List.map_nil,List.sum_nil]
  unfold qn oC
  by_cases hm:nm∈first.map Au.name
  · obtain ⟨g,hg,rfl⟩:=ei.1 hm
    rw[Qv h.2.1 hg]
    have:=h.2.2 g hg
    unfold yM at this
    omega
  · rw[KX hm]
    exact ⟨rfl,rfl,Int.le_refl _⟩
theorem QT {K:List Au} {L:List Py} {o:BitVec 32} {nm:ByteArray} {n:Int} (hb:tB K L o nm n=true):o≠0#32∧1≤n∧iW Py.o L o=none∧n≤oC K nm-qn K nm∧nm∈K.map Au.name:=by
  unfold tB at hb
  simp only[eu,dz,fq] at hb
  obtain ⟨ho,hn,hf,hle⟩:=hb
  refine ⟨ho,hn,by simpa using hf,hle,?_⟩
  apply dW
  intro hc
  unfold oC qn at hle
  rw[KX hc] at hle
  simp only[PO] at hle
  omega
theorem DR {K:List Au} {L:List Py} {o:BitVec 32} {nm:ByteArray} {n:Int} (hb:tB K L o nm n=false):Aw K L o nm n=K∧Ax K L o nm n=L:=by
  unfold Aw Ax
  rw[hb]
  exact ⟨rfl,rfl⟩
theorem Ir {K:List Au} {L:List Py} {o:BitVec 32} {nm:ByteArray} {n:Int} (hb:tB K L o nm n=true):Aw K L o nm n=ux K nm 0 n∧Ax K L o nm n=L++[⟨o,nm,n,1⟩]:=by
  unfold Aw Ax
  rw[hb]
  exact ⟨rfl,rfl⟩
theorem nS.YB {first K:List Au} {L:List Py} (h:nS first K L) (o:BitVec 32) (nm:ByteArray) (n:Int):nS first (Aw K L o nm n) (Ax K L o nm n):=by
  cases hb:tB K L o nm n with
  |false=>rw[(DR hb).1,(DR hb).2];exact h
  | true=>
    rw[(Ir hb).1,(Ir hb).2]
    obtain ⟨ho,hn,hf,hle,rq⟩:=QT hb
    have kh:=h.Bl nm
    refine ⟨by rw[Qy (IK rq)];exact h.names,h.nd,h.jW,h.ok,?_,?_,fun lE=>?_⟩
    · intro x hx
      rcases dT.1 hx with hx|hx
      · exact h.zT x hx
      · rw[dH.1 hx]
        exact ⟨hn,(by show n≤1000000000;omega),ho,by rw[←h.names];exact rq,by show (1:Int)≤1;omega,by show (1:Int)≤3;omega⟩
    · rw[fW,List.nodup_append]
      refine ⟨h.keys,by simp,?_⟩
      intro x hx y hy
      obtain ⟨c,hc,rfl⟩:=ei.1 hx
      simp only[dY,List.map_nil,dH] at hy
      subst hy
      exact AJ hf c hc
    · have h1:=h.wz lE
      rw[WV,WV]
      unfold qn oC at*
      rw[Qx]
      by_cases e:lE=nm
      · subst e
        simp only[if_true,eD]
        unfold qn oC
        rw[dp (by decide:¬(1:Int)=2)]
        omega
      · have e2:¬nm=lE:=fun x=>e x.symm
        simp only[dp e,e2,false_and,if_false]
        omega
def Fs (s t dm dh:Int):Prop:=(s=1∧t=2∧dm=-1∧dh=-1)∨(s=1∧t=3∧dm=0∧dh=-1)∨(s=2∧t=3∧dm=1∧dh=0)
theorem yA {K:List Au} {L:List Py} {o:BitVec 32} {s:Int} (t dm dh:Int) (hb:qQ L o s=false):rE K L o s dm dh=K∧rF L o s t=L:=by
  unfold qQ at hb
  unfold rE rF
  cases hf:iW Py.o L o with
  |none=>exact ⟨rfl,rfl⟩
  | some x=>
    rw[hf] at hb
    simp only[fi] at hb
    simp only[dp hb,and_self]
theorem ahs {K:List Au} {L:List Py} {o:BitVec 32} {s:Int} (t dm dh:Int) (hb:qQ L o s=true):∃x,x∈L∧x.o=o∧x.st=s∧iW Py.o L o=some x∧rE K L o s dm dh=ux K x.name (dm*x.n) (dh*x.n)∧rF L o s t=mw Py.o L ⟨x.o,x.name,x.n,t⟩:=by
  unfold qQ at hb
  unfold rE rF
  cases hf:iW Py.o L o with
  |none=>rw[hf] at hb;cases hb
  | some x=>
    rw[hf] at hb
    simp only[dz] at hb
    obtain ⟨h1,h2⟩:=wP hf
    exact ⟨x,h1,h2,hb,rfl,by simp only[dx hb],by simp only[dx hb]⟩
theorem afi {L:List Py} (hn:(L.map Py.o).Nodup) {x:Py} (hx:x∈L) (y:Py) (he:y.o=x.o):(mw Py.o L y).map Py.o=L.map Py.o:=by
  rw[OT,he,Gb hn hx];rfl
theorem nS.yz {first K:List Au} {L:List Py} (h:nS first K L) (o:BitVec 32) (s t dm dh:Int) (mI:Fs s t dm dh):nS first (rE K L o s dm dh) (rF L o s t):=by
  cases hb:qQ L o s with
  |false=>rw[(yA t dm dh hb).1,(yA (K:=K) t dm dh hb).2];exact h
  | true=>
    obtain ⟨x,hx,EJ,hxs,hf,eK,eL⟩:=ahs (K:=K) t dm dh hb
    rw[eK,eL]
    have hp:=h.zT x hx
    have rq:x.name∈K.map Au.name:=by rw[h.names];exact hp.2.2.2.1
    have abQ:(mw Py.o L ⟨x.o,x.name,x.n,t⟩).map Py.o=L.map Py.o:=afi h.keys hx _ rfl
    refine ⟨by rw[Qy (IK rq)];exact h.names,h.nd,h.jW,h.ok,?_,by rw[abQ];exact h.keys,fun lE=>?_⟩
    · intro y hy
      rcases aff hy with rfl|⟨hy,_⟩|⟨hy,_⟩
      · refine ⟨hp.1,hp.2.1,hp.2.2.1,hp.2.2.2.1,?_,?_⟩
        · show 1≤t
          rcases mI with ⟨_,rfl,_⟩|⟨_,rfl,_⟩|⟨_,rfl,_⟩<;>decide
        · show t≤3
          rcases mI with ⟨_,rfl,_⟩|⟨_,rfl,_⟩|⟨_,rfl,_⟩<;>decide
      · exact h.zT y hy
      · exact h.zT y hy
    · have h1:=h.wz lE
      have hle:=aep (fun x hx=>(h.zT x hx).1) hx
      have GV:=h.Bl x.name
      have qu:=WU (y:=⟨x.o,x.name,x.n,t⟩) h.keys hx rfl lE 1
      have oB:=WU (y:=⟨x.o,x.name,x.n,t⟩) h.keys hx rfl lE 2
      rw[qu,oB]
      unfold qn oC at*
      rw[Qx]
      by_cases e:lE=x.name
      · subst e
        simp only[if_true,eD]
        unfold qn oC
        rw[hxs] at hle ⊢
        rcases mI with ⟨rfl,rfl,rfl,rfl⟩|⟨rfl,rfl,rfl,rfl⟩|⟨rfl,rfl,rfl,rfl⟩
        · simp only[if_true,show ¬(1:Int)=2 by decide,show ¬(2:Int)=1 by decide,if_false];omega
        · simp only[if_true,show ¬(1:Int)=2 by decide,show ¬(3:Int)=1 by decide,show ¬(3:Int)=2 by decide,if_false];omega
        · simp only[if_true,show ¬(2:Int)=1 by decide,show ¬(3:Int)=1 by decide,show ¬(3:Int)=2 by decide,if_false];omega
      · have e2:¬x.name=lE:=fun z=>e z.symm
        simp only[dp e,e2,false_and,if_false]
        omega
def tx (TD p:Nat) (K:List Au) (L:List Py) (C:List Ck):Prop:=
  ∃b1 b2 C1 C2,C=row p [.map (some b1),.map (some b2)] TD::(C1++C2)∧mO kU b1 (jS Au.name sk K) C1∧mO uV b2 (jS Py.o yX L) C2
theorem Od (K:List Au) (nm:ByteArray):(if false=true then Value.tuple #[(kB (jS Au.name sk K) nm).getD (.agg #[.string ⟨#[]⟩,.int .i64 0,.int .i64 0]),.bool (kB (jS Au.name sk K) nm).isSome] else (kB (jS Au.name sk K) nm).getD (.agg #[.string ⟨#[]⟩,.int .i64 0,.int .i64 0]))=.agg (rL (acc K nm)).toArray:=by
  rw[dp (by simp),y5]
  unfold acc
  cases iW Au.name K nm<;>rfl
theorem U9 (K:List Au) (nm:ByteArray):(if true=true then Value.tuple #[(kB (jS Au.name sk K) nm).getD (.agg #[.string ⟨#[]⟩,.int .i64 0,.int .i64 0]),.bool (kB (jS Au.name sk K) nm).isSome] else (kB (jS Au.name sk K) nm).getD (.agg #[.string ⟨#[]⟩,.int .i64 0,.int .i64 0]))=.tuple #[.agg (rL (acc K nm)).toArray,.bool (iW Au.name K nm).isSome]:=by
  rw[dx rfl,y5]
  unfold acc
  cases iW Au.name K nm<;>rfl
theorem U8 (L:List Py) (o:BitVec 32):(if true=true then Value.tuple #[(kB (jS Py.o yX L) o).getD (.agg #[.int .u32 0,.string ⟨#[]⟩,.int .i64 0,.int .i64 0]),.bool (kB (jS Py.o yX L) o).isSome] else (kB (jS Py.o yX L) o).getD (.agg #[.int .u32 0,.string ⟨#[]⟩,.int .i64 0,.int .i64 0]))=.tuple #[.agg (Ri ((iW Py.o L o).getD PN)).toArray,.bool (iW Py.o L o).isSome]:=by
  rw[dx rfl,y5]
  cases iW Py.o L o<;>rfl
theorem OU (K:List Au) (a:Au) (nm:ByteArray) (he:nm=a.name):pF (jS Au.name sk K) nm (.agg #[.string a.name,.int .i64 a.vg,.int .i64 a.held])=jS Au.name sk (mw Au.name K a):=Ko sk K a nm _ he rfl
theorem V2 (L:List Py) (x:Py) (o:BitVec 32) (he:o=x.o):pF (jS Py.o yX L) o (.agg #[.int .u32 x.o.toNat,.string x.name,.int .i64 x.n,.int .i64 x.st])=jS Py.o yX (mw Py.o L x):=Ko yX L x o _ he rfl
theorem afj {L:List Py} {x:Py} (h:iW Py.o L x.o=none):mw Py.o L x=L++[x]:=by
  unfold mw
  rw[h]
  rfl
theorem afk {L:List Au} {x:Au} (h:iW Au.name L x.name=none):mw Au.name L x=L++[x]:=by
  unfold mw
  rw[h]
  rfl
theorem aeR {L:List Au} {g:Au} (h:(L.map Au.name).Nodup) (hn:iW Au.name L g.name=none):((L++[g]).map Au.name).Nodup:=by
  rw[fW,List.nodup_append]
  refine ⟨h,by simp,?_⟩
  intro x hx y hy
  obtain ⟨c,hc,rfl⟩:=ei.1 hx
  simp only[dY,List.map_nil,dH] at hy
  subst hy
  exact AJ hn c hc
theorem ahv {gs:List Au} {i:Nat} (hi:i<gs.length) (h:(iW Au.name (gs.take i) gs[i].name).isSome=true):¬(gs.map Au.name).Nodup:=by
  intro hn
  obtain ⟨g,hg⟩:=fP.1 h
  obtain ⟨h1,h2⟩:=wP hg
  obtain ⟨j,hj,rfl⟩:=fu h1
  simp only[dE] at hj
  rw[List.getElem_take] at h2
  have:=fN.1 hn j i (by simp;omega) (by simpa using hi) gz
  simp at this
  exact this h2
def wy (L:List Bk) (d:Nat):Int:=(L.map fun b=>if b.day=d then b.n else 0).sum
structure qT (first rs:List Int) (L:List Bk):Prop where
  len:rs.length=first.length
  jW:first.length≤60
  ok:FR first
  nf:∀b∈L,b.day<rs.length∧1≤b.n∧b.o≠0#32
  wz:∀d,0≤rs.getD d 0∧rs.getD d 0+wy L d=first.getD d 0
  keys:(L.map (·.o)).Nodup
theorem ag1 {L:List Bk} (h:∀b∈L,1≤b.n) (d:Nat):0≤wy L d:=by
  induction L with
  |nil=>simp[wy]
  | cons b L ih=>
    have h1:=ih (fun c hc=>h c (dt _ hc))
    have h2:=h b dy
    simp only[wy,dY,List.sum_cons] at*
    split<;>omega
theorem qT.Wl {first rs:List Int} {L:List Bk} (h:qT first rs L):FR rs:=fun d=>by
  have h1:=h.wz d
  have h2:=h.ok d
  have h3:=ag1 (fun b hb=>(h.nf b hb).2.1) d
  omega
theorem qT.start {first:List Int} (h:FR first) (hl:first.length≤60):qT first first []:=
  ⟨rfl,hl,h,fun b hb=>(by cases hb),fun d=>⟨(h d).1,by simp[wy]⟩,by simp⟩
theorem ag2 (L:List Bk) (b:Bk) (d:Nat):wy (L++[b]) d=wy L d+if b.day=d then b.n else 0:=by
  simp[wy]
theorem ag0 {L:List Bk} (hn:(L.map (·.o)).Nodup) {o:BitVec 32} {b:Bk} (hb:kY L o=some b) (d:Nat):wy (qC L o) d+(if b.day=d then b.n else 0)=wy L d:=by
  induction L with
  |nil=>cases hb
  | cons c L ih=>
    simp only[dY,fX] at hn
    by_cases e:o=c.o
    · have h1:kY (c::L) o=some c:=by simp[kY,e]
      rw[h1] at hb
      obtain rfl:c=b:=by simpa using hb
      have h2:qC (c::L) o=qC L o:=by unfold qC;rw[eI (by simp[e])]
      have h3:qC L o=L:=by
        unfold qC
        apply List.filter_eq_self.2
        intro x hx
        simp only[dz]
        intro e2
        exact hn.1 (ei.2 ⟨x,hx,by rw[←e2,e]⟩)
      rw[h2,h3]
      simp only[wy,dY,List.sum_cons]
      omega
    · have h1:kY (c::L) o=kY L o:=by
        unfold kY;rw[fm (by simpa using e)]
      rw[h1] at hb
      have h2:qC (c::L) o=c::qC L o:=by unfold qC;rw[ez (by simpa using e)]
      have:=ih hn.2 hb
      rw[h2]
      simp only[wy,dY,List.sum_cons] at*
      omega
theorem R7 {L:List Bk} {o:BitVec 32} {b:Bk} (h:kY L o=some b):b∈L∧b.o=o:=by
  have h1:=List.mem_of_find?_eq_some h
  have h2:=List.find?_some h
  exact ⟨h1,by simpa using (eR h2).symm⟩
theorem LO (rs:List Int) (i j:Nat) (x:Int) (h:i<rs.length):(rs.set i x).getD j 0=if i=j then x else rs.getD j 0:=by
  simp only[List.getD,List.getElem?_set]
  by_cases e:i=j
  · subst e;simp[h]
  · simp[e]
theorem qT.cancel {first rs:List Int} {L:List Bk} (h:qT first rs L) (o:BitVec 32):qT first (Bw rs (kY L o)) (Hs L (kY L o) o):=by
  cases hf:kY L o with
  |none=>exact h
  | some b=>
    obtain ⟨hm,ho⟩:=R7 hf
    have hb:=h.nf b hm
    refine ⟨by simp[Bw,h.len],h.jW,h.ok,?_,?_,Rx o h.keys⟩
    · intro c hc
      have:=h.nf c (fO.1 hc).1
      simpa [Bw] using this
    · intro d
      have h1:=h.wz d
      have h2:=ag0 h.keys hf d
      simp only[Bw,Hs]
      rw[LO rs _ _ _ hb.1]
      by_cases e:b.day=d
      · subst e
        rw[dx rfl] at h2 ⊢
        omega
      · rw[dp e] at h2 ⊢
        omega
theorem qT.book {first rs:List Int} {L:List Bk} (h:qT first rs L) (o:BitVec 32) (from_ n:Int):qT first (zV rs (oL rs L o from_ n) n) (Dj L (oL rs L o from_ n) o n):=by
  cases hf:oL rs L o from_ n with
  |none=>exact h
  | some d=>
    have hc:¬(o=0#32∨n<1∨from_<0∨(kY L o).isSome):=by
      intro hc;rw[oL,dx hc] at hf;cases hf
    have hd:yT rs from_ n=some d:=by rw[oL,dp hc] at hf;exact hf
    obtain ⟨g1,g2,g3,g4⟩:=ZJ hd
    have rr:kY L o=none:=by
      cases e:kY L o with
      |none=>rfl
      |some b=>exact absurd (.inr (.inr (.inr (by rw[e];rfl)))) hc
    have mH:1≤n:=by
      apply dW
      intro h9
      exact hc (.inr (.inl gz))
    have ho:o≠0#32:=fun e=>hc (.inl e)
    refine ⟨by simp[zV,h.len],h.jW,h.ok,?_,?_,Vt h.keys rr⟩
    · intro b hb
      simp only[Dj] at hb
      rcases dT.1 hb with hb|hb
      · have:=h.nf b hb;simpa [zV] using this
      · rw[dH.1 hb];exact ⟨by simpa [zV] using g1,mH,ho⟩
    · intro j
      have h1:=h.wz j
      simp only[zV,Dj]
      rw[LO rs _ _ _ g1,ag2]
      by_cases e:d=j
      · subst e
        simp only[if_true]
        omega
      · simp only[dp e]
        omega
theorem qT.Zd {first rs:List Int} {L:List Bk} (h:qT first rs L) (o:BitVec 32):∀b,kY L o=some b→b.day<rs.length∧-9223372036854775808≤rs.getD b.day 0+b.n∧rs.getD b.day 0+b.n≤9223372036854775807:=by
  intro b hb
  obtain ⟨hm,ho⟩:=R7 hb
  have h1:=(h.cancel o).Wl b.day
  rw[hb] at h1
  have h2:=h.nf b hm
  simp only[Bw] at h1
  rw[LO rs _ _ _ h2.1,dx rfl] at h1
  exact ⟨h2.1,by omega,by omega⟩
structure Ef where
  o:BitVec 32
  s:Int
  u:Bool
deriving DecidableEq
def ID (x:Ef):List Value:=[.int .u32 x.o.toNat,.int .i64 x.s,.bool x.u]
theorem Z5 (x:Ef):∀v∈ID x,v.oneCell'=true:=by
  intro v hv
  simp only[ID,eS,ej,or_false] at hv
  rcases hv with rfl|rfl|rfl<;>rfl
structure Cw where
  K:List Gd
  L:List Ho
  U:List Au
  Y:List Py
  rs:List Int
  B:List Bk
  e:BitVec 32
  ks:List Kp
  ef:List Ef
  no:List (List (BitVec 8))
def Cw.new (gs:List Gd) (us:List Au) (rs:List Int):Cw:=⟨gs,[],us,[],rs,[],0#32,[],[],[]⟩
def pT (s:Cw) (o:BitVec 32) (w:Wk):Cw:=
  if w.iA=1 then {s with K:=uY s.K s.L o false,L:=pK Ho.o s.L o}
  else if w.iA=2 then s
  else if w.iA=3 then {s with U:=rE s.U s.Y o 1 0 (-1),Y:=rF s.Y o 1 3}
  else if w.iA=4 then {s with U:=rE s.U s.Y o 2 1 0,Y:=rF s.Y o 2 3}
  else if w.iA=5 then {s with rs:=Bw s.rs (kY s.B o),B:=Hs s.B (kY s.B o) o}
  else {s with no:=s.no++[33#8::w.name]}
def qS (s:Cw) (o:BitVec 32) (w:Wk):Int:=
  if w.iA=1 then vd (iW Ho.o s.L o).isSome
  else if w.iA=2 then 2
  else if w.iA=3 then pH (qQ s.Y o 1)
  else if w.iA=4 then pH (qQ s.Y o 2)
  else if w.iA=5 then Fa (kY s.B o)
  else 1
def sK (s:Cw) (o:BitVec 32) (w:Wk):Cw:=
  if w.iA=1 then {s with K:=Bc s.K s.L o (str w.name) w.n,L:=Bd s.K s.L o (str w.name) w.n}
  else if w.iA=2 then {s with K:=uY s.K s.L o true,L:=pK Ho.o s.L o}
  else if w.iA=3 then {s with U:=Aw s.U s.Y o (str w.name) w.n,Y:=Ax s.U s.Y o (str w.name) w.n}
  else if w.iA=4 then {s with U:=rE s.U s.Y o 1 (-1) (-1),Y:=rF s.Y o 1 2}
  else if w.iA=5 then {s with rs:=zV s.rs (oL s.rs s.B o 0 w.n) w.n,B:=Dj s.B (oL s.rs s.B o 0 w.n) o w.n}
  else {s with no:=s.no++[w.name]}
def vx (s:Cw) (o:BitVec 32) (w:Wk):Int:=
  if w.iA=1 then vd (xf s.K s.L o (str w.name) w.n)
  else if w.iA=2 then vd (iW Ho.o s.L o).isSome
  else if w.iA=3 then pH (tB s.U s.Y o (str w.name) w.n)
  else if w.iA=4 then pH (qQ s.Y o 1)
  else if w.iA=5 then (Bv (oL s.rs s.B o 0 w.n)).2
  else 1
def yE (s:Cw) (o:BitVec 32) (w:Wk):List (BitVec 8):=
  if w.iA=5 then (match oL s.rs s.B o 0 w.n with|none=>[]|some d=>[BitVec.ofInt 8 (d:Int)]) else []
def lr (s:Cw) (n:Nt):Cw:=if AF n.data≠0 then s else if n.iy then pT s n.order (jH n.data) else sK s n.order (jH n.data)
def mA (s:Cw) (n:Nt):Int:=if AF n.data≠0 then 2 else if n.iy then qS s n.order (jH n.data) else vx s n.order (jH n.data)
def om (s:Cw) (n:Nt):List (BitVec 8):=if AF n.data≠0 then [] else if n.iy then [] else yE s n.order (jH n.data)
def qD (n:Nt) (code:Int) (iq:List (BitVec 8)):Nt:=⟨8,n.gE,0#32,0#64,0#64,n.order,n.step,n.iy,code,[],iq⟩
def Dm (e:BitVec 32) (code:Int):Nt:=⟨6,e,0#32,0#64,0#64,0#32,0,false,code,[],[]⟩
def LD (e:BitVec 32) (n:Nt):Nt:=⟨9,e,0#32,0#64,0#64,n.order,n.step,n.iy,0,[],[]⟩
def qj (s:Cw) (n:Nt) (act:Int):Int:=if act=4 then 1 else if act=1 then mA s n else 2
def qy (s:Cw) (n:Nt) (act:Int):List (BitVec 8):=if act=4 then [] else if act=1 then om s n else []
def sj (s:Cw) (n:Nt) (act:Int):Cw:=
  if act=4 then s else if act=1 then (if mA s n=1 then {lr s n with ef:=(lr s n).ef++[⟨n.order,n.step,n.iy⟩]} else lr s n) else s
def JN (s:Cw) (n:Nt) (code:Int) (iq:List (BitVec 8)):Cw:={s with e:=(rZ s.e s.ks n code iq).1,ks:=(rZ s.e s.ks n code iq).2.1}
def oH (s:Cw) (n:Nt):Cw:=
  if (ix s.e s.ks n).2.2≠0 then s
  else if (ix s.e s.ks n).1=2 then {s with e:=(rB s.e s.ks n.gE).1,ks:=(rB s.e s.ks n.gE).2.1}
  else if 200≤s.ks.length then s
  else JN (sj s n (ix s.e s.ks n).1) n (qj s n (ix s.e s.ks n).1) (qy s n (ix s.e s.ks n).1)
def oY (s:Cw) (n:Nt):Nt:=
  if (ix s.e s.ks n).2.2=72 then LD s.e n
  else if (ix s.e s.ks n).2.2=80 then Dm s.e 2
  else if (ix s.e s.ks n).2.2≠0 then Dm s.e 1
  else if (ix s.e s.ks n).1=2 then qD n (ix s.e s.ks n).2.1.code (ix s.e s.ks n).2.1.iq
  else if 200≤s.ks.length then Dm s.e 3
  else qD n (qj s n (ix s.e s.ks n).1) (qy s n (ix s.e s.ks n).1)
structure uq (g0:List Gd) (u0:List Au) (r0:List Int) (s:Cw):Prop where
  st:nT g0 s.K s.L
  pu:nS u0 s.U s.Y
  dk:qT r0 s.rs s.B
  ck:lP s.ks
  ef:s.ef.length≤s.ks.length
  no:s.no.length≤s.ks.length
  small:∀x∈s.no,x.length≤33
def xG (TS TP TD TI T8 TK TE TB TC p:Nat) (s:Cw) (C:List Ck):Prop:=
  ∃ pd ps pp vL vE vN CS CP CD CF CE cn CN Qg,C=row p [.pointer (some ⟨pd,0,none⟩),.pointer (some ⟨ps,0,none⟩),.pointer (some ⟨pp,0,none⟩),.int .u32 s.e.toNat,vL,vE,vN] TC::(CS++(CP++(CD++(CF++(CE++(CN++Qg))))))
    ∧wI TS ps s.K s.L CS∧tx TP pp s.U s.Y CP∧yH TD TI pd s.rs s.B CD∧rI T8 TK vL s.ks CF∧il vE s.ef.length (s.ef.flatMap ID) TE 3 CE∧il vN s.no.length cn TB 1 CN∧rJ T8 cn s.no Qg
theorem Yu {e:BitVec 32} {ks:List Kp} {n:Nt}:(ix e ks n).2.1=Kp.z∨(ix e ks n).2.1∈ks:=by
  unfold ix
  split
  · exact .inl rfl
  · split
    · exact .inl rfl
    · split
      · rename_i k hk
        split
        · exact .inr (IT hk).1
        · exact .inl rfl
      · split
        · split
          · exact .inl rfl
          · split<;>exact .inl rfl
        · split<;>exact .inl rfl
theorem Yx {e:BitVec 32} {ks:List Kp} {n:Nt} (h:lP ks):(ix e ks n).2.1.iq.length≤255:=by
  rcases Yu (e:=e) (ks:=ks) (n:=n) with h1|h1
  · rw[h1];decide
  · exact (h.2.1 _ h1).2.2.2.2.1
section
variable {s:Cw} {n:Nt}
theorem O7 (h:(ix s.e s.ks n).2.2=72):oH s n=s∧oY s n=LD s.e n:=by
  unfold oH oY
  rw[dx (by rw[h];decide),dx h]
  exact ⟨rfl,rfl⟩
theorem O8 (h1:¬(ix s.e s.ks n).2.2=72) (h:(ix s.e s.ks n).2.2=80):oH s n=s∧oY s n=Dm s.e 2:=by
  unfold oH oY
  rw[dx (by rw[h];decide),dp h1,dx h]
  exact ⟨rfl,rfl⟩
theorem Pb (h1:¬(ix s.e s.ks n).2.2=72) (h2:¬(ix s.e s.ks n).2.2=80) (h:(ix s.e s.ks n).2.2≠0):oH s n=s∧oY s n=Dm s.e 1:=by
  unfold oH oY
  rw[dx h,dp h1,dp h2,dx h]
  exact ⟨rfl,rfl⟩
theorem O9 (h:¬(ix s.e s.ks n).2.2≠0) (ha:(ix s.e s.ks n).1=2):oH s n={s with e:=(rB s.e s.ks n.gE).1,ks:=(rB s.e s.ks n.gE).2.1}∧oY s n=qD n (ix s.e s.ks n).2.1.code (ix s.e s.ks n).2.1.iq:=by
  have h1:(ix s.e s.ks n).2.2=0:=dW h
  unfold oH oY
  rw[dp h,dx ha,dp (by rw[h1];decide),dp (by rw[h1];decide),dp h,dx ha]
  exact ⟨rfl,rfl⟩
theorem Km (h:¬(ix s.e s.ks n).2.2≠0) (ha:¬(ix s.e s.ks n).1=2) (hf:200≤s.ks.length):oH s n=s∧oY s n=Dm s.e 3:=by
  have h1:(ix s.e s.ks n).2.2=0:=dW h
  unfold oH oY
  rw[dp h,dp ha,dx hf,dp (by rw[h1];decide),dp (by rw[h1];decide),dp h,dp ha,dx hf]
  exact ⟨rfl,rfl⟩
theorem Pa (h:¬(ix s.e s.ks n).2.2≠0) (ha:¬(ix s.e s.ks n).1=2) (hf:¬200≤s.ks.length):
    oH s n=JN (sj s n (ix s.e s.ks n).1) n (qj s n (ix s.e s.ks n).1) (qy s n (ix s.e s.ks n).1)∧oY s n=qD n (qj s n (ix s.e s.ks n).1) (qy s n (ix s.e s.ks n).1):=by
  have h1:(ix s.e s.ks n).2.2=0:=dW h
  unfold oH oY
  rw[dp h,dp ha,dp hf,dp (by rw[h1];decide),dp (by rw[h1];decide),dp h,dp ha,dp hf]
  exact ⟨rfl,rfl⟩
theorem ahC (o:BitVec 32) (w:Wk):(pT s o w).e=s.e∧(pT s o w).ks=s.ks∧(pT s o w).ef=s.ef:=by
  unfold pT
  repeat' split
  all_goals exact ⟨rfl,rfl,rfl⟩
theorem ah0 (o:BitVec 32) (w:Wk):(sK s o w).e=s.e∧(sK s o w).ks=s.ks∧(sK s o w).ef=s.ef:=by
  unfold sK
  repeat' split
  all_goals exact ⟨rfl,rfl,rfl⟩
theorem BR:(lr s n).e=s.e∧(lr s n).ks=s.ks∧(lr s n).ef=s.ef:=by
  unfold lr
  split
  · exact ⟨rfl,rfl,rfl⟩
  · split
    · exact ahC _ _
    · exact ah0 _ _
theorem Lw {act:Int}:(sj s n act).e=s.e∧(sj s n act).ks=s.ks:=by
  unfold sj
  split
  · exact ⟨rfl,rfl⟩
  · split
    · split
      · exact ⟨BR.1,BR.2.1⟩
      · exact ⟨BR.1,BR.2.1⟩
    · exact ⟨rfl,rfl⟩
theorem ahY (o:BitVec 32) (w:Wk):(yE s o w).length≤1:=by
  unfold yE
  split
  · split<;>simp
  · simp
theorem Kh {act:Int}:(qy s n act).length≤1:=by
  unfold qy om
  repeat' split
  all_goals first|exact ahY _ _|exact dN _
theorem RD {act:Int} (h:act=4):qj s n act=1∧qy s n act=[]∧sj s n act=s:=by
  unfold qj qy sj
  rw[dx h,dx h,dx h]
  exact ⟨rfl,rfl,rfl⟩
theorem Lv {act:Int} (h4:¬act=4) (h:act=1):qj s n act=mA s n∧qy s n act=om s n∧sj s n act=(if mA s n=1 then {lr s n with ef:=(lr s n).ef++[⟨n.order,n.step,n.iy⟩]} else lr s n):=by
  unfold qj qy sj
  rw[dp h4,dx h,dp h4,dx h,dp h4,dx h]
  exact ⟨rfl,rfl,rfl⟩
theorem RC {act:Int} (h4:¬act=4) (h:¬act=1):qj s n act=2∧qy s n act=[]∧sj s n act=s:=by
  unfold qj qy sj
  rw[dp h4,dp h,dp h4,dp h,dp h4,dp h]
  exact ⟨rfl,rfl,rfl⟩
end
section
theorem NV {ks:List Kp} {i:Nat} {k x:Kp}:x∈uU ks i k↔x∈ks∨x=k:=by
  unfold uU
  rw[dT,eS]
  constructor
  · rintro (h|h|h)
    · exact .inl (fY h)
    · exact .inr h
    · exact .inl (List.mem_of_mem_drop h)
  · rintro (h|h)
    · rw[←fz i ks] at h
      rcases dT.1 h with h|h
      · exact .inl h
      · exact .inr (.inr h)
    · exact .inr (.inl h)
theorem acH {ks:List Kp} {k:Kp} (h:lP ks) (hl:ks.length<200) (hr:mZ k) (hn:lJ ks k.num=none):lP (uU ks (pos ks k.num) k):=by
  refine ⟨by rw[Hn _ (Dt _ _)];omega,fun x hx=>?_,?_⟩
  · rcases NV.1 hx with hx|rfl
    · exact h.2.1 x hx
    · exact hr
  · unfold uU
    have hA:(ks.take (pos ks k.num)).Pairwise fun a b=>a.num<b.num:=h.2.2.sublist (List.take_sublist _ _)
    have hB:(ks.drop (pos ks k.num)).Pairwise fun a b=>a.num<b.num:=h.2.2.sublist (List.drop_sublist _ _)
    have lo:∀x∈ks.take (pos ks k.num),x.num<k.num:=fun x hx=>by
      obtain ⟨t,ht,rfl⟩:=List.mem_take_iff_getElem.1 hx
      exact VY gz gz
    have hi:∀x∈ks.drop (pos ks k.num),k.num<x.num:=fun x hx=>by
      obtain ⟨t,ht,rfl⟩:=List.mem_drop_iff_getElem.1 hx
      have hp:=VX (n:=k.num) (ks:=ks) (t:=pos ks k.num) gz rfl
      have jk:ks[pos ks k.num].num≠k.num:=SF hn _ (dG _)
      rcases Nat.eq_zero_or_pos t with rfl|h0
      · simp only[fG];omega
      · have:=DZ h (i:=pos ks k.num) (j:=pos ks k.num+t) gz gz
        omega
    refine List.pairwise_append.2 ⟨hA,List.pairwise_cons.2 ⟨hi,hB⟩,fun x hx y hy=>?_⟩
    rcases eS.1 hy with rfl|hy
    · exact lo x hx
    · have:=lo x hx;have:=hi y hy;omega
variable {g0:List Gd} {u0:List Au} {r0:List Int} {s:Cw} {n:Nt}
structure FF (g0:List Gd) (u0:List Au) (r0:List Int) (s t:Cw):Prop where
  st:nT g0 t.K t.L
  pu:nS u0 t.U t.Y
  dk:qT r0 t.rs t.B
  no:t.no.length≤s.no.length+1
  small:∀x∈t.no,x.length≤33
theorem uq.sub (h:uq g0 u0 r0 s):FF g0 u0 r0 s s:=⟨h.st,h.pu,h.dk,eh _,h.small⟩
theorem ahE (h:uq g0 u0 r0 s) (o:BitVec 32) (w:Wk) (hw:w.name.length≤32):FF g0 u0 r0 s (pT s o w):=by
  unfold pT
  split
  · exact ⟨h.st.leave o false,h.pu,h.dk,eh _,h.small⟩
  · split
    · exact h.sub
    · split
      · exact ⟨h.st,h.pu.yz o 1 3 0 (-1) (.inr (.inl ⟨rfl,rfl,rfl,rfl⟩)),h.dk,eh _,h.small⟩
      · split
        · exact ⟨h.st,h.pu.yz o 2 3 1 0 (.inr (.inr ⟨rfl,rfl,rfl,rfl⟩)),h.dk,eh _,h.small⟩
        · split
          · exact ⟨h.st,h.pu,h.dk.cancel o,eh _,h.small⟩
          · refine ⟨h.st,h.pu,h.dk,by simp,fun x hx=>?_⟩
            rcases dT.1 hx with hx|hx
            · exact h.small x hx
            · rw[dH.1 hx,dF];omega
theorem ah2 (h:uq g0 u0 r0 s) (o:BitVec 32) (w:Wk) (hw:w.name.length≤32):FF g0 u0 r0 s (sK s o w):=by
  unfold sK
  split
  · exact ⟨h.st.hold o _ _,h.pu,h.dk,eh _,h.small⟩
  · split
    · exact ⟨h.st.leave o true,h.pu,h.dk,eh _,h.small⟩
    · split
      · exact ⟨h.st,h.pu.YB o _ _,h.dk,eh _,h.small⟩
      · split
        · exact ⟨h.st,h.pu.yz o 1 2 (-1) (-1) (.inl ⟨rfl,rfl,rfl,rfl⟩),h.dk,eh _,h.small⟩
        · split
          · exact ⟨h.st,h.pu,h.dk.book o _ _,eh _,h.small⟩
          · refine ⟨h.st,h.pu,h.dk,by simp,fun x hx=>?_⟩
            rcases dT.1 hx with hx|hx
            · exact h.small x hx
            · rw[dH.1 hx];omega
theorem ZS (h:uq g0 u0 r0 s) (n:Nt):FF g0 u0 r0 s (lr s n):=by
  unfold lr
  split
  · exact h.sub
  · split
    · exact ahE h _ _ (Lt _)
    · exact ah2 h _ _ (Lt _)
theorem ZQ (h:uq g0 u0 r0 s) (n:Nt) (act:Int):FF g0 u0 r0 s (sj s n act)∧(sj s n act).ef.length≤s.ef.length+1:=by
  have h9:(lr s n).ef=s.ef:=BR.2.2
  unfold sj
  split
  · exact ⟨h.sub,eh _⟩
  · split
    · have d:=ZS h n
      split
      · exact ⟨⟨d.st,d.pu,d.dk,d.no,d.small⟩,by show ((lr s n).ef++[_]).length≤_;rw[h9];simp⟩
      · exact ⟨d,by rw[h9];exact eh _⟩
    · exact ⟨h.sub,eh _⟩
theorem ahB (o:BitVec 32) (w:Wk):qS s o w=1∨qS s o w=2:=by
  have hv:∀b,vd b=1∨vd b=2:=fun b=>by cases b<;>simp[vd]
  have hp:∀b,pH b=1∨pH b=2:=fun b=>by cases b<;>simp[pH]
  have hc:∀b,Fa b=1∨Fa b=2:=fun b=>by cases b<;>simp[Fa]
  unfold qS
  split
  · exact hv _
  · split
    · exact .inr rfl
    · split
      · exact hp _
      · split
        · exact hp _
        · split
          · exact hc _
          · exact .inl rfl
theorem ahZ (o:BitVec 32) (w:Wk):vx s o w=1∨vx s o w=2:=by
  have hv:∀b,vd b=1∨vd b=2:=fun b=>by cases b<;>simp[vd]
  have hp:∀b,pH b=1∨pH b=2:=fun b=>by cases b<;>simp[pH]
  have hc:∀b,(Bv b).2=1∨(Bv b).2=2:=fun b=>by cases b<;>simp[Bv]
  unfold vx
  split
  · exact hv _
  · split
    · exact hv _
    · split
      · exact hp _
      · split
        · exact hp _
        · split
          · exact hc _
          · exact .inl rfl
theorem RE (n:Nt):mA s n=1∨mA s n=2:=by
  unfold mA
  split
  · exact .inr rfl
  · split
    · exact ahB _ _
    · exact ahZ _ _
theorem Lq (n:Nt) (act:Int):qj s n act=1∨qj s n act=2:=by
  unfold qj
  split
  · exact .inl rfl
  · split
    · exact RE n
    · exact .inr rfl
theorem Yv {e:BitVec 32} {ks:List Kp} (h0:(ix e ks n).2.2=0) (h2:¬(ix e ks n).1=2):lJ ks (kx n.order n.step n.iy)=none:=by
  have hg:=FW h0
  cases hk:lJ ks (kx n.order n.step n.iy) with
  |none=>rfl
  | some k=>
    exfalso
    unfold ix at h0 h2
    rw[dp hg.1,dp hg.2,hk] at h0 h2
    dsimp only at h0 h2
    by_cases ha:k.asked=n.data
    · rw[dx ha] at h2;exact h2 rfl
    · rw[dp ha] at h0;exact absurd h0 gB
theorem K8 {e:BitVec 32} {ks:List Kp} (h0:(ix e ks n).2.2=0) {code:Int} {iq:List (BitVec 8)} (hc:code=1∨code=2) (hr:iq.length≤255):mZ (lF n code iq):=by
  have hg:=FW h0
  have h9:mS n=false:=by
    cases e9:mS n
    · rfl
    · exact absurd (.inr (.inr (.inl e9))) hg.1
  have h8:=Ow h9
  have h7:n.order≠0#32:=fun q=>hg.1 (.inr (.inr (.inr (.inr q))))
  refine ⟨?_,h8.1,h8.2.1,h8.2.2,hr,hc⟩
  show 0<n.order.toNat
  rcases Nat.eq_zero_or_pos n.order.toNat with q|q
  · exact absurd (dB q) h7
  · exact q
theorem WB (h0:(ix s.e s.ks n).2.2=0) (h2:¬(ix s.e s.ks n).1=2) (hf:¬200≤s.ks.length):
    rZ s.e s.ks n (qj s n (ix s.e s.ks n).1) (qy s n (ix s.e s.ks n).1)=(n.gE,uU s.ks (pos s.ks (kx n.order n.step n.iy)) (lF n (qj s n (ix s.e s.ks n).1) (qy s n (ix s.e s.ks n).1)),0):=by
  have hr:=K8 h0 (Lq (s:=s) n (ix s.e s.ks n).1) (iq:=qy s n (ix s.e s.ks n).1) (by have:=Kh (s:=s) (n:=n) (act:=(ix s.e s.ks n).1);omega)
  refine US (fun q=>q h0) ?_ h2 hf
  rintro (q|⟨q1,q2⟩|⟨q1,q2⟩)
  · exact q hr
  · exact q2 (by show qj s n (ix s.e s.ks n).1=2;rw[q1];rfl)
  · exact q2 (by show qj s n (ix s.e s.ks n).1=1;rw[q1];rfl)
theorem aga (h:uq g0 u0 r0 s) (n:Nt):uq g0 u0 r0 (oH s n):=by
  by_cases h0:(ix s.e s.ks n).2.2≠0
  · unfold oH;rw[dx h0];exact h
  · have AO:(ix s.e s.ks n).2.2=0:=dW h0
    by_cases h2:(ix s.e s.ks n).1=2
    · rw[(O9 h0 h2).1]
      have hg:=(FW AO).2
      have hs:rB s.e s.ks n.gE=(n.gE,s.ks,0):=by
        unfold rB;rw[dp (fK h.ck),dp hg]
      rw[hs]
      exact ⟨h.st,h.pu,h.dk,h.ck,h.ef,h.no,h.small⟩
    · by_cases hf:200≤s.ks.length
      · rw[(Km h0 h2 hf).1];exact h
      · rw[(Pa h0 h2 hf).1]
        obtain ⟨d,mh⟩:=ZQ h n (ix s.e s.ks n).1
        have tN:=Lw (s:=s) (n:=n) (act:=(ix s.e s.ks n).1)
        have hk:=WB AO h2 hf
        have hr:=K8 AO (Lq (s:=s) n (ix s.e s.ks n).1) (iq:=qy s n (ix s.e s.ks n).1) (by have:=Kh (s:=s) (n:=n) (act:=(ix s.e s.ks n).1);omega)
        have hc:=acH (k:=lF n (qj s n (ix s.e s.ks n).1) (qy s n (ix s.e s.ks n).1)) h.ck gz hr (Yv AO h2)
        have hl:=Hn (lF n (qj s n (ix s.e s.ks n).1) (qy s n (ix s.e s.ks n).1)) (Dt s.ks (kx n.order n.step n.iy))
        have hef:=h.ef
        have jf:=h.no
        have yd:=d.no
        unfold JN
        rw[tN.1,tN.2,hk]
        exact ⟨d.st,d.pu,d.dk,hc,by dsimp only;omega,by dsimp only;omega,d.small⟩
theorem aeD {gs:List Gd} {us:List Au} {rs:List Int} (h1:nT gs gs []) (h2:nS us us []) (h3:qT rs rs []):uq gs us rs (Cw.new gs us rs):=
  ⟨h1,h2,h3,Rk,dN _,dN _,fun _ h=>absurd h ej⟩
end
section
variable {g0:List Gd} {u0:List Au} {r0:List Int} {s:Cw} {n:Nt}
theorem ahD {o:BitVec 32} {w:Wk} (h:qS s o w≠1):pT s o w=s:=by
  have hv:∀b,vd b≠1→b=false:=fun b=>by cases b<;>simp[vd]
  have hp:∀b,pH b≠1→b=false:=fun b=>by cases b<;>simp[pH]
  unfold qS at h
  unfold pT
  by_cases h1:w.iA=1
  · rw[dx h1] at h ⊢
    have e:iW Ho.o s.L o=none:=by simpa using hv _ h
    rw[Lu e]
    unfold uY
    rw[e]
  rw[dp h1] at h ⊢
  by_cases h2:w.iA=2
  · rw[dx h2]
  rw[dp h2] at h ⊢
  by_cases h3:w.iA=3
  · rw[dx h3] at h ⊢
    rw[(yA 3 0 (-1) (hp _ h)).1,(yA (K:=s.U) 3 0 (-1) (hp _ h)).2]
  rw[dp h3] at h ⊢
  by_cases h4:w.iA=4
  · rw[dx h4] at h ⊢
    rw[(yA 3 1 0 (hp _ h)).1,(yA (K:=s.U) 3 1 0 (hp _ h)).2]
  rw[dp h4] at h ⊢
  by_cases h5:w.iA=5
  · rw[dx h5] at h ⊢
    cases hb:kY s.B o with
    |none=>rfl
    |some b=>rw[hb] at h;exact absurd rfl h
  rw[dp h5] at h
  exact absurd rfl h
theorem ah1 {o:BitVec 32} {w:Wk} (h:vx s o w≠1):sK s o w=s:=by
  have hv:∀b,vd b≠1→b=false:=fun b=>by cases b<;>simp[vd]
  have hp:∀b,pH b≠1→b=false:=fun b=>by cases b<;>simp[pH]
  unfold vx at h
  unfold sK
  by_cases h1:w.iA=1
  · rw[dx h1] at h ⊢
    have e:=hv _ h
    unfold Bc Bd
    rw[e]
    rfl
  rw[dp h1] at h ⊢
  by_cases h2:w.iA=2
  · rw[dx h2] at h ⊢
    have e:iW Ho.o s.L o=none:=by simpa using hv _ h
    rw[Lu e]
    unfold uY
    rw[e]
  rw[dp h2] at h ⊢
  by_cases h3:w.iA=3
  · rw[dx h3] at h ⊢
    rw[(DR (hp _ h)).1,(DR (hp _ h)).2]
  rw[dp h3] at h ⊢
  by_cases h4:w.iA=4
  · rw[dx h4] at h ⊢
    rw[(yA 2 (-1) (-1) (hp _ h)).1,(yA (K:=s.U) 2 (-1) (-1) (hp _ h)).2]
  rw[dp h4] at h ⊢
  by_cases h5:w.iA=5
  · rw[dx h5] at h ⊢
    cases hb:oL s.rs s.B o 0 w.n with
    |none=>rfl
    |some b=>rw[hb] at h;exact absurd rfl h
  rw[dp h5] at h
  exact absurd rfl h
theorem ZR (h:mA s n≠1):lr s n=s:=by
  unfold mA at h
  unfold lr
  split at h
  · rename_i h1;rw[dx h1]
  · rename_i h1
    rw[dp h1]
    split at h
    · rename_i h2;rw[dx h2];exact ahD h
    · rename_i h2;rw[dp h2];exact ah1 h
def UH (s:Cw) (n:Nt) (code:Int) (iq:List (BitVec 8)):List Kp:=uU s.ks (pos s.ks (kx n.order n.step n.iy)) (lF n code iq)
def Z4 (n:Nt):Ef:=⟨n.order,n.step,n.iy⟩
inductive Yc (s:Cw) (n:Nt):Prop
  |gT (h:n.gE.toNat<s.e.toNat) (hs:oH s n=s) (hn:oY s n=LD s.e n)
  |no (c:Int) (h1:1≤c) (h3:c≤3) (hf:c=1∧mF s.ks n∨c=2∨c=3∧200≤s.ks.length) (hs:oH s n=s) (hn:oY s n=Dm s.e c)
  |again (hb:¬mF s.ks n) (h:¬n.gE.toNat<s.e.toNat) (k:Kp) (hk:lJ s.ks (kx n.order n.step n.iy)=some k) (ha:k.asked=n.data) (hs:oH s n={s with e:=n.gE}) (hn:oY s n=qD n k.code k.iq)
  |none (hb:¬mF s.ks n) (h:¬n.gE.toNat<s.e.toNat) (hk:lJ s.ks (kx n.order n.step n.iy)=none) (hl:s.ks.length<200) (code:Int) (iq:List (BitVec 8)) (hc:code=2∨n.iy=true∧code=1) (hr:mZ (lF n code iq))
      (hv:(ix s.e s.ks n).1=1→mA s n≠1) (hs:oH s n={s with e:=n.gE,ks:=UH s n code iq}) (hn:oY s n=qD n code iq)
  |jg (hb:¬mF s.ks n) (h:¬n.gE.toNat<s.e.toNat) (hk:lJ s.ks (kx n.order n.step n.iy)=none) (hl:s.ks.length<200) (iq:List (BitVec 8)) (hr:mZ (lF n 1 iq))
      (ha:n.iy=false∧lJ s.ks (kx n.order n.step true)=none∨n.iy=true∧∃k,lJ s.ks (kx n.order n.step false)=some k∧k.code≠2)
      (hv:mA s n=1) (hs:oH s n={lr s n with e:=n.gE,ks:=UH s n 1 iq,ef:=s.ef++[Z4 n]}) (hn:oY s n=qD n 1 iq)
theorem served (hc:lP s.ks) (n:Nt):Yc s n:=by
  by_cases hb:mF s.ks n
  · have ha:=Av (e:=s.e) hb
    have h:=Pb (s:=s) (n:=n) (by rw[ha];decide) (by rw[ha];decide) (by rw[ha];decide)
    exact .no 1 gB gB (.inl ⟨rfl,hb⟩) h.1 h.2
  by_cases ho:n.gE.toNat<s.e.toNat
  · have ha:=K7 (e:=s.e) hb ho
    have h:=O7 (s:=s) (n:=n) (by rw[ha])
    exact .gT ho h.1 h.2
  have acr:rB s.e s.ks n.gE=(n.gE,s.ks,0):=by
    unfold rB;rw[dp (fK hc),dp ho]
  cases hk:lJ s.ks (kx n.order n.step n.iy) with
  | some k=>
    by_cases hd:k.asked=n.data
    · have ha:=QN (e:=s.e) hb ho hk hd
      have h:=O9 (s:=s) (n:=n) (by rw[ha];exact fun q=>q rfl) (by rw[ha])
      rw[ha,acr] at h
      exact .again hb ho k hk hd h.1 h.2
    · have ha:=QO (e:=s.e) hb ho hk hd
      have h:=O8 (s:=s) (n:=n) (by rw[ha];decide) (by rw[ha])
      exact .no 2 gB gB (.inr (.inl rfl)) h.1 h.2
  | none=>
    have key:(ix s.e s.ks n).2.2=0∧((ix s.e s.ks n).1=3∧n.iy=false∨(ix s.e s.ks n).1=4∧n.iy=true∨(ix s.e s.ks n).1=1∧(n.iy=false∧lJ s.ks (kx n.order n.step true)=none∨n.iy=true∧∃k,lJ s.ks (kx n.order n.step false)=some k∧k.code≠2)):=by
      cases ma:lJ s.ks (kx n.order n.step (!n.iy)) with
      | none=>
        rw[QP hb ho hk ma]
        cases hu:n.iy with
        |true=>exact ⟨rfl,.inr (.inl ⟨rfl,rfl⟩)⟩
        |false=>rw[hu] at ma;exact ⟨rfl,.inr (.inr ⟨rfl,.inl ⟨rfl,ma⟩⟩)⟩
      | some k=>
        cases hu:n.iy with
        |false=>rw[QQ hb ho hk ma hu];exact ⟨rfl,.inl ⟨rfl,rfl⟩⟩
        | true=>
          rw[QR hb ho hk ma hu]
          rw[hu] at ma
          by_cases h2:k.code=2
          · rw[dx h2];exact ⟨rfl,.inr (.inl ⟨rfl,rfl⟩)⟩
          · rw[dp h2];exact ⟨rfl,.inr (.inr ⟨rfl,.inr ⟨rfl,k,ma,h2⟩⟩)⟩
    obtain ⟨h0,I3⟩:=key
    have h2:¬(ix s.e s.ks n).1=2:=by
      intro e
      rw[e] at I3
      rcases I3 with ⟨q,_⟩|⟨q,_⟩|⟨q,_⟩<;>exact absurd q gB
    by_cases hf:200≤s.ks.length
    · have h:=Km (s:=s) (n:=n) (by rw[h0];decide) h2 hf
      exact .no 3 gB gB (.inr (.inr ⟨rfl,hf⟩)) h.1 h.2
    have h:=Pa (s:=s) (n:=n) (by rw[h0];decide) h2 hf
    have GS:=WB h0 h2 hf
    have hr:=K8 h0 (Lq (s:=s) n (ix s.e s.ks n).1) (iq:=qy s n (ix s.e s.ks n).1) (by have:=Kh (s:=s) (n:=n) (act:=(ix s.e s.ks n).1);omega)
    have tN:=Lw (s:=s) (n:=n) (act:=(ix s.e s.ks n).1)
    unfold JN at h
    rw[tN.1,tN.2,GS] at h
    dsimp only at h
    obtain ⟨act,hq⟩:∃a,a=(ix s.e s.ks n).1:=⟨_,rfl⟩
    rw[←hq] at I3 h hr
    rcases I3 with ⟨q,hu⟩|⟨q,hu⟩|⟨q,hu⟩
    · have g:=RC (s:=s) (n:=n) (act:=act) (by rw[q];decide) (by rw[q];decide)
      rw[g.1,g.2.1] at hr
      rw[g.1,g.2.1,g.2.2] at h
      exact .none hb ho hk gz 2 [] (.inl rfl) hr (fun e=>by rw[←hq,q] at e;exact absurd e gB) h.1 h.2
    · have g:=RD (s:=s) (n:=n) (act:=act) q
      rw[g.1,g.2.1] at hr
      rw[g.1,g.2.1,g.2.2] at h
      exact .none hb ho hk gz 1 [] (.inr ⟨hu,rfl⟩) hr (fun e=>by rw[←hq,q] at e;exact absurd e gB) h.1 h.2
    · have g:=Lv (s:=s) (n:=n) (act:=act) (by rw[q];decide) q
      rw[g.1,g.2.1] at hr
      rw[g.1,g.2.1,g.2.2] at h
      by_cases hv:mA s n=1
      · rw[dx hv,hv,BR.2.2] at h
        rw[hv] at hr
        exact .jg hb ho hk gz (om s n) hr hu hv h.1 h.2
      · rw[dp hv,ZR hv] at h
        have h9:mA s n=2:=(RE n).resolve_left hv
        rw[h9] at h hr
        exact .none hb ho hk gz 2 (om s n) (.inl rfl) hr (fun _=>hv) h.1 h.2
end
structure Ls where
  ep:BitVec 32
  oA:Int
  iC:BitVec 64
  mode:Int
def Ls.z:Ls:=⟨0#32,0,0#64,0⟩
def ry (l:Ls):List Value:=[.int .u32 l.ep.toNat,.int .i64 l.oA,.int .u64 l.iC.toNat,.int .i64 l.mode]
def EW (l:Ls):Prop:=(l.mode=1∨l.mode=2)∧((l.oA=0∧l.ep=0#32∧l.iC=0#64)∨((l.oA=1∨l.oA=2)∧0<l.ep.toNat∧l.iC.toNat≤4611686018427397904))
def xU (l:Ls) (now guard:BitVec 64):Prop:=l.oA=0∨(l.iC.toNat<now.toNat∧guard.toNat<now.toNat-l.iC.toNat)
instance (l:Ls) (a b:BitVec 64):Decidable (xU l a b):=by unfold xU;infer_instance
def Ee (l:Ls) (now:BitVec 64) (iL:Int) (len guard:BitVec 64):Ls×Int:=if xU l now guard then (⟨l.ep+1#32,iL,now+len,l.mode⟩,0) else (Ls.z,70)
def vh (l:Ls) (now:BitVec 64) (iL:Int) (ep:BitVec 32):Int:=if l.oA≠iL∨l.ep≠ep then 72 else if l.iC.toNat<now.toNat then 73 else 0
def E9 (l:Ls) (now:BitVec 64) (iL:Int) (ep:BitVec 32) (len:BitVec 64):Ls×Int:=
  if vh l now iL ep=0 then ({l with iC:=if l.iC.toNat≤(now+len).toNat then now+len else l.iC},0) else (Ls.z,vh l now iL ep)
def By (l:Ls) (now:BitVec 64) (iL:Int) (ep:BitVec 32) (mode:Int):Ls×Int:=if vh l now iL ep=0 then ({l with mode:=mode},0) else (Ls.z,vh l now iL ep)
structure Ar where
  len:BitVec 64
  guard:BitVec 64
  now:BitVec 64
  l:Ls
  last:Int
def jr (a:Ar):List Value:=[.int .u64 a.len.toNat,.int .u64 a.guard.toNat,.int .u64 a.now.toNat,.int .u32 a.l.ep.toNat,.int .i64 a.l.oA,.int .u64 a.l.iC.toNat,.int .i64 a.l.mode,.int .i64 a.last]
def Ar.new (len guard:BitVec 64):Ar:=⟨len,guard,0#64,⟨0#32,0,0#64,1⟩,0⟩
structure HY (a:Ar):Prop where
  l:EW a.l
  len:1≤a.len.toNat∧a.len.toNat≤10000
  guard:a.guard.toNat≤10000
  now:a.now.toNat≤4611686018427387904
  ep:a.l.ep.toNat<4294967295
def oV (a:Ar) (iL:Int) (ep:BitVec 32) (code:Int):Ls×Int:=
  if ep=0#32 then Ee a.l a.now iL a.len a.guard else if code=0 then E9 a.l a.now iL ep a.len else By a.l a.now iL ep code
def EK:Kk Int where
  kv o:=.int .i64 o
  fits T:=∃k,T=.int k
  same:=by
    rintro T ⟨k,rfl⟩ a b
    simp only[Instr.sameNow,if_true,ew]
    rw[dM,dz,beq_iff_eq]
  check:=by
    rintro P w KT T b a hK ⟨k,rfl⟩
    show (Instr.checkKey b (9999+1) KT _).run P w=_
    rw[Instr.checkKey]
    simp[dP hK]
  bits a:=by
    show Instr.sameBits (9999+1) _ _=true
    simp[Instr.sameBits]
  inj a b h:=by
    simp only[Value.int.injEq,eD] at h
    exact h
theorem cz {P:Program} {l:Sl} {H:List Ck} {d:Option Nat} {ty:TypeId} {pos:String} {gJ:Array Edge} {g:Option (Nat×Bool)} {K:Next→List Ck→Prop} {κ:Type} [DecidableEq κ] {k0:Kk κ}
    {T KT ET:TypeId} {TD:TypeDesc} {x y z:Operand} {b:Nat} {n:κ} {v:Value} {m:List (κ×Value)} {C D:List Ck} (hT:mapOf P T=some (KT,ET)) (hK:P.underlying KT=some TD) (oP:k0.fits TD)
    (hx:ev l x=some (.map (some b))) (hy:ev l y=some (k0.kv n)) (hz:ev l z=some v) (hm:mO k0 b m C) (nu:(m.map (·.1)).Nodup) (hH:Sp H C D) (k:∀gP,mO k0 b (pF m n v) gP→K .skip (gP++D)):
    Hd P ⟨d,.insert T x y z,ty,pos,gJ,g⟩ l H K:=fun a w R kn s=>
  (bL (d:=d) (ty:=ty) (pos:=pos) (gJ:=gJ) (g:=g) hT hK oP hx hy hz hm nu hH k:Hd P ⟨d,.mapUpdate T x y z,ty,pos,gJ,g⟩ l H K) a w R kn s
def Rq:List (Int×Value):=pF (pF (pF (pF [] 70 (.int .i64 2)) 72 (.int .i64 3)) 73 (.int .i64 4)) 71 (.int .i64 6)
theorem Zu (n:Int):∃c,(kB Rq n).getD (.int .i64 0)=.int .i64 c:=by
  have e:Rq=[(70,.int .i64 2),(72,.int .i64 3),(73,.int .i64 4),(71,.int .i64 6)]:=rfl
  rw[e]
  simp only[kB,List.find?_cons,List.find?_nil]
  by_cases h1:n=70
  · simp[h1]
  · by_cases h2:n=72
    · simp[h2]
    · by_cases h3:n=73
      · simp[h3]
      · by_cases h4:n=71
        · simp[h4]
        · simp[h1,h2,h3,h4]
def Ov (a:Ar) (c:Int):Nt:=⟨6,a.l.ep,0#32,0#64,0#64,0#32,0,false,c,[],[]⟩
def EU (l:Ls) (now:BitVec 64):Nt:=⟨5,l.ep,0#32,0#64,l.iC-now,0#32,0,false,l.mode,[],[]⟩
def HF (a:Ar) (iL:Int) (n:Nt) (gX:Ar) (r:Nt):Prop:=
  (gX=a∧∃c,r=Ov a c)∨(¬(n.gE=0#32∧a.l.mode=2∧iL≠a.last)∧(oV a iL n.gE n.code).2=0∧gX={a with l:=(oV a iL n.gE n.code).1,last:=iL}∧r=EU (oV a iL n.gE n.code).1 a.now)
end Go.SL
namespace Go.SL
open Top
section
variable {s:Cw} {n:Nt}
theorem Yy (hb:¬mF s.ks n) (ho:¬n.gE.toNat<s.e.toNat) (hk:∀k,lJ s.ks (kx n.order n.step n.iy)=some k→k.asked=n.data):(ix s.e s.ks n).2.2=0:=by
  unfold ix
  rw[dp hb,dp ho]
  cases h:lJ s.ks (kx n.order n.step n.iy) with
  |some k=>simp only;rw[dx (hk k h)]
  | none=>
    simp only
    cases lJ s.ks (kx n.order n.step (!n.iy)) with
    | some k=>
      simp only
      split
      · rfl
      · split<;>rfl
    | none=>
      simp only
      split<;>rfl
theorem ZG (hc:lP s.ks) (hb:¬mF s.ks n) (ho:¬n.gE.toNat<s.e.toNat) (hl:s.ks.length<200) (hk:∀k,lJ s.ks (kx n.order n.step n.iy)=some k→k.asked=n.data):
    ∃code iq,oY s n=qD n code iq∧(code=1∨code=2)∧iq.length≤255∧(oH s n).e=n.gE∧(oH s n).ks.length≤s.ks.length+1∧∀k∈(oH s n).ks,k∈s.ks∨k=lF n code iq:=by
  have h0:=Yy hb ho hk
  cases served hc n with
  |gT h _ _=>exact absurd h ho
  | no c h1 h3 hf hs hn=>
    exfalso
    have h6:(oY s n).kind=6:=by rw[hn];rfl
    unfold oY at h6
    rw[h0,dp gB,dp gB,dp gB] at h6
    split at h6
    · have:(8:Int)=6:=h6
      exact absurd this gB
    · rw[dp gz] at h6
      have:(8:Int)=6:=h6
      exact absurd this gB
  | again Gy h k ma ha hs hn=>
    obtain ⟨hm,_⟩:=IT ma
    obtain ⟨_,_,_,_,hr,Cy⟩:=hc.2.1 k hm
    refine ⟨k.code,k.iq,hn,Cy,hr,by rw[hs],by rw[hs];exact eh _,fun lS pP=>.inl ?_⟩
    rw[hs] at pP
    exact pP
  | none Gy h ma ox code iq mC hr hv hs hn=>
    refine ⟨code,iq,hn,?_,hr.2.2.2.2.1,by rw[hs],?_,fun lS pP=>?_⟩
    · rcases mC with q|⟨_,q⟩
      · exact .inr q
      · exact .inl q
    · rw[hs]
      show (uU s.ks _ _).length≤_
      rw[Hn _ (Dt _ _)]
      exact dA _
    · rw[hs] at pP
      exact NV.1 pP
  | jg Gy h ma ox iq hr ha hv hs hn=>
    refine ⟨1,iq,hn,.inl rfl,hr.2.2.2.2.1,by rw[hs],?_,fun lS pP=>?_⟩
    · rw[hs]
      show (uU s.ks _ _).length≤_
      rw[Hn _ (Dt _ _)]
      exact dA _
    · rw[hs] at pP
      exact NV.1 pP
end
end Go.SL
namespace Go.SL.Top
section
variable {α:Type} {ep:α→Nat} {s:Ws α}
theorem acQ (v:Inv ep s) {r iK:xI} (h:s.R s.h=some r) {t:Nat} {m:Bool} (ht:s.iC≤t) (he:iK.ep=r.ep) (ha:iK.iU=r.iU) (hr:iK.iC≤t) (hm:iK.pS=true→m=true)
    (hC:m=false→s.C<+:s.J (!s.h)):Inv ep {s with iC:=t,pS:=m,R:=hX s.R s.h (some iK)}:=by
  obtain ⟨h1,h2,h3,h4,h5⟩:=v.role r h
  refine ⟨v.low,fun h0=>?_,v.top,v.uZ,v.own,v.ue,v.wq,fun x hx=>?_,fun x hx=>?_,v.Ch,hC⟩
  · rw[(v.zero h0).2.1] at h;cases h
  · have kN:hX s.R s.h (some iK) s.h=some x:=hx
    rw[jJ,ew] at kN
    subst kN
    exact ⟨he.trans h1,hr,by rw[ha];exact h3,by rw[ha];exact h4,hm⟩
  · have kN:hX s.R s.h (some iK) (!s.h)=some x:=hx
    rw[ll] at kN
    exact v.vm x kN
theorem acS (v:Inv ep s) {k:Bool} {r iK:xI} (h:s.R k=some r) (he:iK.ep=r.ep) (ht:iK.iC=r.iC) (ha:iK.iU=r.iU) (hm:iK.pS=true→r.pS=true):Inv ep {s with R:=hX s.R k (some iK)}:=by
  refine ⟨v.low,fun h0=>?_,v.top,v.uZ,v.own,v.ue,v.wq,fun x hx=>?_,fun x hx=>?_,v.Ch,v.Co⟩
  · rw[(v.zero h0).2.1] at h;cases h
  · have kN:hX s.R k (some iK) s.h=some x:=hx
    rcases two (k:=k) (j:=s.h) with e|e
    · rw[e,jJ,ew] at kN
      subst kN
      rw[←e] at h
      obtain ⟨h1,h2,h3,h4,h5⟩:=v.role r h
      exact ⟨he.trans h1,by rw[ht];exact h2,by rw[ha];exact h3,by rw[ha];exact h4,fun q=>h5 (hm q)⟩
    · rw[e,ll,←e] at kN
      exact v.role x kN
  · have kN:hX s.R k (some iK) (!s.h)=some x:=hx
    show x.ep<s.e∧x.iC<s.now
    rcases two (k:=k) (j:=!s.h) with e|e
    · rw[e,jJ,ew] at kN
      subst kN
      rw[←e] at h
      obtain ⟨h1,h2⟩:=v.vm r h
      exact ⟨by omega,by omega⟩
    · rw[e,ll,←e] at kN
      exact v.vm x kN
theorem acM (v:Inv ep s) (he:0<s.e) {x:α} (hx:ep x=s.e):Inv ep {s with J:=hX s.J s.h (s.J s.h++[x])}:=by
  refine ⟨fun j y hy=>?_,fun h0=>absurd h0 (Nat.pos_iff_ne_zero.1 he),fun _=>⟨s.J s.h,x,by simp,hx⟩,?_,fun i y hy Hg=>?_,v.ue,v.wq,fun r hr=>?_,v.vm,?_,fun hs=>?_⟩
  · have nN:y∈hX s.J s.h (s.J s.h++[x]) j:=hy
    rcases two (k:=s.h) (j:=j) with e|e
    · subst e
      rw[jJ] at nN
      rcases dT.1 nN with nN|nN
      · exact v.low _ y nN
      · rw[dH.1 nN,hx];exact Nat.le_of_eq v.ue.symm
    · rw[e,ll] at nN
      rw[e];exact v.low _ y nN
  · show Match ep (hX s.J s.h (s.J s.h++[x]) s.h) (hX s.J s.h (s.J s.h++[x]) (!s.h))
    rw[jJ,ll]
    exact v.uZ.snoc fun i y hy Hg=>v.own i y hy (Hg.trans hx)
  · have nN:(hX s.J s.h (s.J s.h++[x]) (!s.h))[i]?=some y:=hy
    rw[ll] at nN
    show i<(hX s.J s.h (s.J s.h++[x]) s.h).length
    rw[jJ,dr]
    exact Nat.lt_of_lt_of_le (v.own i y nN Hg) (Nat.le_add_right _ _)
  · obtain ⟨h1,h2,h3,h4,h5⟩:=v.role r hr
    show r.ep=s.e∧r.iC≤s.iC∧r.iU≤(hX s.J s.h (s.J s.h++[x]) s.h).length∧(hX s.J s.h (s.J s.h++[x]) (!s.h)).take r.iU=(hX s.J s.h (s.J s.h++[x]) s.h).take r.iU∧(r.pS=true→s.pS=true)
    rw[jJ,ll,dr,dQ h3]
    exact ⟨h1,h2,by omega,h4,h5⟩
  · show s.C<+:hX s.J s.h (s.J s.h++[x]) s.h
    rw[jJ];exact v.Ch.trans (List.prefix_append _ _)
  · show s.C<+:hX s.J s.h (s.J s.h++[x]) (!s.h)
    rw[ll];exact v.Co hs
def taken (a b:List α) (i:Nat) (same:Bool):List α:=if same then b else a.take (i+1)
theorem VZ {c a:List α} {n:Nat} (h:c<+:a) (hn:c.length≤n):c<+:a.take n:=by
  obtain ⟨t,rfl⟩:=h
  rw[List.take_append]
  rw[dL hn]
  exact List.prefix_append _ _
theorem acT (v:Inv ep s) {r:xI} (h:s.R s.h=some r) {i:Nat} (hi:i<(s.J s.h).length) (zA:(s.J (!s.h)).take i=(s.J s.h).take i) {same:Bool}
    (NM:same=true→(s.J (!s.h))[i]?=(s.J s.h)[i]?) (Es:same=false→(s.J (!s.h))[i]?≠(s.J s.h)[i]?) {a:Nat} (ha:a=r.iU∨a=i+1) (hb:i≤(s.J (!s.h)).length):
    Inv ep {s with J:=hX s.J (!s.h) (taken (s.J s.h) (s.J (!s.h)) i same),seen:=hX s.seen (!s.h) s.e,R:=hX (hX s.R (!s.h) none) s.h (some {r with iU:=a})}:=by
  obtain ⟨h1,h2,h3,h4,h5⟩:=v.role r h
  have e0:0<s.e:=gp fun h0=>by rw[(v.zero h0).2.1] at h;cases h
  --iA it has now aiA with the aji ajJ it did,and at i
  have key:∀n,n≤(s.J s.h).length→(s.J (!s.h)).take n=(s.J s.h).take n→(taken (s.J s.h) (s.J (!s.h)) i same).take n=(s.J s.h).take n:=fun n hn hq=>by
    cases same with
    |true=>exact hq
    | false=>
      show ((s.J s.h).take (i+1)).take n=_
      rw[gd]
      have:n≤i:=by
        refine Nat.le_of_not_lt fun gQ=>Es rfl ?_
        have:=congrArg (fun l=>l[i]?) hq
        simpa [fF,gQ] using this
      rw[eE gz]
  have adB:(taken (s.J s.h) (s.J (!s.h)) i same).take (i+1)=(s.J s.h).take (i+1):=by
    cases same with
    | true=>
      show (s.J (!s.h)).take (i+1)=_
      rw[List.take_add_one,List.take_add_one,zA,NM rfl]
    | false=>
      show ((s.J s.h).take (i+1)).take (i+1)=_
      rw[gd,Nat.min_self]
  have sub:∀(j:Nat) (y:α),(taken (s.J s.h) (s.J (!s.h)) i same)[j]?=some y→(s.J (!s.h))[j]?=some y∨(s.J s.h)[j]?=some y:=fun j y hy=>by
    cases same with
    |true=>exact .inl hy
    | false=>
      have nN:((s.J s.h).take (i+1))[j]?=some y:=hy
      rw[fF] at nN
      split at nN
      · exact .inr nN
      · cases nN
  have Cx:s.C<+:s.J (!s.h)→s.C<+:taken (s.J s.h) (s.J (!s.h)) i same:=fun hc=>by
    cases same with
    |true=>exact hc
    | false=>
      refine VZ v.Ch ?_
      refine Nat.le_of_not_lt fun gQ=>Es rfl ?_
      obtain ⟨t1,e1⟩:=hc
      obtain ⟨t2,e2⟩:=v.Ch
      rw[←e1,←e2,eT gz,eT gz]
  have Jh:hX s.J (!s.h) (taken (s.J s.h) (s.J (!s.h)) i same) s.h=s.J s.h:=uh _ _ _
  have Jo:hX s.J (!s.h) (taken (s.J s.h) (s.J (!s.h)) i same) (!s.h)=taken (s.J s.h) (s.J (!s.h)) i same:=jJ _ _ _
  refine ⟨fun j y hy=>?_,fun h0=>absurd h0 (Nat.pos_iff_ne_zero.1 e0),fun _=>?_,?_,fun j y hy Hg=>?_,?_,?_,fun x hx=>?_,fun x hx=>?_,?_,fun hs=>?_⟩
  · have nN:y∈hX s.J (!s.h) (taken (s.J s.h) (s.J (!s.h)) i same) j:=hy
    show ep y≤hX s.seen (!s.h) s.e j
    rcases two (k:=s.h) (j:=j) with e|e
    · subst e
      rw[Jh] at nN
      rw[uh];exact v.low _ y nN
    · rw[e,Jo] at nN
      rw[e,jJ]
      obtain ⟨q,hq⟩:=List.getElem?_of_mem nN
      rcases sub q y hq with h9|h9
      · exact eJ (v.low _ y (List.mem_of_getElem? h9)) v.wq
      · exact eJ (v.low _ y (List.mem_of_getElem? h9)) (Nat.le_of_eq v.ue)
  · obtain ⟨l,x,h6,h7⟩:=v.top e0
    exact ⟨l,x,Jh.trans h6,h7⟩
  · show Match ep (hX s.J (!s.h) (taken (s.J s.h) (s.J (!s.h)) i same) s.h) (hX s.J (!s.h) (taken (s.J s.h) (s.J (!s.h)) i same) (!s.h))
    rw[Jh,Jo]
    intro j x y hx hy he
    cases same with
    |true=>exact v.uZ j x y hx hy he
    | false=>
      show _=((s.J s.h).take (i+1)).take (j+1)
      have:j<((s.J s.h).take (i+1)).length:=(dV.1 hy).1
      rw[dE] at this
      rw[gd,eE gz]
  · have nN:(hX s.J (!s.h) (taken (s.J s.h) (s.J (!s.h)) i same) (!s.h))[j]?=some y:=hy
    rw[Jo] at nN
    show j<(hX s.J (!s.h) (taken (s.J s.h) (s.J (!s.h)) i same) s.h).length
    rw[Jh]
    rcases sub j y nN with h9|h9
    · exact v.own j y h9 Hg
    · exact (dV.1 h9).1
  · show hX s.seen (!s.h) s.e s.h=s.e
    rw[uh];exact v.ue
  · show hX s.seen (!s.h) s.e (!s.h)≤s.e
    rw[jJ];exact dA _
  · have kN:hX (hX s.R (!s.h) none) s.h (some {r with iU:=a}) s.h=some x:=hx
    rw[jJ,ew] at kN
    subst kN
    show r.ep=s.e∧r.iC≤s.iC∧a≤(hX s.J (!s.h) (taken (s.J s.h) (s.J (!s.h)) i same) s.h).length∧(hX s.J (!s.h) (taken (s.J s.h) (s.J (!s.h)) i same) (!s.h)).take a=(hX s.J (!s.h) (taken (s.J s.h) (s.J (!s.h)) i same) s.h).take a∧(r.pS=true→s.pS=true)
    rw[Jh,Jo]
    rcases ha with rfl|rfl
    · exact ⟨h1,h2,h3,key _ h3 h4,h5⟩
    · exact ⟨h1,h2,hi,adB,h5⟩
  · have kN:hX (hX s.R (!s.h) none) s.h (some {r with iU:=a}) (!s.h)=some x:=hx
    rw[ll,jJ] at kN
    cases kN
  · show s.C<+:hX s.J (!s.h) (taken (s.J s.h) (s.J (!s.h)) i same) s.h
    rw[Jh];exact v.Ch
  · show s.C<+:hX s.J (!s.h) (taken (s.J s.h) (s.J (!s.h)) i same) (!s.h)
    rw[Jo];exact Cx (v.Co hs)
theorem acR (v:Inv ep s) {r:xI} (h:s.R s.h=some r):Inv ep {s with seen:=hX s.seen (!s.h) s.e,R:=hX s.R (!s.h) none}:=by
  have w:=NW v (!s.h)
  refine ⟨fun j y hy=>?_,w.zero,w.top,w.uZ,w.own,?_,?_,w.role,w.vm,w.Ch,w.Co⟩
  · show ep y≤hX s.seen (!s.h) s.e j
    rcases two (k:=s.h) (j:=j) with e|e
    · rw[e,uh,←e];exact v.low _ y hy
    · rw[e,jJ]
      rw[e] at hy
      exact eJ (v.low _ y hy) v.wq
  · show hX s.seen (!s.h) s.e s.h=s.e
    rw[uh];exact v.ue
  · show hX s.seen (!s.h) s.e (!s.h)≤s.e
    rw[jJ];exact dA _
def AE (s:Ws α) (r:xI):Nat:=if r.pS then (s.J s.h).length else r.iU
theorem acN (v:Inv ep s) {r:xI} (h:s.R s.h=some r) {gP:List α} (hc:gP=s.C∨gP=(s.J s.h).take (AE s r)):Inv ep {s with C:=gP}:=by
  obtain ⟨h1,h2,h3,h4,h5⟩:=v.role r h
  refine ⟨v.low,fun h0=>?_,v.top,v.uZ,v.own,v.ue,v.wq,v.role,v.vm,?_,fun hs=>?_⟩
  · rw[(v.zero h0).2.1] at h;cases h
  · show gP<+:s.J s.h
    rcases hc with rfl|rfl
    · exact v.Ch
    · exact List.take_prefix _ _
  · show gP<+:s.J (!s.h)
    rcases hc with rfl|rfl
    · exact v.Co hs
    · unfold AE
      cases hr:r.pS with
      |true=>have:=h5 hr;rw[this] at hs;cases hs
      | false=>
        rw[dp gB,←h4]
        exact List.take_prefix _ _
theorem Zx (v:Inv ep s) {r:xI} (h:s.R s.h=some r):s.C<+:(s.J s.h).take (AE s r)∨(s.J s.h).take (AE s r)<+:s.C:=by
  rcases Nat.le_total s.C.length (AE s r) with hl|hl
  · exact .inl (VZ v.Ch hl)
  · refine .inr ?_
    obtain ⟨t,e⟩:=v.Ch
    rw[←e,dQ hl]
    exact List.take_prefix _ _
end
end Go.SL.Top
namespace Go.SL
open Top
structure Gs where
  a:Ar
  c:Cw
  J:Bool→List En
  seen:Bool→BitVec 32
  R:Bool→Option Rl
def lg (r:Rl):xI:=⟨r.ep.toNat,r.iC.toNat,decide (r.mode=2),r.iU.toNat⟩
def xT (e:En):Nat:=e.ep.toNat
def ws (g:Gs) (C:List En):Ws En:=⟨g.J,fun k=>(g.R k).map lg,fun k=>(g.seen k).toNat,g.a.now.toNat,g.a.l.ep.toNat,decide (g.a.l.oA=2),g.a.l.iC.toNat,decide (g.a.l.mode=2),C⟩
def kI (k:Bool):Int:=if k then 2 else 1
theorem zK (k:Bool):kI k=1∨kI k=2:=by cases k<;>simp[kI]
theorem N3 (k:Bool):decide (kI k=2)=k:=by cases k<;>rfl
theorem BD {s t:Ws En} (h1:∀k,s.J k=t.J k) (h2:∀k,s.R k=t.R k) (h3:∀k,s.seen k=t.seen k) (h4:s.now=t.now) (h5:s.e=t.e) (h6:s.h=t.h) (h7:s.iC=t.iC) (h8:s.pS=t.pS) (h9:s.C=t.C):s=t:=by
  obtain ⟨a1,a2,a3,a4,a5,a6,a7,a8,a9⟩:=s
  obtain ⟨b1,b2,b3,b4,b5,b6,b7,b8,b9⟩:=t
  simp only at h1 h2 h3 h4 h5 h6 h7 h8 h9
  obtain rfl:=funext h1
  obtain rfl:=funext h2
  obtain rfl:=funext h3
  subst h4 h5 h6 h7 h8 h9
  rfl
theorem inv_eq {s t:Ws En} (v:Inv xT s) (h:s=t):Inv xT t:=h ▸ v
theorem wB {β γ:Type} (f:Bool→β) (k:Bool) (v:β) (F:β→γ) (j:Bool):F (hX f k v j)=hX (fun j=>F (f j)) k (F v) j:=by unfold hX;split<;>rfl
section
variable {ps:List (List ia)} (gN:∀q∈ps,jh q)
def ku (ps:List (List ia)) (l:List En):Ld:=(l7 ps Ld.z l).getD Ld.z
theorem UY {l:List En} {L:Ld} (h:l7 ps Ld.z l=some L):ku ps l=L:=by unfold ku;rw[h];rfl
theorem Eb {l:List En} (h:Folds ps l):l7 ps Ld.z l=some (ku ps l):=by
  obtain ⟨L,h⟩:=h
  rw[UY h];exact h
theorem JT {l:List En} {e:En} (h:Folds ps l) (he:iZ e) (hc:lI ps (ku ps l) e=0):Folds ps (l++[e])∧ku ps (l++[e])=nG ps (ku ps l) e:=by
  have h1:=Folds.snoc ps (Eb h) (Pk he hc)
  exact ⟨⟨_,h1⟩,UY h1⟩
include gN in
theorem ER {l:List En} (h:Folds ps l):xK ps l (ku ps l):=Fq (fun q hq=>(gN q hq).G) (Eb h)
theorem aat {l:List En} {x:En} {L:Ld} (h:l7 ps Ld.z (l++[x])=some L):∃L0,l7 ps Ld.z l=some L0∧nH ps L0 x=some L:=by
  rw[IP] at h
  cases h1:l7 ps Ld.z l with
  |none=>rw[h1] at h;cases h
  | some L0=>
    rw[h1] at h
    have h2:(nH ps L0 x).bind (fun jc=>l7 ps jc [])=some L:=h
    cases h3:nH ps L0 x with
    |none=>rw[h3] at h2;cases h2
    | some L1=>
      rw[h3] at h2
      obtain rfl:L1=L:=eQ h2
      exact ⟨L0,rfl,h3⟩
include gN in
theorem N9 {l:List En} (h:Folds ps l) {x:En} (hx:l.getLast?=some x):(ku ps l).ep=x.ep.toNat:=by
  obtain ⟨l0,rfl⟩:∃l0,l=l0++[x]:=by
    obtain ⟨a,ha⟩:=List.getLast?_eq_some_iff.1 hx
    exact ⟨a,ha⟩
  obtain ⟨L0,h1,h2⟩:=aat (Eb h)
  exact (HJ (fun q hq=>(gN q hq).G) (Fq (fun q hq=>(gN q hq).G) h1).inv h2).2.2.2.1
def FM (l:List En) (L:Ld):Prop:=L.l.length≤l.length∧∀(i:Nat) (hi:i<L.l.length),∃e∈l,e.kind=2∧e.order.toNat=i+1∧e.key=L.l[i].key∧e.data=L.l[i].data
theorem aa9 {l:List En} {L jc:Ld} {e:En} (h:FM l L) (hs:nH ps L e=some jc):FM (l++[e]) jc:=by
  have gT:∀(i:Nat) (hi:i<L.l.length),∃oM∈l++[e],oM.kind=2∧oM.order.toNat=i+1∧oM.key=L.l[i].key∧oM.data=L.l[i].data:=fun i hi=>by
    obtain ⟨oM,h1,h2⟩:=h.2 i hi
    exact ⟨oM,dw _ h1,h2⟩
  have hl:=h.1
  cases WQ hs with
  | new z hz hk ho hn h9=>
    refine ⟨by rw[h9,dr,dr];exact Nat.add_le_add hl (dA _),fun i hi=>?_⟩
    by_cases q:i<L.l.length
    · obtain ⟨oM,h1,h2,h3,h4,h5⟩:=gT i q
      have hg:jc.l[i]=L.l[i]:=by simp only[h9];exact eY q
      rw[hg]
      exact ⟨oM,h1,h2,h3,h4,h5⟩
    · have jV:i=L.l.length:=by rw[h9,dr,dZ] at hi;omega
      subst jV
      have hg:jc.l[L.l.length]=z:=by simp only[h9];simp
      rw[hg,hz]
      exact ⟨e,dq _ (dH.2 rfl),hk,ho,rfl,rfl⟩
  | set x y hx hk hd h9 h2 zj jk=>
    have hlen:jc.l.length=L.l.length:=by rw[h9];unfold setAt;rw[List.length_set]
    refine ⟨by rw[hlen,dr];omega,fun i hi=>?_⟩
    obtain ⟨oM,h1,aaU,h3,h4,h5⟩:=gT i gz
    refine ⟨oM,h1,aaU,h3,?_,?_⟩
    all_goals
      have hg:jc.l[i]=(L.l.set (e.order.toNat-1) y)[i]'(by rw[List.length_set];omega):=by simp only[h9];rfl
      rw[hg,List.getElem_set]
      split
      · rename_i q
        subst q
        have zI:=(qN hx).2.1
        obtain ⟨q1,q2⟩:=dV.1 zI
        first
        |(rw[hk,←q2];exact h4)
        |(rw[hd,←q2];exact h5)
      · first|exact h4|exact h5
  | no h9 h2 h5=>
    refine ⟨by rw[h9,dr];omega,fun i hi=>?_⟩
    have jV:i<L.l.length:=by rw[h9] at hi;exact hi
    have hg:jc.l[i]=L.l[i]:=by simp only[h9]
    rw[hg]
    exact gT i jV
theorem Te:∀(b:List En) {a:List En} {L jc:Ld},FM a L→l7 ps L b=some jc→FM (a++b) jc
  | [],a,L,jc,t,h=>by
    obtain rfl:=eQ h
    rw[eF];exact t
  | e ::b,a,L,jc,t,h=>by
    have lK:(nH ps L e).bind (fun jc=>l7 ps jc b)=some jc:=h
    cases h9:nH ps L e with
    |none=>rw[h9] at lK;cases lK
    | some L1=>
      rw[h9] at lK
      have:=Te b (aa9 t h9) lK
      rwa [dD] at this
theorem U0 {l:List En} (h:Folds ps l):FM l (ku ps l):=by
  have:=Te l (a:=[]) (L:=Ld.z) ⟨dN _,fun i hi=>absurd hi (gl _)⟩ (Eb h)
  simpa using this
end
def Xq (x:ia):Wk:=⟨x.iA,x.n,x.name⟩
structure Ib (ps:List (List ia)) (C:List En) (c:Cw) (ep m:Nat):Prop where
  inv:∃g0 u0 r0,uq g0 u0 r0 c
  ep:c.e.toNat≤ep
  len:c.ks.length≤m
  ask:∀kp∈c.ks,∃e∈C,e.kind=2∧kp.order=e.order∧0≤kp.step∧kp.step<16∧∃x,(jD ps e.data)[kp.step.toNat]?=some x∧kp.asked=r6 (Xq x)
structure FQ (l:List En) (r:Rl):Prop where
  pos:r.ep≠0#32
  last:∃x,l.getLast?=some x∧x.ep=r.ep
  mode:r.mode=1∨r.mode=2
structure iR (ps:List (List ia)) (g:Gs) (C:List En) (m mc:Nat):Prop where
  inv:Inv xT (ws g C)
  ar:HY g.a
  par:g.a.len.toNat=10∧g.a.guard.toNat=3
  xv:g.a.last=g.a.l.oA
  now:g.a.now.toNat≤16*m
  iC:g.a.l.iC.toNat≤g.a.now.toNat+10
  ep:g.a.l.ep.toNat≤m
  fold:∀k,Folds ps (g.J k)
  len:∀k,(g.J k).length≤m
  role:∀k r,g.R k=some r→FQ (g.J k) r
  qk:Ib ps C g.c g.a.l.ep.toNat mc
section
variable {ps:List (List ia)} {g:Gs} {C:List En} {m mc:Nat}
theorem Ib.mono {c:Cw} {ep RZ im:Nat} (h:Ib ps C c ep m) {gP:List En} (h1:∀e∈C,e∈gP) (h2:ep≤RZ) (h3:m≤im):Ib ps gP c RZ im:=
  ⟨h.inv,eJ h.ep h2,eJ h.len h3,fun kp hk=>by
    obtain ⟨e,he,h⟩:=h.ask kp hk
    exact ⟨e,h1 e he,h⟩⟩
theorem iR.le (v:iR ps g C m mc) {im Vj:Nat} (h:m≤im) (h2:mc≤Vj):iR ps g C im Vj:=
  ⟨v.inv,v.ar,v.par,v.xv,eJ v.now (Nat.mul_le_mul_left _ h),v.iC,eJ v.ep h,v.fold,fun k=>eJ (v.len k) h,v.role,v.qk.mono (fun _ h=>h) (dA _) h2⟩
theorem BZ (v:iR ps g C m mc) {k:Bool} (h:lj (g.R k) g.a.now=true):k=(ws g C).h:=by
  refine aeU v.inv ?_
  cases hr:g.R k with
  |none=>rw[hr] at h;cases h
  | some r=>
    rw[hr] at h
    refine ⟨lg r,by show (g.R k).map lg=_;rw[hr];rfl,?_⟩
    exact (by simpa [lj] using h:g.a.now.toNat≤r.iC.toNat)
theorem AN (v:iR ps g C m mc) {k:Bool} {r:Rl} (hr:g.R k=some r) (hk:k=(ws g C).h):r.ep=g.a.l.ep∧r.iC.toNat≤g.a.l.iC.toNat∧r.iU.toNat≤(g.J k).length∧(g.J (!k)).take r.iU.toNat=(g.J k).take r.iU.toNat∧(r.mode=2→g.a.l.mode=2):=by
  subst hk
  have:=v.inv.role (lg r) (by show (g.R _).map lg=_;rw[hr];rfl)
  obtain ⟨h1,h2,h3,h4,h5⟩:=this
  refine ⟨dB h1,h2,h3,h4,fun q=>?_⟩
  have:decide (g.a.l.mode=2)=true:=h5 (by simp[lg,q])
  simpa using this
theorem IS (v:iR ps g C m mc) {k:Bool} {r:Rl} (hr:g.R k=some r) (hk:k≠(ws g C).h):r.ep.toNat<g.a.l.ep.toNat∧r.iC.toNat<g.a.now.toNat:=by
  have ma:k=!(ws g C).h:=by rcases two (k:=(ws g C).h) (j:=k) with e|e;exact absurd e hk;exact e
  exact v.inv.vm (lg r) (by show (g.R _).map lg=_;rw[←ma,hr];rfl)
theorem Sw (v:iR ps g C m mc) (k:Bool):(g.seen k).toNat≤g.a.l.ep.toNat:=by
  rcases two (k:=(ws g C).h) (j:=k) with e|e
  · rw[e];exact Nat.le_of_eq v.inv.ue
  · rw[e];exact v.inv.wq
theorem aaE (v:iR ps g C m mc) (k:Bool):∀x∈g.J k,x.ep.toNat≤(g.seen k).toNat:=fun x hx=>v.inv.low k x hx
theorem Gf (gN:∀q∈ps,jh q) (v:iR ps g C m mc) {k:Bool} {r:Rl} (hr:g.R k=some r):
    (ku ps (g.J k)).last=(g.J k).length∧(ku ps (g.J k)).ep≤r.ep.toNat∧(∀x,(g.J k).getLast?=some x→r.ep=x.ep)∧(ku ps (g.J k)).l.length≤(g.J k).length:=by
  obtain ⟨x,hx,JC⟩:=(v.role k r hr).last
  refine ⟨(ER gN (v.fold k)).last,by rw[N9 gN (v.fold k) hx,JC];exact dA _,fun y hy=>?_,(U0 (v.fold k)).1⟩
  rw[hx] at hy
  rw[←eQ hy,JC]
theorem aaN {l:List En} {x:En} (h:l.getLast?=some x):ke l l.length=x.ep:=by
  unfold ke
  rw[fE] at h
  have hl:=(dV.1 h).1
  rw[dp gz,h];rfl
theorem adV (l:List En):uX xT l=(ke l l.length).toNat:=by
  unfold uX
  cases h:l.getLast? with
  | none=>
    rw[List.getLast?_eq_none_iff] at h
    subst h;rfl
  |some x=>rw[aaN h];rfl
theorem aal (gN:∀q∈ps,jh q) {l:List En} (h:Folds ps l):∀x∈l,xT x≤uX xT l:=fun x hx=>by
  have h1:=(ER gN h).ep x hx
  unfold uX
  cases h2:l.getLast? with
  | none=>
    rw[List.getLast?_eq_none_iff] at h2
    subst h2;exact absurd hx ej
  |some y=>rw[N9 gN h h2] at h1;exact h1
theorem SB (v:iR ps g C m mc) (hm:m≤1000) {n:Nat} (hn:n≤15) {a:Ar} (ha:a={g.a with now:=g.a.now+BitVec.ofInt 64 n}):iR ps {g with a:=a} C (m+1) mc:=by
  subst ha
  have h1:(g.a.now+BitVec.ofInt 64 (n:Int)).toNat=g.a.now.toNat+n:=by
    have:=v.now
    rw[ga,dX];omega
  have sF:=v.now
  have ha:=v.ar
  refine ⟨acU v.inv (n:=(g.a.now+BitVec.ofInt 64 (n:Int)).toNat) (by rw[h1];exact Nat.le_add_right _ _),⟨ha.l,ha.len,ha.guard,?_,ha.ep⟩,v.par,v.xv,?_,?_,?_,v.fold,fun k=>fL (v.len k),v.role,v.qk⟩
  · show (g.a.now+BitVec.ofInt 64 (n:Int)).toNat≤_
    omega
  · show (g.a.now+BitVec.ofInt 64 (n:Int)).toNat≤_
    omega
  · have:=v.iC
    show g.a.l.iC.toNat≤(g.a.now+BitVec.ofInt 64 (n:Int)).toNat+10
    omega
  · exact fL v.ep
theorem aaH (gN:∀q∈ps,jh q) (v:iR ps g C m mc) (k:Bool):iR ps {g with R:=hX g.R k none,seen:=hX g.seen k (ke (g.J k) (g.J k).length)} C m mc:=by
  have w:=acP v.inv k (fun x hx=>aal gN (v.fold k) x hx)
  refine ⟨inv_eq w (BD (fun _=>rfl) (fun j=>?_) (fun j=>?_) rfl rfl rfl rfl rfl rfl),v.ar,v.par,v.xv,v.now,v.iC,v.ep,v.fold,v.len,fun j r hr=>?_,v.qk⟩
  · exact (wB g.R k none (fun r=>r.map lg) j).symm
  · refine Eq.trans ?_ (wB g.seen k (ke (g.J k) (g.J k).length) (fun r=>r.toNat) j).symm
    show hX _ k (uX xT (g.J k)) j=_
    rw[adV];rfl
  · have mX:hX g.R k none j=some r:=hr
    rcases two (k:=k) (j:=j) with e|e
    · rw[e,jJ] at mX;cases mX
    · rw[e,ll] at mX;rw[e];exact v.role _ r mX
theorem aaC (v:iR ps g C m mc) (k:Bool):iR ps {g with R:=hX g.R k none} C m mc:=by
  refine ⟨inv_eq (NW v.inv k) (BD (fun _=>rfl) (fun j=>?_) (fun j=>rfl) rfl rfl rfl rfl rfl rfl),v.ar,v.par,v.xv,v.now,v.iC,v.ep,v.fold,v.len,fun j r hr=>?_,v.qk⟩
  · exact (wB g.R k none (fun r=>r.map lg) j).symm
  · have mX:hX g.R k none j=some r:=hr
    rcases two (k:=k) (j:=j) with e|e
    · rw[e,jJ] at mX;cases mX
    · rw[e,ll] at mX;rw[e];exact v.role _ r mX
theorem SC (v:iR ps g C m mc) {k:Bool} {r iK:Rl} (hr:g.R k=some r) (he:iK.ep=r.ep) (ht:iK.iC=r.iC) (ha:iK.iU=r.iU) (hm:iK.mode=1∨iK.mode=r.mode):iR ps {g with R:=hX g.R k (some iK)} C m mc:=by
  have w:=acS v.inv (k:=k) (r:=lg r) (iK:=lg iK) (by show (g.R k).map lg=_;rw[hr];rfl) (by show iK.ep.toNat=_;rw[he];rfl) (by show iK.iC.toNat=_;rw[ht];rfl) (by show iK.iU.toNat=_;rw[ha];rfl) (fun q=>by
    rcases hm with q2|q2
    · simp[lg,q2] at q
    · simpa [lg,q2] using q)
  refine ⟨inv_eq w (BD (fun _=>rfl) (fun j=>?_) (fun j=>rfl) rfl rfl rfl rfl rfl rfl),v.ar,v.par,v.xv,v.now,v.iC,v.ep,v.fold,v.len,fun j x hx=>?_,v.qk⟩
  · exact (wB g.R k (some iK) (fun r=>r.map lg) j).symm
  · have kN:hX g.R k (some iK) j=some x:=hx
    rcases two (k:=k) (j:=j) with e|e
    · rw[e,jJ] at kN
      obtain rfl:=eQ kN
      have o:=v.role k r hr
      rw[e]
      refine ⟨by rw[he];exact o.pos,by rw[he];exact o.last,?_⟩
      rcases hm with q|q
      · exact .inl q
      · rw[q];exact o.mode
    · rw[e,ll] at kN;rw[e];exact v.role _ x kN
theorem aaz (gN:∀q∈ps,jh q) (v:iR ps g C m mc) {k:Bool} {r:Rl} (hr:g.R k=some r) (hl:lj (g.R k) g.a.now=true) {e:En} (he:iZ e) (kZ:e.ep=r.ep) (hc:lI ps (ku ps (g.J k)) e=0):iR ps {g with J:=hX g.J k (g.J k++[e])} C (m+1) mc:=by
  have hk:=BZ v hl
  obtain ⟨h1,h2,h3,h4,h5⟩:=AN v hr hk
  have hp:=(v.role k r hr).pos
  have w:=acM v.inv (x:=e) (gp fun q=>hp (by rw[h1];exact dB q)) (by show e.ep.toNat=g.a.l.ep.toNat;rw[kZ,h1])
  obtain ⟨f1,f2⟩:=JT (v.fold k) he hc
  refine ⟨inv_eq w (BD (fun j=>?_) (fun j=>rfl) (fun j=>rfl) rfl rfl rfl rfl rfl rfl),v.ar,v.par,v.xv,by have:=v.now;show g.a.now.toNat≤_;omega,v.iC,fL v.ep,fun j=>?_,fun j=>?_,fun j x hx=>?_,v.qk⟩
  · rw[hk];rfl
  · show Folds ps (hX g.J k (g.J k++[e]) j)
    rcases two (k:=k) (j:=j) with q|q
    · rw[q,jJ];exact f1
    · rw[q,ll];exact v.fold _
  · show (hX g.J k (g.J k++[e]) j).length≤_
    rcases two (k:=k) (j:=j) with q|q
    · rw[q,jJ,dr];exact Nat.succ_le_succ (v.len k)
    · rw[q,ll];exact fL (v.len _)
  · show FQ (hX g.J k (g.J k++[e]) j) x
    have o:=v.role j x hx
    rcases two (k:=k) (j:=j) with q|q
    · subst q
      rw[jJ]
      obtain rfl:r=x:=eQ (hr.symm.trans hx)
      exact ⟨o.pos,⟨e,by simp,kZ⟩,o.mode⟩
    · rw[q,ll];rw[q] at o;exact o
theorem aaD (gN:∀q∈ps,jh q) (v:iR ps g C m mc) {k:Bool} {n:Nt} {gX:Ar} (hm:m≤1000) (hz:n.gE=0#32) (h1:¬(n.gE=0#32∧g.a.l.mode=2∧kI k≠g.a.last)) (h2:(oV g.a (kI k) n.gE n.code).2=0)
    (ha:gX={g.a with l:=(oV g.a (kI k) n.gE n.code).1,last:=kI k}):
    gX.l.ep.toNat=g.a.l.ep.toNat+1∧gX.l.ep≠0#32∧gX.l.mode=g.a.l.mode∧(gX.l.iC-g.a.now).toNat≤10000∧g.a.now+(gX.l.iC-g.a.now)=gX.l.iC∧(g.seen k).toNat<gX.l.ep.toNat∧(∀x∈g.J k,x.ep.toNat<gX.l.ep.toNat)∧(∀r,g.R k=some r→r.ep≠gX.l.ep)∧
    ∀ (e:En) (iK:Rl),iZ e→lI ps (ku ps (g.J k)) e=0→e.ep=gX.l.ep→iK.ep=gX.l.ep→iK.iC=gX.l.iC→iK.mode=gX.l.mode→iK.iU=0#64→
      iR ps {g with a:=gX,J:=hX g.J k (g.J k++[e]),seen:=hX g.seen k gX.l.ep,R:=hX g.R k (some iK)} C (m+1) mc:=by
  have ok:=v.ar
  unfold oV at h2 ha
  rw[dx hz] at h2 ha
  unfold Ee at h2 ha
  by_cases hf:xU g.a.l g.a.now g.a.guard
  case neg=>rw[dp hf] at h2;exact absurd h2 gB
  rw[dx hf] at ha
  subst ha
  have CA:(g.a.l.ep+1#32).toNat=g.a.l.ep.toNat+1:=by
    have:=ok.ep
    rw[ga]
    show (g.a.l.ep.toNat+1)%4294967296=_
    omega
  have Uc:=v.now
  have ajr:(g.a.now+g.a.len).toNat=g.a.now.toNat+10:=by
    rw[ga,v.par.1];omega
  have acv:g.a.now+(g.a.now+g.a.len-g.a.now)=g.a.now+g.a.len:=by
    rw[BitVec.add_comm g.a.now (g.a.now+g.a.len-g.a.now),BitVec.sub_add_cancel]
  have abi:(g.a.now+g.a.len-g.a.now).toNat≤10000:=by
    have:g.a.now+g.a.len-g.a.now=g.a.len:=by rw[BitVec.add_comm,BitVec.add_sub_cancel]
    rw[this];exact ok.len.2
  have NO:=Sw v k
  refine ⟨CA,fun q=>?_,rfl,abi,acv,by show _<(g.a.l.ep+1#32).toNat;omega,fun x hx=>?_,fun r hr q=>?_,?_⟩
  · have ua:g.a.l.ep+1#32=0#32:=q
    rw[ua] at CA
    have:(0#32).toNat=0:=rfl
    omega
  · have:=aaE v k x hx
    show _<(g.a.l.ep+1#32).toNat
    omega
  · have ua:r.ep=g.a.l.ep+1#32:=q
    have h9:r.ep.toNat≤g.a.l.ep.toNat:=by
      by_cases e:k=(ws g C).h
      · rw[(AN v hr e).1];exact dA _
      · exact Nat.le_of_lt (IS v hr e).1
    rw[ua] at h9
    omega
  · intro e iK he hc MR Uj rv hrm Jy
    have Tt:e.ep=g.a.l.ep+1#32:=MR
    have NJ:iK.ep=g.a.l.ep+1#32:=Uj
    have acq:iK.iC=g.a.now+g.a.len:=rv
    have Uk:iK.mode=g.a.l.mode:=hrm
    have w:=acO v.inv k (x:=e) (t:=(g.a.now+g.a.len).toNat) (by show e.ep.toNat=g.a.l.ep.toNat+1;rw[Tt,CA]) (by
      rcases ok.l.2 with ⟨q1,q2,_⟩|⟨q1,_⟩
      · exact .inl (by show g.a.l.ep.toNat=0;rw[q2];rfl)
      · rcases hf with q|q
        · omega
        · exact .inr q.1) (fun hs=>by
        have sG:g.a.l.mode=2:=by simpa [ws] using hs
        have hq:kI k=g.a.last:=dW fun q=>h1 ⟨hz,sG,q⟩
        show decide (g.a.l.oA=2)=k
        rw[←v.xv,←hq,N3])
    obtain ⟨f1,f2⟩:=JT (v.fold k) he hc
    have Tv:=v.ep
    refine ⟨inv_eq w (BD (fun j=>rfl) (fun j=>?_) (fun j=>?_) rfl CA.symm (N3 k).symm rfl rfl rfl),⟨⟨ok.l.1,.inr ⟨zK k,by show 0<(g.a.l.ep+1#32).toNat;omega,by show (g.a.now+g.a.len).toNat≤_;omega⟩⟩,ok.len,ok.guard,ok.now,by show (g.a.l.ep+1#32).toNat<_;omega⟩,v.par,rfl,by show g.a.now.toNat≤_;omega,by show (g.a.now+g.a.len).toNat≤g.a.now.toNat+10;omega,by show (g.a.l.ep+1#32).toNat≤_;omega,fun j=>?_,fun j=>?_,fun j x hx=>?_,v.qk.mono (fun _ h=>h) (by show _≤(g.a.l.ep+1#32).toNat;omega) (dA _)⟩
    · refine Eq.trans ?_ (wB g.R k (some iK) (fun r=>r.map lg) j).symm
      show hX _ k (some ⟨g.a.l.ep.toNat+1,(g.a.now+g.a.len).toNat,decide (g.a.l.mode=2),0⟩) j=hX _ k (some (lg iK)) j
      rw[show lg iK=⟨g.a.l.ep.toNat+1,(g.a.now+g.a.len).toNat,decide (g.a.l.mode=2),0⟩ by unfold lg;rw[NJ,CA,acq,Uk,Jy];rfl]
      rfl
    · refine Eq.trans ?_ (wB g.seen k (g.a.l.ep+1#32) (fun r=>r.toNat) j).symm
      show hX _ k (g.a.l.ep.toNat+1) j=hX _ k (g.a.l.ep+1#32).toNat j
      rw[CA];rfl
    · show Folds ps (hX g.J k (g.J k++[e]) j)
      rcases two (k:=k) (j:=j) with q|q
      · rw[q,jJ];exact f1
      · rw[q,ll];exact v.fold _
    · show (hX g.J k (g.J k++[e]) j).length≤_
      rcases two (k:=k) (j:=j) with q|q
      · rw[q,jJ,dr];exact Nat.succ_le_succ (v.len k)
      · rw[q,ll];exact fL (v.len _)
    · have kN:hX g.R k (some iK) j=some x:=hx
      show FQ (hX g.J k (g.J k++[e]) j) x
      rcases two (k:=k) (j:=j) with q|q
      · rw[q,jJ] at kN
        rw[q,jJ]
        obtain rfl:=eQ kN
        refine ⟨fun q9=>?_,⟨e,by simp,Tt.trans NJ.symm⟩,by rw[Uk];exact ok.l.1⟩
        rw[NJ] at q9
        rw[q9] at CA
        have:(0#32).toNat=0:=rfl
        omega
      · rw[q,ll] at kN
        rw[q,ll]
        exact v.role _ x kN
end
end Go.SL
