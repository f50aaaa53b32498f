/-
  Lemmas and walks that TopOne and TopSolo stands on (part 6); no condition.
-/
import Derived.ProofKit
import Derived.OpenShut
import Derived.ShutString
import Derived.ChangeOld
import Derived.Test.YtchdmlkiggdhaaaGreatRows
import Derived.Test.YtchdmlkiggdhaaaGreatTopB5
set_option linter.unusedVariables false
set_option linter.unusedSimpArgs false
set_option maxHeartbeats 4000000
namespace Go.SL
open Top
section
variable {ps:List (List ia)} {g:Gs} {C:List En} {m mc:Nat}
theorem VM {l:Ls} {now:BitVec 64} {iL:Int} {ep:BitVec 32} (h:vh l now iL ep=0):l.oA=iL∧l.ep=ep∧now.toNat≤l.iC.toNat:=by
  unfold vh at h
  by_cases h1:l.oA≠iL∨l.ep≠ep
  · rw[dx h1] at h;exact absurd h gB
  · rw[dp h1] at h
    by_cases h2:l.iC.toNat<now.toNat
    · rw[dx h2] at h;exact absurd h gB
    · exact ⟨dW fun q=>h1 (.inl q),dW fun q=>h1 (.inr q),by omega⟩
theorem aeG {a:Ar} {iL:Int} {ep:BitVec 32} {code:Int} (h0:ep≠0#32) (h2:(oV a iL ep code).2=0):
    a.l.oA=iL∧a.l.ep=ep∧a.now.toNat≤a.l.iC.toNat∧(oV a iL ep code).1=if code=0 then {a.l with iC:=if a.l.iC.toNat≤(a.now+a.len).toNat then a.now+a.len else a.l.iC} else {a.l with mode:=code}:=by
  unfold oV at h2 ⊢
  rw[dp h0] at h2 ⊢
  by_cases hc:code=0
  · rw[dx hc] at h2
    rw[dx hc,dx hc]
    unfold E9 at h2 ⊢
    by_cases ho:vh a.l a.now iL ep=0
    · rw[dx ho]
      obtain ⟨q1,q2,q3⟩:=VM ho
      exact ⟨q1,q2,q3,rfl⟩
    · rw[dp ho] at h2;exact absurd h2 ho
  · rw[dp hc] at h2
    rw[dp hc,dp hc]
    unfold By at h2 ⊢
    by_cases ho:vh a.l a.now iL ep=0
    · rw[dx ho]
      obtain ⟨q1,q2,q3⟩:=VM ho
      exact ⟨q1,q2,q3,rfl⟩
    · rw[dp ho] at h2;exact absurd h2 ho
theorem agZ {a b:BitVec 64}:a+(b-a)=b:=by rw[BitVec.add_comm,BitVec.sub_add_cancel]
theorem aaI (v:iR ps g C m mc) (hm:m≤1000) {k:Bool} {r:Rl} {n:Nt} {gX:Ar} (hr:g.R k=some r) (jk:n.gE=r.ep) (Cy:n.code=0∨n.code=1∨n.code=2) (tM:n.code=1→(g.J k).length≤r.iU.toNat)
    (h2:(oV g.a (kI k) n.gE n.code).2=0) (ha:gX={g.a with l:=(oV g.a (kI k) n.gE n.code).1,last:=kI k}):
    gX.l.ep=r.ep∧(gX.l.mode=1∨gX.l.mode=2)∧(gX.l.iC-g.a.now).toNat≤10000∧(n.code=0→r.mode=2→gX.l.mode=2)∧
    ∀iK:Rl,iK.ep=r.ep→iK.iU=r.iU→iK.iC=mL r.iC gX.l.iC→(iK.mode=1∨iK.mode=2∧gX.l.mode=2)→iR ps {g with a:=gX,R:=hX g.R k (some iK)} C (m+1) mc:=by
  have o:=v.role k r hr
  have ok:=v.ar
  obtain ⟨q1,q2,q3,q4⟩:=aeG (by rw[jk];exact o.pos) h2
  rw[q4] at ha
  clear q4 h2
  have hk:k=(ws g C).h:=by show k=decide (g.a.l.oA=2);rw[q1,N3]
  obtain ⟨p1,p2,p3,p4,p5⟩:=AN v hr hk
  have Uc:=v.now
  have sH:=v.iC
  have hlen:(g.a.now+g.a.len).toNat=g.a.now.toNat+10:=by rw[ga,v.par.1];omega
  have f1:gX.l.ep=g.a.l.ep:=by rw[ha];show (if _ then _ else _:Ls).ep=_;split<;>rfl
  have f2:gX.l.oA=g.a.l.oA:=by rw[ha];show (if _ then _ else _:Ls).oA=_;split<;>rfl
  have f3:g.a.l.iC.toNat≤gX.l.iC.toNat∧gX.l.iC.toNat≤g.a.now.toNat+10:=by
    rw[ha]
    show g.a.l.iC.toNat≤(if _ then _ else _:Ls).iC.toNat∧(if _ then _ else _:Ls).iC.toNat≤_
    split
    · show g.a.l.iC.toNat≤(if _ then _ else _:BitVec 64).toNat∧(if _ then _ else _:BitVec 64).toNat≤_
      split<;>omega
    · exact ⟨dA _,sH⟩
  have f4:gX.l.mode=if n.code=0 then g.a.l.mode else n.code:=by rw[ha];show (if _ then _ else _:Ls).mode=_;split<;>rfl
  have f5:gX.l.mode=1∨gX.l.mode=2:=by
    rw[f4]
    split
    · exact ok.l.1
    · rename_i q;exact Cy.resolve_left q
  have f6:gX.now=g.a.now∧gX.len=g.a.len∧gX.guard=g.a.guard∧gX.last=kI k:=by rw[ha];exact ⟨rfl,rfl,rfl,rfl⟩
  have Es:(gX.l.iC-g.a.now).toNat≤10000:=by rw[BitVec.toNat_sub];omega
  refine ⟨f1.trans p1.symm,f5,Es,fun q q9=>by rw[f4,dx q];exact p5 q9,fun iK e1 e2 e3 e4=>?_⟩
  have Z1:iK.iC.toNat=gX.l.iC.toNat:=by
    rw[e3]
    unfold mL
    rw[dx gz]
  have CU:g.R (ws g C).h=some r:=by rw[←hk];exact hr
  have w:=acQ v.inv (r:=lg r) (iK:=lg iK) (t:=gX.l.iC.toNat) (m:=decide (gX.l.mode=2)) (by show (g.R _).map lg=_;rw[CU];rfl) f3.1 (by show iK.ep.toNat=r.ep.toNat;rw[e1]) (by show iK.iU.toNat=r.iU.toNat;rw[e2]) (Nat.le_of_eq Z1) (fun q=>by
      have ua:iK.mode=2:=by simpa [lg] using q
      rcases e4 with e4|e4
      · rw[e4] at ua;exact absurd ua gB
      · simpa using e4.2) (fun q=>by
      have ua:¬gX.l.mode=2:=by simpa using q
      by_cases hc:n.code=0
      · refine v.inv.Co ?_
        show decide (g.a.l.mode=2)=false
        rw[f4,dx hc] at ua
        simpa using ua
      · rw[f4,dp hc] at ua
        have h9:=tM gz
        have h8:r.iU.toNat=(g.J k).length:=by omega
        rw[h8,dL (dA _)] at p4
        have h7:=v.inv.Ch
        rw[←hk] at h7 ⊢
        have h6:(ws g C).C<+:(g.J (!k)).take (g.J k).length:=by rw[p4];exact h7
        exact h6.trans (List.take_prefix _ _))
  refine ⟨inv_eq w (BD (fun j=>rfl) (fun j=>?_) (fun j=>rfl) (congrArg BitVec.toNat f6.1.symm) (congrArg BitVec.toNat f1.symm) (by show decide (g.a.l.oA=2)=decide (gX.l.oA=2);rw[f2]) rfl rfl rfl),⟨⟨f5,?_⟩,by show 1≤gX.len.toNat∧_;rw[f6.2.1];exact ok.len,by show gX.guard.toNat≤_;rw[f6.2.2.1];exact ok.guard,by show gX.now.toNat≤_;rw[f6.1];exact ok.now,by show gX.l.ep.toNat<_;rw[f1];exact ok.ep⟩,by show gX.len.toNat=10∧gX.guard.toNat=3;rw[f6.2.1,f6.2.2.1];exact v.par,by show gX.last=gX.l.oA;rw[f6.2.2.2,f2,q1],by show gX.now.toNat≤_;rw[f6.1];omega,by show gX.l.iC.toNat≤gX.now.toNat+10;rw[f6.1];exact f3.2,by show gX.l.ep.toNat≤_;rw[f1];exact fL v.ep,v.fold,fun j=>fL (v.len j),fun j x hx=>?_,v.qk.mono (fun _ h=>h) (by show _≤gX.l.ep.toNat;rw[f1];exact dA _) (dA _)⟩
  · refine Eq.trans ?_ (wB g.R k (some iK) (fun r=>r.map lg) j).symm
    rw[hk];rfl
  · refine .inr ⟨?_,?_,?_⟩
    · show gX.l.oA=1∨gX.l.oA=2
      rw[f2,q1];exact zK k
    · show 0<gX.l.ep.toNat
      rw[f1,←p1]
      exact gp fun q=>o.pos (dB q)
    · show gX.l.iC.toNat≤_
      omega
  · have kN:hX g.R k (some iK) j=some x:=hx
    rcases two (k:=k) (j:=j) with q|q
    · rw[q,jJ] at kN
      rw[q]
      obtain rfl:=eQ kN
      exact ⟨by rw[e1];exact o.pos,by rw[e1];exact o.last,e4.imp id (·.1)⟩
    · rw[q,ll] at kN
      rw[q]
      exact v.role _ x kN
theorem II {l:List En} {j:Nat} (h:j<l.length):ke l (j+1)=l[j].ep:=by
  unfold ke
  rw[dp (Nat.succ_ne_zero _),Nat.add_sub_cancel,dK h];rfl
theorem aaF (v:iR ps g C m mc) (k:Bool):Match xT (g.J k) (g.J (!k)):=by
  rcases two (k:=(ws g C).h) (j:=k) with e|e
  · rw[e];exact v.inv.uZ
  · rw[e,Bool.not_not];exact v.inv.uZ.symm
theorem Wz (v:iR ps g C m mc) (k:Bool) {i:Nat} (hi:i<(g.J k).length) (h1:i≤(g.J (!k)).length) (h2:i≠0→ke (g.J (!k)) i=ke (g.J k) i):(g.J (!k)).take i=(g.J k).take i:=by
  cases i with
  |zero=>rfl
  | succ j=>
    have hj:j<(g.J (!k)).length:=h1
    have pO:j<(g.J k).length:=by omega
    have e:=h2 (Nat.succ_ne_zero _)
    rw[II hj,II pO] at e
    exact (aaF v k j _ _ (dK pO) (dK hj) (by show (g.J k)[j].ep.toNat=(g.J (!k))[j].ep.toNat;rw[e])).symm
theorem Wy (v:iR ps g C m mc) (k:Bool) (ja:mn (g.J k)) {i:Nat} (hi:i<(g.J k).length) (h1:i≤(g.J (!k)).length) (h2:i≠0→ke (g.J (!k)) i=ke (g.J k) i):(g.J (!k)).take i++[(g.J k)[i]]=(g.J k).take (i+1):=by
  rw[Wz v k hi h1 h2,dJ hi]
theorem af6 (v:iR ps g C m mc) {k:Bool} {r:Rl} (hr:g.R k=some r) (gQ:r.ep.toNat<(g.seen (!k)).toNat):
    iR ps {g with R:=hX g.R k none} C m mc∧∀iK,g.R (!k)=some iK→(g.seen (!k)).toNat≤iK.ep.toNat∧iK.ep≠r.ep:=by
  have hs:=Sw v (!k)
  have hk:k≠(ws g C).h:=fun q=>by
    have:=(AN v hr q).1
    rw[this] at gQ;omega
  refine ⟨aaC v k,fun iK mX=>?_⟩
  have ma:(!k)=(ws g C).h:=by
    rcases two (k:=(ws g C).h) (j:=k) with e|e
    · exact absurd e hk
    · rw[e,Bool.not_not]
  have h1:=(AN v mX ma).1
  refine ⟨by rw[h1];exact hs,fun q=>?_⟩
  have:=(IS v hr hk).1
  rw[←h1,q] at this
  omega
theorem O6 (v:iR ps g C m mc) {k:Bool} {r:Rl} (hr:g.R k=some r) (nC:¬r.ep.toNat<(g.seen (!k)).toNat):
    k=(ws g C).h∧r.ep=g.a.l.ep∧0<r.ep.toNat∧∀iK,g.R (!k)=some iK→iK.ep.toNat<r.ep.toNat∧iK.ep≠r.ep:=by
  have o:=(v.role k r hr).pos
  have hk:k=(ws g C).h:=dW fun q=>by
    have h1:=(IS v hr q).1
    have ma:(!k)=(ws g C).h:=by
      rcases two (k:=(ws g C).h) (j:=k) with e|e
      · exact absurd e q
      · rw[e,Bool.not_not]
    have h2:(g.seen (!k)).toNat=g.a.l.ep.toNat:=by rw[ma];exact v.inv.ue
    omega
  have h1:=(AN v hr hk).1
  refine ⟨hk,h1,gp fun q=>o (dB q),fun iK mX=>?_⟩
  have h2:(!k)≠(ws g C).h:=fun q=>by rw[←hk] at q;cases k<;>cases q
  have h3:=(IS v mX h2).1
  rw[h1]
  exact ⟨h3,fun q=>by rw[q] at h3;omega⟩
def FN (r iK:Rl):Prop:=iK.ep=r.ep∧iK.iC=r.iC∧iK.mode=r.mode
theorem Sv (v:iR ps g C m mc) {k:Bool} {r iK:Rl} (hr:g.R k=some r) (nC:¬r.ep.toNat<(g.seen (!k)).toNat) (hn:FN r iK) (ha:iK.iU=r.iU):
    iR ps {g with seen:=hX g.seen (!k) r.ep,R:=hX (hX g.R (!k) none) k (some iK)} C m mc:=by
  obtain ⟨hk,h1,_⟩:=O6 v hr nC
  have CU:g.R (ws g C).h=some r:=by rw[←hk];exact hr
  have w:=acR v.inv (r:=lg r) (by show (g.R _).map lg=_;rw[CU];rfl)
  have w1:iR ps {g with seen:=hX g.seen (!k) r.ep,R:=hX g.R (!k) none} C m mc:=by
    refine ⟨inv_eq w (BD (fun j=>rfl) (fun j=>?_) (fun j=>?_) rfl rfl rfl rfl rfl rfl),v.ar,v.par,v.xv,v.now,v.iC,v.ep,v.fold,v.len,fun j x hx=>?_,v.qk⟩
    · refine Eq.trans ?_ (wB g.R (!k) none (fun r=>r.map lg) j).symm
      rw[hk];rfl
    · refine Eq.trans ?_ (wB g.seen (!k) r.ep (fun r=>r.toNat) j).symm
      rw[hk,h1];rfl
    · have kN:hX g.R (!k) none j=some x:=hx
      rcases two (k:=k) (j:=j) with q|q
      · rw[q,uh] at kN;rw[q];exact v.role _ x kN
      · rw[q,jJ] at kN;cases kN
  exact SC w1 (k:=k) (r:=r) (iK:=iK) (by show hX g.R (!k) none k=_;rw[uh];exact hr) hn.1 hn.2.1 ha (.inr hn.2.2)
theorem Sy (v:iR ps g C m mc) {k:Bool} {r iK:Rl} (hr:g.R k=some r) (nC:¬r.ep.toNat<(g.seen (!k)).toNat) {i:Nat} (hi:i<(g.J k).length) (hb:i≤(g.J (!k)).length) (zA:(g.J (!k)).take i=(g.J k).take i)
    (hn:FN r iK) (ha:iK.iU.toNat=r.iU.toNat∨iK.iU.toNat=i+1) {yI:List En} {same:Bool} (hJ:yI=taken (g.J k) (g.J (!k)) i same) (NM:same=true→(g.J (!k))[i]?=(g.J k)[i]?) (Es:same=false→(g.J (!k))[i]?≠(g.J k)[i]?):
    iR ps {g with J:=hX g.J (!k) yI,seen:=hX g.seen (!k) r.ep,R:=hX (hX g.R (!k) none) k (some iK)} C m mc:=by
  obtain ⟨hk,h1,_⟩:=O6 v hr nC
  have CU:g.R (ws g C).h=some r:=by rw[←hk];exact hr
  have w:=acT v.inv (r:=lg r) (by show (g.R _).map lg=_;rw[CU];rfl) (i:=i) (a:=iK.iU.toNat) (by rw[←hk];exact hi) (by rw[←hk];exact zA) (same:=same) (by rw[←hk];exact NM) (by rw[←hk];exact Es) ha (by rw[←hk];exact hb)
  have hl:yI.length≤m:=by
    rw[hJ]
    cases same with
    |true=>exact v.len _
    |false=>show ((g.J k).take (i+1)).length≤m;rw[dE];have:=v.len k;omega
  have hf:Folds ps yI:=by
    rw[hJ]
    cases same with
    |true=>exact v.fold _
    |false=>exact (v.fold k).take ps _
  refine ⟨inv_eq w (BD (fun j=>?_) (fun j=>?_) (fun j=>?_) rfl rfl rfl rfl rfl rfl),v.ar,v.par,v.xv,v.now,v.iC,v.ep,fun j=>?_,fun j=>?_,fun j x hx=>?_,v.qk⟩
  · show hX _ (!(ws g C).h) (taken ((ws g C).J (ws g C).h) ((ws g C).J (!(ws g C).h)) i same) j=hX g.J (!k) yI j
    rw[←hk,hJ];rfl
  · refine Eq.trans ?_ (wB (hX g.R (!k) none) k (some iK) (fun r=>r.map lg) j).symm
    have e9:(fun j=>(hX g.R (!k) none j).map lg)=hX (fun j=>(g.R j).map lg) (!k) none:=funext fun j=>wB g.R (!k) none (fun r=>r.map lg) j
    rw[e9]
    show hX (hX (ws g C).R (!(ws g C).h) none) (ws g C).h (some {lg r with iU:=iK.iU.toNat}) j=_
    rw[←hk,show ({lg r with iU:=iK.iU.toNat}:xI)=lg iK by unfold lg;rw[hn.1,hn.2.1,hn.2.2]]
    rfl
  · refine Eq.trans ?_ (wB g.seen (!k) r.ep (fun r=>r.toNat) j).symm
    rw[hk,h1];rfl
  · show Folds ps (hX g.J (!k) yI j)
    rcases two (k:=k) (j:=j) with q|q
    · rw[q,uh];exact v.fold _
    · rw[q,jJ];exact hf
  · show (hX g.J (!k) yI j).length≤m
    rcases two (k:=k) (j:=j) with q|q
    · rw[q,uh];exact v.len _
    · rw[q,jJ];exact hl
  · have kN:hX (hX g.R (!k) none) k (some iK) j=some x:=hx
    show FQ (hX g.J (!k) yI j) x
    rcases two (k:=k) (j:=j) with q|q
    · rw[q,jJ] at kN
      rw[q,uh]
      obtain rfl:=eQ kN
      have o:=v.role k r hr
      exact ⟨by rw[hn.1];exact o.pos,by rw[hn.1];exact o.last,by rw[hn.2.2];exact o.mode⟩
    · rw[q,ll,jJ] at kN;cases kN
theorem aaJ (v:iR ps g C m mc) (hm:m≤120) {k:Bool} {r:Rl} (hr:g.R k=some r) (nC:¬r.ep.toNat<(g.seen (!k)).toNat) (h1:mn (g.J k)) (h2:mn (g.J (!k))) {i:Nat} (hi:i<(g.J k).length) {e:En} (he:e=(g.J k)[i]) {gT:BitVec 32} (ho:gT=ke (g.J k) i):
    (∃x:BitVec 64,x.toNat≤1000∧mf (g.J (!k)) (g.seen (!k)) r.ep gT i e=(g.J (!k),r.ep,uz r.ep x)∧∀iK,FN r iK→iK.iU=r.iU→iR ps {g with seen:=hX g.seen (!k) r.ep,R:=hX (hX g.R (!k) none) k (some iK)} C m mc)∨
    (i<(g.J (!k)).length∧mf (g.J (!k)) (g.seen (!k)) r.ep gT i e=(g.J (!k),r.ep,mq r.ep e.gF)∧∀iK,FN r iK→(iK.iU.toNat=r.iU.toNat∨iK.iU.toNat=i+1)→iR ps {g with seen:=hX g.seen (!k) r.ep,R:=hX (hX g.R (!k) none) k (some iK)} C m mc)∨
    (i≤(g.J (!k)).length∧mf (g.J (!k)) (g.seen (!k)) r.ep gT i e=((g.J (!k)).take i++[e],r.ep,mq r.ep e.gF)∧(∀h:i<(g.J (!k)).length,iB e≠iB (g.J (!k))[i])∧mn ((g.J (!k)).take i++[e])∧
      ∀iK,FN r iK→(iK.iU.toNat=r.iU.toNat∨iK.iU.toNat=i+1)→iR ps {g with J:=hX g.J (!k) ((g.J (!k)).take i++[e]),seen:=hX g.seen (!k) r.ep,R:=hX (hX g.R (!k) none) k (some iK)} C m mc):=by
  subst he ho
  have ox:=v.len (!k)
  unfold mf
  rw[dp nC]
  by_cases c1:(g.J (!k)).length<i
  · rw[dx c1]
    refine .inl ⟨_,?_,rfl,fun iK q1 q2=>Sv v hr nC q1 q2⟩
    rw[nO gz];omega
  rw[dp c1]
  by_cases c2:i≠0∧ke (g.J (!k)) i≠ke (g.J k) i
  · rw[dx c2]
    refine .inl ⟨_,?_,rfl,fun iK q1 q2=>Sv v hr nC q1 q2⟩
    have:=Lh (g.J (!k)) (ke (g.J k) i) (i-1)
    rw[fg]
    have:=v.len k
    omega
  rw[dp c2]
  have hb:i≤(g.J (!k)).length:=by omega
  have h3:i≠0→ke (g.J (!k)) i=ke (g.J k) i:=fun q=>dW fun q2=>c2 ⟨q,q2⟩
  have zA:=Wz v k hi hb h3
  have AX:=Wy v k h1 hi hb h3
  unfold xx
  by_cases c3:i<(g.J (!k)).length∧((g.J (!k))[i]?.map iB)=some (iB (g.J k)[i])
  · rw[dx c3]
    refine .inr (.inl ⟨c3.1,rfl,fun iK q1 q2=>?_⟩)
    have hs:(g.J (!k))[i]?=(g.J k)[i]?:=by
      have h9:=c3.2
      rw[dK c3.1,Option.map_some,ew] at h9
      rw[dK c3.1,dK hi]
      rw[Z7 (h2.mG.ok _ (dG c3.1)) (h1.mG.ok _ (dG hi)) h9]
    have:=Sy v hr nC hi hb zA q1 q2 (yI:=g.J (!k)) (same:=true) rfl (fun _=>hs) (fun q=>by cases q)
    have e9:hX g.J (!k) (g.J (!k))=g.J:=funext fun j=>by
      rcases two (k:=!k) (j:=j) with q|q
      · rw[q,jJ]
      · rw[q,ll]
    rw[e9] at this
    exact this
  · rw[dp c3]
    have hd:∀h:i<(g.J (!k)).length,iB (g.J k)[i]≠iB (g.J (!k))[i]:=fun h q=>c3 ⟨h,by rw[dK h,Option.map_some,q]⟩
    refine .inr (.inr ⟨hb,rfl,hd,by rw[AX];exact h1.take _,fun iK q1 q2=>?_⟩)
    refine Sy v hr nC hi hb zA q1 q2 (same:=false) AX (fun q=>by cases q) (fun _ q=>?_)
    rw[dK hi] at q
    obtain ⟨q3,q4⟩:=dV.1 q
    exact hd q3 (by rw[q4])
theorem Zw {r:Rl} {l:List En} (hl:l.length≤1000) (hm:r.mode=1∨r.mode=2):(ng (some r) l).toNat=if r.mode=2 then l.length else min l.length r.iU.toNat:=by
  show (yS r.mode (js l) r.iU).toNat=_
  unfold yS
  by_cases h:r.mode=2
  · rw[dx h,dx h,nO hl]
  · rw[dp h,dp h,dx gz]
    unfold n4
    rw[nO hl]
    split
    · rw[nO hl];omega
    · omega
theorem aaA (v:iR ps g C m mc) (hm:m≤1000) {k:Bool} {r:Rl} (hr:g.R k=some r) (hl:lj (g.R k) g.a.now=true):(g.J k).take (ng (g.R k) (g.J k)).toNat=(g.J k).take (AE (ws g C) (lg r)):=by
  have hk:=BZ v hl
  obtain ⟨h1,h2,h3,h4,h5⟩:=AN v hr hk
  have o:=v.role k r hr
  rw[hr,Zw (by have:=v.len k;omega) o.mode]
  unfold AE
  by_cases h:r.mode=2
  · rw[dx h,dx (by simp[lg,h]),←hk];rfl
  · rw[dp h,dp (by simp[lg,h])]
    show _=(g.J k).take r.iU.toNat
    rw[Nat.min_eq_right h3]
theorem ZF {gP:List En} (v:iR ps g C m mc) (h:C<+:gP) (w:Inv xT {ws g C with C:=gP}):iR ps g gP m mc:=
  ⟨inv_eq w rfl,v.ar,v.par,v.xv,v.now,v.iC,v.ep,v.fold,v.len,v.role,v.qk.mono (fun e he=>h.subset he) (dA _) (dA _)⟩
theorem Sz (v:iR ps g C m mc) (hm:m≤1000) {k:Bool} (hl:lj (g.R k) g.a.now=true):∃gP,iR ps g gP m mc∧C<+:gP∧gP<+:g.J k∧(g.J k).take (ng (g.R k) (g.J k)).toNat<+:gP:=by
  cases hr:g.R k with
  |none=>rw[hr] at hl;cases hl
  | some r=>
    have hk:=BZ v hl
    have hg:=aaA v hm hr hl
    rw[hr] at hg
    have CU:g.R (ws g C).h=some r:=by rw[←hk];exact hr
    have Ul:(ws g C).R (ws g C).h=some (lg r):=by show (g.R _).map lg=_;rw[CU];rfl
    have hJ:(ws g C).J (ws g C).h=g.J k:=by rw[←hk];rfl
    have T6:=Zx v.inv Ul
    have AS:=v.inv.Ch
    rw[hJ] at T6 AS
    rcases T6 with h|h
    · have w:=acN v.inv Ul (gP:=(g.J k).take (AE (ws g C) (lg r))) (.inr (by rw[hJ]))
      exact ⟨_,ZF v h w,h,List.take_prefix _ _,by rw[hg];exact fB _⟩
    · exact ⟨C,v,fB _,AS,by rw[hg];exact h⟩
theorem ae9 (gN:∀q∈ps,jh q) {d:List (BitVec 8)} {j:Nat} {x:ia} (h:(jD ps d)[j]?=some x):j<16:=by
  have h1:=(dV.1 h).1
  have h2:jD ps d≠[]:=fun q=>by rw[q] at h1;exact absurd h1 (gl _)
  have:=(gN _ (tp h2)).len
  omega
theorem aaB (gN:∀q∈ps,jh q) (v:iR ps g C m mc) (hm:m≤120) (qt:mc<200) {k:Bool} {r:Rl} (hr:g.R k=some r) (hl:lj (g.R k) g.a.now=true) (s6:(g.J k).length≤(ng (g.R k) (g.J k)).toNat) {i:Nat} (hi:i<(ku ps (g.J k)).l.length) {x:ia}
    (jB:0≤(ku ps (g.J k)).l[i].sg.step) (hx:(jD ps (ku ps (g.J k)).l[i].data)[(ku ps (g.J k)).l[i].sg.step.toNat]?=some x) {n:Nt} (TZ:n.kind=7) (hb:mS n=false) (jk:n.gE=r.ep) (jf:n.order.toNat=i+1) (yk:n.step=(ku ps (g.J k)).l[i].sg.step) (nu:n.data=r6 (Xq x)):
    ∃code iq,oY g.c n=qD n code iq∧(code=1∨code=2)∧iq.length≤255∧iR ps {g with c:=oH g.c n} (g.J k) m (mc+1)∧C<+:g.J k:=by
  have hk:=BZ v hl
  obtain ⟨p1,p2,p3,p4,p5⟩:=AN v hr hk
  have o:=v.role k r hr
  obtain ⟨gP,iJ,c1,c2,c3⟩:=Sz v gz hl
  rw[dL s6] at c3
  obtain rfl:gP=g.J k:=c2.eq_of_length (Nat.le_antisymm c2.length_le c3.length_le)
  obtain ⟨e,he,k2,eo,ek,ed⟩:=(U0 (v.fold k)).2 i hi
  obtain ⟨g0,u0,r0,zh⟩:=iJ.qk.inv
  have mr:=ae9 gN hx
  have Tu:n.order=e.order:=dB (by rw[jf,eo])
  have abf:=ZG (s:=g.c) (n:=n) zh.ck (fun q=>by
      rcases q with q|q|q|q|q
      · exact q zh.ck
      · exact q TZ
      · rw[hb] at q;cases q
      · rw[jk] at q;exact o.pos q
      · rw[q] at jf;cases jf) (by rw[jk,p1];have:=v.qk.ep;omega) (by have:=v.qk.len;omega) (fun kp GS=>by
      obtain ⟨kM,kD⟩:=IT GS
      obtain ⟨e2,he2,q2,q3,q4,q5,x2,q6,q7⟩:=iJ.qk.ask kp kM
      obtain ⟨n1,n2,n3⟩:=aeN (o:=kp.order) (s:=kp.step) (u:=kp.iy) (oe:=n.order) (jj:=n.step) (jn:=n.iy) q4 q5 (by rw[yk];exact jB) (by rw[yk];omega) kD
      have ach:=OG (fun q hq=>(gN q hq).G) (v.fold k) he2 he q2 k2 (.inl (by rw[←q3,n1,Tu]))
      rw[n2,yk,ach.2.2,ed,hx] at q6
      rw[q7,nu,eQ q6])
  obtain ⟨code,iq,d1,d2,d3,d4,d5,d6⟩:=abf
  refine ⟨code,iq,d1,d2,d3,⟨iJ.inv,iJ.ar,iJ.par,iJ.xv,iJ.now,iJ.iC,iJ.ep,iJ.fold,iJ.len,iJ.role,⟨⟨g0,u0,r0,aga zh n⟩,by rw[d4,jk,p1];exact dA _,eJ d5 (Nat.succ_le_succ v.qk.len),fun kp GS=>?_⟩⟩,c1⟩
  rcases d6 kp GS with q|q
  · exact iJ.qk.ask kp q
  · subst q
    refine ⟨e,he,k2,Tu,by show 0≤n.step;rw[yk];exact jB,by show n.step<16;rw[yk];omega,x,?_,nu⟩
    show (jD ps e.data)[n.step.toNat]?=some x
    rw[ed,yk];exact hx
structure lU (C:List En) (told ends:List jt) (n:Nat):Prop where
  t1:told.Nodup
  t2:∀a∈told,a.code=0∧∃e∈C,e.kind=2∧a.order=e.order∧a.key=e.key∧a.data=e.data
  e1:ends.Nodup
  e2:∀a∈ends,a.key=[]∧a.data=[]∧∃e∈C,e.kind=5∧a.order=e.order∧a.code=e.code
  tl:told.length≤n
  el:ends.length≤n
theorem VG {l:List jt} {a:jt} (h:l.Nodup):(oW l a).Nodup:=by
  unfold oW
  split
  · exact h
  · rename_i q
    exact List.nodup_append.2 ⟨h,List.pairwise_singleton _ _,fun x hx y hy e=>q (by rw[←dH.1 hy,←e];exact hx)⟩
theorem VF {l:List jt} {a b:jt} (h:b∈oW l a):b∈l∨b=a:=by
  unfold oW at h
  split at h
  · exact .inl h
  · rcases dT.1 h with h|h
    · exact .inl h
    · exact .inr (dH.1 h)
theorem VE (l:List jt) (a:jt):(oW l a).length≤l.length+1:=by
  unfold oW
  split
  · exact eh _
  · rw[dr];exact dA _
theorem lU.mono {told ends:List jt} {n ob:Nat} (h:lU C told ends n) {gP:List En} (hc:C<+:gP) (hn:n≤ob):lU gP told ends ob:=
  ⟨h.t1,fun a ha=>by obtain ⟨h1,e,h2,h3⟩:=h.t2 a ha;exact ⟨h1,e,hc.subset h2,h3⟩,h.e1,fun a ha=>by obtain ⟨h1,h2,e,h3,h4⟩:=h.e2 a ha;exact ⟨h1,h2,e,hc.subset h3,h4⟩,eJ h.tl hn,eJ h.el hn⟩
theorem lU.told {told ends:List jt} {n:Nat} (h:lU C told ends n) {e:En} (he:e∈C) (k2:e.kind=2) {a:jt} (ha:a=⟨e.order,e.key,e.data,0⟩):lU C (oW told a) ends (n+1):=
  ⟨VG h.t1,fun b hb=>by
    rcases VF hb with q|q
    · exact h.t2 b q
    · subst q ha
      exact ⟨rfl,e,he,k2,rfl,rfl,rfl⟩,h.e1,h.e2,eJ (VE _ _) (Nat.succ_le_succ h.tl),fL h.el⟩
theorem lU.ends {told ends:List jt} {n:Nat} (h:lU C told ends n) {e:En} (he:e∈C) (k5:e.kind=5) {a:jt} (ha:a=⟨e.order,[],[],e.code⟩):lU C told (oW ends a) (n+1):=
  ⟨h.t1,h.t2,VG h.e1,fun b hb=>by
    rcases VF hb with q|q
    · exact h.e2 b q
    · subst q ha
      exact ⟨rfl,rfl,e,he,k5,rfl,rfl⟩,fL h.tl,eJ (VE _ _) (Nat.succ_le_succ h.el)⟩
theorem KA (gN:∀q∈ps,jh q) (v:iR ps g C m mc) {told ends:List jt} {n:Nat} (h:lU C told ends n) {i j:Nat} (hi:i<told.length) (hj:j<i):told[i].order≠(told[j]'gz).order∧told[i].key≠(told[j]'gz).key:=by
  obtain ⟨a1,a,a2,a3,a4,a5,a6⟩:=h.t2 _ (dG hi)
  obtain ⟨b1,b,b2,b3,b4,b5,b6⟩:=h.t2 _ (dG (show j<told.length by omega))
  have AS:C<+:g.J (ws g C).h:=v.inv.Ch
  have key:¬(a.order=b.order∨a.key=b.key):=fun q=>by
    obtain ⟨q1,q2,q3⟩:=OG (fun q hq=>(gN q hq).G) (v.fold _) (AS.subset a2) (AS.subset b2) a3 b3 q
    have jk:told[j]'gz≠told[i]:=(fN.1 h.t1) j i gz hi hj
    apply jk
    have e9:∀x y:jt,x.order=y.order→x.key=y.key→x.data=y.data→x.code=y.code→x=y:=fun x y h1 h2 h3 h4=>by cases x;cases y;simp_all
    exact e9 _ _ (by rw[a4,b4,q1]) (by rw[a5,b5,q2]) (by rw[a6,b6,q3]) (by rw[a1,b1])
  exact ⟨fun q=>key (.inl (by rw[←a4,←b4,q])),fun q=>key (.inr (by rw[←a5,←b5,q]))⟩
theorem RX (gN:∀q∈ps,jh q) (v:iR ps g C m mc) {told ends:List jt} {n:Nat} (h:lU C told ends n) {i j:Nat} (hi:i<ends.length) (hj:j<i):ends[i].order≠(ends[j]'gz).order:=by
  obtain ⟨a1,a2,a,a3,a4,a5,a6⟩:=h.e2 _ (dG hi)
  obtain ⟨b1,b2,b,b3,b4,b5,b6⟩:=h.e2 _ (dG (show j<ends.length by omega))
  have AS:C<+:g.J (ws g C).h:=v.inv.Ch
  intro q
  have q1:=aaj (fun q hq=>(gN q hq).G) (v.fold _) (AS.subset a3) (AS.subset b3) a4 b4 (by rw[←a5,←b5,q])
  have jk:ends[j]'gz≠ends[i]:=(fN.1 h.e1) j i gz hi hj
  apply jk
  have e9:∀x y:jt,x.order=y.order→x.key=y.key→x.data=y.data→x.code=y.code→x=y:=fun x y h1 h2 h3 h4=>by cases x;cases y;simp_all
  exact e9 _ _ q.symm (by rw[a1,b1]) (by rw[a2,b2]) (by rw[a6,b6,q1])
theorem aaK (v:iR ps g C m mc) (h:g.a.l.mode=2):g.a.l.oA=kI (ws g C).h∧lj (g.R (!(ws g C).h)) g.a.now=false:=by
  refine ⟨?_,?_⟩
  · have h0:g.a.l.ep.toNat≠0:=fun q=>by
      have:=(v.inv.zero q).2.2.2
      have h9:decide (g.a.l.mode=2)=false:=this
      simp[h] at h9
    rcases v.ar.l.2 with ⟨_,q,_⟩|⟨q,_⟩
    · rw[q] at h0;exact absurd rfl h0
    · show g.a.l.oA=kI (decide (g.a.l.oA=2))
      rcases q with q|q<;>rw[q]<;>rfl
  · cases hl:lj (g.R (!(ws g C).h)) g.a.now with
    |false=>rfl
    | true=>
      have:=BZ v hl
      cases hh:(ws g C).h<;>rw[hh] at this<;>cases this
theorem aaL (v:iR ps g C m mc):¬(lj (g.R false) g.a.now=true∧lj (g.R true) g.a.now=true):=fun ⟨h1,h2⟩=>by
  have:=(BZ v h1).trans (BZ v h2).symm
  cases this
theorem LN (v:iR ps g C m mc):∀e∈C,e∈g.J (ws g C).h:=fun e he=>v.inv.Ch.subset he
theorem aaG {a:Ar} {c:Cw} (ha:a=Ar.new 10#64 3#64) {g0:List Gd} {u0:List Au} {r0:List Int} (hc:uq g0 u0 r0 c) (hk:c.ks=[]) (he:c.e=0#32):iR ps ⟨a,c,fun _=>[],fun _=>0#32,fun _=>none⟩ [] 0 0:=by
  subst ha
  have ar:HY (Ar.new 10#64 3#64):=⟨⟨.inl rfl,.inl ⟨rfl,rfl,rfl⟩⟩,by show 1≤(10#64).toNat∧(10#64).toNat≤10000;decide,by show (3#64).toNat≤10000;decide,by show (0#64).toNat≤_;decide,by show (0#32).toNat<_;decide⟩
  have iv:Inv xT (ws ⟨Ar.new 10#64 3#64,c,fun _=>[],fun _=>0#32,fun _=>none⟩ []):=
    ⟨fun _ x hx=>absurd hx ej,fun _=>⟨fun _=>rfl,fun _=>rfl,rfl,rfl⟩,fun h=>absurd h (Nat.lt_irrefl 0),fun i x y h=>(by cases h),fun i x h=>(by cases h),rfl,dA _,fun r h=>(by cases h),fun r h=>(by cases h),fB _,fun _=>fB _⟩
  refine ⟨iv,ar,⟨rfl,rfl⟩,rfl,dA _,by show (0#64).toNat≤(0#64).toNat+10;decide,dA _,fun _=>Folds.nil ps,fun _=>dA _,fun _ r h=>(by cases h),⟨⟨g0,u0,r0,hc⟩,?_,?_,fun kp h=>?_⟩⟩
  · show c.e.toNat≤_
    rw[he];exact dA _
  · show c.ks.length≤0
    rw[hk];exact dA _
  · have lK:kp∈c.ks:=h
    rw[hk] at lK;exact absurd lK ej
end
end Go.SL
namespace Go.SL
open Go.ChangeShapes Go.WideShapes Go.ChangeAt Go.RowKit
section
def BJ (W:World) (H:List Ck):Prop:=∀c∈H,W.heap[c.b]?=some c.o∧c.ex=false
theorem BJ.nil (W:World):BJ W []:=fun c h=>by cases h
variable {Hh:Type} {enc:TypeId×Value→Hh} {P:Program} {W:World} {base:Nat} {spare:Nat→Bool} {held:Bool} {fuel:Nat} {t:TypeId} {cs:List Value} {x:DataW Hh×List MemPlace}
theorem Rf {f:FuncId} {args:List Value} {H:List Ck} {v:Value} (h:Reads P f args H v) (hH:BJ W H):Calls P f args.toArray W fun e jq=>e=.returned v∧Below W.heap.size W jq:=
  (gC.below h hH).mono fun e jq ⟨iJ,gr,he,hp,hb⟩=>⟨by rw[he,hp.1],hb⟩
theorem Zg {a:Addr} {v:Value} (h:W.cell? a=some v):∃(b o:Nat) (c:Array Value) (T:TypeId) (fr:Nat×Nat),a=⟨b,o,none⟩∧W.heap[b]?=some (.cells c T fr)∧c[o]?=some v:=by
  unfold World.cell? at h
  split at h
  · rename_i c T fr hb
    obtain ⟨b,o,sp⟩:=a
    cases sp with
    |none=>exact ⟨b,o,c,T,fr,rfl,hb,by simpa using h⟩
    |some s=>simp at h
  · cases h
theorem aeX {T e s:Nat} {ao:Option Addr} {len cap:Nat} {d:DataW Hh} {p:List MemPlace} (hT:lk P T=some e) (hs:P.cellsOf e=s) (zD:0<s) (h:DataW.Trod enc P W base spare held T (.slice ao len cap) d p):
    ∃ (xs:List Value) (H:List Ck) (n:Nat),Rs (.slice ao len cap) len xs H∧xs.length=len*s∧len≤maxLen∧BJ W H∧
      ∀i,i<len→∃y,DataW.trod enc P W base spare held n e ((xs.drop (i*s)).take s)=some y:=by
  obtain ⟨fuel,hf⟩:=h
  rcases DataW.trod_slice (qR hT) hf with ⟨sA,_⟩|⟨a,l,c,elems,rest,n,_,sA,_,hb,hl,hm,hlen,uK,_⟩
  · simp[Value.cells] at sA
    obtain ⟨rfl,rfl,rfl⟩:=sA
    exact ⟨[],[],0,.inl ⟨_,_,rfl,rfl,rfl⟩,by simp,dN _,BJ.nil W,fun i hi=>by omega⟩
  · simp [Value.cells] at sA
    obtain ⟨rfl,rfl,rfl⟩:=sA
    rw[hs] at uK
    by_cases h0:len=0
    · subst h0
      exact ⟨[],[],0,.inl ⟨_,_,rfl,rfl,rfl⟩,by simp,dN _,BJ.nil W,fun i hi=>by omega⟩
    · have each :∀i,i<len→∃l y,W.cells? base (a.add (i*s)) s=some l∧DataW.trod enc P W base spare held n e l=some y:=fun i hi=>by
        have h1:=uK i hi
        have h2:i<elems.length:=by omega
        rw[dK h2] at h1
        obtain ⟨l,h3,h4⟩:=Option.bind_eq_some_iff.1 h1
        exact ⟨l,_,h3,h4⟩
      obtain ⟨l0,y0,h1,_⟩:=each 0 gz
      have c0:=(World.cells?_some h1).2
      obtain ⟨T5,abb⟩:=c0
      obtain ⟨b,o,cs,gV,fr,Em,hblk,_⟩:=Zg ((abb 0 gz).trans (dK (show 0<l0.length by omega)))
      have haz:a=⟨b,o,none⟩:=by
        have:(a.add (0*s)).add 0=a:=by simp[Addr.add]
        rw[this] at Em
        exact Em
      subst haz
      have key:∀i,i<len→∀j,j<s→∃l,W.cells? base ((⟨b,o,none⟩:Addr).add (i*s)) s=some l∧cs[o+i*s+j]?=l[j]?∧l.length=s:=fun i hi j hj=>by
        obtain ⟨l,y,h3,_⟩:=each i hi
        obtain ⟨_,vU,Tk⟩:=World.cells?_some h3
        refine ⟨l,h3,?_,vU⟩
        have h4:=Tk j gz
        rw[add_plain,add_plain,tD hblk] at h4
        exact h4
      have ajq:o+len*s≤cs.size:=by
        obtain ⟨l,_,h5,h6⟩:=key (len-1) gz (s-1) gz
        rw[dK gz] at h5
        have h7:=(fU.1 h5).1
        have h8:len*s=(len-1)*s+s:=by
          have:len=(len-1)+1:=by omega
          rw[this,fZ,Nat.one_mul]
          simp
        omega
      refine ⟨(cs.toList.drop o).take (len*s),[⟨b,.cells cs gV fr,false⟩],n,?_,by simp;omega,by omega,fun c hc=>by simp at hc;subst hc;exact ⟨hblk,rfl⟩,fun i hi=>?_⟩
      · refine .inr ⟨b,o,cap,cs.toList,gV,fr,false,rfl,hl,by simp,?_⟩
        have:((cs.toList.drop o).take (len*s)).length=len*s:=by simp;omega
        rw[this]
      · obtain ⟨l,y,h3,h4⟩:=each i hi
        refine ⟨y,?_⟩
        have : (((cs.toList.drop o).take (len*s)).drop (i*s)).take s=l:=by
          obtain ⟨_,vU,Tk⟩:=World.cells?_some h3
          apply eM
          intro j
          by_cases hj:j<s
          · obtain ⟨mK,h5,h6,h7⟩:=key i hi j hj
            rw[h3] at h5
            cases h5
            rw[fF,dx hj,ft,fF]
            have h8:i*s+j<len*s:=by
              have:i*s+s≤len*s:=by
                have:=fM s (show i+1≤len by omega)
                rwa [fZ,Nat.one_mul] at this
              omega
            rw[dx h8,ft,←h6]
            simp[Nat.add_assoc]
          · rw[fF,dp hj,eG gz]
        rw[this]
        exact h4
end
section
variable {Hh:Type} {enc:TypeId×Value→Hh} {P:Program} {W:World} {base:Nat} {spare:Nat→Bool} {held:Bool} {t:TypeId}
def N6 (P:Program) (E:TypeId):Option (List IntKind):=match P.underlying E with
  |some (.struct fs)=>fs.toList.zipIdx.mapM fun p=>if p.1.offset=p.2∧P.cellsOf p.1.type=1 then qw P p.1.type else none
  |_=>none
theorem Vh {α β:Type} (f:α→Option β):∀(l:List α) (r:List β),l.mapM f=some r→r.length=l.length∧∀(i:Nat) (a:α),l[i]?=some a→∃b,f a=some b∧r[i]?=some b
  |[],r,h=>by simp at h;subst h;simp
  | x ::l,r,h=>by
    simp only[List.mapM_cons] at h
    cases hx:f x with
    |none=>simp[hx] at h
    | some b=>
      cases hl:l.mapM f with
      |none=>simp[hx,hl] at h
      | some iK=>
        simp[hx,hl] at h
        subst h
        obtain ⟨h1,h2⟩:=Vh f l iK hl
        refine ⟨by simp[h1],fun i a ha=>?_⟩
        cases i with
        |zero=>simp at ha;subst ha;exact ⟨b,hx,rfl⟩
        |succ i=>obtain ⟨c,h3,h4⟩:=h2 i a (by simpa using ha);exact ⟨c,h3,by simpa using h4⟩
theorem aeY {E n:Nat} {ks:List IntKind} {cs:List Value} {y:DataW Hh×List MemPlace} (hk:N6 P E=some ks) (hE:P.cellsOf E=ks.length) (h:DataW.trod enc P W base spare held n E cs=some y):
    cs.length=ks.length∧∀(i:Nat) (k:IntKind),ks[i]?=some k→∃m:Int,cs[i]?=some (Value.int k m)∧(Lit.int k m).wf=true:=by
  unfold N6 at hk
  split at hk
  · rename_i fs hu
    obtain ⟨xs,m,_,_,hl,hlen,hf⟩:=DataW.trod_struct hu h
    obtain ⟨h1,h2⟩:=Vh _ _ _ hk
    refine ⟨by omega,fun i k Nj=>?_⟩
    have hi:i<fs.size:=by
      have:=(dV.1 Nj).1
      simp at h1
      omega
    obtain ⟨lS,h3,h4⟩:=h2 i (fs[i],i) (by simp[hi])
    rw[Nj] at h4
    cases h4
    simp only at h3
    split at h3
    · rename_i hh
      have GG:=hf i fs[i] (by simp[hi])
      have hxi:i<xs.length:=by omega
      rw[dK hxi] at GG
      rw[hh.1,hh.2] at GG
      obtain ⟨q,rX,_,yn⟩:=DataW.trod_int (Bz h3) GG
      refine ⟨q,?_,yn⟩
      have:=congrArg (fun l=>l[0]?) rX
      simpa using this
    · cases h3
  · cases hk
end
section
variable {Hh:Type} {enc:TypeId×Value→Hh} {P:Program} {W:World} {base:Nat} {spare:Nat→Bool} {held:Bool} {t:TypeId}
structure Mv where
  kd:Int
  iL:Int
  n:Int
  key:Int
  oX:Int
def Mv.cells (a:Mv):List Value:=[.int .i64 a.kd,.int .i64 a.iL,.int .i64 a.n,.int .i64 a.key,.int .i64 a.oX]
def Bn (l:List Mv):List Value:=l.flatMap Mv.cells
theorem aew (l:List Mv) (i:Nat) (h:i<l.length):((Bn l).drop (i*5)).take 5=l[i].cells:=by
  induction l generalizing i with
  |nil=>simp at h
  | cons a l ih=>
    cases i with
    |zero=>simp[Bn,Mv.cells]
    | succ i=>
      have:=ih i (by simpa using h)
      rw[show (i+1)*5=5+i*5 by omega]
      simp only[Bn,List.flatMap_cons,List.getElem_cons_succ] at*
      rw[←gv]
      have e:(a.cells++l.flatMap Mv.cells).drop 5=l.flatMap Mv.cells:=by simp[Mv.cells]
      rw[e,this]
theorem VI {T E:Nat} {ao:Option Addr} {len cap:Nat} {d:DataW Hh} {p:List MemPlace} (hT:lk P T=some E) (hk:N6 P E=some [.i64,.i64,.i64,.i64,.i64]) (hE:P.cellsOf E=5) (h:DataW.Trod enc P W base spare held T (.slice ao len cap) d p):
    ∃(l:List Mv) (H:List Ck),Rs (.slice ao len cap) l.length (Bn l) H∧l.length=len∧len≤maxLen∧BJ W H:=by
  obtain ⟨xs,H,n,hr,hl,hm,hh,uK⟩:=aeX hT hE gz h
  have key:∀(len:Nat) (xs:List Value),xs.length=len*5→(∀i,i<len→∃y,DataW.trod enc P W base spare held n E ((xs.drop (i*5)).take 5)=some y)→∃l:List Mv,l.length=len∧xs=Bn l:=by
    intro len
    induction len with
    |zero=>intro xs hx _;exact ⟨[],rfl,dU gz⟩
    | succ len ih=>
      intro xs hx each
      obtain ⟨y,hy⟩:=each 0 gz
      obtain ⟨h5,hg⟩:=aeY hk (by rw[hE];rfl) hy
      obtain ⟨a,ha,_⟩:=hg 0 .i64 rfl
      obtain ⟨b,hb,_⟩:=hg 1 .i64 rfl
      obtain ⟨c,hc,_⟩:=hg 2 .i64 rfl
      obtain ⟨e,he,_⟩:=hg 3 .i64 rfl
      obtain ⟨f,hf,_⟩:=hg 4 .i64 rfl
      obtain ⟨l,yg,zJ⟩:=ih (xs.drop 5) (by rw[eg];omega) (fun i hi=>by
        obtain ⟨z,hz⟩:=each (i+1) gz
        refine ⟨z,?_⟩
        rw[gv,show 5+i*5=(i+1)*5 by omega]
        exact hz)
      refine ⟨⟨a,b,c,e,f⟩::l,by simp[yg],?_⟩
      have h0:xs.take 5=Mv.cells ⟨a,b,c,e,f⟩:=by
        simp only[Nat.zero_mul,List.drop_zero] at ha hb hc he hf h5
        apply eM
        intro i
        match i with
        |0=>exact ha
        |1=>exact hb
        |2=>exact hc
        |3=>exact he
        |4=>exact hf
        | i+5=>
          rw[eG (by rw[h5];simp),eG (by simp[Mv.cells])]
      rw[←fz 5 xs,h0,zJ]
      rfl
  obtain ⟨l,yg,rfl⟩:=key len xs hl uK
  exact ⟨l,H,by rw[yg];exact hr,yg,hm,hh⟩
end
end Go.SL
namespace Go.Proofs.YtchdmlkiggdhaaaGreat
open Go.SL Top Go.Proofs.Tryz
attribute [local irreducible] WL WC DN gZ iX
theorem Ku (H:List Ck):Reads prog 119 [] H (.agg (mb Sg.start).toArray):=by
 refine gC.enter func119 rfl ntmps119 rfl ?_
 intro w0 R
 refine gY (iS tw fun b0=>?_)
 refine E1 (ae rfl (aj (pl:=[(0,1),(1,1),(2,1),(3,1),(4,1),(5,1),(6,1)]) (zs:=tw) (parts:=[(0,.const (.int .i64 1))]) (vs:=[(0,_)]) (cells:=[_,.int .i64 0,.int .i64 0,.bool false,.int .i64 0,.bool false,.int .i64 0]) fa fa rfl rfl) ?_)
 refine g_ [307,3] ?_
 refine aB (s:=7) H results119 fa rfl gO gA (du _ _) ?_
 exact ⟨rfl,rfl⟩
theorem Dw (c:Int) (H:List Ck):Reads prog 220 [.int .i64 c] H (.agg (mb (Dr c)).toArray):=by
 refine gC.enter func220 rfl ntmps220 rfl ?_
 intro w0 R
 refine gY (iS tw fun b2=>?_)
 refine g_ [5] ?_
 refine ae rfl (aj (pl:=[(0,1),(1,1),(2,1),(3,1),(4,1),(5,1),(6,1)]) (zs:=tw) (parts:=[(0,.const (.int .i64 3)),(6,.tmp 3)]) (vs:=[(0,_),(6,_)]) (cells:=[_,.int .i64 0,.int .i64 0,.bool false,.int .i64 0,.bool false,_]) fa fa rfl rfl) ?_
 refine g_ [307,3] ?_
 refine aB (s:=7) H results220 fa rfl gO gA (du _ _) ?_
 exact ⟨rfl,rfl⟩
theorem O3 (s:Sg) (H:List Ck):Reads prog 222 [.agg (mb s).toArray] H (.agg (mb (FU s)).toArray):=by
 refine gC.enter func222 rfl ntmps222 rfl ?_
 intro w0 R
 refine gY (iV fun b1=>?_)
 refine iS tw fun b2=>?_
 refine g_ [4,103,1,104,5,407,307,3] ?_
 refine aB (s:=7) H results222 fa rfl gO gA ((du _ _).trans (du _ _)) ?_
 exact ⟨rfl,rfl⟩
theorem Bx (v:Value) (p:List ia) (n:Nat) (hn:n≤p.length) (hl:p.length≤1000) (H:List Ck) (hv:PV v p H):Reads prog 221 [v,.int .i64 ((n:Int)-1)] H (.agg (mb (qh p n)).toArray):=by
 refine gC.enter func221 rfl ntmps221 rfl ?_
 intro w0 R
 obtain ⟨ao,ac,rfl,_⟩:=hv.form
 refine gY (iS tw fun b4=>?_)
 refine qb (WC.scope (WC.seq (WC.label (g_ [9] ?_))))
 refine aC (fun z:Nat=>z≤n∧qh p n=qh p z) (fun z:Nat=>[(5,.int .i64 ((z:Int)-1))]) (fun z:Nat=>row b4 (mb ⟨0,0,0,false,0,false,0⟩) 181::H) (fun z:Nat=>z) (n) (show n≤n∧qh p n=qh p n from ⟨dA _,rfl⟩) (Sx.put rfl (gL)) fc ?_
 rintro m hI
 replace hI:m≤n∧qh p n=qh p m:=hI
 obtain ⟨hm,hb⟩:=hI
 change WC _ _ _ _ _ _ ([(5,.int .i64 ((m:Int)-1))]++_) (row b4 (mb ⟨0,0,0,false,0,false,0⟩) 181::H)
 refine g_ [4,708,2] ?_
 refine gK rfl (fun h8=>?_) fun h8=>?_
 obtain ⟨q,hq⟩:∃q,m=q+1:=⟨m-1,by omega⟩
 have zB:q<p.length:=by omega
 obtain ⟨b0,o0,nU,kK,T0,nB,nA,ie,l8,hU,c0,⟨vn,rfl,_⟩,j6⟩:=hv.cell zB gB
 simp only[dI,eD] at ie
 obtain ⟨rfl,rfl⟩:=ie
 refine g_ [9] ?_
 refine af (t:=12) (v:=.int .i64 (q:Int)) rfl (congrArg (Value.int .i64) gz) ?_
 refine g_ [711,159,6,105] ?_
 refine WL.h rfl (ak fa rfl (dt _ hU) (j6 5 gB) ⟨_,rfl,?_⟩)
 refine g_ [709,2] ?_
 refine WC.cond rfl (fun mr=>?_) (fun mr=>?_)
 refine g_ [6,704] ?_
 refine af (t:=10) (v:=.int .i64 ((q:Int)-1)) rfl (congrArg (Value.int .i64) gz) ?_
 refine g_ [2] ?_
 exact ai (q) (show q≤n∧qh p n=qh p q from ⟨by omega,by rw[hb,hq,YH zB (by simpa using mr)]⟩) (show q<m by omega) (Sx.put rfl (gL)) fc
 refine g_ [5] ?_
 refine ae rfl (aj (pl:=[(0,1),(1,1),(2,1),(3,1),(4,1),(5,1),(6,1)]) (zs:=tw) (parts:=[(0,.const (.int .i64 2)),(1,.tmp 17)]) (vs:=[(0,_),(1,_)]) (cells:=[_,_,.int .i64 0,.bool false,.int .i64 0,.bool false,.int .i64 0]) fa fa rfl rfl) ?_
 refine g_ [307,8] ?_
 refine cq (aB (s:=7) H results221 fa rfl gO gA (du _ _) ?_)
 rw[hb,hq,YI zB (by simpa using mr)]
 refine ⟨?_,rfl⟩
 rw[show (((q+1:Nat):Int)-1)=(q:Int) by omega]
 rfl
 refine g_ [7] ?_
 refine jv call220 rfl (Dw _ _) ?_
 refine g_ [307,3] ?_
 refine cq (aB (s:=7) H results221 fa rfl gO gA (du _ _) ?_)
 rw[hb,show m=0 by omega]
 exact ⟨rfl,rfl⟩
theorem ag4 (v:Value) (p:List ia) (hl:p.length≤1000) (s:Sg) (hs:0≤s.step∧s.step<p.length) (code:Int) (H:List Ck) (hv:PV v p H):Reads prog 193 [v,.agg (mb s).toArray,.int .i64 code] H (.agg (mb (BA p s code)).toArray):=by
 refine gC.enter func193 rfl ntmps193 rfl ?_
 intro w0 R
 have zB:s.step.toNat<p.length:=by omega
 have ht:tv p s=p[s.step.toNat].tries:=by simp[tv,zB]
 obtain ⟨b0,o0,nU,kK,T0,nB,nA,rfl,l8,hU,c0,⟨vn,rfl,_⟩,j6⟩:=hv.cell zB gB
 refine gY (iV fun b4=>?_)
 refine iS tw fun b6=>?_
 refine g_ [18,701,3] ?_
 refine gK rfl (fun h8=>?_) fun h8=>?_
 refine g_ [9,101,1,704] ?_
 refine af (t:=15) (v:=.int .i64 ((s.step.toNat:Int)-1)) rfl (congrArg (Value.int .i64) gz) ?_
 refine jv call221 rfl (Bx _ p s.step.toNat gz hl _ (hv.mono hZ)) ?_
 refine g_ [307,9] ?_
 refine aB (s:=7) H results193 fa rfl gO gA ((du _ _).trans (du _ _)) ?_
 refine ⟨?_,rfl⟩
 unfold BA
 rw[dx h8]<;>rfl
 refine g_ [4,701,3] ?_
 refine gK rfl (fun re=>?_) fun re=>?_
 refine g_ [2] ?_
 refine av rfl (g_ [6,509] ?_)
 refine w_ [1002,0,1,2,1001,3,4] ?_
 refine gW 5 [4,2] rfl (Yd.indexAddr (e:=159) (s:=6) fa fa rfl rfl gz gz) fa ?_
 refine w_ [1003,6] ?_
 refine iD 7 [6] rfl (ab fa rfl (dt _ (dt _ hU)) (j6 3 gB)) ?_
 refine w_ [1001,8] ?_
 refine gM ?_
 refine g_ [1] ?_
 refine gK rfl (fun mg=>?_) fun mg=>?_
 refine gY (jv call220 rfl (Dw _ _) ?_)
 refine g_ [307,6] ?_
 refine aB (s:=7) H results193 fa rfl gO gA ((du _ _).trans (du _ _)) ?_
 refine ⟨?_,rfl⟩
 unfold BA
 rw[dp h8,ht,dx mg]<;>rfl
 refine g_ [7,407] ?_
 refine jv call222 rfl (O3 _ _) ?_
 refine g_ [307,3] ?_
 refine aB (s:=7) H results193 fa rfl gO gA ((du _ _).trans (du _ _)) ?_
 refine ⟨?_,rfl⟩
 unfold BA
 rw[dp h8,ht,dp mg]<;>rfl
 refine g_ [3] ?_
 refine av rfl (g_ [1] ?_)
 refine av rfl (g_ [4,509] ?_)
 refine w_ [1002,0,1,2,1001,3,4] ?_
 refine gW 5 [4,2] rfl (Yd.indexAddr (e:=159) (s:=6) fa fa rfl rfl gz gz) fa ?_
 refine w_ [1003,6] ?_
 refine iD 7 [6] rfl (ab fa rfl (dt _ (dt _ hU)) (j6 3 gB)) ?_
 refine w_ [1001,8] ?_
 refine gM ?_
 refine g_ [1] ?_
 refine gK rfl (fun mg=>?_) fun mg=>?_
 refine gY (jv call220 rfl (Dw _ _) ?_)
 refine g_ [307,6] ?_
 refine aB (s:=7) H results193 fa rfl gO gA ((du _ _).trans (du _ _)) ?_
 refine ⟨?_,rfl⟩
 unfold BA
 rw[dp h8,ht,dx mg]<;>rfl
 refine g_ [7,407] ?_
 refine jv call222 rfl (O3 _ _) ?_
 refine g_ [307,3] ?_
 refine aB (s:=7) H results193 fa rfl gO gA ((du _ _).trans (du _ _)) ?_
 refine ⟨?_,rfl⟩
 unfold BA
 rw[dp h8,ht,dp mg]<;>rfl
theorem agb (v:Value) (p:List ia) (hl:p.length≤1000) (s:Sg) (hs:0≤s.step∧s.step<p.length) (code:Int) (H:List Ck) (hv:PV v p H):Reads prog 194 [v,.agg (mb s).toArray,.int .i64 code] H (.agg (mb (rO p s code)).toArray):=by
 refine gC.enter func194 rfl ntmps194 rfl ?_
 intro w0 R
 have zB:s.step.toNat<p.length:=by omega
 have ht:tv p s=p[s.step.toNat].tries:=by simp[tv,zB]
 obtain ⟨b0,o0,nU,kK,T0,nB,nA,rfl,l8,hU,c0,⟨vn,rfl,_⟩,j6⟩:=hv.cell zB gB
 refine gY (iV fun b4=>?_)
 refine iS tw fun b6=>?_
 refine g_ [7,701,3] ?_
 refine gK rfl (fun h7=>?_) fun h7=>?_
 refine g_ [3,101,1,704] ?_
 refine af (t:=13) (v:=.int .i64 ((s.step.toNat:Int)-1)) rfl (congrArg (Value.int .i64) gz) ?_
 refine jv call221 rfl (Bx _ p s.step.toNat gz hl _ (hv.mono hZ)) ?_
 refine g_ [307,5] ?_
 refine aB (s:=7) H results194 fa rfl gO gA ((du _ _).trans (du _ _)) ?_
 refine ⟨?_,rfl⟩
 unfold rO
 rw[dx h7]<;>rfl
 refine g_ [1,519] ?_
 refine w_ [0,1001,1,2] ?_
 refine aW (fun uN=>?_) (fun uN=>?_)
 refine w_ [1005,3,4,1009,5,6,7] ?_
 refine bR (fun M1=>?_) (fun M1=>?_)
 refine w_ [1002,8,9,10,1001,11,12] ?_
 refine jP 13 [12,10,7] 23 rfl rfl (Yd.indexAddr (e:=159) (s:=6) fa fa rfl rfl gz gz) fa ?_
 refine w_ [1003,14] ?_
 refine ki 15 [14,7] 23 rfl rfl rfl (ab fa rfl (dt _ (dt _ hU)) (j6 3 gB)) ?_
 refine w_ [1005,16,17,18] ?_
 refine gM ?_
 refine g_ [1] ?_
 refine gK rfl (fun pt=>?_) fun pt=>?_
 refine g_ [2,407] ?_
 refine jv call222 rfl (O3 _ _) ?_
 refine g_ [307,5] ?_
 refine aB (s:=7) H results194 fa rfl gO gA ((du _ _).trans (du _ _)) ?_
 refine ⟨?_,rfl⟩
 unfold rO
 simp_all<;>omega
 refine g_ [3,701,1] ?_
 refine ag (t:=39) rfl (fun qp=>?_) (fun qp=>?_)
 refine g_ [10,101,1] ?_
 refine af (t:=45) (v:=.int .i64 (((s.step.toNat+1:Nat):Int)-1)) rfl (congrArg (Value.int .i64) gz) ?_
 refine jv call221 rfl (Bx _ p (s.step.toNat+1) gz hl _ (hv.mono hZ)) ?_
 refine g_ [307,5] ?_
 refine aB (s:=7) H results194 fa rfl gO gA ((du _ _).trans (du _ _)) ?_
 refine ⟨?_,rfl⟩
 unfold rO
 rw[dp h7,ht,dp (fun h=>pt h.2.2),dx (.inl uN)]<;>rfl
 refine g_ [105,5] ?_
 refine WC.cond rfl (fun sv=>?_) (fun sv=>?_)
 refine g_ [3,101,1] ?_
 refine af (t:=45) (v:=.int .i64 (((s.step.toNat+1:Nat):Int)-1)) rfl (congrArg (Value.int .i64) gz) ?_
 refine jv call221 rfl (Bx _ p (s.step.toNat+1) gz hl _ (hv.mono hZ)) ?_
 refine g_ [307,5] ?_
 refine aB (s:=7) H results194 fa rfl gO gA ((du _ _).trans (du _ _)) ?_
 refine ⟨?_,rfl⟩
 unfold rO
 rw[dp h7,ht,dp (fun h=>pt h.2.2),dx (.inl uN)]<;>rfl
 refine g_ [2,101,2,710,159,704,701,3] ?_
 refine gK rfl (fun lN=>?_) fun lN=>?_
 refine gY (jv call220 rfl (Dw _ _) ?_)
 refine g_ [307,5] ?_
 refine aB (s:=7) H results194 fa rfl gO gA ((du _ _).trans (du _ _)) ?_
 refine ⟨?_,rfl⟩
 unfold rO
 simp_all<;>omega
 refine g_ [5,101,1,703] ?_
 refine ae rfl (aj (pl:=[(0,1),(1,1),(2,1),(3,1),(4,1),(5,1),(6,1)]) (zs:=tw) (parts:=[(0,.const (.int .i64 1)),(1,.tmp 57)]) (vs:=[(0,_),(1,_)]) (cells:=[_,_,.int .i64 0,.bool false,.int .i64 0,.bool false,.int .i64 0]) fa fa rfl rfl) ?_
 refine g_ [307,3] ?_
 refine aB (s:=7) H results194 fa rfl gO gA ((du _ _).trans (du _ _)) ?_
 refine ⟨?_,rfl⟩
 unfold rO
 simp_all<;>omega
 refine w_ [8,9,10,11,12,13,14,15,16,17,18] ?_
 refine gM ?_
 refine g_ [5,701,1] ?_
 refine ag (t:=39) rfl (fun qp=>?_) (fun qp=>?_)
 refine g_ [10,101,1] ?_
 refine af (t:=45) (v:=.int .i64 (((s.step.toNat+1:Nat):Int)-1)) rfl (congrArg (Value.int .i64) gz) ?_
 refine jv call221 rfl (Bx _ p (s.step.toNat+1) gz hl _ (hv.mono hZ)) ?_
 refine g_ [307,5] ?_
 refine aB (s:=7) H results194 fa rfl gO gA ((du _ _).trans (du _ _)) ?_
 refine ⟨?_,rfl⟩
 unfold rO
 simp_all<;>omega
 refine g_ [105,5] ?_
 refine WC.cond rfl (fun sv=>?_) (fun sv=>?_)
 refine g_ [3,101,1] ?_
 refine af (t:=45) (v:=.int .i64 (((s.step.toNat+1:Nat):Int)-1)) rfl (congrArg (Value.int .i64) gz) ?_
 refine jv call221 rfl (Bx _ p (s.step.toNat+1) gz hl _ (hv.mono hZ)) ?_
 refine g_ [307,5] ?_
 refine aB (s:=7) H results194 fa rfl gO gA ((du _ _).trans (du _ _)) ?_
 refine ⟨?_,rfl⟩
 unfold rO
 simp_all<;>omega
 refine g_ [2,101,2,710,159,704,701,3] ?_
 refine gK rfl (fun lN=>?_) fun lN=>?_
 refine gY (jv call220 rfl (Dw _ _) ?_)
 refine g_ [307,5] ?_
 refine aB (s:=7) H results194 fa rfl gO gA ((du _ _).trans (du _ _)) ?_
 refine ⟨?_,rfl⟩
 unfold rO
 simp_all<;>omega
 refine g_ [5,101,1,703] ?_
 refine ae rfl (aj (pl:=[(0,1),(1,1),(2,1),(3,1),(4,1),(5,1),(6,1)]) (zs:=tw) (parts:=[(0,.const (.int .i64 1)),(1,.tmp 57)]) (vs:=[(0,_),(1,_)]) (cells:=[_,_,.int .i64 0,.bool false,.int .i64 0,.bool false,.int .i64 0]) fa fa rfl rfl) ?_
 refine g_ [307,3] ?_
 refine aB (s:=7) H results194 fa rfl gO gA ((du _ _).trans (du _ _)) ?_
 refine ⟨?_,rfl⟩
 unfold rO
 simp_all<;>omega
 refine w_ [3,4,5,6,7,8,9,10,11,12,13,14,15,16,17,18] ?_
 refine gM ?_
 refine g_ [5,701,1] ?_
 refine ag (t:=39) rfl (fun qp=>?_) (fun qp=>?_)
 refine g_ [10,101,1] ?_
 refine af (t:=45) (v:=.int .i64 (((s.step.toNat+1:Nat):Int)-1)) rfl (congrArg (Value.int .i64) gz) ?_
 refine jv call221 rfl (Bx _ p (s.step.toNat+1) gz hl _ (hv.mono hZ)) ?_
 refine g_ [307,5] ?_
 refine aB (s:=7) H results194 fa rfl gO gA ((du _ _).trans (du _ _)) ?_
 refine ⟨?_,rfl⟩
 unfold rO
 simp_all<;>omega
 refine g_ [105,5] ?_
 refine WC.cond rfl (fun sv=>?_) (fun sv=>?_)
 refine g_ [3,101,1] ?_
 refine af (t:=45) (v:=.int .i64 (((s.step.toNat+1:Nat):Int)-1)) rfl (congrArg (Value.int .i64) gz) ?_
 refine jv call221 rfl (Bx _ p (s.step.toNat+1) gz hl _ (hv.mono hZ)) ?_
 refine g_ [307,5] ?_
 refine aB (s:=7) H results194 fa rfl gO gA ((du _ _).trans (du _ _)) ?_
 refine ⟨?_,rfl⟩
 unfold rO
 simp_all<;>omega
 refine g_ [2,101,2,710,159,704,701,3] ?_
 refine gK rfl (fun lN=>?_) fun lN=>?_
 refine gY (jv call220 rfl (Dw _ _) ?_)
 refine g_ [307,5] ?_
 refine aB (s:=7) H results194 fa rfl gO gA ((du _ _).trans (du _ _)) ?_
 refine ⟨?_,rfl⟩
 unfold rO
 simp_all<;>omega
 refine g_ [5,101,1,703] ?_
 refine ae rfl (aj (pl:=[(0,1),(1,1),(2,1),(3,1),(4,1),(5,1),(6,1)]) (zs:=tw) (parts:=[(0,.const (.int .i64 1)),(1,.tmp 57)]) (vs:=[(0,_),(1,_)]) (cells:=[_,_,.int .i64 0,.bool false,.int .i64 0,.bool false,.int .i64 0]) fa fa rfl rfl) ?_
 refine g_ [307,3] ?_
 refine aB (s:=7) H results194 fa rfl gO gA ((du _ _).trans (du _ _)) ?_
 refine ⟨?_,rfl⟩
 unfold rO
 simp_all [mb]<;>omega
theorem ae4 (w:Int) (H:List Ck):Reads prog 226 [.int .i64 w] H (.bool (decide (w=1∨w=3∨w=5))):=by
 refine gC.enter func226 rfl ntmps226 rfl ?_
 intro w0 R
 refine g_ [8,701,1] ?_
 refine ag (t:=5) rfl (fun rn=>?_) (fun rn=>?_)
 refine g_ [11] ?_
 refine gH H ?_
 refine aa results226 rfl (⟨?_,rfl⟩)
 congr 1
 rw[dM]
 simp only[dz,fR,eW]
 omega
 refine g_ [1,701,2] ?_
 refine ag (t:=9) rfl (fun GM=>?_) (fun GM=>?_)
 refine g_ [7] ?_
 refine gH H ?_
 refine aa results226 rfl (⟨?_,rfl⟩)
 congr 1
 rw[dM]
 simp only[dz,fR,eW]
 omega
 refine g_ [1,701,5] ?_
 refine gH H ?_
 refine aa results226 rfl (⟨?_,rfl⟩)
 congr 1
 rw[dM]
 simp only[dz,fR,eW]
 omega
theorem afb (w:Int) (H:List Ck):Reads prog 227 [.int .i64 w] H (.bool (decide (w=1∨w=3∨w=6))):=by
 refine gC.enter func227 rfl ntmps227 rfl ?_
 intro w0 R
 refine g_ [8,701,1] ?_
 refine ag (t:=5) rfl (fun rn=>?_) (fun rn=>?_)
 refine g_ [11] ?_
 refine gH H ?_
 refine aa results227 rfl (⟨?_,rfl⟩)
 congr 1
 rw[dM]
 simp only[dz,fR,eW]
 omega
 refine g_ [1,701,2] ?_
 refine ag (t:=9) rfl (fun GM=>?_) (fun GM=>?_)
 refine g_ [7] ?_
 refine gH H ?_
 refine aa results227 rfl (⟨?_,rfl⟩)
 congr 1
 rw[dM]
 simp only[dz,fR,eW]
 omega
 refine g_ [1,701,5] ?_
 refine gH H ?_
 refine aa results227 rfl (⟨?_,rfl⟩)
 congr 1
 rw[dM]
 simp only[dz,fR,eW]
 omega
theorem afm (w:Int) (hw:1≤w∧w≤6) (H:List Ck):gC prog 229 [.int .i64 w] H fun r gr=>(∃t:ByteArray,t≠⟨#[]⟩∧r=.string t)∧gr=H:=by
 refine gC.enter func229 rfl ntmps229 rfl ?_
 intro w0 R
 refine g_ [14,701,3] ?_
 refine gK rfl (fun h4=>?_) fun h4=>?_
 refine g_ [8] ?_
 refine gH H ?_
 refine aa results229 rfl ?_
 exact ⟨⟨_,by decide,rfl⟩,rfl⟩
 refine g_ [2,701,3] ?_
 refine gK rfl (fun h6=>?_) fun h6=>?_
 refine g_ [8] ?_
 refine gH H ?_
 refine aa results229 rfl ?_
 exact ⟨⟨_,by decide,rfl⟩,rfl⟩
 refine g_ [2,701,3] ?_
 refine gK rfl (fun h8=>?_) fun h8=>?_
 refine g_ [8] ?_
 refine gH H ?_
 refine aa results229 rfl ?_
 exact ⟨⟨_,by decide,rfl⟩,rfl⟩
 refine g_ [2,701,3] ?_
 refine gK rfl (fun re=>?_) fun re=>?_
 refine g_ [8] ?_
 refine gH H ?_
 refine aa results229 rfl ?_
 exact ⟨⟨_,by decide,rfl⟩,rfl⟩
 refine g_ [2,701,3] ?_
 refine gK rfl (fun nj=>?_) fun nj=>?_
 refine g_ [8] ?_
 refine gH H ?_
 refine aa results229 rfl ?_
 exact ⟨⟨_,by decide,rfl⟩,rfl⟩
 refine g_ [2,701,3] ?_
 refine gK rfl (fun ql=>?_) fun ql=>?_
 refine g_ [8] ?_
 refine gH H ?_
 refine aa results229 rfl ?_
 exact ⟨⟨_,by decide,rfl⟩,rfl⟩
 refine g_ [9] ?_
 refine gH H ?_
 refine aa results229 rfl ?_
 exfalso;omega
theorem afa (l:List (BitVec 8)) (hl:Ot l) (H:List Ck):Reads prog 228 [.string (str l)] H (.bool true):=by
 refine gC.enter func228 rfl ntmps228 rfl ?_
 intro w0 R
 refine g_ [9] ?_
 refine WL.h rfl (Hd.Wd fa rfl fun b6=>⟨_,rfl,?_⟩)
 refine g_ [3] ?_
 refine WC.Of (fun i:Nat=>i≤l.length) (fun i:Nat=>[]) (fun i:Nat=>⟨b6,.stringIter (str l) i,true⟩::H) (fun i:Nat=>l.length-i) (0) (dN _) (gL) (Sp.all fc) ?_
 intro i hi
 refine gY ?_
 refine WL.h rfl (Hd.oD rfl ir (fun gQ=>⟨by have h9:=gQ;rw[Kw] at h9;rw[WR gQ h9];have:=hl.2.2 _ (dG h9);omega,⟨_,rfl,?_⟩⟩) (fun nC=>⟨_,rfl,?_⟩))
 have yi:i<l.length:=by rw[Kw] at gQ;exact gQ
 rw[WR gQ yi]
 have zg:=hl.2.2 _ (dG yi)
 refine g_ [17,705,1011,2,707,1014,18] ?_
 exact cS (i+1) (by show i+1≤l.length;omega) (show l.length-(i+1)<l.length-i by omega) (gL) (Sp.all fc)
 rw[Kw] at nC
 refine g_ [13] ?_
 refine ae rfl (cG rfl rfl) (kl 29 rfl (fun h=>hl.1 (agV.1 h)) ?_)
 refine g_ [2] ?_
 refine jx 30 rfl rfl rfl (Yd.Oa underlying9 rfl) (g_ [706] ?_)
 refine kl 33 rfl (by rw[Kw];have:=hl.2.1;omega) ?_
 refine g_ [5] ?_
 refine gH H ?_
 exact aa results228 rfl (⟨rfl,rfl⟩)
theorem afd (x:ia) (hx:Fo x) (vn:Value) (H:List Ck) (hv:Bs vn x.name H):Reads prog 215 [.agg (kA x vn).toArray] H (.bool true):=by
 refine gC.enter func215 rfl ntmps215 rfl ?_
 intro w0 R
 obtain ⟨no,nc,rfl,_⟩:=hv.form
 have hwh:=hx.iA
 have mH:=hx.n1
 have tf:=hx.n0
 have kM:=hx.m1
 have kh:=hx.m0
 have Ut:=hx.tries
 have hwa:=hx.wait
 refine gY (iV fun b1=>?_)
 refine g_ [5,100] ?_
 refine WL.h rfl (aJ (n:=3) (vs:=[_,_,_]) fa rfl gO gA gA ⟨_,rfl,?_⟩)
 refine WL.h rfl (Hd.alloc (zs:=[.int .i64 0,.int .i64 0,.slice none 0 0]) fa fun b3=>⟨_,rfl,?_⟩)
 refine g_ [303,4,101,1,701,3] ?_
 refine aI (fun z:Bool=>z=true) (fun z:Bool=>[(4,.bool z)]) (fun z:Bool=>row b1 (kA x (.slice no x.name.length nc)) 159::row b3 [.int .i64 x.iA,.int .i64 x.n,.slice no x.name.length nc] 157::H) ?_ ?_
 refine g_ [2,100,1] ?_
 refine jv call226 rfl (ae4 _ _) ?_
 refine qb (gK rfl (fun sW=>?_) fun sW=>?_)
 refine g_ [1,101,1,708,2016,1,101,1,706,2020,3] ?_
 exact ah (_) (rfl) (Sx.put rfl (gL)) (Sp.all fc)
 refine g_ [1] ?_
 exact ah (_) (fo gz) (Sx.put rfl (gL)) (Sp.all fc)
 rintro z rfl
 refine g_ [2,102,1,710,5,701,3] ?_
 refine aI (fun z:Bool=>z=true) (fun z:Bool=>[(4,.bool true),(5,.bool z)]) (fun z:Bool=>row b1 (kA x (.slice no x.name.length nc)) 159::row b3 [.int .i64 x.iA,.int .i64 x.n,.slice no x.name.length nc] 157::H) ?_ ?_
 refine g_ [2,100,1] ?_
 refine jv call227 rfl (afb _ _) ?_
 refine qb (gK rfl (fun su=>?_) fun su=>?_)
 refine g_ [1,102,1] ?_
 refine WL.h rfl (aM (e:=5) (bs:=x.name) fa fa underlying9 rfl (hv.mono hZ) ⟨_,rfl,?_⟩)
 refine jv call228 rfl (afa _ (kM su) _) ?_
 refine g_ [2] ?_
 exact ah (_) (rfl) (Sx.put rfl (Sx.put rfl (gL))) (Sp.all fc)
 refine g_ [1] ?_
 exact ah (_) (fo (by rw[kh su];rfl)) (Sx.put rfl (Sx.put rfl (gL))) (Sp.all fc)
 rintro z rfl
 refine g_ [2,100,1] ?_
 refine c_ call229 rfl (afm x.iA hwh []) ?_
 rintro x35 H35 ⟨⟨t35,acw,rfl⟩,rfl⟩
 refine ae rfl (cG rfl rfl) (kl 36 rfl acw (g_ [2,2038,1,2039,2,2041,1,2042,1,103,1,708,2046,2,103,1,706,2051,2,104,1,708,2056,2,104,1,706,2061,5] ?_))
 refine gH H ?_
 exact aa results215 rfl (⟨rfl,rfl⟩)
theorem VP (v:Value) (p:List ia) (hp:jh p) (H:List Ck) (hv:PV v p H):Reads prog 166 [v] H (.int .i64 0):=by
 refine gC.enter func166 rfl ntmps166 rfl ?_
 intro w0 R
 obtain ⟨ao,ac,rfl,_⟩:=hv.form
 have qu:=hp.len
 refine g_ [9,710,159,705,1007,2,710,159,707,1011,10,710,159,4] ?_
 refine aC (fun z:Nat=>z≤p.length) (fun z:Nat=>[(15,.int .i64 (z:Int))]) (fun z:Nat=>H) (fun z:Nat=>p.length-z) (0) (show 0≤p.length from dN _) (Sx.put rfl (gL)) fc ?_
 rintro i hI
 replace hI:i≤p.length:=hI
 obtain hi:=hI
 change WC _ _ _ _ _ _ ([(15,.int .i64 (i:Int))]++_) (H)
 refine g_ [2,705,3] ?_
 refine gK rfl (fun mr=>?_) fun mr=>?_
 have gQ:i<p.length:=by omega
 obtain ⟨b0,o0,nU,kK,T0,nB,nA,ie,l8,hU,c0,⟨vn,rfl,rj⟩,ja⟩:=hv.rowAt gQ gB
 simp only[dI,eD] at ie
 obtain ⟨rfl,rfl⟩:=ie
 obtain ⟨no,nc,rfl,_⟩:=rj.form
 refine g_ [6,711,159,6] ?_
 refine WL.h rfl (aJ (n:=6) (vs:=kA p[i] (.slice no p[i].name.length nc)) fa rfl hU rfl (by rw[show o0+((i:Int)).toNat*6=o0+i*6 by omega];exact ja) ⟨_,rfl,?_⟩)
 refine iS vy fun b4=>?_
 refine g_ [306,4,406] ?_
 refine iG call215 rfl (afd _ (hp.one _ (dG gQ)) _ _ (rj.mono hZ)) ?_
 refine g_ [709,1021,7,703,2] ?_
 exact ai (i+1) (show (i+1)≤p.length from by show i+1≤p.length;omega) (show p.length-(i+1)<p.length-i by omega) (Sx.put rfl (gL)) fc
 refine g_ [11] ?_
 refine gH H ?_
 exact aa results166 rfl (⟨rfl,rfl⟩)
theorem afP (x y:Sg):tE [0,0,0,2,0,2,0] (mb x) (mb y)=some (decide (x=y)):=by
  obtain ⟨a,b,c,d,e,f,g⟩:=x
  obtain ⟨gX,oJ,tC,vM,oM,sm,gU⟩:=y
  simp only[mb,tE,yQ,if_true,Option.bind_some,Option.map_some,ew]
  rw[dM]
  simp
theorem WH {p:List ia} (hp:jh p) {s:Sg} (h:qO p s):0≤s.tr∧s.tr≤255:=by
  rcases h with ⟨_,_,_,h⟩|⟨_,h2,h3,_,h5,_⟩
  · rw[h];show (0:Int)≤0∧(0:Int)≤255;omega
  have hq:s.step.toNat<p.length:=by omega
  have ht:=(hp.one _ (dG hq)).tries
  rw[Dz hq] at h5
  cases ha:s.asked
  · rw[ha,dp gB] at h5;omega
  rw[ha,dx rfl] at h5;omega
def doc:Option (Int×Bool×Int)→List Value
  |none=>[.int .i64 0,.bool false,.int .i64 0]
  |some d=>[.int .i64 d.1,.bool d.2.1,.int .i64 d.2.2]
theorem O4 (v:Value) (p:List ia) (hp:jh p) (s:Sg) (hs:qO p s) (H:List Ck) (hv:PV v p H):Reads prog 191 [v,.agg (mb s).toArray] H (.int .i64 0):=by
 refine gC.enter func191 rfl ntmps191 rfl ?_
 intro w0 R
 obtain ⟨ao,ac,rfl,_⟩:=hv.form
 have qu:=hp.len
 refine gY (iV fun b3=>?_)
 refine g_ [7] ?_
 refine iG call166 rfl (VP _ p hp _ (hv.mono hZ)) ?_
 refine g_ [6,702,1011,8,100,1,701,2] ?_
 refine gK rfl (fun pt=>?_) fun pt=>?_
 obtain ⟨_,lX,tK,hs3⟩:=hs.resolve_right (fun q=>by omega)
 refine g_ [2,515] ?_
 refine w_ [1006,0,1,1005,2,9001,3,1006,4,5,1007,6,9001,7,8] ?_
 refine ki 9 [8] 24 rfl rfl rfl (aQ (n:=7) fa rfl gO gA) ?_
 refine w_ [1006,10,11] ?_
 refine ny (iw (i:=12) [11,8] rfl (aO (aP (dj:=24) rfl rfl) (iE.func call220 rfl) (Dw _ _) fc) fa) fa ?_
 refine jP 13 [12,9,8] 24 rfl rfl (Yd.aeC [0,0,0,2,0,2,0] fa rfl rfl (afP s (Dr s.code))) fa ?_
 refine az (v:=.bool false) (congrArg Value.bool (by rw[fo hs3];rfl)) ?_
 refine w_ [14] ?_
 refine gM ?_
 refine g_ [11] ?_
 refine gH H ?_
 exact aa results191 rfl (⟨rfl,rfl⟩)
 obtain ⟨qI,ma,TW,Ez,tQ,TX⟩:=hs.resolve_left (fun q=>pt q.1)
 refine g_ [5,100,1,705,1033,1,100,1,707,1037,2,101,1,705,1042,2,101,2,710,159,708,1049,2,106,1,702,1054,8] ?_
 have hq:s.step.toNat<p.length:=by omega
 obtain ⟨b0,o0,nU,kK,T0,nB,nA,ie,l8,hU,c0,⟨vn,rfl,rj⟩,ja⟩:=hv.rowAt hq gB
 simp only[dI,eD] at ie
 obtain ⟨rfl,rfl⟩:=ie
 obtain ⟨no,nc,rfl,_⟩:=rj.form
 have ht:tv p s=p[s.step.toNat].tries:=Dz hq
 have hw:Ab p s=p[s.step.toNat].wait:=Pt hq
 rw[ht,hw] at tQ
 have TY:s.phase=2→p[s.step.toNat].back=true∧s.cancel=false:=fun q=>by
   have:=TX q
   rw[dK hq] at this
   exact ⟨by simpa using this.1,this.2⟩
 refine g_ [1,101,1,711,159,6] ?_
 refine WL.h rfl (aJ (n:=6) (vs:=kA p[s.step.toNat] (.slice no p[s.step.toNat].name.length nc)) fa rfl (dt _ hU) rfl ja ⟨_,rfl,?_⟩)
 refine iS vy fun b6=>?_
 refine g_ [306,2] ?_
 refine aI (fun z:Bool=>s.asked=false→z=true) (fun z:Bool=>[(7,.bool z)]) (fun z:Bool=>row b6 (kA p[s.step.toNat] (.slice no p[s.step.toNat].name.length nc)) 159::row b3 (mb s) 181::H) ?_ ?_
 refine g_ [1,102,1,708,1] ?_
 refine ag (t:=64) rfl (fun M8=>?_) (fun M8=>?_)
 refine g_ [102,1,103,1,705,2] ?_
 refine ag (t:=71) rfl (fun abH=>?_) (fun abH=>?_)
 refine g_ [104,1,701,3] ?_
 exact ah (_) (by intro ha;rw[ha] at tQ;rw[dp gB] at tQ;(simp_all;done)) (Sx.put rfl (gL)) (Sp.all fc)
 refine g_ [6] ?_
 exact ah (_) (by intro ha;rw[ha] at tQ;rw[dp gB] at tQ;omega) (Sx.put rfl (gL)) (Sp.all fc)
 refine g_ [13] ?_
 exact ah (_) (by intro ha;rw[ha] at tQ;rw[dp gB] at tQ;omega) (Sx.put rfl (gL)) (Sp.all fc)
 intro z hz
 refine aI (fun z:Bool=>z=true) (fun z:Bool=>[(7,.bool z)]) (fun z:Bool=>row b6 (kA p[s.step.toNat] (.slice no p[s.step.toNat].name.length nc)) 159::row b3 (mb s) 181::H) ?_ ?_
 refine g_ [2,103,3] ?_
 refine WC.cond rfl (fun rh=>?_) (fun rh=>?_)
 rw[dx rh] at tQ
 refine g_ [1,102,1,708,2080,1,102,1,103,1,706,2086,2,104,1,708,2091,2,104,1,104,1,706,2098,3] ?_
 exact ah (_) (rfl) (Sx.put rfl (gL)) (Sp.all fc)
 refine g_ [1] ?_
 exact ah (_) (hz rh) (Sx.put rfl (gL)) (Sp.all fc)
 rintro z rfl
 refine g_ [4,709,1101,1,100,1,701,1] ?_
 refine ag (t:=106) rfl (fun MZ=>?_) (fun MZ=>?_)
 refine g_ [105,1,709] ?_
 refine af (t:=109) (v:=.bool false) rfl (congrArg Value.bool (by rw[(TY MZ).1];rfl)) ?_
 refine g_ [1,105,1] ?_
 refine af (t:=112) (v:=.bool false) rfl (congrArg Value.bool ((TY MZ).2)) (g_ [14] ?_)
 refine gH H ?_
 exact aa results191 rfl (⟨rfl,rfl⟩)
 refine g_ [20] ?_
 refine gH H ?_
 exact aa results191 rfl (⟨rfl,rfl⟩)
theorem HI (v:Value) (p:List ia) (hp:jh p) (s:Sg) (hs:qO p s) (H:List Ck) (hv:PV v p H):Reads prog 127 [v,.agg (mb s).toArray] H (.tuple #[.agg (doc (pD s)).toArray,.bool (pD s).isSome]):=by
 refine gC.enter func127 rfl ntmps127 rfl ?_
 intro w0 R
 have oQ:=WH hp hs
 refine gY (iV fun b3=>?_)
 refine WL.h rfl (Hd.alloc (zs:=[.int .i64 0,.bool false,.int .i64 0]) fa fun b4=>⟨_,rfl,?_⟩)
 refine g_ [7,407] ?_
 refine iG call191 rfl (O4 _ p hp s hs _ (hv.mono hZ)) ?_
 refine g_ [702,1009,1,100,1,701,2] ?_
 refine ag (t:=15) rfl (fun rS=>?_) (fun rS=>?_)
 refine g_ [8] ?_
 refine kJ [(0,1),(1,1),(2,1)] [.int .i64 0,.bool false,.int .i64 0] (g_ [303,5] ?_)
 refine au (s:=3) (H) results127 fa rfl rfl gO gA fc ?_
 refine ⟨?_,rfl⟩
 have sF:pD s=if s.phase=3∨s.asked=true then none else some (s.step,decide (s.phase=2),s.tr+1):=rfl
 simp_all [doc]
 refine g_ [103,4] ?_
 refine WC.cond rfl (fun pX=>?_) (fun pX=>?_)
 refine gY (kJ [(0,1),(1,1),(2,1)] [.int .i64 0,.bool false,.int .i64 0] (g_ [303,5] ?_))
 refine au (s:=3) (H) results127 fa rfl rfl gO gA fc ?_
 refine ⟨?_,rfl⟩
 have sF:pD s=if s.phase=3∨s.asked=true then none else some (s.step,decide (s.phase=2),s.tr+1):=rfl
 simp_all [doc]
 refine g_ [4,101,1,100,1,701,102,1,703] ?_
 refine ae rfl (aj (pl:=[(0,1),(1,1),(2,1)]) (zs:=[.int .i64 0,.bool false,.int .i64 0]) (parts:=[(0,.tmp 21),(1,.tmp 24),(2,.tmp 27)]) (vs:=[(0,_),(1,_),(2,_)]) (cells:=[_,_,_]) fa fa rfl rfl) ?_
 refine g_ [303,4] ?_
 refine au (s:=3) (H) results127 fa rfl rfl gO gA fc ?_
 refine ⟨?_,rfl⟩
 have sF:pD s=if s.phase=3∨s.asked=true then none else some (s.step,decide (s.phase=2),s.tr+1):=rfl
 simp_all [doc]
theorem afQ (v:Value) (p:List ia) (hp:jh p) (s:Sg) (hs:qO p s) (hn:(pD s).isSome=true) (H:List Ck) (hv:PV v p H):Reads prog 120 [v,.agg (mb s).toArray] H (.tuple #[.agg (mb (uy p s)).toArray,.int .i64 0]):=by
 refine gC.enter func120 rfl ntmps120 rfl ?_
 intro w0 R
 have tf:=hn
 unfold pD at tf
 have tg:¬(s.phase=3∨s.asked=true):=fun q=>by rw[dx q] at tf;cases tf
 obtain ⟨qI,ma,TW,Ez,tQ,TX⟩:=hs.resolve_left (fun q=>tg (.inl q.1))
 have hng:pD s=some (s.step,decide (s.phase=2),s.tr+1):=by unfold pD;rw[dp tg]
 have hq:s.step.toNat<p.length:=by omega
 have hw:Ab p s=p[s.step.toNat].wait:=Pt hq
 have oQ:=WH hp hs
 obtain ⟨b0,o0,nU,kK,T0,nB,nA,rfl,l8,hU,c0,⟨vn,rfl,_⟩,j6⟩:=hv.cell hq gB
 refine gY (iV fun b3=>?_)
 refine iS tw fun b4=>?_
 refine g_ [7,407] ?_
 refine iG call191 rfl (O4 _ p hp s hs _ (hv.mono hZ)) ?_
 refine g_ [6,702,1013,8,407] ?_
 refine iG call127 rfl (HI _ p hp s hs _ (hv.mono hZ)) ?_
 refine g_ [2] ?_
 refine af (t:=20) (v:=.agg #[.int .i64 s.step,.bool (decide (s.phase=2)),.int .i64 (s.tr+1)]) rfl (by rw[hng];rfl) ?_
 refine g_ [1] ?_
 refine WL.h rfl (Hd.alloc (zs:=[.int .i64 0,.bool false,.int .i64 0]) fa fun b7=>⟨_,rfl,?_⟩)
 refine g_ [303,7,709] ?_
 refine af (t:=23) (v:=.bool false) rfl (congrArg Value.bool (by rw[hn];rfl)) ?_
 refine g_ [6,514] ?_
 refine w_ [1002,0,1,2,1001,3,4] ?_
 refine gW 5 [4,2] rfl (Yd.indexAddr (e:=159) (s:=6) fa fa rfl rfl gz gz) fa ?_
 refine w_ [1004,6] ?_
 refine iD 7 [6] rfl (ab fa rfl (ib hU) (j6 4 gB)) ?_
 refine w_ [1002,8] ?_
 refine gD 9 ?_
 refine SO.s rfl Wt.none (bg fa rfl rfl gA ir gA (by (simp only[fC,ff,eV,fG,Nat.reduceAdd];rfl)) ⟨rfl,?_⟩)
 refine gG ?_ (hr:=by exact ig (iw [6] rfl (aw Wt.none (ab fa rfl (ib hU) (j6 4 gB))) fa) jl)
 refine w_ [1003,10] ?_
 refine gD 11 ?_
 refine SO.s rfl Wt.none (bg fa rfl rfl gA ir gA (by (simp only[fC,ff,eV,fG,Nat.reduceAdd];rfl)) ⟨rfl,?_⟩)
 refine gG ?_ (hr:=by exact ig (iw [6] rfl (aw Wt.none (ab fa rfl (ib hU) (j6 4 gB))) fa) jl)
 refine w_ [1004,12] ?_
 refine gD 13 ?_
 refine SO.s rfl Wt.none (bg fa rfl rfl gA ir gA (by (simp only[fC,ff,eV,fG,Nat.reduceAdd];rfl)) ⟨rfl,?_⟩)
 refine gG ?_
 refine gM ?_
 refine g_ [3,407,307,4] ?_
 refine au (s:=7) (H) results120 fa rfl rfl gO gA fc ?_
 refine ⟨?_,rfl⟩
 unfold uy
 rw[hw]
 rfl
theorem agL (v:Value) (p:List ia) (hp:jh p) (s:Sg) (hs:qO p s) (step:Int) (iy:Bool) (code:Int) (hc:1≤code∧code≤3) (H:List Ck) (hv:PV v p H):Reads prog 122 [v,.agg (mb s).toArray,.int .i64 step,.bool iy,.int .i64 code] H (.tuple #[.agg (mb (rD p s step iy code)).toArray,.int .i64 0]):=by
 refine gC.enter func122 rfl ntmps122 rfl ?_
 intro w0 R
 have qu:=hp.len
 refine gY (iV fun b6=>?_)
 refine iS tw fun pg=>?_
 refine g_ [6,407] ?_
 refine iG call191 rfl (O4 _ p hp s hs _ (hv.mono hZ)) ?_
 refine g_ [8,702,1018,7,705,1023,2,707,1026,7,103,1,709,1] ?_
 refine aG (t:=33) rfl (fun M3=>?_) (fun M3=>?_)
 refine g_ [18,407,307,6] ?_
 refine au (s:=7) (H) results122 fa rfl rfl gO gA fc ?_
 refine ⟨?_,rfl⟩
 unfold rD
 simp_all
 refine g_ [1,101,1,702,2] ?_
 refine ag (t:=39) rfl (fun qp=>?_) (fun qp=>?_)
 refine g_ [12,407,307,6] ?_
 refine au (s:=7) (H) results122 fa rfl rfl gO gA fc ?_
 refine ⟨?_,rfl⟩
 unfold rD
 simp_all
 refine g_ [1,100,1,701] ?_
 refine jx 39 rfl rfl rfl (Yd.Vo underlying4 rfl rfl) (g_ [4] ?_)
 refine WC.cond rfl (fun wR=>?_) (fun wR=>?_)
 refine g_ [2,407,307,6] ?_
 refine au (s:=7) (H) results122 fa rfl rfl gO gA fc ?_
 refine ⟨?_,rfl⟩
 unfold rD
 simp_all
 have jB:0≤s.step∧s.step<p.length:=by
   rcases hs with ⟨_,_,_,q⟩|⟨_,q1,q2,_⟩
   · rw[q] at M3;cases M3
   exact ⟨q1,q2⟩
 refine g_ [6] ?_
 refine WC.cond rfl (fun lN=>?_) (fun lN=>?_)
 refine g_ [3,407,1] ?_
 refine jv call193 rfl (ag4 _ p gz s jB code _ (hv.mono hZ)) ?_
 refine g_ [307,6] ?_
 refine au (s:=7) (H) results122 fa rfl rfl gO gA fc ?_
 refine ⟨?_,rfl⟩
 unfold rD
 simp_all
 refine g_ [6,407,1] ?_
 refine jv call194 rfl (agb _ p gz s jB code _ (hv.mono hZ)) ?_
 refine g_ [307,4] ?_
 refine au (s:=7) (H) results122 fa rfl rfl gO gA fc ?_
 refine ⟨?_,rfl⟩
 unfold rD
 simp_all
theorem yR (v:Value) (x:List (BitVec 8)) (H:List Ck) (hv:Bs v x H) (hl:x.length≤1000):gC prog 118 [v] H fun r gr=>∃C,Bs r x C∧gr=C++H:=by
 refine gC.enter func118 rfl ntmps118 rfl ?_
 intro w0 R
 obtain ⟨vo,vc,rfl,xk⟩:=hv.form
 have Nw:vo=none→x=[]:=by
   rintro rfl
   rcases hv with ⟨_,_,e,h0,_⟩|⟨b,o,cap,cs,T,fr,ex,e,_⟩
   · exact dU h0
   cases e
 refine g_ [9] ?_
 refine ae rfl (cI underlying68 rfl rfl) (qb (WC.cond rfl (fun h4=>?_) (fun h4=>?_)))
 refine g_ [7] ?_
 refine aa results118 rfl ?_
 have e0:x=[]:=Nw (by simpa using h4)
 subst e0
 exact ⟨[],.inl ⟨_,_,rfl,rfl,rfl⟩,rfl⟩
 refine g_ [4] ?_
 refine WL.h rfl (aU (e:=5) [] fa fa fa rfl rfl fa fun b5=>⟨_,rfl,?_⟩)
 refine g_ [1] ?_
 refine WL.h rfl (aZ (e:=5) (zs:=[.int .u8 0]) fa fa rfl rfl rfl (Ob.block b5 [] (by simp)) fc (hv.mono hZ) (by simp;omega) fun v7 C7 zx=>⟨_,rfl,?_⟩)
 refine g_ [4] ?_
 refine aa results118 rfl ?_
 rw[eC] at zx
 exact ⟨C7,zx.bs,rfl⟩
theorem FT (p o:Nat) (cells:List Value) (T:TypeId) (v:Int) (hc:cells[o]?=some (.int .i64 v)) (H:List Ck):gC prog 117 [.pointer (some ⟨p,o,none⟩),.int .i64 1] (row p cells T::H) fun r gr=>∃iJ,r=.int .i64 iJ∧gr=row p (cells.set o (.int .i64 iJ)) T::H:=by
 refine gC.enter func117 rfl ntmps117 rfl ?_
 intro w0 R
 refine g_ [9,100,1] ?_
 refine WL.h rfl (Hd.YA (kd:=.i64) func190 fa fa fa fa rfl rfl ir hc ⟨_,rfl,?_⟩)
 refine g_ [4] ?_
 exact aa results117 rfl (⟨_,rfl,rfl⟩)
theorem Vd (v:Value) (p:List ia) (H:List Ck) (hv:PV v p H) (hl:p.length≤1000) (hn:∀x∈p,x.name.length≤1000):gC prog 125 [v] H fun r gr=>∃A,PV r p A∧gr=A++H:=by
 refine gC.enter func125 rfl ntmps125 rfl ?_
 intro w0 R
 obtain ⟨ao,ac,rfl,_⟩:=hv.form
 refine g_ [14,710,159,4] ?_
 refine aC (fun z:Nat×Value×List Value×List Ck×List Ck=>z.1≤p.length∧il z.2.1 z.1 z.2.2.1 159 6 z.2.2.2.1∧VL xB z.2.2.2.2 z.2.2.1 (p.take z.1)) (fun z:Nat×Value×List Value×List Ck×List Ck=>[(3,z.2.1),(8,.int .i64 (z.1:Int))]) (fun z:Nat×Value×List Value×List Ck×List Ck=>z.2.2.2.1++(z.2.2.2.2++H)) (fun z:Nat×Value×List Value×List Ck×List Ck=>p.length-z.1) (⟨0,.slice none 0 0,[],[],[]⟩) (show 0≤p.length∧il (.slice none 0 0) 0 [] 159 6 []∧VL xB [] [] (p.take 0) from ⟨dN _,il.nil _ _,.nil⟩) (Sx.put rfl (Sx.put rfl (gL))) fc ?_
 rintro ⟨i,u,cells,Ca,Cb⟩ hI
 replace hI:i≤p.length∧il u i cells 159 6 Ca∧VL xB Cb cells (p.take i):=hI
 obtain ⟨hi,hO,hV⟩:=hI
 change WC _ _ _ _ _ _ ([(3,u),(8,.int .i64 (i:Int))]++_) (Ca++(Cb++H))
 obtain ⟨uo,uc,rfl,_⟩:=hO.form
 refine g_ [2,705,3] ?_
 refine gK rfl (fun h9=>?_) fun h9=>?_
 have gQ:i<p.length:=by omega
 obtain ⟨b0,o0,nU,kK,T0,nB,nA,ie,l8,hU,c0,⟨vn,rfl,rj⟩,ja⟩:=hv.rowAt gQ gB
 simp only[dI,eD] at ie
 obtain ⟨rfl,rfl⟩:=ie
 obtain ⟨no,nc,rfl,_⟩:=rj.form
 have mv:=hn _ (dG gQ)
 have kE:p.take (i+1)=p.take i++[p[i]]:=dJ gQ
 have qF:=hO.len
 refine g_ [6,711,159,6] ?_
 refine WL.h rfl (aJ (n:=6) (vs:=kA p[i] (.slice no p[i].name.length nc)) fa rfl (ib hU) rfl (by rw[show o0+((i:Int)).toNat*6=o0+i*6 by omega];exact ja) ⟨_,rfl,?_⟩)
 refine iS vy fun b5=>?_
 refine g_ [306,4] ?_
 refine WL.h rfl (aU (e:=5) [] fa fa fa rfl rfl fa fun Is=>⟨_,rfl,?_⟩)
 refine g_ [100,102,1] ?_
 refine WL.h rfl (aZ (e:=5) (zs:=[.int .u8 0]) fa fa rfl rfl rfl (Ob.block Is [] (by simp)) fc (rj.mono hZ) (by simp;omega) fun v16 PX Nz=>⟨_,rfl,?_⟩)
 rw[eC] at Nz
 obtain ⟨wo,wc,rfl,_⟩:=Nz.form
 refine g_ [100,102,5] ?_
 refine WL.h rfl (aF (n:=6) (cs:=kA p[i] (.slice wo p[i].name.length wc)) fa rfl gO rfl ⟨_,rfl,?_⟩)
 refine WL.h rfl (aX (e:=159) (sz:=6) (zs:=vy) (vs:=kA p[i] (.slice wo p[i].name.length wc)) fa fa fa rfl rfl rfl fa fun La=>⟨_,rfl,?_⟩)
 refine WL.h rfl (aT (e:=159) (sz:=6) (bytes:=64) (zs:=vy) fa fa rfl gz rfl rfl (hO) fc gO gA qd (by simp only[maxLen];omega) gz fun v22 Fy kS=>⟨_,rfl,?_⟩)
 refine g_ [5,703,2] ?_
 exact ai (⟨i+1,v22,cells++kA p[i] (.slice wo p[i].name.length wc),Fy,Cb++PX⟩) (show (i+1)≤p.length∧il v22 (i+1) (cells++kA p[i] (.slice wo p[i].name.length wc)) 159 6 Fy∧VL xB (Cb++PX) (cells++kA p[i] (.slice wo p[i].name.length wc)) (p.take (i+1)) from ⟨by omega,kS,by rw[kE];exact (hV.mono fun c hc=>dw _ hc).append (VL.one (E:=xB) ⟨_,rfl,Nz.bs.mono fun c hc=>dq _ hc⟩)⟩) (show p.length-(i+1)<p.length-i by omega) (Sx.put rfl (Sx.put rfl (gL))) fc
 have lY:i=p.length:=by omega
 subst lY
 rw[eH] at hV
 refine g_ [12] ?_
 refine gH ((Ca++Cb)++H) ?_
 exact aa results125 rfl (⟨_,⟨cells,hO.rs.mono fun c hc=>dw _ hc,hV.mono fun c hc=>dq _ hc⟩,rfl⟩)
theorem aek (vo:Option Addr) (n cap:Nat) (v:Value) (H:List Ck) (hv:Bs v [] H):Reads prog 192 [.agg #[.slice vo n cap],v] H (.pointer none):=by
 refine gC.enter func192 rfl ntmps192 rfl ?_
 intro w0 R
 obtain ⟨dO,dC,rfl,_⟩:=hv.form
 refine gY (iV fun b2=>?_)
 refine g_ [5,513] ?_
 refine w_ [0,3005,1,1001,2] ?_
 refine az (v:=.bool true) (congrArg Value.bool gA) ?_
 refine w_ [3,4,5,6,7,8,9,10,11,12] ?_
 refine gM ?_
 refine g_ [9] ?_
 refine gH H ?_
 exact aa results192 rfl (⟨rfl,rfl⟩)
theorem aej (vo:Option Addr) (n cap:Nat) (b:BitVec 8) (d:List (BitVec 8)) (hb:n≤b.toNat) (v:Value) (H:List Ck) (hv:Bs v (b::d) H):Reads prog 192 [.agg #[.slice vo n cap],v] H (.pointer none):=by
 refine gC.enter func192 rfl ntmps192 rfl ?_
 intro w0 R
 obtain ⟨dO,dC,rfl,_⟩:=hv.form
 obtain ⟨b1,o1,lV,T1,ra,qY,rfl,kM,lX⟩:=Rs.at hv (by simp[bc])
 have j6:lV[o1]?=some (.int .u8 b.toNat):=lX 0 _ gA
 refine gY (iV fun b2=>?_)
 refine g_ [5,513] ?_
 refine w_ [0,3005,1,1001,2] ?_
 refine lL (by rw[dF];omega) ?_
 refine w_ [3,4] ?_
 refine jP 5 [4,3] 8 rfl rfl (Yd.indexAddr (e:=5) (s:=1) fa fa rfl rfl gz (by rw[dF];omega)) fa ?_
 refine ki 6 [5,3] 8 rfl rfl rfl (ab (cs:=lV.toList) fa rfl (ib kM) (by simpa using j6)) ?_
 refine jP 7 [6,3] 8 rfl rfl (cj _ fa fa rfl rfl) fa ?_
 refine w_ [1000,8,9,3305,10,1008,11,9002,12] ?_
 refine gM ?_
 refine g_ [9] ?_
 refine gH H ?_
 exact aa results192 rfl (⟨rfl,rfl⟩)
theorem ael (n cap:Nat) (b:BitVec 8) (d:List (BitVec 8)) (hb:b.toNat<n) (q b0 o0:Nat) (cs:List Value) (T:TypeId) (fr:Nat×Nat) (ex:Bool) (v:Value) (H:List Ck) (hm:(⟨b0,.cells cs.toArray T fr,ex⟩:Ck)∈H) (hq:cs[o0+b.toNat]?=some (ptr q)) (hv:Bs v (b::d) H):Reads prog 192 [.agg #[.slice (some ⟨b0,o0,none⟩) n cap],v] H (ptr q):=by
 refine gC.enter func192 rfl ntmps192 rfl ?_
 intro w0 R
 obtain ⟨dO,dC,rfl,_⟩:=hv.form
 obtain ⟨b1,o1,lV,T1,ra,qY,rfl,kM,lX⟩:=Rs.at hv (by simp[bc])
 have j6:lV[o1]?=some (.int .u8 b.toNat):=lX 0 _ gA
 refine gY (iV fun b2=>?_)
 refine g_ [5,513] ?_
 refine w_ [0,3005,1,1001,2] ?_
 refine lL (by rw[dF];omega) ?_
 refine w_ [3,4] ?_
 refine jP 5 [4,3] 8 rfl rfl (Yd.indexAddr (e:=5) (s:=1) fa fa rfl rfl gz (by rw[dF];omega)) fa ?_
 refine ki 6 [5,3] 8 rfl rfl rfl (ab (cs:=lV.toList) fa rfl (ib kM) (by simpa using j6)) ?_
 refine jP 7 [6,3] 8 rfl rfl (cj _ fa fa rfl rfl) fa ?_
 refine w_ [1000,8,9,3305,10,1008,11,9001,12] ?_
 refine gM ?_
 refine g_ [5,508] ?_
 refine w_ [1000,0,1,2] ?_
 refine gW 3 [2] rfl (Yd.indexAddr (e:=5) (s:=1) fa fa rfl rfl gz (by rw[dF];omega)) fa ?_
 refine iD 4 [3] rfl (ab (cs:=lV.toList) fa rfl (ib kM) (by simpa using j6)) ?_
 refine gW 5 [4,1] rfl (Yd.indexAddr (e:=305) (s:=1) fa fa rfl rfl gz gz) fa ?_
 refine iD 6 [5] rfl (ab (cs:=cs) fa rfl (ib hm) (by rw[show o0+((b.toNat:Int)).toNat*1=o0+b.toNat by omega];exact hq)) ?_
 refine gD 7 ?_
 refine jm ?_
 refine gG ?_
 refine gM ?_
 refine g_ [2] ?_
 refine gH H ?_
 exact aa results192 rfl (⟨rfl,rfl⟩)
theorem aef (vo:Option Addr) (n cap:Nat) (v:Value) (H:List Ck) (hv:Bs v [] H):Reads prog 121 [.agg #[.slice vo n cap],v] H (.slice none 0 0):=by
 refine gC.enter func121 rfl ntmps121 rfl ?_
 intro w0 R
 refine gY (iV fun b2=>?_)
 refine g_ [6,401,1] ?_
 refine iG call192 rfl (aek vo n cap _ _ (hv.mono hZ)) ?_
 refine g_ [6] ?_
 refine ae rfl (aK underlying305 rfl rfl) (g_ [1010,11] ?_)
 refine gH H ?_
 exact aa results121 rfl (⟨rfl,rfl⟩)
theorem aee (vo:Option Addr) (n cap:Nat) (b:BitVec 8) (d:List (BitVec 8)) (hb:n≤b.toNat) (v:Value) (H:List Ck) (hv:Bs v (b::d) H):Reads prog 121 [.agg #[.slice vo n cap],v] H (.slice none 0 0):=by
 refine gC.enter func121 rfl ntmps121 rfl ?_
 intro w0 R
 refine gY (iV fun b2=>?_)
 refine g_ [6,401,1] ?_
 refine iG call192 rfl (aej vo n cap b d hb _ _ (hv.mono hZ)) ?_
 refine g_ [6] ?_
 refine ae rfl (aK underlying305 rfl rfl) (g_ [1010,11] ?_)
 refine gH H ?_
 exact aa results121 rfl (⟨rfl,rfl⟩)
theorem aeg (n cap:Nat) (b:BitVec 8) (d:List (BitVec 8)) (hb:b.toNat<n) (q b0 o0:Nat) (cs:List Value) (T:TypeId) (fr:Nat×Nat) (ex:Bool) (u:Value) (T2:TypeId) (sr:Nat×Nat) (nW:Bool) (v:Value) (H:List Ck) (hm:(⟨b0,.cells cs.toArray T fr,ex⟩:Ck)∈H) (hq:cs[o0+b.toNat]?=some (ptr q)) (kD:(⟨q,.cells (Fc u).toArray T2 sr,nW⟩:Ck)∈H) (hv:Bs v (b::d) H):Reads prog 121 [.agg #[.slice (some ⟨b0,o0,none⟩) n cap],v] H u:=by
 refine gC.enter func121 rfl ntmps121 rfl ?_
 intro w0 R
 refine gY (iV fun b2=>?_)
 refine g_ [6,401,1] ?_
 refine iG call192 rfl (ael n cap b d hb q b0 o0 cs T fr ex _ _ (ib hm) hq (hv.mono hZ)) ?_
 refine g_ [6] ?_
 refine ae rfl (aK underlying305 rfl rfl) (g_ [2010,7,100] ?_)
 refine WL.h rfl (ak (cs:=Fc u) fa rfl (ib kD) gA ⟨_,rfl,?_⟩)
 refine g_ [5] ?_
 refine gH H ?_
 exact aa results121 rfl (⟨rfl,rfl⟩)
theorem zO (ao:Option Addr) (cap:Nat) (ps:List (List ia)) (d:List (BitVec 8)) (u:Value) (v:Value) (H:List Ck) (ho:yK (.slice ao ps.length cap) ps d u H) (hv:Bs v d H):Reads prog 121 [.agg #[.slice ao ps.length cap],v] H u:=by
  rcases ho with ⟨_,rfl|⟨b,vM,rfl,hb⟩,rfl⟩|⟨_,b,vM,q,b0,o0,sS,cs,T,fr,ex,gV,BY,BW,rfl,hb,he,hm,hq,kD,_⟩
  · exact aef _ _ _ _ _ hv
  · exact aee _ _ _ b vM hb _ _ hv
  simp only[dI,eD] at he
  obtain ⟨rfl,rfl⟩:=he
  exact aeg _ _ b vM hb q b0 o0 cs T fr ex u gV BY BW _ _ hm hq kD hv
theorem aea (p:Nat) (vp:Value) (ao:Option Addr) (k cap bm:Nat) (last:BitVec 64) (ep:BitVec 32) (mode jg nt:Int) (T:TypeId) (fr:Nat×Nat) (ex:Bool) (H:List Ck) (hU:(⟨p,.cells [vp,.slice ao k cap,.map (some bm),.int .u64 last.toNat,.int .u32 ep.toNat,.int .i64 mode,.int .i64 jg,.int .i64 nt].toArray T fr,ex⟩:Ck)∈H):Reads prog 66 [ptr p] H (.int .u64 last.toNat):=by
 refine gC.enter func66 rfl ntmps66 rfl ?_
 intro w0 R
 refine gY (ae rfl (Yd.assign (v:=.int .u64 ((0#64).toNat:Int)) rfl) (g_ [6] ?_))
 refine ae rfl (an underlying110 rfl rfl) (g_ [1004,9,103] ?_)
 refine WL.h rfl (ak (cs:=[vp,.slice ao k cap,.map (some bm),.int .u64 last.toNat,.int .u32 ep.toNat,.int .i64 mode,.int .i64 jg,.int .i64 nt]) fa rfl (ib hU) gA ⟨_,rfl,?_⟩)
 refine g_ [4] ?_
 refine gH H ?_
 exact aa results66 rfl (⟨rfl,rfl⟩)
theorem aeh (p:Nat) (vp:Value) (ao:Option Addr) (k cap bm:Nat) (last:BitVec 64) (ep:BitVec 32) (mode jg nt:Int) (T:TypeId) (fr:Nat×Nat) (ex:Bool) (H:List Ck) (hU:(⟨p,.cells [vp,.slice ao k cap,.map (some bm),.int .u64 last.toNat,.int .u32 ep.toNat,.int .i64 mode,.int .i64 jg,.int .i64 nt].toArray T fr,ex⟩:Ck)∈H):Reads prog 39 [ptr p] H (.int .i64 (k:Int)):=by
 refine gC.enter func39 rfl ntmps39 rfl ?_
 intro w0 R
 refine g_ [9] ?_
 refine ae rfl (an underlying110 rfl rfl) (g_ [1004,9,101] ?_)
 refine WL.h rfl (ak (cs:=[vp,.slice ao k cap,.map (some bm),.int .u64 last.toNat,.int .u32 ep.toNat,.int .i64 mode,.int .i64 jg,.int .i64 nt]) fa rfl (ib hU) gA ⟨_,rfl,?_⟩)
 refine g_ [710,185,4] ?_
 refine gH H ?_
 exact aa results39 rfl (⟨rfl,rfl⟩)
theorem adY (p:Nat) (vp:Value) (ao:Option Addr) (k cap bm:Nat) (last:BitVec 64) (ep:BitVec 32) (mode jg nt:Int) (T:TypeId) (fr:Nat×Nat) (ex:Bool) (H:List Ck) (hU:(⟨p,.cells [vp,.slice ao k cap,.map (some bm),.int .u64 last.toNat,.int .u32 ep.toNat,.int .i64 mode,.int .i64 jg,.int .i64 nt].toArray T fr,ex⟩:Ck)∈H) (n:BitVec 32) (hn:n=0#32∨k<n.toNat):Reads prog 65 [ptr p,.int .u32 n.toNat] H (.pointer none):=by
 refine gC.enter func65 rfl ntmps65 rfl ?_
 intro w0 R
 refine g_ [9] ?_
 refine ae rfl (an underlying110 rfl rfl) (g_ [1006,2] ?_)
 refine jx 7 rfl rfl rfl (aD _ (0#32) rfl rfl rfl rfl) (g_ [2] ?_)
 refine ag (t:=11) rfl (fun Jd=>?_) (fun Jd=>?_)
 refine g_ [19] ?_
 refine gH H ?_
 exact aa results65 rfl (⟨rfl,rfl⟩)
 refine g_ [1] ?_
 refine jx 11 rfl rfl rfl (bS _ fa fa rfl rfl) ?_
 refine g_ [2,101] ?_
 refine aS (dj:=11) rfl rfl rfl (ak (cs:=[vp,.slice ao k cap,.map (some bm),.int .u64 last.toNat,.int .u32 ep.toNat,.int .i64 mode,.int .i64 jg,.int .i64 nt]) fa rfl (ib hU) gA ⟨_,rfl,?_⟩)
 refine g_ [710,185,707] ?_
 refine kl 19 rfl (by rcases hn with q|q<;>first|exact absurd q Jd|omega) ?_
 refine g_ [11] ?_
 refine gH H ?_
 exact aa results65 rfl (⟨rfl,rfl⟩)
theorem xt (p:Nat) (vp:Value) (b o:Nat) (k cap bm:Nat) (last:BitVec 64) (ep:BitVec 32) (mode jg nt:Int) (T:TypeId) (fr:Nat×Nat) (ex:Bool) (H:List Ck) (hU:(⟨p,.cells [vp,.slice (some ⟨b,o,none⟩) k cap,.map (some bm),.int .u64 last.toNat,.int .u32 ep.toNat,.int .i64 mode,.int .i64 jg,.int .i64 nt].toArray T fr,ex⟩:Ck)∈H) (n:BitVec 32) (hn:1≤n.toNat∧n.toNat≤k):Reads prog 65 [ptr p,.int .u32 n.toNat] H (.pointer (some ⟨b,o+(n.toNat-1)*11,none⟩)):=by
 refine gC.enter func65 rfl ntmps65 rfl ?_
 intro w0 R
 have tf:n≠0#32:=fun e=>by rw[e] at hn;exact absurd hn.1 gB
 have Z0:(n-1#32).toNat=n.toNat-1:=fx (by rw[gq];show 1≤_;omega)
 refine g_ [9] ?_
 refine ae rfl (an underlying110 rfl rfl) (g_ [1006,2] ?_)
 refine jx 7 rfl rfl rfl (aD _ (0#32) rfl rfl rfl rfl) (j8 9 rfl tf (g_ [3] ?_))
 refine jx 11 rfl rfl rfl (bS _ fa fa rfl rfl) ?_
 refine g_ [2,101] ?_
 refine aS (dj:=11) rfl rfl rfl (ak (cs:=[vp,.slice (some ⟨b,o,none⟩) k cap,.map (some bm),.int .u64 last.toNat,.int .u32 ep.toNat,.int .i64 mode,.int .i64 jg,.int .i64 nt]) fa rfl (ib hU) gA ⟨_,rfl,?_⟩)
 refine g_ [710,185,707,1019,10,101] ?_
 refine WL.h rfl (ak (cs:=[vp,.slice (some ⟨b,o,none⟩) k cap,.map (some bm),.int .u64 last.toNat,.int .u32 ep.toNat,.int .i64 mode,.int .i64 jg,.int .i64 nt]) fa rfl (ib hU) gA ⟨_,rfl,?_⟩)
 refine g_ [1] ?_
 refine ae rfl (cN _ (1#32) rfl rfl rfl rfl) (af (t:=26) (v:=.int .u32 ((n.toNat-1:Nat):Int)) rfl (by rw[Z0]) ?_)
 refine g_ [711,185,11,4] ?_
 refine gH H ?_
 exact aa results65 rfl (⟨rfl,rfl⟩)
theorem afO (a c gX tC:Int) (b oJ:Bool):tE [0,2,0] [.int .i64 a,.bool b,.int .i64 c] [.int .i64 gX,.bool oJ,.int .i64 tC]=some (decide ((a,b,c)=(gX,oJ,tC))):=by
  simp only[tE,yQ,if_true,Option.bind_some,Option.map_some,ew]
  rw[dM]
  simp
theorem RF (x:Option (Int×Bool×Int)):∃a b c,doc x=[.int .i64 a,.bool b,.int .i64 c]∧(x.isSome=true→x=some (a,b,c)):=by
  cases x with
  |none=>exact ⟨_,_,_,rfl,fun h=>by cases h⟩
  |some x=>obtain ⟨a,b,c⟩:=x;exact ⟨a,b,c,rfl,fun _=>rfl⟩
theorem ad4 (p:Nat) (ps:List (List ia)) (gN:∀q∈ps,jh q) (L:Ld) (hL:l4 ps L) (e:En) (he:tG e) (vk vd:Value) (H:List Ck) (hv:mN p ps L H) (hk:Bs vk e.key H) (hd:Bs vd e.data H) (ho:jC L e.order=none):Reads prog 107 [ptr p,.agg (enc e vk vd).toArray] H (.bool (kC ps L e)):=by
 refine gC.enter func107 rfl ntmps107 rfl ?_
 intro w0 R
 have rV:∀q∈ps,q≠[]:=fun q hq e0=>by have:=(gN q hq).len.1;rw[e0] at this;exact absurd this gB
 have hs:=tG.qP he
 have Ni:=hs.kind
 have sE:=hL.many
 obtain ⟨vp,vo,bm,lb,eb,mode,jg,nt,T9,kr,km,hU,rU,s7,hO,hR,hM⟩:=hv
 obtain ⟨u,hu⟩:=RV.of hR rV e.data
 obtain ⟨uo,un,uc,rfl,huo⟩:=hu.form
 obtain ⟨ko,kc,rfl,_⟩:=hk.form
 obtain ⟨eo,ec,rfl,_⟩:=hd.form
 obtain ⟨ao,ac,rfl,_⟩:=VS.Hx hO
 obtain ⟨po,pc,rfl,_⟩:=VS.form hR
 refine gY (iV fun b3=>?_)
 refine g_ [6,103,1] ?_
 refine iG call65 rfl (adY p _ ao L.l.length ac bm lb eb mode jg nt T9 kr km _ (ib hU) e.order (aec ho)) ?_
 refine g_ [6,100,6,701,3] ?_
 refine gK rfl (fun mr=>?_) fun mr=>?_
 refine g_ [1,513] ?_
 refine w_ [0,1,1002,2] ?_
 refine iD 3 [2] rfl (ab (cs:=j0 (.slice po ps.length pc) (.slice ao L.l.length ac) bm lb eb mode jg nt) fa rfl (ib hU) gA) ?_
 refine w_ [1009,4,5] ?_
 refine gD 6 ?_
 refine SO.h rfl Wt.none rfl (aM (e:=5) (bs:=e.key) fa fa underlying9 rfl (hk.mono hZ) ⟨_,rfl,?_⟩)
 refine gG ?_ (hr:=by exact ig (iw [2] rfl (aw Wt.none (ab (cs:=j0 (.slice po ps.length pc) (.slice ao L.l.length ac) bm lb eb mode jg nt) fa rfl (ib hU) gA)) fa) jl)
 refine gD 7 ?_
 refine SO.h rfl Wt.none rfl (cA (KT:=9) (ET:=38) (TD:=.string) (n:=str e.key) (m:=mJ L.l) (z:=.int .u32 0) fa underlying9 rfl fa rfl rfl (hM.mono hZ) rfl ⟨_,rfl,?_⟩)
 refine gG ?_
 refine w_ [8,9,10,11,12] ?_
 refine gM ?_
 refine g_ [2,533] ?_
 refine w_ [1003,0,1] ?_
 refine gW 2 [1] rfl (bS _ fa fa rfl rfl) fa ?_
 refine w_ [3,4,1001,5] ?_
 refine iD 6 [5] rfl (ab (cs:=j0 (.slice po ps.length pc) (.slice ao L.l.length ac) bm lb eb mode jg nt) fa rfl (ib hU) gA) ?_
 refine w_ [3185,7,1003,8,1001,9,10] ?_
 refine aW (fun qp=>?_) (fun qp=>?_)
 refine w_ [11,12,1001,13] ?_
 refine ki 14 [13,10] 39 rfl rfl rfl (ab (cs:=j0 (.slice po ps.length pc) (.slice ao L.l.length ac) bm lb eb mode jg nt) fa rfl (ib hU) gA) ?_
 refine w_ [3185,15,1005,16,17,18] ?_
 refine aW (fun M6=>?_) (fun M6=>?_)
 refine w_ [19,1009,20,21,22] ?_
 refine bR (fun mV=>?_) (fun mV=>?_)
 refine w_ [23,24,1000,25] ?_
 refine ki 26 [25,22] 51 rfl rfl rfl (aE (n:=1) (vs:=[.slice po ps.length pc]) fa rfl (ib hU) rfl gA) ?_
 refine w_ [1010,27,28] ?_
 refine ny (iw (i:=29) [28,26,22] rfl (aO (aP (dj:=51) rfl rfl) (iE.func call121 rfl) (zO po pc ps e.data (.slice uo un uc) _ _ (hu.mono hZ) (hd.mono hZ)) ax) fa) fa ?_
 refine jP 30 [29,22] 51 rfl rfl (de underlying161 rfl rfl) fa ?_
 refine w_ [31] ?_
 refine gD 32 ?_
 refine jm ?_
 refine gG ?_
 refine gM ?_
 refine g_ [4] ?_
 refine gH H ?_
 refine aa results107 rfl (⟨?_,rfl⟩)
 congr 1
 unfold kC
 focus (simp_all;done)
 refine w_ [23,24,25,26,27,28,29,30,31] ?_
 refine gD 32 ?_
 refine jm ?_
 refine gG ?_
 refine gM ?_
 refine g_ [4] ?_
 refine gH H ?_
 refine aa results107 rfl (⟨?_,rfl⟩)
 congr 1
 unfold kC
 focus (simp_all;done)
 refine w_ [19,20,21,22,23,24,25,26,27,28,29,30,31] ?_
 refine gD 32 ?_
 refine jm ?_
 refine gG ?_
 refine gM ?_
 refine g_ [4] ?_
 refine gH H ?_
 refine aa results107 rfl (⟨?_,rfl⟩)
 congr 1
 unfold kC
 focus (simp_all;omega)
 refine w_ [11,12,13,14,15,16,17,18,19,20,21,22,23,24,25,26,27,28,29,30,31] ?_
 refine gD 32 ?_
 refine jm ?_
 refine gG ?_
 refine gM ?_
 refine g_ [4] ?_
 refine gH H ?_
 refine aa results107 rfl (⟨?_,rfl⟩)
 congr 1
 unfold kC
 focus (simp_all;done)
 refine g_ [2,701,3] ?_
 refine gK rfl (fun B1=>?_) fun B1=>?_
 refine g_ [4] ?_
 refine ae rfl (an underlying186 rfl rfl) (g_ [2064,12] ?_)
 refine gH H ?_
 refine aa results107 rfl (⟨?_,rfl⟩)
 congr 1
 unfold kC
 focus (simp_all;done)
 refine g_ [2,701,3] ?_
 refine gK rfl (fun L5=>?_) fun L5=>?_
 refine g_ [1,545] ?_
 refine w_ [0] ?_
 refine gW 1 [0] rfl (aK underlying186 rfl rfl) fa ?_
 refine w_ [9001,2,3,4,5,6,7,8,9,10,11,12,13,14,15,16,17,18,19,20,21,22,23,24,25,26,27,28,29,30,31,32,33,34,35,36,37,38,39,40,41,42,43] ?_
 refine gD 44 ?_
 refine jm ?_
 refine gG ?_
 refine gM ?_
 refine g_ [4] ?_
 refine gH H ?_
 refine aa results107 rfl (⟨?_,rfl⟩)
 congr 1
 unfold kC
 focus (simp_all;done)
 refine g_ [2,701,3] ?_
 refine gK rfl (fun LS=>?_) fun LS=>?_
 refine g_ [1,530] ?_
 refine w_ [0] ?_
 refine gW 1 [0] rfl (aK underlying186 rfl rfl) fa ?_
 refine w_ [9001,2,3,4,5,6,7,8,9,10,11,12,13,14,15,16,17,18,19,20,21,22,23,24,25,26,27,28] ?_
 refine gD 29 ?_
 refine jm ?_
 refine gG ?_
 refine gM ?_
 refine g_ [4] ?_
 refine gH H ?_
 refine aa results107 rfl (⟨?_,rfl⟩)
 congr 1
 unfold kC
 focus (simp_all;done)
 refine g_ [9] ?_
 refine gH H ?_
 refine aa results107 rfl (⟨?_,rfl⟩)
 congr 1
 unfold kC
 focus (simp_all;done)
theorem ad6 (p:Nat) (ps:List (List ia)) (gN:∀q∈ps,jh q) (L:Ld) (hL:l4 ps L) (e:En) (he:tG e) (vk vd:Value) (H:List Ck) (hv:mN p ps L H) (hk:Bs vk e.key H) (hd:Bs vd e.data H) (o:Lo) (ho:jC L e.order=some o):Reads prog 107 [ptr p,.agg (enc e vk vd).toArray] H (.bool (kC ps L e)):=by
 refine gC.enter func107 rfl ntmps107 rfl ?_
 intro w0 R
 have rV:∀q∈ps,q≠[]:=fun q hq e0=>by have:=(gN q hq).len.1;rw[e0] at this;exact absurd this gB
 have hs:=tG.qP he
 have Ni:=hs.kind
 have sE:=hL.many
 obtain ⟨vp,vo,bm,lb,eb,mode,jg,nt,T9,kr,km,hU,rU,s7,hO,hR,hM⟩:=hv
 obtain ⟨u,hu⟩:=RV.of hR rV e.data
 obtain ⟨uo,un,uc,rfl,huo⟩:=hu.form
 obtain ⟨ko,kc,rfl,_⟩:=hk.form
 obtain ⟨eo,ec,rfl,_⟩:=hd.form
 obtain ⟨b0,o0,ac,kK,T0,nB,nA,wk,wd,rfl,_,kh,jd,kf,j6,mH,mW⟩:=hO.order ho
 obtain ⟨u2,nv⟩:=RV.of hR rV o.data
 obtain ⟨wo,wc,rfl,_⟩:=kf.form
 obtain ⟨qu,oB,_⟩:=hL.one o (qN ho).2.2
 obtain ⟨da,db,dc,MN,To⟩:=RF (pD o.sg)
 obtain ⟨po,pc,rfl,_⟩:=VS.form hR
 refine gY (iV fun b3=>?_)
 refine g_ [6,103,1] ?_
 refine iG call65 rfl (xt p _ b0 o0 L.l.length ac bm lb eb mode jg nt T9 kr km _ (ib hU) e.order ⟨mH,mW⟩) ?_
 refine g_ [6,100,6,701,3] ?_
 refine gK rfl (fun mr=>?_) fun mr=>?_
 refine g_ [1,513] ?_
 refine w_ [0,1,1002,2] ?_
 refine iD 3 [2] rfl (ab (cs:=j0 (.slice po ps.length pc) (.slice (some ⟨b0,o0,none⟩) L.l.length ac) bm lb eb mode jg nt) fa rfl (ib hU) gA) ?_
 refine w_ [1009,4,5] ?_
 refine gD 6 ?_
 refine SO.h rfl Wt.none rfl (aM (e:=5) (bs:=e.key) fa fa underlying9 rfl (hk.mono hZ) ⟨_,rfl,?_⟩)
 refine gG ?_ (hr:=by exact ig (iw [2] rfl (aw Wt.none (ab (cs:=j0 (.slice po ps.length pc) (.slice (some ⟨b0,o0,none⟩) L.l.length ac) bm lb eb mode jg nt) fa rfl (ib hU) gA)) fa) jl)
 refine gD 7 ?_
 refine SO.h rfl Wt.none rfl (cA (KT:=9) (ET:=38) (TD:=.string) (n:=str e.key) (m:=mJ L.l) (z:=.int .u32 0) fa underlying9 rfl fa rfl rfl (hM.mono hZ) rfl ⟨_,rfl,?_⟩)
 refine gG ?_
 refine w_ [8,9,10,11,12] ?_
 refine gM ?_
 refine g_ [2,533] ?_
 refine w_ [1003,0,1] ?_
 refine gW 2 [1] rfl (bS _ fa fa rfl rfl) fa ?_
 refine w_ [3,4,1001,5] ?_
 refine iD 6 [5] rfl (ab (cs:=j0 (.slice po ps.length pc) (.slice (some ⟨b0,o0,none⟩) L.l.length ac) bm lb eb mode jg nt) fa rfl (ib hU) gA) ?_
 refine w_ [3185,7,1003,8,1001,9,10] ?_
 refine aW (fun qp=>?_) (fun qp=>?_)
 refine w_ [11,12,1001,13] ?_
 refine ki 14 [13,10] 39 rfl rfl rfl (ab (cs:=j0 (.slice po ps.length pc) (.slice (some ⟨b0,o0,none⟩) L.l.length ac) bm lb eb mode jg nt) fa rfl (ib hU) gA) ?_
 refine w_ [3185,15,1005,16,17,18] ?_
 refine aW (fun M6=>?_) (fun M6=>?_)
 refine w_ [19,1009,20,21,22] ?_
 refine bR (fun mV=>?_) (fun mV=>?_)
 refine w_ [23,24,1000,25] ?_
 refine ki 26 [25,22] 51 rfl rfl rfl (aE (n:=1) (vs:=[.slice po ps.length pc]) fa rfl (ib hU) rfl gA) ?_
 refine w_ [1010,27,28] ?_
 refine ny (iw (i:=29) [28,26,22] rfl (aO (aP (dj:=51) rfl rfl) (iE.func call121 rfl) (zO po pc ps e.data (.slice uo un uc) _ _ (hu.mono hZ) (hd.mono hZ)) ax) fa) fa ?_
 refine jP 30 [29,22] 51 rfl rfl (de underlying161 rfl rfl) fa ?_
 refine w_ [31] ?_
 refine gD 32 ?_
 refine jm ?_
 refine gG ?_
 refine gM ?_
 refine g_ [4] ?_
 refine gH H ?_
 refine aa results107 rfl (⟨?_,rfl⟩)
 congr 1
 unfold kC
 focus (simp_all;done)
 refine w_ [23,24,25,26,27,28,29,30,31] ?_
 refine gD 32 ?_
 refine jm ?_
 refine gG ?_
 refine gM ?_
 refine g_ [4] ?_
 refine gH H ?_
 refine aa results107 rfl (⟨?_,rfl⟩)
 congr 1
 unfold kC
 focus (simp_all;done)
 refine w_ [19,20,21,22,23,24,25,26,27,28,29,30,31] ?_
 refine gD 32 ?_
 refine jm ?_
 refine gG ?_
 refine gM ?_
 refine g_ [4] ?_
 refine gH H ?_
 refine aa results107 rfl (⟨?_,rfl⟩)
 congr 1
 unfold kC
 focus (simp_all;omega)
 refine w_ [11,12,13,14,15,16,17,18,19,20,21,22,23,24,25,26,27,28,29,30,31] ?_
 refine gD 32 ?_
 refine jm ?_
 refine gG ?_
 refine gM ?_
 refine g_ [4] ?_
 refine gH H ?_
 refine aa results107 rfl (⟨?_,rfl⟩)
 congr 1
 unfold kC
 focus (simp_all;done)
 refine g_ [2,701,3] ?_
 refine gK rfl (fun B1=>?_) fun B1=>?_
 refine g_ [4] ?_
 refine ae rfl (an underlying186 rfl rfl) (g_ [1064,6,522] ?_)
 refine w_ [0,1,1000,2] ?_
 refine iD 3 [2] rfl (aE (n:=1) (vs:=[.slice po ps.length pc]) fa rfl (ib hU) rfl gA) ?_
 refine w_ [4,5,1000,6,1002,7] ?_
 refine iD 8 [7] rfl (ab (cs:=kK) fa rfl (ib kh) (j6 2 gB)) ?_
 refine jy 9 [8,3] rfl call121 rfl (zO po pc ps o.data u2 _ _ (nv.mono hZ) (kf.mono hZ)) ax ?_
 refine w_ [10,11,1000,12,1003,13] ?_
 refine iD 14 [13] rfl (aE (n:=7) (vs:=mb o.sg) (cs:=kK) fa rfl (ib kh) rfl (AA j6 3 7 gB)) ?_
 refine jy 15 [14,9] rfl call127 rfl (HI _ _ (gN _ (tp qu)) o.sg oB _ (VS.mono nv.pv hZ)) ax ?_
 refine w_ [16,17] ?_
 refine az (v:=.agg #[.int .i64 da,.bool db,.int .i64 dc]) (by (rw[MN];rfl)) ?_
 refine w_ [18] ?_
 refine gD 19 ?_
 refine SO.h rfl Wt.none rfl (Hd.alloc (zs:=[.int .i64 0,.bool false,.int .i64 0]) fa fun b8=>⟨_,rfl,?_⟩)
 refine gG ?_ (hr:=by exact ig (iw [14,9] rfl (aO Wt.none (iE.func call127 rfl) (HI _ _ (gN _ (tp qu)) o.sg oB _ (VS.mono nv.pv hZ)) ax) fa) (ig (iw [13] rfl (aw Wt.none (aE (n:=7) (vs:=mb o.sg) (cs:=kK) fa rfl (ib kh) rfl (AA j6 3 7 gB))) fa) (ig (iw [8,3] rfl (aO Wt.none (iE.func call121 rfl) (zO po pc ps o.data u2 _ _ (nv.mono hZ) (kf.mono hZ)) ax) fa) (ig (iw [7] rfl (aw Wt.none (ab (cs:=kK) fa rfl (ib kh) (j6 2 gB))) fa) (ig (iw [2] rfl (aw Wt.none (aE (n:=1) (vs:=[.slice po ps.length pc]) fa rfl (ib hU) rfl gA)) fa) jl)))))
 refine gD 20 ?_
 refine jT 3 ?_
 refine gG ?_
 refine w_ [21] ?_
 refine gM ?_
 refine g_ [5] ?_
 refine aG (t:=85) rfl (fun abK=>?_) (fun abK=>?_)
 refine aS (dj:=85) rfl rfl rfl (aF (n:=3) fa rfl gO gA ⟨_,rfl,?_⟩)
 refine g_ [104,1,105,1,106,1] ?_
 refine jx 85 rfl rfl rfl (aj (pl:=[(0,1),(1,1),(2,1)]) (zs:=[.int .i64 0,.bool false,.int .i64 0]) (parts:=[(0,.tmp 88),(1,.tmp 90),(2,.tmp 92)]) (vs:=[(0,_),(1,_),(2,_)]) (cells:=[_,_,_]) fa fa rfl rfl) ?_
 refine jx 85 rfl rfl rfl (Yd.R2 [0,2,0] fa rfl rfl (afO _ _ _ _ _ _)) ?_
 refine g_ [7] ?_
 refine gH H ?_
 refine aa results107 rfl (⟨?_,rfl⟩)
 congr 1
 unfold kC
 focus (simp_all;done)
 refine g_ [16] ?_
 refine gH H ?_
 refine aa results107 rfl (⟨?_,rfl⟩)
 congr 1
 unfold kC
 focus (simp_all;done)
 refine g_ [2,701,3] ?_
 refine gK rfl (fun L5=>?_) fun L5=>?_
 refine g_ [1,545] ?_
 refine w_ [0] ?_
 refine gW 1 [0] rfl (aK underlying186 rfl rfl) fa ?_
 refine w_ [9002,2,3,4,1000,5,1003,6,1003,7] ?_
 refine ki 8 [7,2] 100 rfl rfl rfl (ab (cs:=kK) fa rfl (ib kh) (j6 6 gB)) ?_
 refine w_ [9,10] ?_
 refine bR (fun GH=>?_) (fun GH=>?_)
 refine w_ [11,12,1000,13,1003,14,1001,15] ?_
 refine ki 16 [15,10] 108 rfl rfl rfl (ab (cs:=kK) fa rfl (ib kh) (j6 4 gB)) ?_
 refine w_ [1004,17,18,1001,19,20,21] ?_
 refine aW (fun abu=>?_) (fun abu=>?_)
 refine w_ [22,23,1000,24,1003,25,1000,26] ?_
 refine ki 27 [26,21] 119 rfl rfl rfl (ab (cs:=kK) fa rfl (ib kh) (j6 3 gB)) ?_
 refine w_ [1001,28,1005,29,30] ?_
 refine jP 31 [30,28,21] 119 rfl rfl (Yd.R1 underlying4 rfl rfl) fa ?_
 refine w_ [32,33] ?_
 refine aW (fun abw=>?_) (fun abw=>?_)
 refine w_ [34,35,1000,36,1003,37,1002,38] ?_
 refine ki 39 [38,33] 131 rfl rfl rfl (ab (cs:=kK) fa rfl (ib kh) (j6 5 gB)) ?_
 refine w_ [1006,40,41,1001,42,43] ?_
 refine gD 44 ?_
 refine jm ?_
 refine gG ?_
 refine gM ?_
 refine g_ [4] ?_
 refine gH H ?_
 refine aa results107 rfl (⟨?_,rfl⟩)
 congr 1
 unfold kC
 focus (simp_all;done)
 refine w_ [34,35,36,37,38,39,40,41,42,43] ?_
 refine gD 44 ?_
 refine jm ?_
 refine gG ?_
 refine gM ?_
 refine g_ [4] ?_
 refine gH H ?_
 refine aa results107 rfl (⟨?_,rfl⟩)
 congr 1
 unfold kC
 focus (simp_all;done)
 refine w_ [22,23,24,25,26,27,28,29,30,31,32,33,34,35,36,37,38,39,40,41,42,43] ?_
 refine gD 44 ?_
 refine jm ?_
 refine gG ?_
 refine gM ?_
 refine g_ [4] ?_
 refine gH H ?_
 refine aa results107 rfl (⟨?_,rfl⟩)
 congr 1
 unfold kC
 focus (simp_all;done)
 refine w_ [11,12,13,14,15,16,17,18,19,20,21,22,23,24,25,26,27,28,29,30,31,32,33,34,35,36,37,38,39,40,41,42,43] ?_
 refine gD 44 ?_
 refine jm ?_
 refine gG ?_
 refine gM ?_
 refine g_ [4] ?_
 refine gH H ?_
 refine aa results107 rfl (⟨?_,rfl⟩)
 congr 1
 unfold kC
 focus (simp_all;done)
 refine g_ [2,701,3] ?_
 refine gK rfl (fun LS=>?_) fun LS=>?_
 refine g_ [1,530] ?_
 refine w_ [0] ?_
 refine gW 1 [0] rfl (aK underlying186 rfl rfl) fa ?_
 refine w_ [9002,2,3,4,1000,5,1003,6,1000,7] ?_
 refine ki 8 [7,2] 146 rfl rfl rfl (ab (cs:=kK) fa rfl (ib kh) (j6 3 gB)) ?_
 refine w_ [1001,9,10,11] ?_
 refine aW (fun abx=>?_) (fun abx=>?_)
 refine w_ [12,13,1000,14,1003,15,1006,16] ?_
 refine ki 17 [16,11] 155 rfl rfl rfl (ab (cs:=kK) fa rfl (ib kh) (j6 9 gB)) ?_
 refine w_ [1007,18,19,1001,20,21,22] ?_
 refine aW (fun abz=>?_) (fun abz=>?_)
 refine w_ [23,24,1010,25] ?_
 refine ki 26 [25,22] 166 rfl rfl rfl (ab (cs:=kK) fa rfl (ib kh) (j6 10 gB)) ?_
 refine w_ [1009,27,28] ?_
 refine gD 29 ?_
 refine jm ?_
 refine gG ?_
 refine gM ?_
 refine g_ [4] ?_
 refine gH H ?_
 refine aa results107 rfl (⟨?_,rfl⟩)
 congr 1
 unfold kC
 focus (simp_all;done)
 refine w_ [23,24,25,26,27,28] ?_
 refine gD 29 ?_
 refine jm ?_
 refine gG ?_
 refine gM ?_
 refine g_ [4] ?_
 refine gH H ?_
 refine aa results107 rfl (⟨?_,rfl⟩)
 congr 1
 unfold kC
 focus (simp_all;done)
 refine w_ [12,13,14,15,16,17,18,19,20,21,22,23,24,25,26,27,28] ?_
 refine gD 29 ?_
 refine jm ?_
 refine gG ?_
 refine gM ?_
 refine g_ [4] ?_
 refine gH H ?_
 refine aa results107 rfl (⟨?_,rfl⟩)
 congr 1
 unfold kC
 focus (simp_all;done)
 refine g_ [9] ?_
 refine gH H ?_
 refine aa results107 rfl (⟨?_,rfl⟩)
 congr 1
 unfold kC
 focus (simp_all;done)
end Go.Proofs.YtchdmlkiggdhaaaGreat
namespace Go.Proofs.YtchdmlkiggdhaaaGreat
open Go.SL Go.Proofs.Tryz
attribute [local irreducible] WL WC DN gZ iX
theorem E0:gC prog 174 [] [] fun r gr=>∃b,r=.pointer (some ⟨b,0,none⟩)∧gr=[row b [.slice none 0 0,.bool false] 372]:=by
 refine gC.enter func174 rfl ntmps174 rfl ?_
 intro w0 R
 refine g_ [7] ?_
 refine kJ [(0,1),(1,1)] [.slice none 0 0,.bool false] (iV fun b=>?_)
 refine g_ [4] ?_
 exact aa results174 rfl (⟨b,rfl,rfl⟩)
theorem E8 (bw:Nat) (v:Value) (l:List (BitVec 8)) (C:List Ck) (n:BitVec 64) (size:Nat) (hs:size≤8) (ho:Ob 5 v l C) (hl:l.length≤1000000):gC prog 195 [.pointer (some ⟨bw,0,none⟩),.int .u64 n.toNat,.int .i64 size] (row bw [v,.bool false] 372::C) fun r gr=>r=.pointer (some ⟨bw,0,none⟩)∧∃iJ gP,Ob 5 iJ (l++iu n size) gP∧gr=row bw [iJ,.bool false] 372::gP:=by
 refine gC.enter func195 rfl ntmps195 rfl ?_
 intro w0 R
 refine g_ [9] ?_
 refine ae rfl (an underlying320 rfl rfl) (g_ [1009,13] ?_)
 refine aC (fun z:Nat×Value×List Ck=>z.1≤size∧Ob 5 z.2.1 (l++(iu n size).take z.1) z.2.2) (fun z:Nat×Value×List Ck=>[(11,.int .i64 (z.1:Int))]) (fun z:Nat×Value×List Ck=>row bw [z.2.1,.bool false] 372::z.2.2) (fun z:Nat×Value×List Ck=>size-z.1) (⟨0,v,C⟩) (show 0≤size∧Ob 5 v (l++(iu n size).take 0) C from ⟨dN _,by simpa using ho⟩) (Sx.put rfl (gL)) fc ?_
 rintro ⟨i,u,Cu⟩ hI
 replace hI:i≤size∧Ob 5 u (l++(iu n size).take i) Cu:=hI
 obtain ⟨hi,hu⟩:=hI
 change WC _ _ _ _ _ _ ([(11,.int .i64 (i:Int))]++_) (row bw [u,.bool false] 372::Cu)
 obtain ⟨uo,uc,rfl,NS⟩:=hu.form
 refine g_ [2,705,3] ?_
 refine gK rfl (fun nj=>?_) fun nj=>?_
 have gQ:i<size:=by omega
 have hL:(l++(iu n size).take i).length≤1000008:=by simp only[dr,dE];omega
 refine g_ [10,518] ?_
 refine w_ [0,1,2,1000,3,4,5,6,1004,7,8,1004,9] ?_
 refine gW 10 [9] rfl (Yd.mul rfl rfl gz gz) fa ?_
 refine az (v:=.int .i64 ((8*(size-1-i):Nat):Int)) (congrArg (Value.int .i64) gz) ?_
 refine gW 11 [10,5] rfl (cJ _ (8*(size-1-i)) rfl rfl rfl rfl) fa ?_
 refine gW 12 [11] rfl (cV _ fa fa rfl rfl) fa ?_
 refine gD 13 ?_
 refine SO.h rfl Wt.none rfl (bp (e:=5) (z:=.int .u8 0) fa fa fa rfl rfl fun rb=>⟨_,rfl,?_⟩)
 refine iO [0] ?_
 refine gD 14 ?_
 refine SO.h rfl Wt.none rfl (aZ (e:=5) (zs:=[.int .u8 0]) fa fa rfl rfl rfl hu fc (Bs.block (bs:=[(n>>>(8*(size-1-i))).setWidth 8]) rfl (by simp) gO) (by simp only[dF,dR];omega) fun u2 C2 nv=>⟨_,rfl,?_⟩)
 refine gG ?_
 refine w_ [15,1000,16] ?_
 refine gD 17 ?_
 refine SO.s rfl Wt.none (bg fa rfl rfl nv.one_cell ir gA rfl ⟨rfl,?_⟩)
 refine gG ?_
 refine gM ?_
 refine g_ [3,703,2] ?_
 exact ai (⟨i+1,u2,C2⟩) (show (i+1)≤size∧Ob 5 u2 (l++(iu n size).take (i+1)) C2 from ⟨by omega,by rw[Q5 n size i gQ,←dD];exact nv⟩) (show size-(i+1)<size-i by omega) (Sx.put rfl (gL)) fc
 have lY:i=size:=by omega
 subst lY
 refine g_ [12] ?_
 refine aa results195 rfl (⟨rfl,_,Cu,?_,rfl⟩)
 rw[dL (by rw[ju];omega)] at hu ⊢
 exact hu
theorem wC (bw:Nat) (v:Value) (l:List (BitVec 8)) (C:List Ck) (n:BitVec 8) (ho:Ob 5 v l C) (hl:l.length≤1000000):gC prog 175 [.pointer (some ⟨bw,0,none⟩),.int .u8 n.toNat] (row bw [v,.bool false] 372::C) fun r gr=>r=.pointer (some ⟨bw,0,none⟩)∧∃iJ gP,Ob 5 iJ (l++[n]) gP∧gr=row bw [iJ,.bool false] 372::gP:=by
 refine gC.enter func175 rfl ntmps175 rfl ?_
 intro w0 R
 refine g_ [9] ?_
 refine ae rfl (cW _ fa fa rfl rfl) ?_
 refine bK rfl (iE.func call195 rfl) (E8 bw v l C (n.setWidth 64) 1 gz ho hl) ?_
 rintro x H1 ⟨rfl,iJ,gP,nY,rfl⟩
 refine g_ [4] ?_
 refine aa results175 rfl ?_
 exact ⟨rfl,iJ,gP,by rw[Q6] at nY;exact nY,rfl⟩
theorem Ps (bw:Nat) (v:Value) (l:List (BitVec 8)) (C:List Ck) (n:BitVec 16) (ho:Ob 5 v l C) (hl:l.length≤1000000):gC prog 182 [.pointer (some ⟨bw,0,none⟩),.int .u16 n.toNat] (row bw [v,.bool false] 372::C) fun r gr=>r=.pointer (some ⟨bw,0,none⟩)∧∃iJ gP,Ob 5 iJ (l++iu (n.setWidth 64) 2) gP∧gr=row bw [iJ,.bool false] 372::gP:=by
 refine gC.enter func182 rfl ntmps182 rfl ?_
 intro w0 R
 refine g_ [9] ?_
 refine ae rfl (Yd.Zz _ fa fa rfl rfl) ?_
 refine bK rfl (iE.func call195 rfl) (E8 bw v l C (n.setWidth 64) 2 gz ho hl) ?_
 rintro x H1 ⟨rfl,iJ,gP,nY,rfl⟩
 refine g_ [4] ?_
 exact aa results182 rfl (⟨rfl,iJ,gP,nY,rfl⟩)
theorem BC (bw:Nat) (v:Value) (l:List (BitVec 8)) (C:List Ck) (n:BitVec 32) (ho:Ob 5 v l C) (hl:l.length≤1000000):gC prog 177 [.pointer (some ⟨bw,0,none⟩),.int .u32 n.toNat] (row bw [v,.bool false] 372::C) fun r gr=>r=.pointer (some ⟨bw,0,none⟩)∧∃iJ gP,Ob 5 iJ (l++iu (n.setWidth 64) 4) gP∧gr=row bw [iJ,.bool false] 372::gP:=by
 refine gC.enter func177 rfl ntmps177 rfl ?_
 intro w0 R
 refine g_ [9] ?_
 refine ae rfl (cU _ fa fa rfl rfl) ?_
 refine bK rfl (iE.func call195 rfl) (E8 bw v l C (n.setWidth 64) 4 gz ho hl) ?_
 rintro x H1 ⟨rfl,iJ,gP,nY,rfl⟩
 refine g_ [4] ?_
 exact aa results177 rfl (⟨rfl,iJ,gP,nY,rfl⟩)
theorem Xm (bw:Nat) (v:Value) (l:List (BitVec 8)) (C:List Ck) (n:BitVec 64) (ho:Ob 5 v l C) (hl:l.length≤1000000):gC prog 176 [.pointer (some ⟨bw,0,none⟩),.int .u64 n.toNat] (row bw [v,.bool false] 372::C) fun r gr=>r=.pointer (some ⟨bw,0,none⟩)∧∃iJ gP,Ob 5 iJ (l++iu n 8) gP∧gr=row bw [iJ,.bool false] 372::gP:=by
 refine gC.enter func176 rfl ntmps176 rfl ?_
 intro w0 R
 refine g_ [9] ?_
 refine bK rfl (iE.func call195 rfl) (E8 bw v l C n 8 gz ho hl) ?_
 rintro x H1 ⟨rfl,iJ,gP,nY,rfl⟩
 refine g_ [4] ?_
 exact aa results176 rfl (⟨rfl,iJ,gP,nY,rfl⟩)
theorem KC (bw:Nat) (v:Value) (l:List (BitVec 8)) (C:List Ck) (H:List Ck) (vs:Value) (s:List (BitVec 8)) (hs:Bs vs s H) (ie:s.length≤255) (ho:Ob 5 v l C) (hl:l.length≤900000):gC prog 178 [.pointer (some ⟨bw,0,none⟩),vs] (row bw [v,.bool false] 372::(C++H)) fun r gr=>r=.pointer (some ⟨bw,0,none⟩)∧∃iJ gP,Ob 5 iJ (l++tb s) gP∧gr=row bw [iJ,.bool false] 372::(gP++H):=by
 refine gC.enter func178 rfl ntmps178 rfl ?_
 intro w0 R
 obtain ⟨so,sc,rfl,hsc⟩:=hs.form
 refine g_ [10] ?_
 refine ae rfl (an underlying320 rfl rfl) (g_ [1007,7,710,5,707,1011,11,710,5] ?_)
 refine ae rfl (bT _ fa fa rfl rfl) ?_
 refine c_ call175 rfl (wC bw v l C (BitVec.ofInt 8 (s.length:Int)) ho gz) ?_
 rintro x H1 ⟨rfl,v1,C1,oS,rfl⟩
 obtain ⟨o1,c1,rfl,lX⟩:=oS.form
 refine g_ [7,100,2] ?_
 refine WL.h rfl (aZ (e:=5) (zs:=[.int .u8 0]) fa fa rfl rfl rfl oS fc (hs.mono hZ) (by simp only[dr,dF,dR];omega) fun v2 C2 pC=>⟨_,rfl,?_⟩)
 obtain ⟨o2,c2,rfl,tK⟩:=pC.form
 refine g_ [1,100,10] ?_
 refine gH (row bw [.slice o2 ((l++[BitVec.ofInt 8 (s.length:Int)])++s).length c2,.bool false] 372::(C2++H)) ?_
 refine aa results178 rfl ?_
 exact ⟨rfl,_,C2,by rw[dD] at pC;exact pC,by rw[dD]⟩
theorem Fu (bw:Nat) (v:Value) (l:List (BitVec 8)) (C:List Ck) (ho:Ob 5 v l C) (hl:l.length≤1000000):gC prog 180 [.pointer (some ⟨bw,0,none⟩)] (row bw [v,.bool false] 372::C) fun r gr=>∃iJ gP,r=.tuple #[iJ,.int .i64 0]∧Ob 5 iJ l gP∧gr=gP:=by
 refine gC.enter func180 rfl ntmps180 rfl ?_
 intro w0 R
 obtain ⟨vo,vc,rfl,xk⟩:=ho.form
 refine g_ [11] ?_
 refine ae rfl (an underlying320 rfl rfl) (g_ [1006,8,101,1,1011,9] ?_)
 refine WL.h rfl (aU (e:=5) [] fa fa fa rfl rfl fa fun Is=>⟨_,rfl,?_⟩)
 refine g_ [2,100,1] ?_
 refine WL.h rfl (aZ (e:=5) (zs:=[.int .u8 0]) fa fa rfl rfl rfl (Ob.block Is [] (by simp)) fc (ho.bs.mono hZ) (by simp;omega) fun iJ gP nY=>⟨_,rfl,?_⟩)
 refine g_ [5] ?_
 refine gH (gP) ?_
 exact ay results180 rfl rfl (⟨iJ,gP,rfl,by simpa using nY,rfl⟩)
theorem J3 (v:Value) (bs:List (BitVec 8)) (H:List Ck) (hv:Bs v bs H) (hl:bs.length≤1000000):gC prog 155 [v] H fun r gr=>∃b iJ gP,r=.pointer (some ⟨b,0,none⟩)∧Bs iJ bs gP∧gr=row b [iJ,.bool false] 365::(gP++H):=by
 refine gC.enter func155 rfl ntmps155 rfl ?_
 intro w0 R
 refine g_ [7] ?_
 refine WL.h rfl (aU (e:=5) [] fa fa fa rfl rfl fa fun b3=>⟨_,rfl,?_⟩)
 refine g_ [1] ?_
 refine WL.h rfl (aZ (e:=5) (zs:=[.int .u8 0]) fa fa rfl rfl rfl (Ob.block b3 [] (by simp)) fc (hv.mono hZ) (by simp;omega) fun iJ gP nY=>⟨_,rfl,?_⟩)
 rw[eC] at nY
 obtain ⟨vo,vc,rfl,xk⟩:=nY.form
 refine ae rfl (aj (pl:=[(0,1),(1,1)]) (zs:=[.slice none 0 0,.bool false]) (parts:=[(0,.tmp 5)]) (vs:=[(0,_)]) (cells:=[_,.bool false]) fa fa rfl rfl) ?_
 refine iV fun b=>?_
 refine g_ [4] ?_
 refine gH (row b [.slice vo bs.length vc,.bool false] 365::(gP++H)) ?_
 exact aa results155 rfl (⟨b,_,gP,rfl,nY.bs,rfl⟩)
theorem WX (br:Nat) (u:Value) (bs:List (BitVec 8)) (sh:Bool) (C:List Ck) (k:Nat) (hu:Bs u bs C) (hl:bs.length≤1000000) (hk:k≤1000):gC prog 218 [.pointer (some ⟨br,0,none⟩),.int .i64 k] (row br [u,.bool sh] 365::C) fun r gr=>∃jn,Bs r (mj bs sh k) C∧Bs jn (my bs sh k) C∧gr=row br [jn,.bool (kO bs sh k)] 365::C:=by
 refine gC.enter func218 rfl ntmps218 rfl ?_
 intro w0 R
 obtain ⟨uo,uc,rfl,NS⟩:=hu.form
 refine g_ [9] ?_
 refine ae rfl (an underlying296 rfl rfl) (g_ [1007,11,101,2] ?_)
 refine aG (t:=13) rfl (fun M0=>?_) (fun M0=>?_)
 refine g_ [8] ?_
 refine af (t:=21) (v:=.bool (kO bs sh k)) rfl (congrArg Value.bool (by subst M0;simp[kO])) ?_
 refine g_ [1,101,7,101,3] ?_
 refine WC.cond rfl (fun lz=>?_) (fun lz=>?_)
 have td:mj bs sh k=[]:=by simp[mj,lz]
 have vX:my bs sh k=bs:=by simp[my,lz]
 refine g_ [7] ?_
 refine aa results218 rfl ?_
 exact ⟨_,by rw[td];exact .inl ⟨_,_,rfl,rfl,rfl⟩,by rw[vX];exact hu,rfl⟩
 have td:mj bs sh k=bs.take k:=by simp[mj,lz]
 have vX:my bs sh k=bs.drop k:=by simp[my,lz]
 have jZ:k≤bs.length:=by simp[kO] at lz;omega
 refine g_ [6,100,2] ?_
 refine ae rfl (bJ (e:=5) (s:=1) (j:=k) fa fa rfl rfl rfl gz) ?_
 refine g_ [8,100,2] ?_
 refine ae rfl (Yd.slice (e:=5) (s:=1) (i:=k) (j:=bs.length) fa fa rfl ⟨_,_,rfl,rfl⟩ rfl jZ gz) ?_
 refine g_ [1,100,10] ?_
 refine aa results218 rfl ?_
 exact ⟨_,by rw[td];exact hu.upto jZ,by rw[vX];have:=hu.sub (i:=k) (j:=bs.length) jZ (dA _);rwa [dL (by simp)] at this,rfl⟩
 refine g_ [2,100,1,710,5,1,705,1] ?_
 refine af (t:=21) (v:=.bool (kO bs sh k)) rfl (congrArg Value.bool (by subst M0;simp[kO])) ?_
 refine g_ [1,101,7,101,3] ?_
 refine WC.cond rfl (fun lz=>?_) (fun lz=>?_)
 have td:mj bs sh k=[]:=by simp[mj,lz]
 have vX:my bs sh k=bs:=by simp[my,lz]
 refine g_ [7] ?_
 refine aa results218 rfl ?_
 exact ⟨_,by rw[td];exact .inl ⟨_,_,rfl,rfl,rfl⟩,by rw[vX];exact hu,rfl⟩
 have td:mj bs sh k=bs.take k:=by simp[mj,lz]
 have vX:my bs sh k=bs.drop k:=by simp[my,lz]
 have jZ:k≤bs.length:=by simp[kO] at lz;omega
 refine g_ [6,100,2] ?_
 refine ae rfl (bJ (e:=5) (s:=1) (j:=k) fa fa rfl rfl rfl gz) ?_
 refine g_ [8,100,2] ?_
 refine ae rfl (Yd.slice (e:=5) (s:=1) (i:=k) (j:=bs.length) fa fa rfl ⟨_,_,rfl,rfl⟩ rfl jZ gz) ?_
 refine g_ [1,100,10] ?_
 refine aa results218 rfl ?_
 exact ⟨_,by rw[td];exact hu.upto jZ,by rw[vX];have:=hu.sub (i:=k) (j:=bs.length) jZ (dA _);rwa [dL (by simp)] at this,rfl⟩
theorem Ka (br:Nat) (u:Value) (bs:List (BitVec 8)) (sh:Bool) (C:List Ck) (k:Nat) (hu:Bs u bs C) (hl:bs.length≤1000000) (hk:k≤8):gC prog 211 [.pointer (some ⟨br,0,none⟩),.int .i64 k] (row br [u,.bool sh] 365::C) fun r gr=>∃jn,r=.int .u64 (kj (mj bs sh k)).toNat∧Bs jn (my bs sh k) C∧gr=row br [jn,.bool (kO bs sh k)] 365::C:=by
 refine gC.enter func211 rfl ntmps211 rfl ?_
 intro w0 R
 refine gY (ae rfl (Yd.assign (v:=.int .u64 ((0#64).toNat:Int)) rfl) (E1 (ae rfl (Yd.assign (v:=.int .u64 ((0#64).toNat:Int)) rfl) (g_ [7] ?_))))
 refine bK rfl (iE.func call218 rfl) (WX br u bs sh C k hu hl gz) ?_
 rintro x H1 ⟨jn,hx,p6,rfl⟩
 obtain ⟨lQ,td⟩:∃lQ,lQ=mj bs sh k:=⟨_,rfl⟩
 rw[←td] at hx
 rw[←td]
 have hgl:lQ.length≤8:=by have:=OW bs sh k;rw[td];omega
 obtain ⟨xo,xc,rfl,Dc⟩:=hx.form
 refine g_ [710,5,4] ?_
 refine aC (fun z:Nat=>z≤lQ.length) (fun z:Nat=>[(5,.int .u64 (kj (lQ.take z)).toNat),(12,.int .i64 (z:Int))]) (fun z:Nat=>row br [jn,.bool (kO bs sh k)] 365::C) (fun z:Nat=>lQ.length-z) (0) (show 0≤lQ.length from dN _) (Sx.put rfl (Sx.put rfl (gL))) fc ?_
 rintro i hI
 replace hI:i≤lQ.length:=hI
 obtain hi:=hI
 change WC _ _ _ _ _ _ ([(5,.int .u64 (kj (lQ.take i)).toNat),(12,.int .i64 (i:Int))]++_) (row br [jn,.bool (kO bs sh k)] 365::C)
 refine g_ [2,705,3] ?_
 refine gK rfl (fun sW=>?_) fun sW=>?_
 have gQ:i<lQ.length:=by omega
 refine g_ [6] ?_
 refine bX (e:=5) fa fa fa rfl rfl (rfl) (hx.mono hZ) (Le gQ) (gQ) rfl rfl ?_
 intro _
 refine g_ [5] ?_
 refine ae rfl (Yd.Ph _ 8 rfl rfl rfl rfl) (g_ [1] ?_)
 refine ae rfl (cW _ fa fa rfl rfl) ?_
 refine ae rfl (Yd.OE _ _ rfl rfl rfl rfl) (g_ [5,703,2] ?_)
 rw[←Q2 lQ i gQ]
 exact ai (i+1) (by show i+1≤lQ.length;omega) (by show lQ.length-(i+1)<lQ.length-i;omega) ((Sx.put rfl (Sx.put rfl (gL)))) fc
 have lY:i=lQ.length:=by omega
 subst lY
 rw[eH]
 refine g_ [12] ?_
 exact aa results211 rfl (⟨jn,rfl,p6,rfl⟩)
theorem Wc (br:Nat) (u:Value) (bs:List (BitVec 8)) (sh:Bool) (C:List Ck) (hu:Bs u bs C) (hl:bs.length≤1000000):gC prog 156 [.pointer (some ⟨br,0,none⟩)] (row br [u,.bool sh] 365::C) fun r gr=>∃jn,r=.int .u8 ((kj (mj bs sh 1)).setWidth 8).toNat∧Bs jn (my bs sh 1) C∧gr=row br [jn,.bool (kO bs sh 1)] 365::C:=by
 refine gC.enter func156 rfl ntmps156 rfl ?_
 intro w0 R
 refine gY (ae rfl (Yd.assign (v:=.int .u8 ((0#8).toNat:Int)) rfl) (g_ [5] ?_))
 refine bK rfl (iE.func call211 rfl) (Ka br u bs sh C 1 hu hl gz) ?_
 rintro x H1 ⟨jn,rfl,p6,rfl⟩
 refine ae rfl (cV _ fa fa rfl rfl) ?_
 refine g_ [4] ?_
 exact aa results156 rfl (⟨jn,rfl,p6,rfl⟩)
theorem afn (br:Nat) (u:Value) (bs:List (BitVec 8)) (sh:Bool) (C:List Ck) (hu:Bs u bs C) (hl:bs.length≤1000000):gC prog 224 [.pointer (some ⟨br,0,none⟩)] (row br [u,.bool sh] 365::C) fun r gr=>∃jn,r=.int .u16 ((kj (mj bs sh 2)).setWidth 16).toNat∧Bs jn (my bs sh 2) C∧gr=row br [jn,.bool (kO bs sh 2)] 365::C:=by
 refine gC.enter func224 rfl ntmps224 rfl ?_
 intro w0 R
 refine gY (ae rfl (Yd.assign (v:=.int .u16 ((0#16).toNat:Int)) rfl) (g_ [5] ?_))
 refine bK rfl (iE.func call211 rfl) (Ka br u bs sh C 2 hu hl gz) ?_
 rintro x H1 ⟨jn,rfl,p6,rfl⟩
 refine ae rfl (Yd.ZA _ fa fa rfl rfl) ?_
 refine g_ [4] ?_
 exact aa results224 rfl (⟨jn,rfl,p6,rfl⟩)
theorem OV (br:Nat) (u:Value) (bs:List (BitVec 8)) (sh:Bool) (C:List Ck) (hu:Bs u bs C) (hl:bs.length≤1000000):gC prog 157 [.pointer (some ⟨br,0,none⟩)] (row br [u,.bool sh] 365::C) fun r gr=>∃jn,r=.int .u32 ((kj (mj bs sh 4)).setWidth 32).toNat∧Bs jn (my bs sh 4) C∧gr=row br [jn,.bool (kO bs sh 4)] 365::C:=by
 refine gC.enter func157 rfl ntmps157 rfl ?_
 intro w0 R
 refine gY (ae rfl (Yd.assign (v:=.int .u32 ((0#32).toNat:Int)) rfl) (g_ [5] ?_))
 refine bK rfl (iE.func call211 rfl) (Ka br u bs sh C 4 hu hl gz) ?_
 rintro x H1 ⟨jn,rfl,p6,rfl⟩
 refine ae rfl (Yd.ZB _ fa fa rfl rfl) ?_
 refine g_ [4] ?_
 exact aa results157 rfl (⟨jn,rfl,p6,rfl⟩)
theorem afp (br:Nat) (u:Value) (bs:List (BitVec 8)) (sh:Bool) (C:List Ck) (hu:Bs u bs C) (hl:bs.length≤1000000):gC prog 158 [.pointer (some ⟨br,0,none⟩)] (row br [u,.bool sh] 365::C) fun r gr=>∃jn,r=.int .u64 (kj (mj bs sh 8)).toNat∧Bs jn (my bs sh 8) C∧gr=row br [jn,.bool (kO bs sh 8)] 365::C:=by
 refine gC.enter func158 rfl ntmps158 rfl ?_
 intro w0 R
 refine gY (ae rfl (Yd.assign (v:=.int .u64 ((0#64).toNat:Int)) rfl) (g_ [5] ?_))
 refine bK rfl (iE.func call211 rfl) (Ka br u bs sh C 8 hu hl gz) ?_
 rintro x H1 ⟨jn,rfl,p6,rfl⟩
 refine g_ [4] ?_
 exact aa results158 rfl (⟨jn,rfl,p6,rfl⟩)
theorem V8 (br:Nat) (u:Value) (bs:List (BitVec 8)) (sh:Bool) (C:List Ck) (hu:Bs u bs C) (hl:bs.length≤1000000):gC prog 187 [.pointer (some ⟨br,0,none⟩)] (row br [u,.bool sh] 365::C) fun r gr=>∃jn A,Ob 5 r (HK bs sh) A∧Bs jn (my bs sh (oh bs)) C∧gr=A++(row br [jn,.bool (kO bs sh (oh bs))] 365::C):=by
 refine gC.enter func187 rfl ntmps187 rfl ?_
 intro w0 R
 obtain ⟨uo,uc,rfl,NS⟩:=hu.form
 refine g_ [9] ?_
 refine ae rfl (an underlying296 rfl rfl) (g_ [1006,10] ?_)
 refine aI (fun _z:Unit=>True) (fun _z:Unit=>[(3,.int .i64 (oh bs:Int))]) (fun _z:Unit=>row br [.slice uo bs.length uc,.bool sh] 365::C) ?_ ?_
 refine g_ [4,100,1,710,5,707,2] ?_
 refine gK rfl (fun nj=>?_) fun nj=>?_
 refine g_ [4,100,1] ?_
 refine bX (e:=5) fa fa fa rfl rfl gA (hu.mono hZ) (show (bc bs)[0]?=some (.int .u8 (bs.headD 0#8).toNat) by cases bs with|nil=>simp at nj|cons x t=>rfl) gz rfl rfl ?_
 intro _
 refine ae rfl (cj _ fa fa rfl rfl) ?_
 refine g_ [703,2] ?_
 rw[show (1:Int)+((bs.headD 0#8).toNat:Int)=((oh bs:Nat):Int) by unfold oh;omega]
 exact ah (()) (eX) (Sx.put rfl (gL)) (Sp.all fc)
 refine g_ [1] ?_
 have Ep:bs=[]:=dU gz
 have mH:oh bs=1:=by rw[Ep];rfl
 rw[mH]
 exact ah (()) (eX) (Sx.put rfl (gL)) (Sp.all fc)
 intro _ _
 have htx:=W8 bs
 refine g_ [4] ?_
 refine bK rfl (iE.func call218 rfl) (WX br _ bs sh C (oh bs) hu hl gz) ?_
 rintro x H1 ⟨jn,hx,p6,rfl⟩
 obtain ⟨lQ,td⟩:∃lQ,lQ=mj bs sh (oh bs):=⟨_,rfl⟩
 rw[←td] at hx
 have Us:HK bs sh=lQ.drop 1:=by rw[td];rfl
 have hgl:lQ.length≤256:=by have:=OW bs sh (oh bs);rw[td];omega
 obtain ⟨xo,xc,rfl,Dc⟩:=hx.form
 refine g_ [7,710,5,701,2] ?_
 refine gK rfl (fun lz=>?_) fun lz=>?_
 have MW:lQ=[]:=dU gz
 refine g_ [7] ?_
 refine gH (row br [jn,.bool (kO bs sh (oh bs))] 365::C) ?_
 refine aa results187 rfl ?_
 exact ⟨jn,[],by rw[Us,MW];exact Ob.nil _,p6,rfl⟩
 refine g_ [4] ?_
 refine WL.h rfl (aU (e:=5) [] fa fa fa rfl rfl fa fun YE=>⟨_,rfl,?_⟩)
 refine g_ [1] ?_
 refine ae rfl (Yd.slice (e:=5) (s:=1) (i:=1) (j:=lQ.length) fa fa rfl ⟨_,_,rfl,rfl⟩ rfl gz gz) ?_
 refine WL.h rfl (aZ (e:=5) (zs:=[.int .u8 0]) (b:=lQ.drop 1) fa fa rfl rfl rfl (Ob.block YE [] (by simp)) fc (by have:=hx.sub (i:=1) (j:=lQ.length) gz (dA _);rw[dL (by simp)] at this;exact this.mono hZ) (by simp;omega) fun iJ A nY=>⟨_,rfl,?_⟩)
 refine g_ [4] ?_
 refine gH (A++(row br [jn,.bool (kO bs sh (oh bs))] 365::C)) ?_
 refine aa results187 rfl ?_
 exact ⟨jn,A,by rw[Us];simpa using nY,p6,rfl⟩
theorem Bu (br:Nat) (u:Value) (bs:List (BitVec 8)) (sh:Bool) (C:List Ck) (hu:Bs u bs C):Reads prog 159 [.pointer (some ⟨br,0,none⟩)] (row br [u,.bool sh] 365::C) (.int .i64 (if sh then 10 else if 0<bs.length then 11 else 0)):=by
 refine gC.enter func159 rfl ntmps159 rfl ?_
 intro w0 R
 obtain ⟨uo,uc,rfl,NS⟩:=hu.form
 refine g_ [10] ?_
 refine ae rfl (an underlying296 rfl rfl) (g_ [1005,8,101,4] ?_)
 refine WC.cond rfl (fun h6=>?_) (fun h6=>?_)
 subst h6
 refine g_ [8] ?_
 exact aa results159 rfl (⟨rfl,rfl⟩)
 subst h6
 refine g_ [4,100,1,710,5,707,3] ?_
 refine gK rfl (fun oN=>?_) fun oN=>?_
 refine g_ [8] ?_
 exact aa results159 rfl (⟨by rw[dp gB,dx gz],rfl⟩)
 refine g_ [9] ?_
 exact aa results159 rfl (⟨by rw[dp gB,dp gz],rfl⟩)
end Go.Proofs.YtchdmlkiggdhaaaGreat
namespace Go.Proofs.YtchdmlkiggdhaaaGreat
open Go.SL Top Go.Proofs.Tryz
attribute [local irreducible] WL WC DN gZ iX
theorem Z3 (e:En) (ko vo:Option Addr) (kn kc dn vc:Nat) (H:List Ck):Reads prog 172 [.agg (enc e (.slice ko kn kc) (.slice vo dn vc)).toArray] H (.agg (enc {e with kind:=0,gF:=0#64,ep:=0#32} (.slice ko kn kc) (.slice vo dn vc)).toArray):=by
 refine gC.enter func172 rfl ntmps172 rfl ?_
 intro w0 R
 refine gY (iV fun b1=>?_)
 refine iS lh fun b2=>?_
 refine g_ [4,100,1,101,1,102,5,411] ?_
 refine WL.s (aH (n:=11) (vs:=enc {e with kind:=0,gF:=0#64,ep:=0#32} (.slice ko kn kc) (.slice vo dn vc)) fa rfl rfl gA (sV rfl rfl) ir gA ⟨rfl,?_⟩)
 refine g_ [3] ?_
 refine aB (s:=11) H results172 fa rfl gO gA ((du _ _).trans (du _ _)) ?_
 exact ⟨rfl,rfl⟩
theorem Ga {m0 m1 m2 m3 m4 m6 m7 m8:Int} {u:Bool} {ko vo:Option Addr} {kn kc dn vc:Nat} (h0:m0=0) (h1:m1=0) (h2:m2=0) (h3:m3=0) (h4:m4=0) (h5:u=false) (h6:m6=0) (h7:m7=0) (h8:m8=0) (h9:kn=0) (re:dn=0) (H:List Ck):Reads prog 173 [.agg #[.int .i64 m0,.int .u64 m1,.int .u32 m2,.int .u32 m3,.int .i64 m4,.bool u,.int .i64 m6,.int .i64 m7,.int .u64 m8,.slice ko kn kc,.slice vo dn vc]] H (.bool true):=by
 refine gC.enter func173 rfl ntmps173 rfl ?_
 intro w0 R
 subst h0 h1 h2 h3 h4 h5 h6 h7 h8 h9 re
 refine gY (iV fun b1=>?_)
 refine g_ [5,100,1,701,2005,1,101,1,701,2009,2,102,1,701,2014,2,103,1,701,2019,2,104,1,701,2024,2,105,1,709,2029,2,106,1,701,2034,2,107,1,701,2039,2,108,1,701,2044,2,109,1,710,5,701,2050,2,110,1,710,5,701,2056,5] ?_
 refine gH H ?_
 exact aa results173 rfl (⟨rfl,rfl⟩)
theorem RM (e:En) (vk vd:Value) (h:tG e) (hk:mm vk e.key.length) (hd:mm vd e.data.length) (H:List Ck):Reads prog 106 [.agg (enc e vk vd).toArray] H (.int .i64 (vK e)):=by
 refine gC.enter func106 rfl ntmps106 rfl ?_
 intro w0 R
 obtain ⟨ko,kc,rfl⟩:=hk
 obtain ⟨vo,vc,rfl⟩:=hd
 have hs:=h.qP
 refine gY (iV fun b1=>?_)
 refine g_ [6,101,1] ?_
 refine ae rfl (cc _ (0#64) rfl rfl rfl rfl) (j8 7 rfl hs.gF (g_ [1,102,1] ?_))
 refine jx 8 rfl rfl rfl (aD _ (0#32) rfl rfl rfl rfl) (j8 11 rfl hs.ep (g_ [8] ?_))
 refine WL.h rfl (aF (n:=11) (cs:=enc e (.slice ko e.key.length kc) (.slice vo e.data.length vc)) fa rfl gO rfl ⟨_,rfl,?_⟩)
 refine iG call172 rfl (Z3 e _ _ _ _ _ _ _) (iS lh fun b3=>?_)
 refine WL.s (aH (n:=11) fa rfl rfl gA (sV rfl rfl) ir gA ⟨rfl,?_⟩)
 refine g_ [10,100,22,701,3] ?_
 refine gK rfl (fun wQ=>?_) fun wQ=>?_
 refine g_ [11] ?_
 refine av rfl (g_ [1] ?_)
 refine av rfl (g_ [1] ?_)
 refine av rfl (g_ [1] ?_)
 refine av rfl (g_ [1] ?_)
 refine av rfl (g_ [1] ?_)
 refine av rfl (g_ [7,709,1] ?_)
 refine aS (dj:=123) rfl rfl rfl (aF (n:=11) fa rfl gO gA ⟨_,rfl,?_⟩)
 refine bq (dj:=123) rfl rfl rfl (iE.func call173 rfl) (Ga gA gA gA (by (rw[hs.s1 gz];rfl)) (by exact (hs.s2 gz gz).1) (by exact (hs.s2 gz gz).2.1) (by exact (hs.s2 gz gz).2.2) (by exact hs.s3 gz gz) (by rw[hs.s4];rfl) (by (rw[(hs.s5 gz).1];rfl)) (by (rw[(hs.s5 gz).2];rfl)) _) ?_
 refine g_ [709,1126,12] ?_
 refine gH H ?_
 refine aa results106 rfl (⟨?_,rfl⟩)
 unfold vK
 rw[dp gz]
 refine g_ [5,701,3] ?_
 refine gK rfl (fun mT=>?_) fun mT=>?_
 refine g_ [3] ?_
 refine av rfl (g_ [6,103,1,707] ?_)
 refine kl 33 rfl (by have:=hs.o gz;show (0:Int)<_;omega) ?_
 refine g_ [1,109,1,710,5,707] ?_
 refine kl 38 rfl (by have:=hs.k2 gz;omega) ?_
 refine g_ [2,109,1,710,5,706] ?_
 refine kl 44 rfl (by have:=hs.k2 gz;omega) ?_
 refine g_ [2,110,1,710,5,706] ?_
 refine kl 50 rfl (by have:=hs.k2 gz;omega) ?_
 refine g_ [5,103,1,109,1,110,4] ?_
 refine av rfl (g_ [1] ?_)
 refine av rfl (g_ [1] ?_)
 refine av rfl (g_ [1] ?_)
 refine av rfl (g_ [1] ?_)
 refine av rfl (g_ [7,709,1] ?_)
 refine aS (dj:=123) rfl rfl rfl (aF (n:=11) fa rfl gO gA ⟨_,rfl,?_⟩)
 refine bq (dj:=123) rfl rfl rfl (iE.func call173 rfl) (Ga gA gA gA gA (by exact (hs.s2 gz gz).1) (by exact (hs.s2 gz gz).2.1) (by exact (hs.s2 gz gz).2.2) (by exact hs.s3 gz gz) (by rw[hs.s4];rfl) gA gA _) ?_
 refine g_ [709,1126,12] ?_
 refine gH H ?_
 refine aa results106 rfl (⟨?_,rfl⟩)
 unfold vK
 rw[dp gz]
 refine g_ [5,701,3] ?_
 refine gK rfl (fun nK=>?_) fun nK=>?_
 refine g_ [3] ?_
 refine av rfl (g_ [1] ?_)
 refine av rfl (g_ [6,107,1,705] ?_)
 refine j8 57 rfl (by have:=hs.k4 gz;omega) ?_
 refine g_ [1,107,1,707] ?_
 refine j8 61 rfl (by have:=hs.k4 gz;omega) ?_
 refine g_ [7,107,7,103,1,707] ?_
 refine kl 66 rfl (by have:=hs.o gz;show (0:Int)<_;omega) ?_
 refine g_ [1,104,1,708] ?_
 refine kl 70 rfl (by have:=hs.k3 gz;omega) ?_
 refine g_ [2,104,1,705] ?_
 refine kl 75 rfl (by have:=hs.k3 gz;omega) ?_
 refine g_ [2,106,1,708] ?_
 refine kl 80 rfl (by have:=hs.k3 gz;omega) ?_
 refine g_ [2,106,1,706] ?_
 refine kl 85 rfl (by have:=hs.k3 gz;omega) ?_
 refine g_ [5,103,1,104,1,105,1,106,4] ?_
 refine av rfl (g_ [1] ?_)
 refine av rfl (g_ [1] ?_)
 refine av rfl (g_ [7,709,1] ?_)
 refine aS (dj:=123) rfl rfl rfl (aF (n:=11) fa rfl gO gA ⟨_,rfl,?_⟩)
 refine bq (dj:=123) rfl rfl rfl (iE.func call173 rfl) (Ga gA gA gA gA gA gA gA gA (by rw[hs.s4];rfl) (by (rw[(hs.s5 gz).1];rfl)) (by (rw[(hs.s5 gz).2];rfl)) _) ?_
 refine g_ [709,1126,12] ?_
 refine gH H ?_
 refine aa results106 rfl (⟨?_,rfl⟩)
 unfold vK
 rw[dp gz]
 refine g_ [5,701,3] ?_
 refine gK rfl (fun vP=>?_) fun vP=>?_
 refine g_ [3] ?_
 refine av rfl (g_ [1] ?_)
 refine av rfl (g_ [1] ?_)
 refine av rfl (g_ [6,103,1,707] ?_)
 refine kl 66 rfl (by have:=hs.o gz;show (0:Int)<_;omega) ?_
 refine g_ [1,104,1,708] ?_
 refine kl 70 rfl (by have:=hs.k3 gz;omega) ?_
 refine g_ [2,104,1,705] ?_
 refine kl 75 rfl (by have:=hs.k3 gz;omega) ?_
 refine g_ [2,106,1,708] ?_
 refine kl 80 rfl (by have:=hs.k3 gz;omega) ?_
 refine g_ [2,106,1,706] ?_
 refine kl 85 rfl (by have:=hs.k3 gz;omega) ?_
 refine g_ [5,103,1,104,1,105,1,106,4] ?_
 refine av rfl (g_ [1] ?_)
 refine av rfl (g_ [1] ?_)
 refine av rfl (g_ [7,709,1] ?_)
 refine aS (dj:=123) rfl rfl rfl (aF (n:=11) fa rfl gO gA ⟨_,rfl,?_⟩)
 refine bq (dj:=123) rfl rfl rfl (iE.func call173 rfl) (Ga gA gA gA gA gA gA gA (by exact hs.s3 gz gz) (by rw[hs.s4];rfl) (by (rw[(hs.s5 gz).1];rfl)) (by (rw[(hs.s5 gz).2];rfl)) _) ?_
 refine g_ [709,1126,12] ?_
 refine gH H ?_
 refine aa results106 rfl (⟨?_,rfl⟩)
 unfold vK
 rw[dp gz]
 refine g_ [5,701,3] ?_
 refine gK rfl (fun mg=>?_) fun mg=>?_
 refine g_ [3] ?_
 refine av rfl (g_ [1] ?_)
 refine av rfl (g_ [1] ?_)
 refine av rfl (g_ [1] ?_)
 refine av rfl (g_ [6,103,1,707] ?_)
 refine kl 93 rfl (by have:=hs.o gz;show (0:Int)<_;omega) ?_
 refine g_ [1,107,1,708,2] ?_
 refine ag (t:=99) rfl (fun abN=>?_) (fun abN=>?_)
 refine g_ [107,1,706] ?_
 refine kl 102 rfl (by have:=hs.k5 gz;omega) ?_
 refine g_ [5,103,1,107,4] ?_
 refine av rfl (g_ [1] ?_)
 refine av rfl (g_ [7,709,1] ?_)
 refine aS (dj:=123) rfl rfl rfl (aF (n:=11) fa rfl gO gA ⟨_,rfl,?_⟩)
 refine bq (dj:=123) rfl rfl rfl (iE.func call173 rfl) (Ga gA gA gA gA (by exact (hs.s2 gz gz).1) (by exact (hs.s2 gz gz).2.1) (by exact (hs.s2 gz gz).2.2) gA (by rw[hs.s4];rfl) (by (rw[(hs.s5 gz).1];rfl)) (by (rw[(hs.s5 gz).2];rfl)) _) ?_
 refine g_ [709,1126,12] ?_
 refine gH H ?_
 refine aa results106 rfl (⟨?_,rfl⟩)
 unfold vK
 rw[dp gz]
 refine g_ [8,103,1,107,4] ?_
 refine av rfl (g_ [1] ?_)
 refine av rfl (g_ [7,709,15] ?_)
 refine gH H ?_
 refine aa results106 rfl (⟨?_,rfl⟩)
 unfold vK
 rw[dx (by have:=hs.k5 gz;omega)]
 refine g_ [5,701] ?_
 refine j8 28 rfl (by have:=hs.kind;omega) ?_
 refine g_ [8,701] ?_
 refine j8 30 rfl (by have:=hs.kind;omega) ?_
 refine g_ [7] ?_
 refine av rfl (g_ [1] ?_)
 refine av rfl (g_ [1] ?_)
 refine av rfl (g_ [1] ?_)
 refine av rfl (g_ [1] ?_)
 refine av rfl (g_ [1] ?_)
 refine av rfl (g_ [1] ?_)
 refine av rfl (g_ [7,709,15] ?_)
 refine gH H ?_
 refine aa results106 rfl (⟨?_,rfl⟩)
 unfold vK
 exfalso;have:=hs.kind;omega
theorem BS (e:En) (vk vd:Value) (h:iZ e) (hk:mm vk e.key.length) (hd:mm vd e.data.length) (H:List Ck):Reads prog 106 [.agg (enc e vk vd).toArray] H (.int .i64 0):=by
  have:=RM e vk vd (.inl h) hk hd H
  rwa [xN h] at this
theorem RI (b:Bool) (H:List Ck):Reads prog 179 [.bool b] H (.int .u8 (qW b).toNat):=by
 refine gC.enter func179 rfl ntmps179 rfl ?_
 intro w0 R
 refine gY (ae rfl (Yd.assign (v:=.int .u8 ((0#8).toNat:Int)) rfl) (g_ [8] ?_))
 refine WC.cond rfl (fun h3=>?_) (fun h3=>?_)
 refine gY (ae rfl (Yd.assign (v:=.int .u8 ((1#8).toNat:Int)) rfl) (g_ [4] ?_))
 refine aa results179 rfl ?_
 subst h3
 exact ⟨rfl,rfl⟩
 refine g_ [4] ?_
 refine ae rfl (Yd.assign (v:=.int .u8 ((0#8).toNat:Int)) rfl) (g_ [3] ?_)
 refine aa results179 rfl ?_
 subst h3
 exact ⟨rfl,rfl⟩
end Go.Proofs.YtchdmlkiggdhaaaGreat
