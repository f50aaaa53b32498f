/-
  Lemmas and walks that TopOne and TopSolo stands on (part 10); no condition.
-/
import Derived.Test.YtchdmlkiggdhaaaGreatTopB9
set_option linter.unusedVariables false
set_option linter.unusedSimpArgs false
set_option maxHeartbeats 4000000
namespace Go.Proofs.YtchdmlkiggdhaaaGreat
open Go.SL Top Go.Proofs.Tryz
attribute [local irreducible] WL WC DN gZ iX
def Di (gE:BitVec 32) (tick:BitVec 64) (code:Int):Nt:=⟨5,gE,0#32,0#64,tick,0#32,0,false,code,[],[]⟩
theorem U2 {gE:BitVec 32} {tick:BitVec 64} {code:Int} (hc:code=1∨code=2):mS (Di gE tick code)=false:=by
  rcases hc with rfl|rfl<;>simp[mS,Di,nm,rest,oG,wo,qx,qE]
def Bi (r:Rl) (asked tick:BitVec 64) (code:Int):Rl:={r with iC:=mL r.iC (asked+tick),mode:=if code=2∧r.ui=2 then 2 else r.mode}
theorem agm (p pd:Nat) (ps:List (List ia)) (gN:∀q∈ps,jh q) (ss:List gR) (hj:iM ss) (hb:(gh ss).length≤125) (seen:BitVec 32) (r:Rl) (L:Ld) (CS:List Ck) (hS:iY 115 112 179 185 223 229 248 3 77 p pd ps ss seen (some r) L CS) (gE:BitVec 32) (tick asked:BitVec 64) (code:Int) (h0:gE≠0#32) (s6:code=1∨code=2) (kE:tick.toNat≤10000) (zf:asked.toNat≤4611686018427387904) (kZ:r.ep=gE) (H:List Ck):gC prog 36 [ptr p,.int .u64 asked.toNat,.agg (gS (Di gE tick code) (.slice none 0 0) (.slice none 0 0)).toArray] (CS++H) fun r0 gr=>r0=.int .i64 0∧∃iH,iY 115 112 179 185 223 229 248 3 77 p pd ps ss seen (some (Bi r asked tick code)) L iH∧gr=iH++H:=by
 refine gC.enter func36 rfl ntmps36 rfl ?_
 intro w0 R
 have ie:=hj.jW gz
 obtain ⟨vp,pj,vr,CJ,CR,V,rfl,hJ,hR,hP⟩:=hS
 obtain ⟨q,pl,CL,rfl,rfl,ky,jG⟩:=hR
 refine gY (iV fun b5=>?_)
 refine g_ [8] ?_
 refine ae rfl (an underlying32 rfl rfl) (g_ [1013,6,100,1,702] ?_)
 refine j8 17 rfl (fun h=>h rfl) ?_
 refine g_ [1] ?_
 refine aS (dj:=18) rfl rfl rfl (aF (n:=11) fa rfl iz gA ⟨_,rfl,?_⟩)
 refine bq (dj:=18) rfl rfl rfl (iE.func call59 rfl) (AB (Di gE tick code) _ _ ⟨_,_,rfl⟩ ⟨_,_,rfl⟩ _) (g_ [702] ?_)
 refine af (t:=21) (v:=.bool false) rfl (congrArg Value.bool (by rw[U2 s6];rfl)) ?_
 refine g_ [2,101,1] ?_
 refine jx 23 rfl rfl rfl (aD _ (0#32) rfl rfl rfl rfl) (j8 26 rfl h0 (g_ [2,108,1] ?_))
 refine bq (dj:=28) rfl rfl rfl (iE.func call63 rfl) (Ks _ _) (g_ [709] ?_)
 refine af (t:=32) (v:=.bool false) rfl (congrArg Value.bool (by show (!decide (code=1∨code=2))=false;rw[fo s6];rfl)) ?_
 refine g_ [2,104,1,707] ?_
 refine j8 37 rfl (show ¬(10000:Int)<(tick.toNat:Int) by omega) ?_
 refine g_ [3,707,1041,13,103,5,511] ?_
 refine w_ [0] ?_
 refine gW 1 [0] rfl (aK underlying108 rfl rfl) fa ?_
 refine w_ [9002,2,3,4,1000,5,6,1001,7,8] ?_
 refine jP 9 [8,6,2] 49 rfl rfl (aD _ _ rfl rfl rfl rfl) fa ?_
 refine qf kZ (w_ [10] ?_)
 refine gM ?_
 refine g_ [3,513] ?_
 refine w_ [0,1,2,1001,3,4,5,1004,6,7] ?_
 refine gW 8 [7,5] rfl (aY _ _ rfl rfl rfl rfl) fa ?_
 refine gW 9 [8,4] rfl (cF rfl rfl) fa ?_
 refine az (v:=.int .u64 ((mL r.iC (asked+tick)).toNat:Int)) (congrArg (Value.int .u64) (J0 _ _)) (w_ [10,1001,11] ?_)
 refine gD 12 ?_
 refine SO.s rfl Wt.none (aq (iT:=jO {r with iC:=mL r.iC (asked+tick)} pl) fa rfl rfl gA ir (by show 0+1<7;decide) rfl ⟨rfl,?_⟩)
 refine gG ?_
 refine gM ?_
 refine g_ [4,108,1,701,1] ?_
 refine ag (t:=73) rfl (fun qq=>?_) (fun qq=>?_)
 refine g_ [2,103,1,701,3] ?_
 refine gK rfl (fun ri=>?_) fun ri=>?_
 refine g_ [3,102] ?_
 refine WL.s (aq (iT:=jO {r with iC:=mL r.iC (asked+tick),mode:=2} pl) fa rfl rfl gA ir (by show 0+2<7;decide) rfl ⟨rfl,?_⟩)
 refine g_ [9] ?_
 refine gH ((row p (iN vp pj seen (ptr q)) 115::(CJ++((row q (jO {r with iC:=mL r.iC (asked+tick),mode:=2} pl) 112::CL)++V)))++H) ?_
 refine aa results36 rfl ?_
 have hs:Bi r asked tick code={r with iC:=mL r.iC (asked+tick),mode:=2}:=by
   unfold Bi
   rw[dx ⟨qq,ri⟩]
 refine ⟨rfl,_,?_,rfl⟩
 rw[hs]
 exact ⟨vp,pj,_,CJ,_,V,rfl,hJ,⟨q,pl,CL,rfl,rfl,ky,jG⟩,hP⟩
 refine g_ [9] ?_
 refine gH ((row p (iN vp pj seen (ptr q)) 115::(CJ++((row q (jO {r with iC:=mL r.iC (asked+tick)} pl) 112::CL)++V)))++H) ?_
 refine aa results36 rfl ?_
 have hs:Bi r asked tick code={r with iC:=mL r.iC (asked+tick)}:=by
   unfold Bi
   rw[dp (fun q=>ri q.2)]
 refine ⟨rfl,_,?_,rfl⟩
 rw[hs]
 exact ⟨vp,pj,_,CJ,_,V,rfl,hJ,⟨q,pl,CL,rfl,rfl,ky,jG⟩,hP⟩
 refine g_ [18] ?_
 refine gH ((row p (iN vp pj seen (ptr q)) 115::(CJ++((row q (jO {r with iC:=mL r.iC (asked+tick)} pl) 112::CL)++V)))++H) ?_
 refine aa results36 rfl ?_
 have hs:Bi r asked tick code={r with iC:=mL r.iC (asked+tick)}:=by
   unfold Bi
   rw[dp (fun q=>qq q.1)]
 refine ⟨rfl,_,?_,rfl⟩
 rw[hs]
 exact ⟨vp,pj,_,CJ,_,V,rfl,hJ,⟨q,pl,CL,rfl,rfl,ky,jG⟩,hP⟩
theorem Fb {TR TL TO:Nat} {vr:Value} {ps:List (List ia)} {r:Option Rl} {L:Ld} {C:List Ck} (h:Ik TR TL TO vr ps r L C):(r=none∧vr=.pointer none∧C=[])∨∃r0 q pl CL,r=some r0∧vr=ptr q∧C=row q (jO r0 pl) TR::CL∧ln TL TO pl ps L CL∧l4 ps L:=by
  cases r with
  |none=>exact .inl ⟨rfl,h.1,h.2⟩
  | some r=>
    obtain ⟨q,pl,CL,h1,h2,h3,h4⟩:=h
    exact .inr ⟨r,q,pl,CL,rfl,h1,h2,h3,h4⟩
theorem aeW {ss:List gR} {r:Rl} (hb:(gh ss).length≤124) (h0:r.ep≠0#32):iZ (jA (gh ss) r {En.z with kind:=1}):=by
  have qJ:(js (gh ss)).toNat=(gh ss).length:=nO gz
  have h1:(js (gh ss)+1#64).toNat=(gh ss).length+1:=by
    rw[ga,qJ]
    show ((gh ss).length+1)%_=_
    omega
  refine ⟨fun q=>?_,h0,.inl rfl⟩
  have q2:(js (gh ss)+1#64).toNat=0:=by
    have:js (gh ss)+1#64=0#64:=q
    rw[this];rfl
  omega
theorem Fk {l:List En} {r:Rl} {e:En} (hb:l.length≤900):(jA l r e).gF.toNat=l.length+1:=by
  show (js l+1#64).toNat=_
  rw[ga,nO gz]
  show (l.length+1)%_=_
  omega
theorem aeV {e:En} (h:e.kind=1):(iB e).length≤30:=by
  rw[RN h]
  simp only[dr,dF,dR,ju]
  omega
theorem agl (p pd:Nat) (ps:List (List ia)) (gN:∀q∈ps,jh q) (ss:List gR) (hj:iM ss) (hb:(gh ss).length≤124) (seen:BitVec 32) (lx:1≤ps.length∧ps.length≤8) (r:Option Rl) (L:Ld) (CS:List Ck) (hS:iY 115 112 179 185 223 229 248 3 77 p pd ps ss seen r L CS) (gI:List (BitVec 8)) (CD:List Ck) (hD:jo 97 127 129 pd gI 0 CD) (hH:Holds gI ss) (L0:Ld) (tI:l7 ps Ld.z (gh ss)=some L0) (gE:BitVec 32) (tick asked:BitVec 64) (code:Int) (h0:gE≠0#32) (s6:code=1∨code=2) (kE:tick.toNat≤10000) (zf:asked.toNat≤4611686018427387904) (jk:∀x,r=some x→x.ep≠gE) (jB:seen.toNat<gE.toNat) (tT:∀x∈gh ss,x.ep.toNat<gE.toNat) (H:List Ck):gC prog 36 [ptr p,.int .u64 asked.toNat,.agg (gS (Di gE tick code) (.slice none 0 0) (.slice none 0 0)).toArray] (CS++(CD++H)) fun r0 gr=>r0=.int .i64 0∧∃iQ jN iH jb D,iY 115 112 179 185 223 229 248 3 77 p pd ps iQ gE (some (⟨gE,asked+tick,code,code,js (gh iQ),0#64⟩:Rl)) (nG ps L0 (jA (gh ss) (⟨gE,asked+tick,code,code,0#64,0#64⟩:Rl) {En.z with kind:=1})) iH∧jo 97 127 129 pd jN 0 jb∧Holds jN iQ∧iM iQ∧gh iQ=gh ss++[(jA (gh ss) (⟨gE,asked+tick,code,code,0#64,0#64⟩:Rl) {En.z with kind:=1})]∧iZ (jA (gh ss) (⟨gE,asked+tick,code,code,0#64,0#64⟩:Rl) {En.z with kind:=1})∧lI ps L0 (jA (gh ss) (⟨gE,asked+tick,code,code,0#64,0#64⟩:Rl) {En.z with kind:=1})=0∧gr=iH++(jb++(D++H)):=by
 refine gC.enter func36 rfl ntmps36 rfl ?_
 intro w0 R
 have ie:=hj.jW gz
 obtain ⟨vp,pj,vr,CJ,CR,V,rfl,hJ,hR,hP⟩:=hS
 obtain ⟨DD,DC,rfl,_⟩:=VS.form hP
 have tk0:=Fq (fun q hq=>(gN q hq).G) tI
 have Jn:=tk0.last
 have Ja:=aeW (r:=(⟨gE,asked+tick,code,code,0#64,0#64⟩:Rl)) hb h0
 have pQ:=Fk (l:=gh ss) (r:=(⟨gE,asked+tick,code,code,0#64,0#64⟩:Rl)) (e:={En.z with kind:=1}) gz
 have abm:L0.ep≤gE.toNat:=by
   rcases List.eq_nil_or_concat (gh ss) with e9|⟨l9,x9,e9⟩
   · rw[e9] at tI
     obtain rfl:Ld.z=L0:=eQ tI
     exact dN _
   rw[List.concat_eq_append] at e9
   rw[e9,IP] at tI
   cases h8:l7 ps Ld.z l9 with
   |none=>rw[h8] at tI;cases tI
   | some L8=>
     rw[h8] at tI
     have h7:(nH ps L8 x9).bind (fun jc=>l7 ps jc [])=some L0:=tI
     cases h6:nH ps L8 x9 with
     |none=>rw[h6] at h7;cases h7
     | some L6=>
       rw[h6] at h7
       obtain rfl:L6=L0:=eQ h7
       have h5:=(HJ (fun q hq=>(gN q hq).G) (Fq (fun q hq=>(gN q hq).G) h8).inv h6).2.2.2.1
       have:=tT x9 (by rw[e9];simp)
       omega
 have tL:lI ps L0 (jA (gh ss) (⟨gE,asked+tick,code,code,0#64,0#64⟩:Rl) {En.z with kind:=1})=0:=by
   unfold lI
   rw[dp (fK (xN Ja)),dx ⟨by rw[pQ,Jn],abm,rfl⟩]
 have uT:mn (gh ss++[(jA (gh ss) (⟨gE,asked+tick,code,code,0#64,0#64⟩:Rl) {En.z with kind:=1})]):=hj.row.snoc Ja pQ (fun x hx=>.inr ⟨rfl,tT x (List.mem_of_getLast? hx)⟩)
 have CZ:=aeV (e:=(jA (gh ss) (⟨gE,asked+tick,code,code,0#64,0#64⟩:Rl) {En.z with kind:=1})) rfl
 refine gY (iV fun b5=>?_)
 refine g_ [8] ?_
 refine ae rfl (an underlying32 rfl rfl) (g_ [1013,6,100,1,702] ?_)
 refine j8 17 rfl (fun h=>h rfl) ?_
 refine g_ [1] ?_
 refine aS (dj:=18) rfl rfl rfl (aF (n:=11) fa rfl iz gA ⟨_,rfl,?_⟩)
 refine bq (dj:=18) rfl rfl rfl (iE.func call59 rfl) (AB (Di gE tick code) _ _ ⟨_,_,rfl⟩ ⟨_,_,rfl⟩ _) (g_ [702] ?_)
 refine af (t:=21) (v:=.bool false) rfl (congrArg Value.bool (by rw[U2 s6];rfl)) ?_
 refine g_ [2,101,1] ?_
 refine jx 23 rfl rfl rfl (aD _ (0#32) rfl rfl rfl rfl) (j8 26 rfl h0 (g_ [2,108,1] ?_))
 refine bq (dj:=28) rfl rfl rfl (iE.func call63 rfl) (Ks _ _) (g_ [709] ?_)
 refine af (t:=32) (v:=.bool false) rfl (congrArg Value.bool (by show (!decide (code=1∨code=2))=false;rw[fo s6];rfl)) ?_
 refine g_ [2,104,1,707] ?_
 refine j8 37 rfl (show ¬(10000:Int)<(tick.toNat:Int) by omega) ?_
 refine g_ [3,707,1041,8] ?_
 refine aI (fun _z:Unit=>True) (fun _z:Unit=>[]) (fun _z:Unit=>row b5 (gS (Di gE tick code) (.slice none 0 0) (.slice none 0 0)) 104::((row p (iN (.slice DD ps.length DC) pj seen vr) 115::(CJ++(CR++V)))++(CD++H))) ?_ ?_
 refine WC.seq ?_
 rcases Fb hR with ⟨rfl,rfl,rfl⟩|⟨r9,q,pl,CL,rfl,rfl,rfl,ky,jG⟩
 refine g_ [3,103,5,511] ?_
 refine w_ [0] ?_
 refine gW 1 [0] rfl (aK underlying108 rfl rfl) fa ?_
 refine w_ [9001,2,3,4,5,6,7,8,9,10] ?_
 refine gM ?_
 refine g_ [3] ?_
 exact ah (()) (eX) (gL) (Sp.all fc)
 refine g_ [3,103,5,511] ?_
 refine w_ [0] ?_
 refine gW 1 [0] rfl (aK underlying108 rfl rfl) fa ?_
 refine w_ [9002,2,3,4,1000,5,6,1001,7,8] ?_
 refine jP 9 [8,6,2] 49 rfl rfl (aD _ _ rfl rfl rfl rfl) fa ?_
 refine lL (jk _ rfl) (w_ [10] ?_)
 refine gM ?_
 refine g_ [3] ?_
 exact ah (()) (eX) (gL) (Sp.all fc)
 intro _ _
 refine g_ [2,507] ?_
 refine w_ [1001,0,1,2,3,1002,4,5,1006,6] ?_
 refine lL (show ¬(gE.toNat:Int)≤(seen.toNat:Int) by omega) ?_
 refine gM ?_
 refine g_ [5,512] ?_
 refine w_ [0,1,1000,2,3,4] ?_
 refine gD 5 ?_
 refine iI rfl call51 rfl (yu p pd ps gN ss hj gz gz seen r L (row p (iN (.slice DD ps.length DC) pj seen vr) 115::(CJ++(CR++V))) (iY.v (⟨.slice DD ps.length DC,pj,vr,CJ,CR,V,rfl,hJ,hR,hP⟩:iY 115 112 179 185 223 229 248 3 77 p pd ps ss seen r L _))) ?_
 rintro KI Ij ⟨A,hA,rfl⟩
 obtain ⟨K5,ac9,rfl,_⟩:=VS.form (EO.ev hA)
 refine iO [0] ?_
 refine gD 6 ?_
 refine iI rfl call57 rfl (WG _ _ ps gN lx (gh ss) gz hj.row.mG.ok L0 tI (V++A) (VS.mono hP fun c hc=>dw _ hc) (VS.mono (EO.ev hA) fun c hc=>dq _ hc)) ?_
 rintro x97 X8 ⟨Ke,KK,rfl,aaX,aa4,rfl⟩
 refine gG ?_
 refine w_ [7,8,9,10,11] ?_
 refine gM ?_
 refine g_ [5,702,1101,8,101,2,102] ?_
 refine WL.s (aq (iT:=iN (.slice DD ps.length DC) pj gE vr) fa rfl rfl gA ir (by show 0+2<4;decide) rfl ⟨rfl,?_⟩)
 refine g_ [5,101,2,104,1] ?_
 refine ae rfl (aY _ _ rfl rfl rfl rfl) (g_ [108,1,108,2] ?_)
 refine ae rfl (aj (pl:=[(0,1),(1,1),(2,1),(3,1),(4,1),(5,1),(6,1)]) (zs:=[.int .u32 0,.int .u64 0,.int .i64 0,.int .i64 0,.pointer none,.int .u64 0,.int .u64 0]) (parts:=[(0,.tmp 110),(1,.tmp 114),(2,.tmp 116),(3,.tmp 118),(4,.tmp 119)]) (vs:=[(0,_),(1,_),(2,_),(3,_),(4,_)]) (cells:=[_,_,_,_,_,.int .u64 0,.int .u64 0]) fa fa rfl rfl) ?_
 refine WL.h rfl (cH (vs:=jO (⟨gE,asked+tick,code,code,0#64,0#64⟩:Rl) Ke) rfl fun q0=>⟨_,rfl,?_⟩)
 refine g_ [1,103] ?_
 refine WL.s (aq (iT:=iN (.slice DD ps.length DC) pj gE (ptr q0)) fa rfl rfl gA ir (by show 0+3<4;decide) rfl ⟨rfl,?_⟩)
 refine g_ [6] ?_
 refine ae rfl (aj (pl:=kz) (zs:=lh) (parts:=[(0,.const (.int .i64 1))]) (vs:=[(0,_)]) (cells:=[_,.int .u64 0,.int .u32 0,.int .u32 0,.int .i64 0,.bool false,.int .i64 0,.int .i64 0,.int .u64 0,.slice none 0 0,.slice none 0 0]) fa fa rfl rfl) ?_
 refine c_ call40 rfl (HD p pd ps gN ss hj hb gE (⟨gE,asked+tick,code,code,0#64,0#64⟩:Rl) L0 Jn (row p (iN (.slice DD ps.length DC) pj gE (ptr q0)) 115::(CJ++((row q0 (jO (⟨gE,asked+tick,code,code,0#64,0#64⟩:Rl) Ke) 112::KK)++V))) ⟨.slice DD ps.length DC,pj,ptr q0,CJ,row q0 (jO (⟨gE,asked+tick,code,code,0#64,0#64⟩:Rl) Ke) 112::KK,V,rfl,hJ,⟨q0,Ke,KK,rfl,rfl,aaX,aa4⟩,hP⟩ gI CD hD hH {En.z with kind:=1} Ja tL uT CZ (.slice none 0 0) (.slice none 0 0) [] (.inl ⟨_,_,rfl,rfl,rfl⟩) (.inl ⟨_,_,rfl,rfl,rfl⟩)) ?_
 rintro ajO aiy ⟨rfl,iQ,jN,vB,oI,lW,pY,nk,ns,qs,rfl⟩
 obtain ⟨Xk,OM,vr9,P9,CR9,V9,rfl,sy,hR9,hP9⟩:=lW
 obtain ⟨q9,ON,Qb,rfl,rfl,aaZ,aa6⟩:=hR9
 have yg:(gh iQ).length≤125:=by rw[qs,dr];exact Nat.succ_le_succ hb
 have uL:=ns.jW gz
 refine g_ [6,702,1128,6,512] ?_
 refine w_ [0,1,1003,2,3,4,5,1001,6,7] ?_
 refine jy 8 [7] rfl call64 rfl (qM OM pd iQ _ _ (JV.mono (na.v sy) (Sp.sub fc)) gz ns gz) ax ?_
 refine w_ [9,1005,10] ?_
 refine gD 11 ?_
 refine SO.s rfl Wt.none (aq (iT:=jO (⟨gE,asked+tick,code,code,js (gh iQ),0#64⟩:Rl) ON) fa rfl rfl gA ir (by show 0+5<7;decide) rfl ⟨rfl,?_⟩)
 refine gG ?_
 refine gM ?_
 refine g_ [7] ?_
 refine gH ((row p (iN Xk OM gE (ptr q9)) 115::(P9++((row q9 (jO (⟨gE,asked+tick,code,code,js (gh iQ),0#64⟩:Rl) ON) 112::Qb)++V9)))++(oI++((A++CR)++H))) ?_
 exact aa results36 rfl (⟨rfl,iQ,jN,_,oI,_,⟨Xk,OM,_,P9,_,V9,rfl,sy,⟨q9,ON,Qb,rfl,rfl,aaZ,aa6⟩,hP9⟩,pY,nk,ns,qs,Ja,tL,rfl⟩)
def wi (L:Ld) (k d:List (BitVec 8)):En:={En.z with kind:=2,order:=BitVec.ofInt 32 ((L.l.length:Int)+1),key:=k,data:=d}
theorem aeZ {e:En} (h:e.kind=2) (hk:e.key.length≤2) (hd:e.data.length≤1):(iB e).length≤30:=by
  rw[RO h]
  simp only[dr,dF,dR,ju,tb]
  omega
theorem Lp {ps:List (List ia)} {L:Ld} {e:En} (he:iZ e) (hl:e.gF.toNat=L.last+1) (kZ:L.ep≤e.ep.toNat) (hf:kC ps L e=true):lI ps L e=0:=by
  unfold lI
  rw[dp (fK (xN he)),dx ⟨hl,kZ,hf⟩]
theorem HG {l:List En} {r:Rl} {e:En} (hb:l.length≤900):(jA l r e).gF≠0#64:=fun q=>by
  have:=Fk (l:=l) (r:=r) (e:=e) hb
  rw[q] at this
  cases this
theorem agH (p pd:Nat) (ps:List (List ia)) (gN:∀q∈ps,jh q) (ss:List gR) (hj:iM ss) (hb:(gh ss).length≤125) (seen:BitVec 32) (L:Ld) (CS:List Ck) (hS:iY 115 112 179 185 223 229 248 3 77 p pd ps ss seen none L CS) (now:BitVec 64) (k d:List (BitVec 8)) (vk vd:Value) (H:List Ck) (hk:Bs vk k H) (hd:Bs vd d H):gC prog 18 [ptr p,.int .u64 now.toNat,vk,vd] (CS++H) fun r0 gr=>∃iH,iY 115 112 179 185 223 229 248 3 77 p pd ps ss seen none L iH∧gr=iH++H:=by
 refine gC.enter func18 rfl ntmps18 rfl ?_
 intro w0 R
 have lW:=hS
 have ie:=hj.jW gz
 obtain ⟨vp,pj,vr,CJ,CR,V,rfl,hJ,hR,hP⟩:=hS
 obtain ⟨rfl,rfl⟩:=hR
 obtain ⟨ko,kc,rfl,_⟩:=hk.form
 obtain ⟨eo,ec,rfl,_⟩:=hd.form
 refine gY (ae rfl (Yd.assign (v:=.int .u32 ((0#32).toNat:Int)) rfl) (g_ [8] ?_))
 refine ae rfl (an underlying32 rfl rfl) (g_ [1016,8] ?_)
 refine iG call26 rfl (vj p pd ps gN ss hj gz gz seen none L _ (kX.mono (iY.v lW) (Sp.sub fc)) now) ?_
 refine g_ [709,2021,6] ?_
 refine ae rfl (Yd.assign (v:=.int .u32 ((0#32).toNat:Int)) rfl) (g_ [6] ?_)
 refine gH ((row p (iN vp pj seen (.pointer none)) 115::(CJ++([]++V)))++H) ?_
 exact ay results18 rfl rfl (⟨_,⟨vp,pj,_,CJ,_,V,rfl,hJ,⟨rfl,rfl⟩,hP⟩,rfl⟩)
theorem agG (p pd:Nat) (ps:List (List ia)) (gN:∀q∈ps,jh q) (ss:List gR) (hj:iM ss) (hb:(gh ss).length≤125) (seen:BitVec 32) (r:Rl) (L:Ld) (CS:List Ck) (hS:iY 115 112 179 185 223 229 248 3 77 p pd ps ss seen (some r) L CS) (now:BitVec 64) (k d:List (BitVec 8)) (vk vd:Value) (H:List Ck) (hk:Bs vk k H) (hd:Bs vd d H) (hle:lj (some r) now=false):gC prog 18 [ptr p,.int .u64 now.toNat,vk,vd] (CS++H) fun r0 gr=>∃iH,iY 115 112 179 185 223 229 248 3 77 p pd ps ss seen (some r) L iH∧gr=iH++H:=by
 refine gC.enter func18 rfl ntmps18 rfl ?_
 intro w0 R
 have lW:=hS
 have ie:=hj.jW gz
 obtain ⟨vp,pj,vr,CJ,CR,V,rfl,hJ,hR,hP⟩:=hS
 obtain ⟨q,pl,CL,rfl,rfl,ky,jG⟩:=hR
 obtain ⟨ko,kc,rfl,_⟩:=hk.form
 obtain ⟨eo,ec,rfl,_⟩:=hd.form
 refine gY (ae rfl (Yd.assign (v:=.int .u32 ((0#32).toNat:Int)) rfl) (g_ [8] ?_))
 refine ae rfl (an underlying32 rfl rfl) (g_ [1016,8] ?_)
 refine iG call26 rfl (vj p pd ps gN ss hj gz gz seen (some r) L _ (kX.mono (iY.v lW) (Sp.sub fc)) now) ?_
 refine g_ [709] ?_
 refine af (t:=21) (v:=.bool true) rfl (congrArg Value.bool (by rw[hle];rfl)) ?_
 refine g_ [6] ?_
 refine ae rfl (Yd.assign (v:=.int .u32 ((0#32).toNat:Int)) rfl) (g_ [6] ?_)
 refine gH ((row p (iN vp pj seen (ptr q)) 115::(CJ++((row q (jO r pl) 112::CL)++V)))++H) ?_
 exact ay results18 rfl rfl (⟨_,⟨vp,pj,_,CJ,_,V,rfl,hJ,⟨q,pl,CL,rfl,rfl,ky,jG⟩,hP⟩,rfl⟩)
theorem agF (p pd:Nat) (ps:List (List ia)) (gN:∀q∈ps,jh q) (ss:List gR) (hj:iM ss) (hb:(gh ss).length≤125) (seen:BitVec 32) (r:Rl) (L:Ld) (CS:List Ck) (hS:iY 115 112 179 185 223 229 248 3 77 p pd ps ss seen (some r) L CS) (now:BitVec 64) (k d:List (BitVec 8)) (vk vd:Value) (H:List Ck) (hk:Bs vk k H) (hd:Bs vd d H) (hle:lj (some r) now=true) (i:Nat) (hi:i<L.l.length) (hn:L.l[i].key=k):gC prog 18 [ptr p,.int .u64 now.toNat,vk,vd] (CS++H) fun r0 gr=>∃iH,iY 115 112 179 185 223 229 248 3 77 p pd ps ss seen (some r) L iH∧gr=iH++H:=by
 refine gC.enter func18 rfl ntmps18 rfl ?_
 intro w0 R
 have lW:=hS
 have ie:=hj.jW gz
 obtain ⟨vp,pj,vr,CJ,CR,V,rfl,hJ,hR,hP⟩:=hS
 obtain ⟨q,pl,CL,rfl,rfl,ky,jG⟩:=hR
 obtain ⟨ko,kc,rfl,_⟩:=hk.form
 obtain ⟨eo,ec,rfl,_⟩:=hd.form
 obtain ⟨nn,ee,Db,MR⟩:∃nn ee,(if L.l[i].data=d then Value.tuple #[.int .u32 ((i+1:Nat):Int),.int .i64 0] else .tuple #[.int .u32 0,.int .i64 201])=.tuple #[.int .u32 nn,.int .i64 ee]∧ee≠4:=by
   split
   · exact ⟨_,_,rfl,by decide⟩
   exact ⟨_,_,rfl,by decide⟩
 refine gY (ae rfl (Yd.assign (v:=.int .u32 ((0#32).toNat:Int)) rfl) (g_ [8] ?_))
 refine ae rfl (an underlying32 rfl rfl) (g_ [1016,8] ?_)
 refine iG call26 rfl (vj p pd ps gN ss hj gz gz seen (some r) L _ (kX.mono (iY.v lW) (Sp.sub fc)) now) ?_
 refine g_ [709] ?_
 refine af (t:=21) (v:=.bool false) rfl (congrArg Value.bool (by rw[hle];rfl)) ?_
 refine g_ [12,103,2,104,3] ?_
 refine iG call38 rfl (ad3 pl ps gN L jG _ (mN.mono (ln.v ky) (Sp.sub fc)) k d _ _ (hk.mono (Sp.sub fc)) (hd.mono (Sp.sub fc)) i hi hn) ?_
 refine af (t:=32) (v:=.tuple #[.int .u32 nn,.int .i64 ee]) rfl (Db) (g_ [10,702] ?_)
 refine kl 36 rfl MR (g_ [13] ?_)
 refine gH ((row p (iN vp pj seen (ptr q)) 115::(CJ++((row q (jO r pl) 112::CL)++V)))++H) ?_
 exact ay results18 rfl rfl (⟨_,⟨vp,pj,_,CJ,_,V,rfl,hJ,⟨q,pl,CL,rfl,rfl,ky,jG⟩,hP⟩,rfl⟩)
theorem agE (p pd:Nat) (ps:List (List ia)) (gN:∀q∈ps,jh q) (ss:List gR) (hj:iM ss) (hb:(gh ss).length≤124) (seen:BitVec 32) (r:Rl) (L:Ld) (uR:L.last=(gh ss).length) (CS:List Ck) (hS:iY 115 112 179 185 223 229 248 3 77 p pd ps ss seen (some r) L CS) (gI:List (BitVec 8)) (CD:List Ck) (hD:jo 97 127 129 pd gI 0 CD) (hH:Holds gI ss) (now:BitVec 64) (k d:List (BitVec 8)) (vk vd:Value) (H:List Ck) (hk:Bs vk k H) (hd:Bs vd d H) (hle:lj (some r) now=true) (jf:∀o∈L.l,o.key≠k) (h0:r.ep≠0#32) (EA:L.ep≤r.ep.toNat) (tT:∀x,(gh ss).getLast?=some x→r.ep=x.ep) (jZ:0<k.length∧k.length≤2) (sB:d.length≤1) (xg:jD ps d≠[]) (abd:L.l.length≤400):gC prog 18 [ptr p,.int .u64 now.toNat,vk,vd] (CS++(CD++H)) fun r0 gr=>∃iQ jN iH jb,iY 115 112 179 185 223 229 248 3 77 p pd ps iQ seen (some r) (nG ps L (jA (gh ss) r (wi L k d))) iH∧jo 97 127 129 pd jN 0 jb∧Holds jN iQ∧iM iQ∧gh iQ=gh ss++[(jA (gh ss) r (wi L k d))]∧iZ (jA (gh ss) r (wi L k d))∧lI ps L (jA (gh ss) r (wi L k d))=0∧gr=iH++(jb++H):=by
 refine gC.enter func18 rfl ntmps18 rfl ?_
 intro w0 R
 have lW:=hS
 have ie:=hj.jW gz
 obtain ⟨vp,pj,vr,CJ,CR,V,rfl,hJ,hR,hP⟩:=hS
 obtain ⟨q,pl,CL,rfl,rfl,ky,jG⟩:=hR
 obtain ⟨ko,kc,rfl,_⟩:=hk.form
 obtain ⟨eo,ec,rfl,_⟩:=hd.form
 have pQ:=Fk (l:=gh ss) (r:=r) (e:=wi L k d) gz
 have Ue:(BitVec.ofInt 32 ((L.l.length:Int)+1)).toNat=L.l.length+1:=by rw[dX];omega
 have qG:iZ (jA (gh ss) r (wi L k d)):=⟨HG gz,h0,.inr (.inl ⟨rfl,fun q=>by
   have q2:(BitVec.ofInt 32 ((L.l.length:Int)+1))=0#32:=q
   rw[q2] at Ue
   exact absurd Ue (by show ¬0=L.l.length+1;omega),jZ.1,by show k.length≤32;omega,by show d.length≤200;omega⟩)⟩
 have lA:kC ps L (jA (gh ss) r (wi L k d))=true:=by
   unfold kC
   rw[dx (show ((jA (gh ss) r (wi L k d))).kind=2 from rfl)]
   show (decide (((BitVec.ofInt 32 ((L.l.length:Int)+1)).toNat:Int)=(L.l.length:Int)+1)&&(decide ((L.l.length:Int)<500)&&(!(kB (mJ L.l) (str k)).isSome&&!(jD ps d).isEmpty)))=true
   rw[fo gz,fo gz,JO.2 jf]
   simp[xg]
 have tL:=Lp qG (by rw[pQ,uR]) EA lA
 have uT:mn (gh ss++[(jA (gh ss) r (wi L k d))]):=hj.row.snoc qG pQ (fun x hx=>.inl (tT x hx))
 have CZ:=aeZ (e:=(jA (gh ss) r (wi L k d))) rfl jZ.2 sB
 refine gY (ae rfl (Yd.assign (v:=.int .u32 ((0#32).toNat:Int)) rfl) (g_ [8] ?_))
 refine ae rfl (an underlying32 rfl rfl) (g_ [1016,8] ?_)
 refine iG call26 rfl (vj p pd ps gN ss hj gz gz seen (some r) L _ (kX.mono (iY.v lW) (Sp.sub fc)) now) ?_
 refine g_ [709] ?_
 refine af (t:=21) (v:=.bool false) rfl (congrArg Value.bool (by rw[hle];rfl)) ?_
 refine g_ [12,103,2,104,3] ?_
 refine iG call38 rfl (ad2 pl ps gN L jG _ (mN.mono (ln.v ky) (Sp.sub fc)) k d _ _ (hk.mono (Sp.sub fc)) (hd.mono (Sp.sub fc)) jf) ?_
 refine g_ [10,702,1036,9,103,2,104,1] ?_
 refine iG call39 rfl (Vc (mN.mono (ln.v ky) (Sp.sub fc))) ?_
 refine g_ [703] ?_
 refine ae rfl (Yd.Kz _ fa fa rfl rfl) ?_
 refine g_ [10] ?_
 refine ae rfl (aj (pl:=kz) (zs:=lh) (parts:=[(0,.const (.int .i64 2)),(3,.tmp 50),(9,.tmp 51),(10,.tmp 52)]) (vs:=[(0,_),(3,_),(9,_),(10,_)]) (cells:=[_,.int .u64 0,.int .u32 0,_,.int .i64 0,.bool false,.int .i64 0,.int .i64 0,.int .u64 0,_,_]) fa fa rfl rfl) ?_
 refine c_ call40 rfl (HD p pd ps gN ss hj hb seen r L uR (row p (iN vp pj seen (ptr q)) 115::(CJ++((row q (jO r pl) 112::CL)++V))) ⟨vp,pj,ptr q,CJ,row q (jO r pl) 112::CL,V,rfl,hJ,⟨q,pl,CL,rfl,rfl,ky,jG⟩,hP⟩ gI CD hD hH (wi L k d) qG tL uT CZ _ _ H hk hd) ?_
 rintro XE Qo ⟨rfl,iQ,jN,vB,oI,Cg,pY,nk,ns,qs,rfl⟩
 refine g_ [6,702,1056,13] ?_
 refine gH (vB++(oI++H)) ?_
 exact ay results18 rfl rfl (⟨iQ,jN,vB,oI,Cg,pY,nk,ns,qs,qG,tL,rfl⟩)
def Kv (gE:BitVec 32) (n:BitVec 32) (step:Int) (iy:Bool) (w:Wk):Nt:={jF with kind:=7,gE:=gE,order:=n,step:=step,iy:=iy,data:=r6 w}
def yD (x:ia):Wk:=⟨x.iA,x.n,x.name⟩
theorem ahS {x:ia} (h:Fo x):pb (yD x):=by
  have h1:=h.iA
  have h2:=h.n1
  have h3:=h.n0
  have h4:=h.len
  refine ⟨h1.1,h1.2,?_,?_,h4⟩
  · show 0≤x.n
    by_cases q:x.iA=1∨x.iA=3∨x.iA=5
    · have:=h2 q;omega
    have:=h3 q;omega
  show x.n≤1000000000
  by_cases q:x.iA=1∨x.iA=3∨x.iA=5
  · have:=h2 q;omega
  have:=h3 q;omega
theorem agD (p pd:Nat) (ps:List (List ia)) (gN:∀q∈ps,jh q) (ss:List gR) (hj:iM ss) (hb:(gh ss).length≤125) (seen:BitVec 32) (L:Ld) (now:BitVec 64) (H:List Ck) (hv:kX p pd ps ss seen none L H):gC prog 41 [ptr p,.int .u64 now.toNat] H fun r0 gr=>r0=.tuple #[.agg (gS jF (.slice none 0 0) (.slice none 0 0)).toArray,.int .i64 210]∧gr=H:=by
 refine gC.enter func41 rfl ntmps41 rfl ?_
 intro w0 R
 have ie:=hj.jW gz
 refine gY (iS iP fun b4=>?_)
 refine g_ [8] ?_
 refine ae rfl (an underlying32 rfl rfl) (g_ [1018,5,515] ?_)
 refine w_ [0,1] ?_
 refine jy 2 [1,0] rfl call26 rfl (vj p pd ps gN ss hj gz gz seen none L _ (hv.mono (Sp.sub fc)) now) ax ?_
 refine w_ [1009,3,9002,4,5,6,7,8,9,10,11,12,13,14] ?_
 refine gM ?_
 refine g_ [4] ?_
 refine kJ kz iP (g_ [311,6] ?_)
 refine au (s:=11) (H) results41 fa rfl rfl iz gA fc ?_
 exact ⟨rfl,rfl⟩
theorem agC (p pd:Nat) (ps:List (List ia)) (gN:∀q∈ps,jh q) (ss:List gR) (hj:iM ss) (hb:(gh ss).length≤125) (seen:BitVec 32) (r:Rl) (L:Ld) (now:BitVec 64) (H:List Ck) (hv:kX p pd ps ss seen (some r) L H) (hle:lj (some r) now=true→(ng (some r) (gh ss)).toNat<(gh ss).length):gC prog 41 [ptr p,.int .u64 now.toNat] H fun r0 gr=>r0=.tuple #[.agg (gS jF (.slice none 0 0) (.slice none 0 0)).toArray,.int .i64 210]∧gr=H:=by
 refine gC.enter func41 rfl ntmps41 rfl ?_
 intro w0 R
 have ie:=hj.jW gz
 have qJ:(js (gh ss)).toNat=(gh ss).length:=nO gz
 have nD:=hv
 obtain ⟨vp,pj,vr,T9,kr,km,hU,hJ,hR,hP⟩:=nD
 obtain ⟨q,pl,T8,Ec,D5,rfl,pB,hL,jG⟩:=hR
 refine gY (iS iP fun b4=>?_)
 refine g_ [8] ?_
 refine ae rfl (an underlying32 rfl rfl) (g_ [1018,5,515] ?_)
 refine w_ [0,1] ?_
 refine jy 2 [1,0] rfl call26 rfl (vj p pd ps gN ss hj gz gz seen (some r) L _ (hv.mono (Sp.sub fc)) now) ax ?_
 refine w_ [1009,3,4] ?_
 refine bR (fun AZ=>?_) (fun AZ=>?_)
 refine w_ [5,6,7,8,9,10,11,12,13,14] ?_
 refine gM ?_
 refine g_ [4] ?_
 refine kJ kz iP (g_ [311,6] ?_)
 refine au (s:=11) (H) results41 fa rfl rfl iz gA fc ?_
 exact ⟨rfl,rfl⟩
 refine w_ [5] ?_
 refine ny (iw (i:=6) [5,4] rfl (aO (aP (dj:=25) rfl rfl) (iE.func call71 rfl) (Fe p pd ps gN ss hj gz gz seen (some r) L _ (hv.mono (Sp.sub fc))) ax) fa) fa ?_
 refine w_ [7,8,1001,9] ?_
 refine ki 10 [9,4] 25 rfl rfl rfl (ab (cs:=iN vp pj seen (ptr q)) fa rfl (ib hU) gA) ?_
 refine ny (iw (i:=11) [10,6,4] rfl (aO (aP (dj:=25) rfl rfl) (iE.func call64 rfl) (qM pj pd ss _ _ (JV.mono hJ (Sp.sub fc)) gz hj gz) ax) fa) fa ?_
 refine w_ [1005,12] ?_
 refine qf (by have h9:=hle (by simpa using AZ);omega) ?_
 refine w_ [13,14] ?_
 refine gM ?_
 refine g_ [4] ?_
 refine kJ kz iP (g_ [311,6] ?_)
 refine au (s:=11) (H) results41 fa rfl rfl iz gA fc ?_
 exact ⟨rfl,rfl⟩
theorem agz (p pd:Nat) (ps:List (List ia)) (gN:∀q∈ps,jh q) (ss:List gR) (hj:iM ss) (hb:(gh ss).length≤125) (seen:BitVec 32) (r:Rl) (L:Ld) (now:BitVec 64) (H:List Ck) (hv:kX p pd ps ss seen (some r) L H) (hle:lj (some r) now=true) (s6:(gh ss).length≤(ng (some r) (gh ss)).toNat) (i:Nat) (hi:i<L.l.length) (t:List (Nat×Int×Bool×Int)) (ha:vG L=(i+1,L.l[i].sg.step,decide (L.l[i].sg.phase=2),L.l[i].sg.tr)::t) (has:L.l[i].sg.asked=true):gC prog 41 [ptr p,.int .u64 now.toNat] H fun r0 gr=>∃(hs:L.l[i].sg.step.toNat<(jD ps L.l[i].data).length) (vd:Value) (A:List Ck),r0=.tuple #[.agg (gS (Kv r.ep (BitVec.ofNat 32 (i+1)) L.l[i].sg.step (decide (L.l[i].sg.phase=2)) (yD (jD ps L.l[i].data)[L.l[i].sg.step.toNat])) (.slice none 0 0) vd).toArray,.int .i64 0]∧Bs vd (r6 (yD (jD ps L.l[i].data)[L.l[i].sg.step.toNat])) A∧gr=A++H:=by
 refine gC.enter func41 rfl ntmps41 rfl ?_
 intro w0 R
 have ie:=hj.jW gz
 have qJ:(js (gh ss)).toNat=(gh ss).length:=nO gz
 have nD:=hv
 obtain ⟨vp,pj,vr,T9,kr,km,hU,hJ,hR,hP⟩:=nD
 obtain ⟨q,pl,T8,Ec,D5,rfl,pB,hL,jG⟩:=hR
 have sE:=jG.many
 obtain ⟨qu,oB,_⟩:=jG.one _ (dG hi)
 have yl:=gN _ (tp qu)
 have G6:0≤L.l[i].sg.step∧L.l[i].sg.step<((jD ps L.l[i].data).length:Int):=by
   rcases oB with ⟨_,_,_,q⟩|⟨_,q1,q2,_⟩
   · rw[q] at has;cases has
   exact ⟨q1,q2⟩
 have jB:L.l[i].sg.step.toNat<(jD ps L.l[i].data).length:=by omega
 have ov:=ahS (yl.one _ (dG jB))
 obtain ⟨n,hn⟩:∃n,n=BitVec.ofNat 32 (i+1):=⟨_,rfl⟩
 have nM:n.toNat=i+1:=by rw[hn,fg];omega
 have Be:jC L n=some L.l[i]:=by
   unfold jC
   rw[dp (fun q=>by rw[q] at nM;cases nM),nM]
   exact dK hi
 rw[←hn]
 refine gY (iS iP fun b4=>?_)
 refine g_ [8] ?_
 refine ae rfl (an underlying32 rfl rfl) (g_ [1018,5,515] ?_)
 refine w_ [0,1] ?_
 refine jy 2 [1,0] rfl call26 rfl (vj p pd ps gN ss hj gz gz seen (some r) L _ (hv.mono (Sp.sub fc)) now) ax ?_
 refine w_ [1009,3] ?_
 refine az (v:=.bool false) (congrArg Value.bool (by rw[hle];rfl)) ?_
 refine w_ [4,5] ?_
 refine ny (iw (i:=6) [5,4] rfl (aO (aP (dj:=25) rfl rfl) (iE.func call71 rfl) (Fe p pd ps gN ss hj gz gz seen (some r) L _ (hv.mono (Sp.sub fc))) ax) fa) fa ?_
 refine w_ [7,8,1001,9] ?_
 refine ki 10 [9,4] 25 rfl rfl rfl (ab (cs:=iN vp pj seen (ptr q)) fa rfl (ib hU) gA) ?_
 refine ny (iw (i:=11) [10,6,4] rfl (aO (aP (dj:=25) rfl rfl) (iE.func call64 rfl) (qM pj pd ss _ _ (JV.mono hJ (Sp.sub fc)) gz hj gz) ax) fa) fa ?_
 refine w_ [1005,12,9001,13,14] ?_
 refine gM ?_
 refine g_ [9,103] ?_
 refine WL.h rfl (ak (cs:=iN vp pj seen (ptr q)) fa rfl (ib hU) gA ⟨_,rfl,?_⟩)
 refine g_ [1,104] ?_
 refine WL.h rfl (ak (cs:=jO r pl) fa rfl (ib pB) gA ⟨_,rfl,?_⟩)
 refine g_ [7] ?_
 refine c_ call72 rfl (JQ pl ps gN L jG H hL) ?_
 rintro XC Ql ⟨A,hA,rfl⟩
 rw[ha] at hA
 obtain ⟨ba,ca,extra,rfl,vQ,sw,uH,L9,rfl⟩:=hA.resolve_left (fun q=>by have:=q.2.1;simp at this)
 refine g_ [6,710,194,707] ?_
 refine kl 47 rfl (by show (0:Int)<((((i+1,L.l[i].sg.step,decide (L.l[i].sg.phase=2),L.l[i].sg.tr)::t).length:Nat):Int);rw[dF];omega) ?_
 refine g_ [6] ?_
 refine ae rfl (Yd.indexAddr (e:=194) (s:=4) fa fa rfl rfl gz (by rw[dF];omega)) ?_
 refine WL.h rfl (aJ (n:=4) (vs:=ph (i+1,L.l[i].sg.step,decide (L.l[i].sg.phase=2),L.l[i].sg.tr)) (cs:=((i+1,L.l[i].sg.step,decide (L.l[i].sg.phase=2),L.l[i].sg.tr)::t).flatMap ph++extra) fa rfl iz rfl gA ⟨_,rfl,?_⟩)
 refine WL.h rfl (Hd.alloc (zs:=[.int .u32 0,.int .i64 0,.bool false,.int .i64 0]) fa fun b8=>⟨_,rfl,?_⟩)
 refine g_ [304,3,512] ?_
 refine w_ [0,1000,1,2] ?_
 refine az (v:=.int .u32 (n.toNat:Int)) (by rw[nM]) ?_
 refine w_ [1001,4,1000,5,6] ?_
 refine az (v:=.int .i64 L.l[i].sg.step) (rfl) (pe [(3,[2,0]),(10,[])] fa (ig ?_ (ig ?_ (jl))))
 refine kP ?_
 refine iI rfl call73 rfl (Ve pl ps gN L jG H hL n L.l[i] Be) ?_
 rintro XE Qo ⟨B,hB,rfl⟩
 obtain ⟨b2,o2,F5,tF,T2,sr,nW,rfl,GB,kD,c2,⟨vn9,rfl,rj⟩,I7⟩:=VS.cell hB jB gB
 obtain ⟨J5,J2,rfl,_⟩:=rj.form
 refine gG ?_ (hr:=by exact ig (bI (rfl) (iw [5] rfl (aw Wt.none (ab fa rfl iz gA)) fa)) jl)
 refine gW 7 [6] rfl (Yd.indexAddr (e:=159) (s:=6) fa fa rfl rfl gz gz) fa ?_
 refine w_ [1000,8] ?_
 refine iD 9 [8] rfl (aE (n:=3) (vs:=Ac (yD (jD ps L.l[i].data)[L.l[i].sg.step.toNat]) (.slice J5 (jD ps L.l[i].data)[L.l[i].sg.step.toNat].name.length J2)) (cs:=tF) fa rfl (aA (C:=B) fc kD) rfl (by rw[show o2+(L.l[i].sg.step).toNat*6+0=o2+L.l[i].sg.step.toNat*6+0 from rfl];exact (AA I7 0 3 gB).trans rfl)) ?_
 refine gD 10 ?_
 refine SO.h rfl Wt.none rfl (Hd.alloc (zs:=[.int .i64 0,.int .i64 0,.slice none 0 0]) fa fun b9=>⟨_,rfl,?_⟩)
 refine gG ?_ (hr:=by exact ig (iw [8] rfl (aw Wt.none (aE (n:=3) (vs:=Ac (yD (jD ps L.l[i].data)[L.l[i].sg.step.toNat]) (.slice J5 (jD ps L.l[i].data)[L.l[i].sg.step.toNat].name.length J2)) (cs:=tF) fa rfl (aA (C:=B) fc kD) rfl (by rw[show o2+(L.l[i].sg.step).toNat*6+0=o2+L.l[i].sg.step.toNat*6+0 from rfl];exact (AA I7 0 3 gB).trans rfl))) fa) (ig (bI (rfl) (iw [5] rfl (aw Wt.none (ab fa rfl iz gA)) fa)) jl))
 refine gD 11 ?_
 refine jT 3 ?_
 refine gG ?_
 refine gM ?_
 refine g_ [2,520] ?_
 refine w_ [0,1,1003,2] ?_
 refine iD 3 [2] rfl (ab (cs:=iN vp pj seen (ptr q)) fa rfl (ib hU) gA) ?_
 refine w_ [4,1000,5] ?_
 refine iD 6 [5] rfl (ab (cs:=jO r pl) fa rfl (ib pB) gA) ?_
 refine w_ [1000,7,8] ?_
 refine az (v:=.int .u32 (n.toNat:Int)) (by rw[nM]) ?_
 refine w_ [1001,9,1000,10,11] ?_
 refine az (v:=.int .i64 L.l[i].sg.step) (rfl) (w_ [1001,12,1001,13,14] ?_)
 refine az (v:=.bool (decide (L.l[i].sg.phase=2))) (rfl) (w_ [2003,15] ?_)
 refine gD 16 ?_
 refine iI rfl call74 rfl (Ww (yD (jD ps L.l[i].data)[L.l[i].sg.step.toNat]) ov _ B rj) ?_
 rintro x77 X3 ⟨G,hG,rfl⟩
 obtain ⟨go,gc,rfl,_⟩:=hG.form
 refine gG ?_ (hr:=by exact ig (bI (rfl) (iw [13] rfl (aw Wt.none (ab fa rfl iz gA)) fa)) (ig (bI (rfl) (iw [10] rfl (aw Wt.none (ab fa rfl iz gA)) fa)) (ig (bI (by rw[nM]) (iw [7] rfl (aw Wt.none (ab fa rfl iz gA)) fa)) (ig (iw [5] rfl (aw Wt.none (ab (cs:=jO r pl) fa rfl (ib pB) gA)) fa) (ig (iw [2] rfl (aw Wt.none (ab (cs:=iN vp pj seen (ptr q)) fa rfl (ib hU) gA)) fa) jl)))))
 refine gW 17 [14,11,8,6] rfl (aj (pl:=kz) (zs:=iP) (parts:=[(0,.const (.int .i64 7)),(1,.tmp 67),(5,.tmp 69),(6,.tmp 72),(7,.tmp 75),(10,.tmp 77)]) (vs:=[(0,_),(1,_),(5,_),(6,_),(7,_),(10,_)]) (cells:=[_,_,.int .u32 0,.int .u64 0,.int .u64 0,_,_,_,.int .i64 0,.slice none 0 0,_]) fa fa rfl rfl) fa ?_
 refine gD 18 ?_
 refine jT 11 ?_
 refine gG ?_
 refine gD 19 ?_
 refine jm ?_
 refine gG ?_
 refine gM ?_
 refine g_ [3] ?_
 refine au (s:=11) ((G++B)++H) results41 fa rfl rfl iz gA fc ?_
 exact ⟨jB,_,G++B,rfl,hG.mono fun c hc=>dw _ hc,rfl⟩
 refine kP ?_
 refine SO.h rfl Wt.none rfl (Hd.alloc (zs:=[.int .i64 0,.int .i64 0,.slice none 0 0]) fa fun b9=>⟨_,rfl,?_⟩)
 refine gG ?_ (hr:=by exact ig (bI (rfl) (iw [5] rfl (aw Wt.none (ab fa rfl iz gA)) fa)) (ig (bI (by rw[nM]) (iw [1] rfl (aw Wt.none (ab fa rfl iz gA)) fa)) jl))
 refine gD 3 ?_
 refine iI rfl call73 rfl (Ve pl ps gN L jG H hL n L.l[i] Be) ?_
 rintro XE Qo ⟨B,hB,rfl⟩
 obtain ⟨b2,o2,F5,tF,T2,sr,nW,rfl,GB,kD,c2,⟨vn9,rfl,rj⟩,I7⟩:=VS.cell hB jB gB
 obtain ⟨J5,J2,rfl,_⟩:=rj.form
 refine gG ?_ (hr:=by exact ig (bI (rfl) (iw [5] rfl (aw Wt.none (ab fa rfl iz gA)) fa)) jl)
 refine gW 7 [6] rfl (Yd.indexAddr (e:=159) (s:=6) fa fa rfl rfl gz gz) fa ?_
 refine w_ [1000,8] ?_
 refine iD 9 [8] rfl (aE (n:=3) (vs:=Ac (yD (jD ps L.l[i].data)[L.l[i].sg.step.toNat]) (.slice J5 (jD ps L.l[i].data)[L.l[i].sg.step.toNat].name.length J2)) (cs:=tF) fa rfl (aA (C:=B) fc kD) rfl (by rw[show o2+(L.l[i].sg.step).toNat*6+0=o2+L.l[i].sg.step.toNat*6+0 from rfl];exact (AA I7 0 3 gB).trans rfl)) ?_
 refine gD 11 ?_
 refine jT 3 ?_
 refine gG ?_
 refine gM ?_
 refine g_ [2,520] ?_
 refine w_ [0,1,1003,2] ?_
 refine iD 3 [2] rfl (ab (cs:=iN vp pj seen (ptr q)) fa rfl (ib hU) gA) ?_
 refine w_ [4,1000,5] ?_
 refine iD 6 [5] rfl (ab (cs:=jO r pl) fa rfl (ib pB) gA) ?_
 refine w_ [1000,7,8] ?_
 refine az (v:=.int .u32 (n.toNat:Int)) (by rw[nM]) ?_
 refine w_ [1001,9,1000,10,11] ?_
 refine az (v:=.int .i64 L.l[i].sg.step) (rfl) (w_ [1001,12,1001,13,14] ?_)
 refine az (v:=.bool (decide (L.l[i].sg.phase=2))) (rfl) (w_ [2003,15] ?_)
 refine gD 16 ?_
 refine iI rfl call74 rfl (Ww (yD (jD ps L.l[i].data)[L.l[i].sg.step.toNat]) ov _ B rj) ?_
 rintro x77 X3 ⟨G,hG,rfl⟩
 obtain ⟨go,gc,rfl,_⟩:=hG.form
 refine gG ?_ (hr:=by exact ig (bI (rfl) (iw [13] rfl (aw Wt.none (ab fa rfl iz gA)) fa)) (ig (bI (rfl) (iw [10] rfl (aw Wt.none (ab fa rfl iz gA)) fa)) (ig (bI (by rw[nM]) (iw [7] rfl (aw Wt.none (ab fa rfl iz gA)) fa)) (ig (iw [5] rfl (aw Wt.none (ab (cs:=jO r pl) fa rfl (ib pB) gA)) fa) (ig (iw [2] rfl (aw Wt.none (ab (cs:=iN vp pj seen (ptr q)) fa rfl (ib hU) gA)) fa) jl)))))
 refine gW 17 [14,11,8,6] rfl (aj (pl:=kz) (zs:=iP) (parts:=[(0,.const (.int .i64 7)),(1,.tmp 67),(5,.tmp 69),(6,.tmp 72),(7,.tmp 75),(10,.tmp 77)]) (vs:=[(0,_),(1,_),(5,_),(6,_),(7,_),(10,_)]) (cells:=[_,_,.int .u32 0,.int .u64 0,.int .u64 0,_,_,_,.int .i64 0,.slice none 0 0,_]) fa fa rfl rfl) fa ?_
 refine gD 18 ?_
 refine jT 11 ?_
 refine gG ?_
 refine gD 19 ?_
 refine jm ?_
 refine gG ?_
 refine gM ?_
 refine g_ [3] ?_
 refine au (s:=11) ((G++B)++H) results41 fa rfl rfl iz gA fc ?_
 exact ⟨jB,_,G++B,rfl,hG.mono fun c hc=>dw _ hc,rfl⟩
def tZ (n:Nat) (d:Int×Bool×Int):En:={En.z with kind:=3,order:=BitVec.ofNat 32 n,step:=d.1,iy:=d.2.1,tr:=d.2.2}
theorem acL {e:En} (h:e.kind=3):(iB e).length≤30:=by
  rw[RP h]
  simp only[dr,dF,dR,ju]
  omega
theorem agA (p pd:Nat) (ps:List (List ia)) (gN:∀q∈ps,jh q) (ss:List gR) (hj:iM ss) (hb:(gh ss).length≤124) (seen:BitVec 32) (r:Rl) (L:Ld) (uR:L.last=(gh ss).length) (CS:List Ck) (hS:iY 115 112 179 185 223 229 248 3 77 p pd ps ss seen (some r) L CS) (gI:List (BitVec 8)) (CD:List Ck) (hD:jo 97 127 129 pd gI 0 CD) (hH:Holds gI ss) (now:BitVec 64) (hle:lj (some r) now=true) (s6:(gh ss).length≤(ng (some r) (gh ss)).toNat) (h0:r.ep≠0#32) (EA:L.ep≤r.ep.toNat) (tT:∀x,(gh ss).getLast?=some x→r.ep=x.ep) (ha:vG L=[]) (i:Nat) (hi:i<L.l.length) (d:Int×Bool×Int) (t:List (Nat×Int×Bool×Int)) (MO:AG L=(i+1,d)::t) (oy:pD L.l[i].sg=some d) (H:List Ck):gC prog 41 [ptr p,.int .u64 now.toNat] (CS++(CD++H)) fun r0 gr=>r0=.tuple #[.agg (gS jF (.slice none 0 0) (.slice none 0 0)).toArray,.int .i64 0]∧∃iQ jN iH jb D,iY 115 112 179 185 223 229 248 3 77 p pd ps iQ seen (some r) (nG ps L (jA (gh ss) r (tZ (i+1) d))) iH∧jo 97 127 129 pd jN 0 jb∧Holds jN iQ∧iM iQ∧gh iQ=gh ss++[(jA (gh ss) r (tZ (i+1) d))]∧iZ (jA (gh ss) r (tZ (i+1) d))∧lI ps L (jA (gh ss) r (tZ (i+1) d))=0∧gr=iH++(jb++(D++H)):=by
 refine gC.enter func41 rfl ntmps41 rfl ?_
 intro w0 R
 have lW:=hS
 have ie:=hj.jW gz
 obtain ⟨vp,pj,vr,CJ,CR,V,rfl,hJ,hR,hP⟩:=hS
 obtain ⟨q,pl,CL,rfl,rfl,ky,jG⟩:=hR
 have qJ:(js (gh ss)).toNat=(gh ss).length:=nO gz
 have sE:=jG.many
 obtain ⟨qu,oB,_⟩:=jG.one _ (dG hi)
 have yl:=gN _ (tp qu)
 have lx:=yl.len
 obtain ⟨n,hn⟩:∃n,n=BitVec.ofNat 32 (i+1):=⟨_,rfl⟩
 have nM:n.toNat=i+1:=by rw[hn,fg];omega
 have Be:jC L n=some L.l[i]:=by
   unfold jC
   rw[dp (fun q=>by rw[q] at nM;cases nM),nM]
   exact dK hi
 have tg:¬(L.l[i].sg.phase=3∨L.l[i].sg.asked=true):=fun q9=>by
   unfold pD at oy
   rw[dx q9] at oy
   cases oy
 have yc:d=(L.l[i].sg.step,decide (L.l[i].sg.phase=2),L.l[i].sg.tr+1):=by
   unfold pD at oy
   rw[dp tg] at oy
   exact (eQ oy).symm
 have pQ:=Fk (l:=gh ss) (r:=r) (e:=tZ (i+1) d) gz
 have jB:0≤d.1∧d.1<16∧1≤d.2.2∧d.2.2≤255:=by
   rcases oB with ⟨q9,_⟩|⟨_,q1,q2,_,q3,_⟩
   · exact absurd (.inl q9) tg
   have hq:L.l[i].sg.step.toNat<(jD ps L.l[i].data).length:=by omega
   have Ut:=(yl.one _ (dG hq)).tries
   rw[dp (fun q9=>tg (.inr q9)),Dz hq] at q3
   rw[yc]
   exact ⟨q1,by show L.l[i].sg.step<16;omega,by show 1≤L.l[i].sg.tr+1;omega,by show L.l[i].sg.tr+1≤255;omega⟩
 have vZ:BitVec.ofNat 32 (i+1)≠0#32:=fun q9=>by
   have q8:n=0#32:=by rw[hn];exact q9
   rw[q8] at nM
   cases nM
 have qG:iZ (jA (gh ss) r (tZ (i+1) d)):=⟨HG gz,h0,.inr (.inr (.inl ⟨rfl,vZ,jB⟩))⟩
 have lA:kC ps L (jA (gh ss) r (tZ (i+1) d))=true:=by
   unfold kC
   rw[dp (show ¬((jA (gh ss) r (tZ (i+1) d))).kind=2 from by show ¬(3:Int)=2;decide),dx (show ((jA (gh ss) r (tZ (i+1) d))).kind=3 from rfl),show ((jA (gh ss) r (tZ (i+1) d))).order=n from hn.symm,Be]
   exact fo oy
 have tL:=Lp qG (by rw[pQ,uR]) EA lA
 have uT:mn (gh ss++[(jA (gh ss) r (tZ (i+1) d))]):=hj.row.snoc qG pQ (fun x hx=>.inl (tT x hx))
 have CZ:=acL (e:=(jA (gh ss) r (tZ (i+1) d))) rfl
 refine gY (iS iP fun b4=>?_)
 refine g_ [8] ?_
 refine ae rfl (an underlying32 rfl rfl) (g_ [1018,5,515] ?_)
 refine w_ [0,1] ?_
 refine jy 2 [1,0] rfl call26 rfl (vj p pd ps gN ss hj gz gz seen (some r) L _ (kX.mono (iY.v lW) (Sp.sub fc)) now) ax ?_
 refine w_ [1009,3] ?_
 refine az (v:=.bool false) (congrArg Value.bool (by rw[hle];rfl)) ?_
 refine w_ [4,5] ?_
 refine ny (iw (i:=6) [5,4] rfl (aO (aP (dj:=25) rfl rfl) (iE.func call71 rfl) (Fe p pd ps gN ss hj gz gz seen (some r) L _ (kX.mono (iY.v lW) (Sp.sub fc))) ax) fa) fa ?_
 refine w_ [7,8,1001,9,10] ?_
 refine ny (iw (i:=11) [10,6,4] rfl (aO (aP (dj:=25) rfl rfl) (iE.func call64 rfl) (qM pj pd ss _ _ (JV.mono (na.v hJ) (Sp.sub fc)) gz hj gz) ax) fa) fa ?_
 refine w_ [1005,12,9001,13,14] ?_
 refine gM ?_
 refine g_ [9,103,2,104,8] ?_
 refine c_ call72 rfl (JQ pl ps gN L jG CL (ln.v ky)) ?_
 rintro XC Ql ⟨A,hA,rfl⟩
 rw[ha] at hA
 obtain ⟨ao,ac,rfl,_⟩:=hA.form
 refine g_ [6,710,194,707] ?_
 refine af (t:=47) (v:=.bool false) rfl (congrArg Value.bool gA) ?_
 refine g_ [9] ?_
 refine c_ call75 rfl (U1 pl ps gN L jG CL (ln.v ky)) ?_
 rintro x80 X4 ⟨B,hB,rfl⟩
 rw[MO] at hB
 obtain ⟨ba,ca,extra,rfl,hB1,Mb,hB3,hB4,rfl⟩:=hB.resolve_left (fun q=>by have:=q.2.1;simp at this)
 refine g_ [6,710,194,707] ?_
 refine kl 83 rfl (by show (0:Int)<((((i+1,d)::t).length:Nat):Int);rw[dF];omega) ?_
 refine g_ [6] ?_
 refine ae rfl (Yd.indexAddr (e:=194) (s:=4) fa fa rfl rfl gz (by rw[dF];omega)) ?_
 refine WL.h rfl (aJ (n:=4) (vs:=ph (i+1,d)) (cs:=((i+1,d)::t).flatMap ph++extra) fa rfl iz rfl gA ⟨_,rfl,?_⟩)
 refine WL.h rfl (Hd.alloc (zs:=[.int .u32 0,.int .i64 0,.bool false,.int .i64 0]) fa fun sR=>⟨_,rfl,?_⟩)
 refine g_ [304,4] ?_
 refine kJ kz iP (g_ [1,100,1] ?_)
 refine af (t:=90) (v:=.int .u32 ((BitVec.ofNat 32 (i+1)).toNat:Int)) rfl (by rw[←hn,nM]) ?_
 refine g_ [101,100,1,101,101,1,101,102,1] ?_
 refine ae rfl (aj (pl:=kz) (zs:=lh) (parts:=[(0,.const (.int .i64 3)),(3,.tmp 90),(4,.tmp 93),(5,.tmp 96),(6,.tmp 99)]) (vs:=[(0,_),(3,_),(4,_),(5,_),(6,_)]) (cells:=[_,.int .u64 0,.int .u32 0,_,_,_,_,.int .i64 0,.int .u64 0,.slice none 0 0,.slice none 0 0]) fa fa rfl rfl) ?_
 refine c_ call40 rfl (HD p pd ps gN ss hj hb seen r L uR (row p (iN vp pj seen (ptr q)) 115::(CJ++((row q (jO r pl) 112::CL)++V))) ⟨vp,pj,ptr q,CJ,row q (jO r pl) 112::CL,V,rfl,hJ,⟨q,pl,CL,rfl,rfl,ky,jG⟩,hP⟩ gI CD hD hH (tZ (i+1) d) qG tL uT CZ (.slice none 0 0) (.slice none 0 0) [] (.inl ⟨_,_,rfl,rfl,rfl⟩) (.inl ⟨_,_,rfl,rfl,rfl⟩)) ?_
 rintro aio XO ⟨rfl,iQ,jN,vB,oI,Cg,pY,nk,ns,qs,rfl⟩
 refine g_ [311,5] ?_
 refine au (s:=11) (vB++(oI++(A++H))) results41 fa rfl rfl iz gA fc ?_
 exact ⟨rfl,iQ,jN,vB,oI,A,Cg,pY,nk,ns,qs,qG,tL,rfl⟩
def ts (n:BitVec 32) (step:Int) (iy:Bool) (tr code:Int):En:={En.z with kind:=4,order:=n,step:=step,iy:=iy,tr:=tr,code:=code}
theorem afv {e:En} (h:e.kind=4):(iB e).length≤30:=by
  rw[RR h]
  simp only[dr,dF,dR,ju]
  omega
theorem af3 (o:Nat) (st:Int) (un:Bool) (tr:Int) (q:Nat) (n:Nt) (wk wd:Value) (T:TypeId) (fr:Nat×Nat) (ex:Bool) (ho:n.order.toNat=o) (hs:n.step=st) (hu:n.iy=un) (H:List Ck) (hU:(⟨q,.cells (gS n wk wd).toArray T fr,ex⟩:Ck)∈H):Reads prog 83 [.agg (ph (o,st,un,tr)).toArray,ptr q] H (.bool true):=by
 refine gC.enter func83 rfl ntmps83 rfl ?_
 intro w0 R
 refine gY (iV fun b2=>?_)
 refine g_ [5,100,1] ?_
 refine af (t:=5) (v:=.int .u32 (n.order.toNat:Int)) rfl (by rw[ho]) ?_
 refine g_ [105] ?_
 refine WL.h rfl (ak (cs:=gS n wk wd) fa rfl (ib hU) gA ⟨_,rfl,?_⟩)
 refine ae rfl (aD _ _ rfl rfl rfl rfl) (kl 8 rfl rfl (g_ [1,101,100,1,106] ?_))
 refine aS (dj:=9) rfl rfl rfl (ak (cs:=gS n wk wd) fa rfl (ib hU) gA ⟨_,rfl,?_⟩)
 refine g_ [701] ?_
 refine kl 15 rfl hs.symm (g_ [2,101,101,1,107] ?_)
 refine aS (dj:=17) rfl rfl rfl (ak (cs:=gS n wk wd) fa rfl (ib hU) gA ⟨_,rfl,?_⟩)
 refine jx 17 rfl rfl rfl (Yd.R1 underlying4 rfl rfl) ?_
 refine af (t:=23) (v:=.bool true) rfl (congrArg Value.bool (by rw[hu];show (un==un)=true;simp)) ?_
 refine g_ [5] ?_
 refine gH H ?_
 exact aa results83 rfl (⟨rfl,rfl⟩)
theorem af2 (b ca:Nat) (o:Nat) (st:Int) (un:Bool) (tr:Int) (t:List (Nat×Int×Bool×Int)) (extra:List Value) (TT:TypeId) (hlen:((o,st,un,tr)::t).length≤1000) (q:Nat) (n:Nt) (wk wd:Value) (T:TypeId) (fr:Nat×Nat) (ex:Bool) (ho:n.order.toNat=o) (hs:n.step=st) (hu:n.iy=un) (H:List Ck) (ja:row b (((o,st,un,tr)::t).flatMap ph++extra) TT∈H) (hU:(⟨q,.cells (gS n wk wd).toArray T fr,ex⟩:Ck)∈H):Reads prog 82 [.slice (some ⟨b,0,none⟩) ((o,st,un,tr)::t).length ca,.func (.func 83) #[] #[ptr q]] H (.int .i64 0):=by
 refine gC.enter func82 rfl ntmps82 rfl ?_
 intro w0 R
 refine g_ [9,710,194,4] ?_
 refine aC (fun z:Nat=>z=0∧True) (fun z:Nat=>[(8,.int .i64 (z:Int))]) (fun z:Nat=>H) (fun z:Nat=>0-z) (0) (show 0=0∧True from ⟨rfl,eX⟩) (Sx.put rfl (gL)) fc ?_
 rintro i hI
 replace hI:i=0∧True:=hI
 obtain ⟨GO,_⟩:=hI
 change WC _ _ _ _ _ _ ([(8,.int .i64 (i:Int))]++_) (H)
 refine g_ [2,705] ?_
 refine kl 9 rfl (by rw[dF];omega) ?_
 refine g_ [19] ?_
 refine ae rfl (Yd.indexAddr (e:=194) (s:=4) fa fa rfl rfl gz (by rw[dF];omega)) ?_
 refine WL.h rfl (aJ (n:=4) (vs:=ph (o,st,un,tr)) (cs:=((o,st,un,tr)::t).flatMap ph++extra) fa rfl (ib ja) rfl (by subst GO;rfl) ⟨_,rfl,?_⟩)
 refine WL.r rfl (iE.Ro call83 rfl rfl) (af3 o st un tr q n wk wd T fr ex ho hs hu _ (ib hU)) ?_
 refine g_ [2016,15] ?_
 refine gH H ?_
 refine aa results82 rfl ?_
 subst GO
 exact ⟨rfl,rfl⟩
theorem af4 (p pd:Nat) (ps:List (List ia)) (gN:∀q∈ps,jh q) (ss:List gR) (hj:iM ss) (hb:(gh ss).length≤124) (seen:BitVec 32) (r:Rl) (L:Ld) (uR:L.last=(gh ss).length) (CS:List Ck) (hS:iY 115 112 179 185 223 229 248 3 77 p pd ps ss seen (some r) L CS) (gI:List (BitVec 8)) (CD:List Ck) (hD:jo 97 127 129 pd gI 0 CD) (hH:Holds gI ss) (now:BitVec 64) (hle:lj (some r) now=true) (h0:r.ep≠0#32) (EA:L.ep≤r.ep.toNat) (tT:∀x,(gh ss).getLast?=some x→r.ep=x.ep) (i:Nat) (hi:i<L.l.length) (t:List (Nat×Int×Bool×Int)) (ha:vG L=(i+1,L.l[i].sg.step,decide (L.l[i].sg.phase=2),L.l[i].sg.tr)::t) (has:L.l[i].sg.asked=true) (n:Nt) (hk8:n.kind=8) (MF:mS n=false) (jk:n.gE=r.ep) (jf:n.order.toNat=i+1) (yk:n.step=L.l[i].sg.step) (nX:n.iy=decide (L.l[i].sg.phase=2)) (yj:1≤n.code∧n.code≤3) (vk vd:Value) (tj:mm vk n.key.length) (p7:mm vd n.data.length) (H:List Ck):gC prog 43 [ptr p,.int .u64 now.toNat,.agg (gS n vk vd).toArray] (CS++(CD++H)) fun r0 gr=>r0=.int .i64 0∧∃iQ jN iH jb D,iY 115 112 179 185 223 229 248 3 77 p pd ps iQ seen (some r) (nG ps L (jA (gh ss) r (ts n.order L.l[i].sg.step (decide (L.l[i].sg.phase=2)) L.l[i].sg.tr n.code))) iH∧jo 97 127 129 pd jN 0 jb∧Holds jN iQ∧iM iQ∧gh iQ=gh ss++[(jA (gh ss) r (ts n.order L.l[i].sg.step (decide (L.l[i].sg.phase=2)) L.l[i].sg.tr n.code))]∧iZ (jA (gh ss) r (ts n.order L.l[i].sg.step (decide (L.l[i].sg.phase=2)) L.l[i].sg.tr n.code))∧lI ps L (jA (gh ss) r (ts n.order L.l[i].sg.step (decide (L.l[i].sg.phase=2)) L.l[i].sg.tr n.code))=0∧gr=iH++(jb++(D++H)):=by
 refine gC.enter func43 rfl ntmps43 rfl ?_
 intro w0 R
 have lW:=hS
 have ie:=hj.jW gz
 obtain ⟨vp,pj,vr,CJ,CR,V,rfl,hJ,hR,hP⟩:=hS
 obtain ⟨q,pl,CL,rfl,rfl,ky,jG⟩:=hR
 have sE:=jG.many
 obtain ⟨ko,kc,rfl⟩:=tj
 obtain ⟨eo,ec,rfl⟩:=p7
 obtain ⟨qu,oB,_⟩:=jG.one _ (dG hi)
 have yl:=gN _ (tp qu)
 have lx:=yl.len
 have vZ:n.order≠0#32:=fun q9=>by
   rw[q9] at jf
   cases jf
 have Be:jC L n.order=some L.l[i]:=by
   unfold jC
   rw[dp vZ,jf]
   exact dK hi
 have pQ:=Fk (l:=gh ss) (r:=r) (e:=ts n.order L.l[i].sg.step (decide (L.l[i].sg.phase=2)) L.l[i].sg.tr n.code) gz
 have jB:0≤L.l[i].sg.step∧L.l[i].sg.step<16∧1≤L.l[i].sg.tr∧L.l[i].sg.tr≤255:=by
   rcases oB with ⟨_,_,_,q9⟩|⟨_,q1,q2,_,q3,_⟩
   · rw[q9] at has;cases has
   have hq:L.l[i].sg.step.toNat<(jD ps L.l[i].data).length:=by omega
   have Ut:=(yl.one _ (dG hq)).tries
   rw[dx has,Dz hq] at q3
   omega
 have qG:iZ (jA (gh ss) r (ts n.order L.l[i].sg.step (decide (L.l[i].sg.phase=2)) L.l[i].sg.tr n.code)):=⟨HG gz,h0,.inr (.inr (.inr (.inl ⟨rfl,vZ,jB.1,jB.2.1,jB.2.2.1,jB.2.2.2,yj⟩)))⟩
 have lA:kC ps L (jA (gh ss) r (ts n.order L.l[i].sg.step (decide (L.l[i].sg.phase=2)) L.l[i].sg.tr n.code))=true:=by
   unfold kC
   rw[dp (show ¬((jA (gh ss) r (ts n.order L.l[i].sg.step (decide (L.l[i].sg.phase=2)) L.l[i].sg.tr n.code))).kind=2 from by show ¬(4:Int)=2;decide),dp (show ¬((jA (gh ss) r (ts n.order L.l[i].sg.step (decide (L.l[i].sg.phase=2)) L.l[i].sg.tr n.code))).kind=3 from by show ¬(4:Int)=3;decide),dx (show ((jA (gh ss) r (ts n.order L.l[i].sg.step (decide (L.l[i].sg.phase=2)) L.l[i].sg.tr n.code))).kind=4 from rfl),show ((jA (gh ss) r (ts n.order L.l[i].sg.step (decide (L.l[i].sg.phase=2)) L.l[i].sg.tr n.code))).order=n.order from rfl,Be]
   show (L.l[i].sg.asked&&(decide (L.l[i].sg.step=L.l[i].sg.step)&&(decide (decide (L.l[i].sg.phase=2)=decide (L.l[i].sg.phase=2))&&decide (L.l[i].sg.tr=L.l[i].sg.tr))))=true
   simp[has]
 have tL:=Lp qG (by rw[pQ,uR]) EA lA
 have uT:mn (gh ss++[(jA (gh ss) r (ts n.order L.l[i].sg.step (decide (L.l[i].sg.phase=2)) L.l[i].sg.tr n.code))]):=hj.row.snoc qG pQ (fun x hx=>.inl (tT x hx))
 have CZ:=afv (e:=(jA (gh ss) r (ts n.order L.l[i].sg.step (decide (L.l[i].sg.phase=2)) L.l[i].sg.tr n.code))) rfl
 refine gY (iV fun b5=>?_)
 refine g_ [8] ?_
 refine ae rfl (an underlying32 rfl rfl) (g_ [1011,5,526] ?_)
 refine w_ [1000,0,1,1002,2] ?_
 refine lL (fun h=>h hk8) ?_
 refine w_ [3,4,5,6,7,8] ?_
 refine ki 9 [8] 21 rfl rfl rfl (aQ (n:=11) fa rfl iz gA) ?_
 refine ny (iw (i:=10) [9,8] rfl (aO (aP (dj:=21) rfl rfl) (iE.func call59 rfl) (AB n _ _ ⟨_,_,rfl⟩ ⟨_,_,rfl⟩ _) ax) fa) fa ?_
 refine w_ [1002,11] ?_
 refine az (v:=.bool false) (congrArg Value.bool (by rw[MF];rfl)) ?_
 refine w_ [12,13,1000,14,15,1001,16,9001,17,18,19,20,21,22,23,24,25] ?_
 refine gM ?_
 refine g_ [4,100,1,701,1041,8] ?_
 refine iG call26 rfl (vj p pd ps gN ss hj gz gz seen (some r) L _ (kX.mono (iY.v lW) (Sp.sub fc)) now) ?_
 refine g_ [709] ?_
 refine af (t:=49) (v:=.bool false) rfl (congrArg Value.bool (by rw[hle];rfl)) ?_
 refine g_ [11,103,2,104,1] ?_
 refine c_ call72 rfl (JQ pl ps gN L jG CL (ln.v ky)) ?_
 rintro PJ KW ⟨A,hA,rfl⟩
 have MA:(vG L).length≤500:=eJ (List.length_filterMap_le _ _) (by rw[r4];omega)
 rw[ha] at hA MA
 obtain ⟨ba,ca,extra,rfl,vQ,sw,uH,L9,rfl⟩:=hA.resolve_left (fun q=>by have:=q.2.1;simp at this)
 refine g_ [6] ?_
 refine ae rfl (cX rfl) (iG call82 rfl (af2 ba ca _ _ _ _ t extra _ gz b5 n _ _ _ _ _ jf yk nX _ iz iz) ?_)
 refine g_ [5,524] ?_
 refine w_ [1001,0,1,2,3,1003,4,5,6,1000,7,8] ?_
 refine gW 9 [8,1] rfl (bZ _ _ rfl rfl rfl rfl) fa ?_
 refine lL (fun h=>h jk) ?_
 refine w_ [10,11,1005,12,9001,13,14,1008,15,16,1005,17,9001,18,19,1008,20,21,1007,22,9001,23] ?_
 refine gM ?_
 refine g_ [5,518] ?_
 refine w_ [0,1005,1,2,1006,3,4] ?_
 refine az (v:=.int .i64 L.l[i].sg.step) (congrArg (Value.int .i64) yk) (w_ [1007,5,6] ?_)
 refine az (v:=.bool (decide (L.l[i].sg.phase=2))) (congrArg Value.bool nX) (w_ [7,8] ?_)
 refine gW 9 [8,7] rfl (Yd.indexAddr (e:=194) (s:=4) fa fa rfl rfl gz (by rw[dF];omega)) fa ?_
 refine w_ [1001,10,1002,11,12,1008,13,14] ?_
 refine gW 15 [14,12,6,4,2] rfl (aj (pl:=kz) (zs:=lh) (parts:=[(0,.const (.int .i64 4)),(3,.tmp 87),(4,.tmp 89),(5,.tmp 91),(6,.tmp 97),(7,.tmp 99)]) (vs:=[(0,_),(3,_),(4,_),(5,_),(6,_),(7,_)]) (cells:=[_,.int .u64 0,.int .u32 0,_,_,_,_,_,.int .u64 0,.slice none 0 0,.slice none 0 0]) fa fa rfl rfl) fa ?_
 refine gD 16 ?_
 refine iI rfl call40 rfl (HD p pd ps gN ss hj hb seen r L uR (row p (iN vp pj seen (ptr q)) 115::(CJ++((row q (jO r pl) 112::CL)++V))) ⟨vp,pj,ptr q,CJ,row q (jO r pl) 112::CL,V,rfl,hJ,⟨q,pl,CL,rfl,rfl,ky,jG⟩,hP⟩ gI CD hD hH (ts n.order L.l[i].sg.step (decide (L.l[i].sg.phase=2)) L.l[i].sg.tr n.code) qG tL uT CZ (.slice none 0 0) (.slice none 0 0) [] (.inl ⟨_,_,rfl,rfl,rfl⟩) (.inl ⟨_,_,rfl,rfl,rfl⟩)) ?_
 rintro aio XO ⟨rfl,iQ,jN,vB,oI,Cg,pY,nk,ns,qs,rfl⟩
 refine gG ?_ (hr:=by exact ig (iw [13] rfl (aw Wt.none (ab fa rfl iz gA)) fa) (ig (iw [11] rfl (aw Wt.none (ab (cs:=((i+1,L.l[i].sg.step,decide (L.l[i].sg.phase=2),L.l[i].sg.tr)::t).flatMap ph++extra) fa rfl iz gA)) fa) (ig (bI (congrArg Value.bool nX) (iw [5] rfl (aw Wt.none (ab fa rfl iz gA)) fa)) (ig (bI (congrArg (Value.int .i64) yk) (iw [3] rfl (aw Wt.none (ab fa rfl iz gA)) fa)) (ig (iw [1] rfl (aw Wt.none (ab fa rfl iz gA)) fa) jl)))))
 refine gD 17 ?_
 refine jm ?_
 refine gG ?_
 refine gM ?_
 refine g_ [2] ?_
 refine gH (vB++(oI++([]++H))) ?_
 exact aa results43 rfl (⟨rfl,iQ,jN,vB,oI,[],Cg,pY,nk,ns,qs,qG,tL,rfl⟩)
def yY (n:BitVec 32) (c:Int):En:={En.z with kind:=5,order:=n,code:=c}
theorem aaa {e:En} (h:e.kind=5):(iB e).length≤30:=by
  rw[RS h]
  simp only[dr,dF,dR,ju]
  omega
theorem aab {ps:List (List ia)} {l:List En} {r:Rl} {n:BitVec 32} {o:Lo} {p:List ia} (hs:qO p o.sg) (hb:l.length≤900) (h0:r.ep≠0#32) (hn:n≠0#32):tG (jA l r (yY n o.sg.code)):=by
  rcases hs with ⟨_,h1,h2,_⟩|⟨_,_,_,h1,_⟩
  · exact .inl ⟨HG hb,h0,.inr (.inr (.inr (.inr ⟨rfl,hn,h1,h2⟩)))⟩
  exact .inr ⟨HG hb,h0,rfl,hn,h1⟩
theorem OD {ps:List (List ia)} {L:Ld} {e:En} (h:tG e) (hc:lI ps L e=0):iZ e:=by
  rcases h with h|⟨_,_,h1,_,h2⟩
  · exact h
  exfalso
  have hk:e.kind=5:=congrArg En.kind h1
  have nr:vK e=40:=dx ⟨hk,h2⟩
  unfold lI at hc
  rw[nr,dx gB] at hc
  cases hc
theorem agB (p pd:Nat) (ps:List (List ia)) (gN:∀q∈ps,jh q) (ss:List gR) (hj:iM ss) (hb:(gh ss).length≤124) (seen:BitVec 32) (r:Rl) (L:Ld) (uR:L.last=(gh ss).length) (CS:List Ck) (hS:iY 115 112 179 185 223 229 248 3 77 p pd ps ss seen (some r) L CS) (gI:List (BitVec 8)) (CD:List Ck) (hD:jo 97 127 129 pd gI 0 CD) (hH:Holds gI ss) (now:BitVec 64) (hle:lj (some r) now=true) (s6:(gh ss).length≤(ng (some r) (gh ss)).toNat) (h0:r.ep≠0#32) (EA:L.ep≤r.ep.toNat) (tT:∀x,(gh ss).getLast?=some x→r.ep=x.ep) (ha:vG L=[]) (MO:AG L=[]) (H:List Ck):gC prog 41 [ptr p,.int .u64 now.toNat] (CS++(CD++H)) fun r0 gr=>(r0=.tuple #[.agg (gS jF (.slice none 0 0) (.slice none 0 0)).toArray,.int .i64 0]∧∃(i:Nat) (hi:i<L.l.length) (n:BitVec 32),n.toNat=i+1∧lI ps L (jA (gh ss) r (yY n L.l[i].sg.code))=0∧∃iQ jN iH jb D,iY 115 112 179 185 223 229 248 3 77 p pd ps iQ seen (some r) (nG ps L (jA (gh ss) r (yY n L.l[i].sg.code))) iH∧jo 97 127 129 pd jN 0 jb∧Holds jN iQ∧iM iQ∧gh iQ=gh ss++[(jA (gh ss) r (yY n L.l[i].sg.code))]∧iZ (jA (gh ss) r (yY n L.l[i].sg.code))∧lI ps L (jA (gh ss) r (yY n L.l[i].sg.code))=0∧gr=iH++(jb++(D++H)))∨(r0=.tuple #[.agg (gS jF (.slice none 0 0) (.slice none 0 0)).toArray,.int .i64 4]∧∃iH jb D,iY 115 112 179 185 223 229 248 3 77 p pd ps ss seen (some r) L iH∧jo 97 127 129 pd gI 0 jb∧gr=iH++(jb++(D++H))):=by
 refine gC.enter func41 rfl ntmps41 rfl ?_
 intro w0 R
 have lW:=hS
 have ie:=hj.jW gz
 obtain ⟨vp,pj,vr,CJ,CR,V,rfl,hJ,hR,hP⟩:=hS
 obtain ⟨q,pl,CL,rfl,rfl,ky,jG⟩:=hR
 have qJ:(js (gh ss)).toNat=(gh ss).length:=nO gz
 have sE:=jG.many
 have yf:BitVec.ofNat 64 L.last=js (gh ss):=by rw[uR];rfl
 refine gY (iS iP fun b4=>?_)
 refine g_ [8] ?_
 refine ae rfl (an underlying32 rfl rfl) (g_ [1018,5,515] ?_)
 refine w_ [0,1] ?_
 refine jy 2 [1,0] rfl call26 rfl (vj p pd ps gN ss hj gz gz seen (some r) L _ (kX.mono (iY.v lW) (Sp.sub fc)) now) ax ?_
 refine w_ [1009,3] ?_
 refine az (v:=.bool false) (congrArg Value.bool (by rw[hle];rfl)) ?_
 refine w_ [4,5] ?_
 refine ny (iw (i:=6) [5,4] rfl (aO (aP (dj:=25) rfl rfl) (iE.func call71 rfl) (Fe p pd ps gN ss hj gz gz seen (some r) L _ (kX.mono (iY.v lW) (Sp.sub fc))) ax) fa) fa ?_
 refine w_ [7,8,1001,9,10] ?_
 refine ny (iw (i:=11) [10,6,4] rfl (aO (aP (dj:=25) rfl rfl) (iE.func call64 rfl) (qM pj pd ss _ _ (JV.mono (na.v hJ) (Sp.sub fc)) gz hj gz) ax) fa) fa ?_
 refine w_ [1005,12,9001,13,14] ?_
 refine gM ?_
 refine g_ [9,103,2,104,8] ?_
 refine c_ call72 rfl (JQ pl ps gN L jG CL (ln.v ky)) ?_
 rintro XC Ql ⟨A,hA,rfl⟩
 rw[ha] at hA
 obtain ⟨ao,ac,rfl,_⟩:=hA.form
 refine g_ [6,710,194,707] ?_
 refine af (t:=47) (v:=.bool false) rfl (congrArg Value.bool gA) ?_
 refine g_ [9] ?_
 refine c_ call75 rfl (U1 pl ps gN L jG CL (ln.v ky)) ?_
 rintro x80 X4 ⟨B,hB,rfl⟩
 rw[MO] at hB
 obtain ⟨bo,F0,rfl,_⟩:=hB.form
 refine g_ [6,710,194,707] ?_
 refine af (t:=83) (v:=.bool false) rfl (congrArg Value.bool gA) ?_
 refine g_ [8] ?_
 refine ae rfl (Yd.assign (v:=.int .u32 ((1#32).toNat:Int)) rfl) (g_ [3] ?_)
 refine aC (fun z:(BitVec 32)=>1≤z.toNat∧z.toNat≤L.l.length+1) (fun z:(BitVec 32)=>[(6,ptr pl),(12,.int .u32 (z.toNat:Int))]) (fun z:(BitVec 32)=>row b4 (gS jF (.slice none 0 0) (.slice none 0 0)) 104::((row p (iN vp pj seen (ptr q)) 115::(CJ++((row q (jO r pl) 112::CL)++V)))++(CD++(A++(B++H))))) (fun z:(BitVec 32)=>L.l.length+1-z.toNat) ((1#32)) (show 1≤(1#32).toNat∧(1#32).toNat≤L.l.length+1 from ⟨by decide,by show 1≤L.l.length+1;omega⟩) (Sx.put rfl (Sx.put rfl (gL))) fc ?_
 rintro n hI
 replace hI:1≤n.toNat∧n.toNat≤L.l.length+1:=hI
 obtain ⟨hi1,jV⟩:=hI
 change WC _ _ _ _ _ _ ([(6,ptr pl),(12,.int .u32 (n.toNat:Int))]++_) (row b4 (gS jF (.slice none 0 0) (.slice none 0 0)) 104::((row p (iN vp pj seen (ptr q)) 115::(CJ++((row q (jO r pl) 112::CL)++V)))++(CD++(A++(B++H)))))
 refine g_ [4] ?_
 refine ae rfl (bS _ fa fa rfl rfl) ?_
 refine g_ [1] ?_
 refine iG call39 rfl (Vc (mN.mono (ln.v ky) (Sp.sub fc))) ?_
 refine g_ [706,2] ?_
 refine gK rfl (fun aaT=>?_) fun aaT=>?_
 obtain ⟨i,nM⟩:∃i,n.toNat=i:=⟨_,rfl⟩
 have qH:i-1<L.l.length:=by omega
 have EB:(n+1#32).toNat=n.toNat+1:=by
   rw[ga]
   show (n.toNat+1)%4294967296=n.toNat+1
   omega
 have vZ:n≠0#32:=fun q9=>by
   have h8:n.toNat=(0#32).toNat:=by rw[q9]
   have:(0#32).toNat=0:=rfl
   omega
 have Be:jC L n=some L.l[i-1]:=by
   unfold jC
   rw[dp vZ,nM]
   exact dK qH
 have Js:=aab (ps:=ps) (l:=gh ss) (r:=r) (n:=n) (o:=L.l[i-1]) (jG.one _ (dG qH)).2.1 gz h0 vZ
 refine g_ [8] ?_
 refine c_ call76 rfl (ad8 pl ps gN L jG CL (ln.v ky) n L.l[i-1] Be) ?_
 rintro aiq XQ ⟨vk,vd,G,rfl,rfl⟩
 refine g_ [3] ?_
 refine iS Ag fun se=>?_
 refine g_ [310,4,517] ?_
 refine w_ [0] ?_
 refine jy 1 [0] rfl call66 rfl (Oe (mN.mono (ln.v ky) (Sp.sub fc)) gz) ax ?_
 refine az (v:=.int .u64 (js (gh ss)).toNat) (by rw[yf]) ?_
 refine gW 2 [1] rfl (aY _ (1#64) rfl rfl rfl rfl) fa ?_
 refine w_ [3,4,1003,5,6,7,1000,8,9,10,1003,11,1006,12,13] ?_
 refine gW 14 [13,10,9,2] rfl (aj (pl:=kz) (zs:=lh) (parts:=[(0,.const (.int .i64 5)),(1,.tmp 117),(2,.tmp 124),(3,.tmp 125),(7,.tmp 128)]) (vs:=[(0,_),(1,_),(2,_),(3,_),(7,_)]) (cells:=[_,_,_,_,.int .i64 0,.bool false,.int .i64 0,_,.int .u64 0,.slice none 0 0,.slice none 0 0]) fa fa rfl rfl) fa ?_
 refine gD 15 ?_
 refine nQ lh fun oK=>?_
 refine gG ?_ (hr:=by exact ig (iw [12] rfl (aw Wt.none (ab fa rfl iz gA)) fa) (ig (iw [8] rfl (aw Wt.none (ab fa rfl iz gA)) fa) (ig (iw [5] rfl (aw Wt.none (ab fa rfl iz gA)) fa) (ig (bI (by rw[yf]) (iw [0] rfl (aO Wt.none (iE.func call66 rfl) (Oe (mN.mono (ln.v ky) (Sp.sub fc)) gz) ax) fa)) jl))))
 refine gD 16 ?_
 refine jT 11 ?_
 refine gG ?_
 refine gM ?_
 refine g_ [4,411] ?_
 refine iG call67 rfl (Dh pl ps gN L jG (jA (gh ss) r (yY n L.l[i-1].sg.code)) Js (.slice none 0 0) (.slice none 0 0) _ (mN.mono (ln.v ky) (Sp.sub fc)) (.inl ⟨_,_,rfl,rfl,rfl⟩) (.inl ⟨_,_,rfl,rfl,rfl⟩)) ?_
 refine g_ [701,2] ?_
 refine gK rfl (fun B0=>?_) fun B0=>?_
 refine gY (kJ kz iP (g_ [1,411] ?_))
 refine c_ call40 rfl (HD p pd ps gN ss hj hb seen r L uR (row p (iN vp pj seen (ptr q)) 115::(CJ++((row q (jO r pl) 112::CL)++V))) ⟨vp,pj,ptr q,CJ,row q (jO r pl) 112::CL,V,rfl,hJ,⟨q,pl,CL,rfl,rfl,ky,jG⟩,hP⟩ gI CD hD hH (jA (gh ss) r (yY n L.l[i-1].sg.code)) (OD Js B0) B0 (hj.row.snoc (OD Js B0) (Fk gz) (fun x hx=>.inl (tT x hx))) (aaa rfl) (.slice none 0 0) (.slice none 0 0) [] (.inl ⟨_,_,rfl,rfl,rfl⟩) (.inl ⟨_,_,rfl,rfl,rfl⟩)) ?_
 rintro ajP aiz ⟨rfl,iQ,jN,vB,oI,Cg,pY,nk,ns,qs,rfl⟩
 refine g_ [311,9] ?_
 refine au (s:=11) (vB++(oI++((A++(B++G))++H))) results41 fa rfl rfl iz gA fc ?_
 exact .inl ⟨rfl,i-1,qH,n,by omega,B0,iQ,jN,vB,oI,_,Cg,pY,nk,ns,qs,OD Js B0,B0,rfl⟩
 refine g_ [5] ?_
 refine ae rfl (Yd.KY _ (1#32) rfl rfl rfl rfl) (g_ [2] ?_)
 exact ai (n+1#32) (show 1≤(n+1#32).toNat∧(n+1#32).toNat≤L.l.length+1 from ⟨by omega,by omega⟩) (by show L.l.length+1-(n+1#32).toNat<L.l.length+1-n.toNat;omega) (Sx.put rfl (Sx.put rfl (gL))) fc
 refine g_ [7] ?_
 refine kJ kz iP (g_ [311,4] ?_)
 refine au (s:=11) ((row p (iN vp pj seen (ptr q)) 115::(CJ++((row q (jO r pl) 112::CL)++V)))++(CD++((A++B)++H))) results41 fa rfl rfl iz gA fc ?_
 exact .inr ⟨rfl,_,CD,_,⟨vp,pj,_,CJ,_,V,rfl,hJ,⟨q,pl,CL,rfl,rfl,ky,jG⟩,hP⟩,hD,rfl⟩
def xC (key:List (BitVec 8)) (s:Option (BitVec 32×Int)) (e:En):Option (BitVec 32×Int):=
  if e.kind=2∧e.key=key then some (e.order,0) else match s with
    |none=>none
    |some s=>if e.kind=5∧e.order=s.1 then some (s.1,e.code) else some s
def rA (key:List (BitVec 8)) (l:List En):Option (BitVec 32×Int):=l.foldl (xC key) none
def mz (key:List (BitVec 8)) (s:Option (BitVec 32×Int)):Nt:=match s with
  |none=>jF
  |some s=>{jF with kind:=13,order:=s.1,code:=s.2,key:=key}
theorem OZ {key:List (BitVec 8)} {l:List En} {e:En}:rA key (l++[e])=xC key (rA key l) e:=by unfold rA;rw[List.foldl_append];rfl
def RQ (key:List (BitVec 8)) (l:List En) (s:Option (BitVec 32×Int)):Prop:=∀x,s=some x→(∃e∈l,e.kind=2∧e.key=key∧e.order=x.1)∧(x.2=0∨∃e∈l,e.kind=5∧e.order=x.1∧e.code=x.2)
theorem RQ.step {key:List (BitVec 8)} {l:List En} {s:Option (BitVec 32×Int)} (h:RQ key l s) (e:En):RQ key (l++[e]) (xC key s e):=by
  intro x hx
  have up:∀y,s=some y→(∃oM∈l++[e],oM.kind=2∧oM.key=key∧oM.order=y.1)∧(y.2=0∨∃oM∈l++[e],oM.kind=5∧oM.order=y.1∧oM.code=y.2):=fun y hy=>by
    obtain ⟨⟨a,ha,h1⟩,h2⟩:=h y hy
    refine ⟨⟨a,dw _ ha,h1⟩,?_⟩
    rcases h2 with h2|⟨b,hb,h2⟩
    · exact .inl h2
    exact .inr ⟨b,dw _ hb,h2⟩
  unfold xC at hx
  split at hx
  · rename_i hc
    cases hx
    exact ⟨⟨e,by simp,hc.1,hc.2,rfl⟩,.inl rfl⟩
  cases s with
  |none=>cases hx
  | some y=>
    simp only at hx
    obtain ⟨u1,u2⟩:=up y rfl
    split at hx
    · rename_i hc
      cases hx
      exact ⟨u1,.inr ⟨e,by simp,hc.1,hc.2,rfl⟩⟩
    cases hx
    exact ⟨u1,u2⟩
theorem RQ.fold {key:List (BitVec 8)}:∀(l:List En) {pre:List En} {s:Option (BitVec 32×Int)},RQ key pre s→RQ key (pre++l) (l.foldl (xC key) s)
  |[],pre,s,h=>by rw[eF];exact h
  | e::l,pre,s,h=>by
    have:=RQ.fold l (h.step e)
    rw[dD] at this
    exact this
theorem Wh {key:List (BitVec 8)} {l:List En} {x:BitVec 32×Int} (h:rA key l=some x):(∃e∈l,e.kind=2∧e.key=key∧e.order=x.1)∧(x.2=0∨∃e∈l,e.kind=5∧e.order=x.1∧e.code=x.2):=by
  have:=RQ.fold l (key:=key) (pre:=[]) (s:=none) (fun _ q=>by cases q)
  rw[eC] at this
  exact this x h
theorem Zv {r:Option Rl} {l:List En} (h:l.length≤125):(ng r l).toNat≤125:=by
  have hl:(js l).toNat=l.length:=nO gz
  cases r with
  |none=>exact dN _
  | some r=>
    show (yS r.mode (js l) r.iU).toNat≤125
    unfold yS
    split
    · omega
    split
    · unfold n4;split<;>omega
    exact dN _
theorem rz {n i:Nat} (h:i<n):n-(i+1)<n-i:=by omega
section
variable {key:List (BitVec 8)} {l:List En} {i:Nat} {s:Option (BitVec 32×Int)} {wk:Value} {A:List Ck} (gQ:i<l.length) (hs:s=rA key (l.take i))
include gQ hs
theorem We (h2:l[i].kind=2) (hq:str l[i].key=str key) (hb:Bs wk l[i].key A):i+1≤l.length∧some (l[i].order,(0:Int))=rA key (l.take (i+1))∧Bs wk (mz key (some (l[i].order,0))).key A:=by
  have rX:=str_inj.1 hq
  have jB:xC key s l[i]=some (l[i].order,0):=by
    unfold xC
    rw[dx ⟨h2,rX⟩]
  refine ⟨gQ,by rw[dJ gQ,OZ,←hs,jB],?_⟩
  rw[rX] at hb
  exact hb
theorem Kg {sc:BitVec 32×Int} (e:s=some sc) (h5:l[i].kind=5) (ho:l[i].order=sc.1) (hb:Bs wk (mz key s).key A):i+1≤l.length∧some (sc.1,l[i].code)=rA key (l.take (i+1))∧Bs wk (mz key (some (sc.1,l[i].code))).key A:=by
  subst e
  have jB:xC key (some sc) l[i]=some (sc.1,l[i].code):=by
    unfold xC
    rw[dp (fun q=>absurd (h5.symm.trans q.1) gB)]
    show (if l[i].kind=5∧l[i].order=sc.1 then some (sc.1,l[i].code) else some sc)=_
    rw[dx ⟨h5,ho⟩]
  exact ⟨gQ,by rw[dJ gQ,OZ,←hs,jB],hb⟩
theorem wm (h2:¬(l[i].kind=2∧l[i].key=key)) (h5:∀sc,s=some sc→¬(l[i].kind=5∧l[i].order=sc.1)) (hb:Bs wk (mz key s).key A):i+1≤l.length∧s=rA key (l.take (i+1))∧Bs wk (mz key s).key A:=by
  have jB:xC key s l[i]=s:=by
    unfold xC
    rw[dp h2]
    cases s with
    |none=>rfl
    |some sc=>exact dp (h5 sc rfl)
  exact ⟨gQ,by rw[dJ gQ,OZ,←hs,jB],hb⟩
end
theorem agq (p pd:Nat) (ps:List (List ia)) (gN:∀q∈ps,jh q) (ss:List gR) (hj:iM ss) (hb:(gh ss).length≤125) (seen:BitVec 32) (r:Option Rl) (L:Ld) (now:BitVec 64) (key:List (BitVec 8)) (vk:Value) (H:List Ck) (hv:kX p pd ps ss seen r L H) (hk:Bs vk key H) (hle:lj r now=false):gC prog 49 [ptr p,.int .u64 now.toNat,vk] H fun r0 gr=>r0=.tuple #[.agg (gS jF (.slice none 0 0) (.slice none 0 0)).toArray,.bool false]∧gr=H:=by
 refine gC.enter func49 rfl ntmps49 rfl ?_
 intro w0 R
 have ie:=hj.jW gz
 obtain ⟨ko,kc,rfl,_⟩:=hk.form
 refine gY (iS iP fun b6=>?_)
 refine g_ [8] ?_
 refine iG call26 rfl (vj p pd ps gN ss hj gz gz seen r L _ (hv.mono (Sp.sub fc)) now) ?_
 refine g_ [709] ?_
 refine af (t:=14) (v:=.bool true) rfl (congrArg Value.bool (by rw[hle];rfl)) ?_
 refine g_ [5] ?_
 refine kJ kz iP (g_ [311,5] ?_)
 refine au (s:=11) (H) results49 fa rfl rfl iz gA fc ?_
 exact ⟨rfl,rfl⟩
theorem agr (p pd:Nat) (ps:List (List ia)) (gN:∀q∈ps,jh q) (ss:List gR) (hj:iM ss) (hb:(gh ss).length≤125) (seen:BitVec 32) (r:Option Rl) (L:Ld) (now:BitVec 64) (key:List (BitVec 8)) (vk:Value) (H:List Ck) (hv:kX p pd ps ss seen r L H) (hk:Bs vk key H) (hle:lj r now=true):gC prog 49 [ptr p,.int .u64 now.toNat,vk] H fun r0 gr=>∃DB A,r0=.tuple #[.agg (gS (mz key (rA key ((gh ss).take (ng r (gh ss)).toNat))) DB (.slice none 0 0)).toArray,.bool (rA key ((gh ss).take (ng r (gh ss)).toNat)).isSome]∧Bs DB (mz key (rA key ((gh ss).take (ng r (gh ss)).toNat))).key A∧gr=A++H:=by
 refine gC.enter func49 rfl ntmps49 rfl ?_
 intro w0 R
 have ie:=hj.jW gz
 have nD:=hv
 obtain ⟨vp,pj,vr,T9,kr,km,hU,hJ,hR,hP⟩:=nD
 have tM:=Zv (r:=r) hb
 obtain ⟨m,Ba⟩:∃m,m=(ng r (gh ss)).toNat:=⟨_,rfl⟩
 rw[←Ba]
 obtain ⟨ko,kc,rfl,_⟩:=hk.form
 refine gY (iS iP fun b6=>?_)
 refine g_ [8] ?_
 refine iG call26 rfl (vj p pd ps gN ss hj gz gz seen r L _ (hv.mono (Sp.sub fc)) now) ?_
 refine g_ [709] ?_
 refine af (t:=14) (v:=.bool false) rfl (congrArg Value.bool (by rw[hle];rfl)) ?_
 refine g_ [7] ?_
 refine iS iP fun b8=>?_
 refine g_ [4,511] ?_
 refine w_ [0,1,1001,2] ?_
 refine iD 3 [2] rfl (ab (cs:=iN vp pj seen vr) fa rfl (aA (C:=H) fc hU) gA) ?_
 refine w_ [4] ?_
 refine jy 5 [4] rfl call71 rfl (Fe p pd ps gN ss hj gz gz seen r L _ (hv.mono (Sp.sub fc))) ax ?_
 refine gW 6 [5] rfl (cg rfl rfl) fa ?_
 refine az (v:=.int .u64 (m:Int)) (congrArg (Value.int .u64) gz) ?_
 refine gW 7 [6] rfl (bQ fa fa rfl gz gz) fa ?_
 refine az (v:=.int .i64 (m:Int)) (congrArg (Value.int .i64) gz) ?_
 refine pe [(8,[7,5,3]),(10,[])] fa (ig ?_ (ig ?_ (jl)))
 refine kP ?_
 refine iI rfl call89 rfl (N1 pj pd ss _ H hJ gz gz hj.row.mG.ok m) ?_
 rintro DH BI ⟨A,hA,rfl⟩
 obtain ⟨ao,ac,rfl,_⟩:=VS.form (EO.ev hA)
 refine gG ?_
 refine w_ [3077,9] ?_
 refine gD 10 ?_
 refine SO.y rfl Wt.none rfl (Yd.move rfl) (gG ?_)
 refine gM ?_
 refine g_ [2] ?_
 refine aC (fun z:Nat×(Option (BitVec 32×Int))×Value=>z.1≤((gh ss).take m).length∧z.2.1=rA key (((gh ss).take m).take z.1)∧Bs z.2.2 (mz key z.2.1).key A) (fun z:Nat×(Option (BitVec 32×Int))×Value=>[(26,.int .i64 (z.1:Int))]) (fun z:Nat×(Option (BitVec 32×Int))×Value=>row b6 (gS jF (.slice none 0 0) (.slice none 0 0)) 104::(row b8 (gS (mz key z.2.1) z.2.2 (.slice none 0 0)) 104::(A++H))) (fun z:Nat×(Option (BitVec 32×Int))×Value=>((gh ss).take m).length-z.1) (⟨0,none,.slice none 0 0⟩) (show 0≤((gh ss).take m).length∧none=rA key (((gh ss).take m).take 0)∧Bs (.slice none 0 0) (mz key none).key A from ⟨dN _,rfl,.inl ⟨_,_,rfl,rfl,rfl⟩⟩) (Sx.put rfl (gL)) fc ?_
 rintro ⟨i,s,wk⟩ hI
 replace hI:i≤((gh ss).take m).length∧s=rA key (((gh ss).take m).take i)∧Bs wk (mz key s).key A:=hI
 obtain ⟨hi,nZ,nF⟩:=hI
 change WC _ _ _ _ _ _ ([(26,.int .i64 (i:Int))]++_) (row b6 (gS jF (.slice none 0 0) (.slice none 0 0)) 104::(row b8 (gS (mz key s) wk (.slice none 0 0)) 104::(A++H)))
 obtain ⟨wo,wc,rfl,_⟩:=nF.form
 refine g_ [2,705,3] ?_
 refine gK rfl (fun lz=>?_) fun lz=>?_
 have gQ:i<((gh ss).take m).length:=by omega
 have abW:=gQ
 obtain ⟨b1,o1,si,lV,T1,ra,qY,kL,zi,kM,c1,⟨DG,DF,rfl,np,nL⟩,rY⟩:=VS.rowAt (EO.ev hA) (i:=i) gQ gB
 simp only[dI,eD] at kL
 obtain ⟨rfl,rfl⟩:=kL
 obtain ⟨kW,kV,rfl,_⟩:=np.form
 obtain ⟨lq,lp,rfl,_⟩:=nL.form
 have html:((gh ss).take m).length≤125:=by rw[dE];omega
 have NQ:=SL.iZ.qP (hj.row.mG.ok _ (fY (dG gQ)))
 have w5:=NQ.o
 refine g_ [6,711,77,11] ?_
 refine WL.h rfl (aJ (n:=11) (vs:=enc ((gh ss).take m)[i] (.slice kW ((gh ss).take m)[i].key.length kV) (.slice lq ((gh ss).take m)[i].data.length lp)) (cs:=lV) fa rfl (aA (C:=A) fc kM) rfl (by rw[show o1+((i:Int)).toNat*11=o1+i*11 by omega];exact rY) ⟨_,rfl,?_⟩)
 refine iS lh fun pg=>?_
 refine g_ [311,5,100,1,701,1] ?_
 refine ag (t:=34) rfl (fun s8=>?_) (fun s8=>?_)
 refine g_ [109,1] ?_
 refine aS (dj:=34) rfl rfl rfl (aM (e:=5) (bs:=((gh ss).take m)[i].key) fa fa underlying9 rfl (np.mono (Sp.sub fc)) ⟨_,rfl,?_⟩)
 refine g_ [1] ?_
 refine aS (dj:=34) rfl rfl rfl (aM (e:=5) (bs:=key) fa fa underlying9 rfl (hk.mono (Sp.sub fc)) ⟨_,rfl,?_⟩)
 refine jx 34 rfl rfl rfl (bN rfl rfl) (g_ [4] ?_)
 refine gK rfl (fun sX=>?_) fun sX=>?_
 refine g_ [1,103,1,109,1] ?_
 refine ae rfl (aj (pl:=kz) (zs:=iP) (parts:=[(0,.const (.int .i64 13)),(5,.tmp 43),(9,.tmp 45)]) (vs:=[(0,_),(5,_),(9,_)]) (cells:=[_,.int .u32 0,.int .u32 0,.int .u64 0,.int .u64 0,_,.int .i64 0,.bool false,.int .i64 0,_,.slice none 0 0]) fa fa rfl rfl) ?_
 refine g_ [311,5,703,2] ?_
 exact ai ⟨i+1,some ((((gh ss).take m)[i]).order,0),.slice kW (((gh ss).take m)[i]).key.length kV⟩ (We gQ nZ s8 sX np) (rz gQ) (Sx.put rfl (gL)) fc
 refine g_ [2,100,1,701,1] ?_
 refine ag (t:=51) rfl (fun mV=>?_) (fun mV=>?_)
 refine g_ [105,1,707,2] ?_
 refine ag (t:=56) rfl (fun pz=>?_) (fun pz=>?_)
 refine g_ [103,1,105,1] ?_
 refine jx 56 rfl rfl rfl (aD _ _ rfl rfl rfl rfl) (g_ [4] ?_)
 refine gK rfl (fun lN=>?_) fun lN=>?_
 refine g_ [1,107,1,108,6,703,2] ?_
 obtain ⟨sc,rfl⟩:∃sc,s=some sc:=by
   cases s with
   |none=>exact absurd pz (by show ¬(0:Int)<((0#32).toNat:Int);decide)
   |some sc=>exact ⟨sc,rfl⟩
 exact ai ⟨i+1,some (sc.1,(((gh ss).take m)[i]).code),.slice wo (mz key (some sc)).key.length wc⟩ (Kg gQ nZ rfl mV lN nF) (rz gQ) (Sx.put rfl (gL)) fc
 refine g_ [5,703,2] ?_
 exact ai ⟨i+1,s,.slice wo (mz key s).key.length wc⟩ (wm gQ nZ (by rintro ⟨q1,q2⟩;exact sX (congrArg str q2)) (by
    rintro sc rfl ⟨q1,q2⟩
    exact lN q2) nF) (rz gQ) (Sx.put rfl (gL)) fc
 refine g_ [15,703,2] ?_
 exact ai ⟨i+1,s,.slice wo (mz key s).key.length wc⟩ (wm gQ nZ (by rintro ⟨q1,q2⟩;exact sX (congrArg str q2)) (by
    rintro sc rfl ⟨q1,q2⟩
    have h7:=w5 gz
    rw[q2] at h7
    exact pz (show (0:Int)<(sc.1.toNat:Int) by omega)) nF) (rz gQ) (Sx.put rfl (gL)) fc
 refine g_ [20,703,2] ?_
 exact ai ⟨i+1,s,.slice wo (mz key s).key.length wc⟩ (wm gQ nZ (by rintro ⟨q1,q2⟩;exact sX (congrArg str q2)) (by
    rintro sc rfl ⟨q1,q2⟩
    exact mV q1) nF) (rz gQ) (Sx.put rfl (gL)) fc
 refine g_ [13,100,1,701,1] ?_
 refine ag (t:=51) rfl (fun mV=>?_) (fun mV=>?_)
 refine g_ [105,1,707,2] ?_
 refine ag (t:=56) rfl (fun pz=>?_) (fun pz=>?_)
 refine g_ [103,1,105,1] ?_
 refine jx 56 rfl rfl rfl (aD _ _ rfl rfl rfl rfl) (g_ [4] ?_)
 refine gK rfl (fun lN=>?_) fun lN=>?_
 refine g_ [1,107,1,108,6,703,2] ?_
 obtain ⟨sc,rfl⟩:∃sc,s=some sc:=by
   cases s with
   |none=>exact absurd pz (by show ¬(0:Int)<((0#32).toNat:Int);decide)
   |some sc=>exact ⟨sc,rfl⟩
 exact ai ⟨i+1,some (sc.1,(((gh ss).take m)[i]).code),.slice wo (mz key (some sc)).key.length wc⟩ (Kg gQ nZ rfl mV lN nF) (rz gQ) (Sx.put rfl (gL)) fc
 refine g_ [5,703,2] ?_
 exact ai ⟨i+1,s,.slice wo (mz key s).key.length wc⟩ (wm gQ nZ (by rintro ⟨q1,q2⟩;exact s8 q1) (by
    rintro sc rfl ⟨q1,q2⟩
    exact lN q2) nF) (rz gQ) (Sx.put rfl (gL)) fc
 refine g_ [15,703,2] ?_
 exact ai ⟨i+1,s,.slice wo (mz key s).key.length wc⟩ (wm gQ nZ (by rintro ⟨q1,q2⟩;exact s8 q1) (by
    rintro sc rfl ⟨q1,q2⟩
    have h7:=w5 gz
    rw[q2] at h7
    exact pz (show (0:Int)<(sc.1.toNat:Int) by omega)) nF) (rz gQ) (Sx.put rfl (gL)) fc
 refine g_ [20,703,2] ?_
 exact ai ⟨i+1,s,.slice wo (mz key s).key.length wc⟩ (wm gQ nZ (by rintro ⟨q1,q2⟩;exact s8 q1) (by
    rintro sc rfl ⟨q1,q2⟩
    exact mV q1) nF) (rz gQ) (Sx.put rfl (gL)) fc
 have lY:i=((gh ss).take m).length:=by omega
 subst lY
 rw[eH] at nZ
 refine g_ [6,506] ?_
 refine w_ [2011,0,1005,1,2,1007,3] ?_
 refine gD 4 ?_
 refine jT 11 ?_
 refine iO [0] ?_
 refine gD 5 ?_
 refine jm ?_
 refine gG ?_
 refine gM ?_
 refine g_ [2] ?_
 refine au (s:=11) (A++H) results49 fa rfl rfl iz gA fc ?_
 rotate_left
 refine kP ?_
 refine SO.y rfl Wt.none rfl (Yd.move rfl) (gG ?_ (hr:=by exact ig (iw [4] rfl (aO Wt.none (iE.func call71 rfl) (Fe p pd ps gN ss hj gz gz seen r L _ (hv.mono (Sp.sub fc))) ax) fa) (ig (iw [2] rfl (aw Wt.none (ab (cs:=iN vp pj seen vr) fa rfl (aA (C:=H) fc hU) gA)) fa) jl)))
 refine gD 8 ?_
 refine iI rfl call89 rfl (N1 pj pd ss _ H hJ gz gz hj.row.mG.ok m) ?_
 rintro DH BI ⟨A,hA,rfl⟩
 obtain ⟨ao,ac,rfl,_⟩:=VS.form (EO.ev hA)
 refine gG ?_
 refine w_ [3077,9] ?_
 refine gM ?_
 refine g_ [2] ?_
 refine aC (fun z:Nat×(Option (BitVec 32×Int))×Value=>z.1≤((gh ss).take m).length∧z.2.1=rA key (((gh ss).take m).take z.1)∧Bs z.2.2 (mz key z.2.1).key A) (fun z:Nat×(Option (BitVec 32×Int))×Value=>[(26,.int .i64 (z.1:Int))]) (fun z:Nat×(Option (BitVec 32×Int))×Value=>row b6 (gS jF (.slice none 0 0) (.slice none 0 0)) 104::(row b8 (gS (mz key z.2.1) z.2.2 (.slice none 0 0)) 104::(A++H))) (fun z:Nat×(Option (BitVec 32×Int))×Value=>((gh ss).take m).length-z.1) (⟨0,none,.slice none 0 0⟩) (show 0≤((gh ss).take m).length∧none=rA key (((gh ss).take m).take 0)∧Bs (.slice none 0 0) (mz key none).key A from ⟨dN _,rfl,.inl ⟨_,_,rfl,rfl,rfl⟩⟩) (Sx.put rfl (gL)) fc ?_
 rintro ⟨i,s,wk⟩ hI
 replace hI:i≤((gh ss).take m).length∧s=rA key (((gh ss).take m).take i)∧Bs wk (mz key s).key A:=hI
 obtain ⟨hi,nZ,nF⟩:=hI
 change WC _ _ _ _ _ _ ([(26,.int .i64 (i:Int))]++_) (row b6 (gS jF (.slice none 0 0) (.slice none 0 0)) 104::(row b8 (gS (mz key s) wk (.slice none 0 0)) 104::(A++H)))
 obtain ⟨wo,wc,rfl,_⟩:=nF.form
 refine g_ [2,705,3] ?_
 refine gK rfl (fun lz=>?_) fun lz=>?_
 have gQ:i<((gh ss).take m).length:=by omega
 have abW:=gQ
 obtain ⟨b1,o1,si,lV,T1,ra,qY,kL,zi,kM,c1,⟨DG,DF,rfl,np,nL⟩,rY⟩:=VS.rowAt (EO.ev hA) (i:=i) gQ gB
 simp only[dI,eD] at kL
 obtain ⟨rfl,rfl⟩:=kL
 obtain ⟨kW,kV,rfl,_⟩:=np.form
 obtain ⟨lq,lp,rfl,_⟩:=nL.form
 have html:((gh ss).take m).length≤125:=by rw[dE];omega
 have NQ:=SL.iZ.qP (hj.row.mG.ok _ (fY (dG gQ)))
 have w5:=NQ.o
 refine g_ [6,711,77,11] ?_
 refine WL.h rfl (aJ (n:=11) (vs:=enc ((gh ss).take m)[i] (.slice kW ((gh ss).take m)[i].key.length kV) (.slice lq ((gh ss).take m)[i].data.length lp)) (cs:=lV) fa rfl (aA (C:=A) fc kM) rfl (by rw[show o1+((i:Int)).toNat*11=o1+i*11 by omega];exact rY) ⟨_,rfl,?_⟩)
 refine iS lh fun pg=>?_
 refine g_ [311,5,100,1,701,1] ?_
 refine ag (t:=34) rfl (fun s8=>?_) (fun s8=>?_)
 refine g_ [109,1] ?_
 refine aS (dj:=34) rfl rfl rfl (aM (e:=5) (bs:=((gh ss).take m)[i].key) fa fa underlying9 rfl (np.mono (Sp.sub fc)) ⟨_,rfl,?_⟩)
 refine g_ [1] ?_
 refine aS (dj:=34) rfl rfl rfl (aM (e:=5) (bs:=key) fa fa underlying9 rfl (hk.mono (Sp.sub fc)) ⟨_,rfl,?_⟩)
 refine jx 34 rfl rfl rfl (bN rfl rfl) (g_ [4] ?_)
 refine gK rfl (fun sX=>?_) fun sX=>?_
 refine g_ [1,103,1,109,1] ?_
 refine ae rfl (aj (pl:=kz) (zs:=iP) (parts:=[(0,.const (.int .i64 13)),(5,.tmp 43),(9,.tmp 45)]) (vs:=[(0,_),(5,_),(9,_)]) (cells:=[_,.int .u32 0,.int .u32 0,.int .u64 0,.int .u64 0,_,.int .i64 0,.bool false,.int .i64 0,_,.slice none 0 0]) fa fa rfl rfl) ?_
 refine g_ [311,5,703,2] ?_
 exact ai ⟨i+1,some ((((gh ss).take m)[i]).order,0),.slice kW (((gh ss).take m)[i]).key.length kV⟩ (We gQ nZ s8 sX np) (rz gQ) (Sx.put rfl (gL)) fc
 refine g_ [2,100,1,701,1] ?_
 refine ag (t:=51) rfl (fun mV=>?_) (fun mV=>?_)
 refine g_ [105,1,707,2] ?_
 refine ag (t:=56) rfl (fun pz=>?_) (fun pz=>?_)
 refine g_ [103,1,105,1] ?_
 refine jx 56 rfl rfl rfl (aD _ _ rfl rfl rfl rfl) (g_ [4] ?_)
 refine gK rfl (fun lN=>?_) fun lN=>?_
 refine g_ [1,107,1,108,6,703,2] ?_
 obtain ⟨sc,rfl⟩:∃sc,s=some sc:=by
   cases s with
   |none=>exact absurd pz (by show ¬(0:Int)<((0#32).toNat:Int);decide)
   |some sc=>exact ⟨sc,rfl⟩
 exact ai ⟨i+1,some (sc.1,(((gh ss).take m)[i]).code),.slice wo (mz key (some sc)).key.length wc⟩ (Kg gQ nZ rfl mV lN nF) (rz gQ) (Sx.put rfl (gL)) fc
 refine g_ [5,703,2] ?_
 exact ai ⟨i+1,s,.slice wo (mz key s).key.length wc⟩ (wm gQ nZ (by rintro ⟨q1,q2⟩;exact sX (congrArg str q2)) (by
    rintro sc rfl ⟨q1,q2⟩
    exact lN q2) nF) (rz gQ) (Sx.put rfl (gL)) fc
 refine g_ [15,703,2] ?_
 exact ai ⟨i+1,s,.slice wo (mz key s).key.length wc⟩ (wm gQ nZ (by rintro ⟨q1,q2⟩;exact sX (congrArg str q2)) (by
    rintro sc rfl ⟨q1,q2⟩
    have h7:=w5 gz
    rw[q2] at h7
    exact pz (show (0:Int)<(sc.1.toNat:Int) by omega)) nF) (rz gQ) (Sx.put rfl (gL)) fc
 refine g_ [20,703,2] ?_
 exact ai ⟨i+1,s,.slice wo (mz key s).key.length wc⟩ (wm gQ nZ (by rintro ⟨q1,q2⟩;exact sX (congrArg str q2)) (by
    rintro sc rfl ⟨q1,q2⟩
    exact mV q1) nF) (rz gQ) (Sx.put rfl (gL)) fc
 refine g_ [13,100,1,701,1] ?_
 refine ag (t:=51) rfl (fun mV=>?_) (fun mV=>?_)
 refine g_ [105,1,707,2] ?_
 refine ag (t:=56) rfl (fun pz=>?_) (fun pz=>?_)
 refine g_ [103,1,105,1] ?_
 refine jx 56 rfl rfl rfl (aD _ _ rfl rfl rfl rfl) (g_ [4] ?_)
 refine gK rfl (fun lN=>?_) fun lN=>?_
 refine g_ [1,107,1,108,6,703,2] ?_
 obtain ⟨sc,rfl⟩:∃sc,s=some sc:=by
   cases s with
   |none=>exact absurd pz (by show ¬(0:Int)<((0#32).toNat:Int);decide)
   |some sc=>exact ⟨sc,rfl⟩
 exact ai ⟨i+1,some (sc.1,(((gh ss).take m)[i]).code),.slice wo (mz key (some sc)).key.length wc⟩ (Kg gQ nZ rfl mV lN nF) (rz gQ) (Sx.put rfl (gL)) fc
 refine g_ [5,703,2] ?_
 exact ai ⟨i+1,s,.slice wo (mz key s).key.length wc⟩ (wm gQ nZ (by rintro ⟨q1,q2⟩;exact s8 q1) (by
    rintro sc rfl ⟨q1,q2⟩
    exact lN q2) nF) (rz gQ) (Sx.put rfl (gL)) fc
 refine g_ [15,703,2] ?_
 exact ai ⟨i+1,s,.slice wo (mz key s).key.length wc⟩ (wm gQ nZ (by rintro ⟨q1,q2⟩;exact s8 q1) (by
    rintro sc rfl ⟨q1,q2⟩
    have h7:=w5 gz
    rw[q2] at h7
    exact pz (show (0:Int)<(sc.1.toNat:Int) by omega)) nF) (rz gQ) (Sx.put rfl (gL)) fc
 refine g_ [20,703,2] ?_
 exact ai ⟨i+1,s,.slice wo (mz key s).key.length wc⟩ (wm gQ nZ (by rintro ⟨q1,q2⟩;exact s8 q1) (by
    rintro sc rfl ⟨q1,q2⟩
    exact mV q1) nF) (rz gQ) (Sx.put rfl (gL)) fc
 have lY:i=((gh ss).take m).length:=by omega
 subst lY
 rw[eH] at nZ
 refine g_ [6,506] ?_
 refine w_ [2011,0,1005,1,2,1007,3] ?_
 refine gD 4 ?_
 refine jT 11 ?_
 refine iO [0] ?_
 refine gD 5 ?_
 refine jm ?_
 refine gG ?_
 refine gM ?_
 refine g_ [2] ?_
 refine au (s:=11) (A++H) results49 fa rfl rfl iz gA fc ?_
 rotate_left
 all_goals
  rw[←nZ]
  refine ⟨_,A,?_,nF,rfl⟩
  congr 2
  have e9:decide (0<((mz key s).order.toNat:Int))=s.isSome:=by
    cases s with
    |none=>rfl
    | some sc=>
      obtain ⟨⟨e8,h8,h7,_,h6⟩,_⟩:=Wh nZ.symm
      have h5:=(SL.iZ.qP (hj.row.mG.ok _ (fY h8))).o gz
      rw[h6] at h5
      exact fo (show (0:Int)<(sc.1.toNat:Int) by omega)
  rw[e9]
end Go.Proofs.YtchdmlkiggdhaaaGreat
