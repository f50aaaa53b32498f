/-
  Lemmas and walks that TopOne and TopSolo stands on (part 8); no condition.
-/
import Derived.Test.YtchdmlkiggdhaaaGreatTopB7
set_option linter.unusedVariables false
set_option linter.unusedSimpArgs false
set_option maxHeartbeats 4000000
namespace Go.Proofs.YtchdmlkiggdhaaaGreat
open Go.SL Top Go.Proofs.Tryz
attribute [local irreducible] WL WC DN gZ iX
theorem agu (v:Value) (l:List En) (hl:l.length≤1000) (hr:mn l) (gE:BitVec 32) (next:BitVec 64) (H:List Ck) (hv:EV v l H) (h0:gE≠0#32) (i:Nat) (hi:i<l.length) (hn:next.toNat=i+1) (kZ:l[i].ep.toNat≤gE.toNat):gC prog 84 [v,.int .u32 gE.toNat,.int .u64 next.toNat] H fun r gr=>∃vd A,r=.tuple #[.agg (gS (j4 gE (ke l (next-1#64).toNat) (next-1#64) l[i]) (.slice none 0 0) vd).toArray,.bool true]∧Bs vd (iB l[i]) A∧gr=A++H:=by
 refine gC.enter func84 rfl ntmps84 rfl ?_
 intro w0 R
 obtain ⟨ao,ac,rfl,Ct⟩:=hv.form
 have hf:=IL hr
 have Jc:(vO l).toNat=1:=by rw[hf];rfl
 have qJ:(zM l).toNat=l.length:=by rw[JR hr hl,nO hl]
 have IB:(next-1#64).toNat=i:=by rw[fx (by rw[gq];show 1≤_;omega)];show next.toNat-1=i;omega
 have RH:(next-vO l).toNat=i:=by rw[hf];exact IB
 have he:=hr.mG.ok _ (dG hi)
 obtain ⟨b0,o0,nU,kK,T0,nB,nA,ie,l8,kh,c0,⟨vk,vd,rfl,jd,kf⟩,ja⟩:=hv.rowAt hi gB
 simp only[dI,eD] at ie
 obtain ⟨rfl,rfl⟩:=ie
 obtain ⟨ko,kc,rfl,_⟩:=jd.form
 obtain ⟨eo,ec,rfl,_⟩:=kf.form
 refine gY (iS iP fun b6=>?_)
 refine g_ [7] ?_
 refine iG call143 rfl (Fm _ l hl hr.mG _ (hv.mono hZ)) ?_
 refine g_ [709,1014,2] ?_
 refine jx 15 rfl rfl rfl (aD _ (0#32) rfl rfl rfl rfl) (j8 17 rfl h0 (g_ [4] ?_))
 refine bV (dj:=19) rfl rfl rfl (iE.func call144 rfl) (tu _ l hl _ hv) fc ?_
 refine g_ [705,1023,4] ?_
 refine bV (dj:=25) rfl rfl rfl (iE.func call145 rfl) (HH _ l hl _ hv) fc ?_
 refine g_ [707,1029,4] ?_
 refine bV (dj:=31) rfl rfl rfl (iE.func call144 rfl) (tu _ l hl _ hv) fc ?_
 refine jx 31 rfl rfl rfl (cc _ _ rfl rfl rfl rfl) (g_ [1] ?_)
 refine ag (t:=36) rfl (fun Jf=>?_) (fun Jf=>?_)
 refine g_ [1] ?_
 refine jx 36 rfl rfl rfl (bA _ (1#64) rfl rfl rfl rfl) (j8 38 rfl (fun h=>h (Jf.trans hf)) ?_)
 refine g_ [12] ?_
 refine jv call144 rfl (tu _ l hl _ hv) ?_
 refine ae rfl (aL _ _ rfl rfl rfl rfl) (af (t:=46) (v:=.int .u64 (i:Int)) rfl (by rw[RH]) ?_)
 refine g_ [711,77,11] ?_
 refine WL.h rfl (aJ (n:=11) (vs:=enc l[i] (.slice ko l[i].key.length kc) (.slice eo l[i].data.length ec)) fa rfl (ib kh) rfl (by rw[show o0+((i:Int)).toNat*11=o0+i*11 by omega];exact ja) ⟨_,rfl,?_⟩)
 refine iS lh fun b8=>?_
 refine g_ [311,4,411] ?_
 refine c_ call108 rfl (D3 l[i] he _ _ H jd kf) ?_
 rintro HX FK ⟨v51,A,rfl,hA,rfl⟩
 obtain ⟨uo,uc,rfl,_⟩:=hA.form
 refine g_ [12] ?_
 refine ae rfl (aL _ (1#64) rfl rfl rfl rfl) (iG call146 rfl (Kj _ l hl (next-1#64) hf gz _ (hv.mono hZ)) ?_)
 refine g_ [1] ?_
 refine ae rfl (aL _ (1#64) rfl rfl rfl rfl) (g_ [1] ?_)
 refine ae rfl (aj (pl:=kz) (zs:=iP) (parts:=[(0,.const (.int .i64 1)),(1,.tmp 54),(2,.tmp 58),(3,.tmp 60),(10,.tmp 61)]) (vs:=[(0,_),(1,_),(2,_),(3,_),(10,_)]) (cells:=[_,_,_,_,.int .u64 0,.int .u32 0,.int .i64 0,.bool false,.int .i64 0,.slice none 0 0,_]) fa fa rfl rfl) ?_
 refine iS iP fun sR=>?_
 refine g_ [311,5,102,2,707,1066,1] ?_
 refine aS (dj:=67) rfl rfl rfl (aF (n:=11) fa rfl gO gA ⟨_,rfl,?_⟩)
 refine bq (dj:=67) rfl rfl rfl (iE.func call59 rfl) (AB (j4 gE (ke l (next-1#64).toNat) (next-1#64) l[i]) _ _ ⟨_,_,rfl⟩ ⟨_,_,rfl⟩ _) (g_ [702] ?_)
 refine af (t:=70) (v:=.bool false) rfl (congrArg Value.bool (by rw[Pg he];rfl)) ?_
 refine g_ [8,411,311,4] ?_
 refine au (s:=11) (A++H) results84 fa rfl rfl gO gA fc ?_
 exact ⟨_,A,rfl,hA.bs,rfl⟩
 refine g_ [14] ?_
 refine jv call144 rfl (tu _ l hl _ hv) ?_
 refine ae rfl (aL _ _ rfl rfl rfl rfl) (af (t:=46) (v:=.int .u64 (i:Int)) rfl (by rw[RH]) ?_)
 refine g_ [711,77,11] ?_
 refine WL.h rfl (aJ (n:=11) (vs:=enc l[i] (.slice ko l[i].key.length kc) (.slice eo l[i].data.length ec)) fa rfl (ib kh) rfl (by rw[show o0+((i:Int)).toNat*11=o0+i*11 by omega];exact ja) ⟨_,rfl,?_⟩)
 refine iS lh fun b8=>?_
 refine g_ [311,4,411] ?_
 refine c_ call108 rfl (D3 l[i] he _ _ H jd kf) ?_
 rintro HX FK ⟨v51,A,rfl,hA,rfl⟩
 obtain ⟨uo,uc,rfl,_⟩:=hA.form
 refine g_ [12] ?_
 refine ae rfl (aL _ (1#64) rfl rfl rfl rfl) (iG call146 rfl (Kj _ l hl (next-1#64) hf gz _ (hv.mono hZ)) ?_)
 refine g_ [1] ?_
 refine ae rfl (aL _ (1#64) rfl rfl rfl rfl) (g_ [1] ?_)
 refine ae rfl (aj (pl:=kz) (zs:=iP) (parts:=[(0,.const (.int .i64 1)),(1,.tmp 54),(2,.tmp 58),(3,.tmp 60),(10,.tmp 61)]) (vs:=[(0,_),(1,_),(2,_),(3,_),(10,_)]) (cells:=[_,_,_,_,.int .u64 0,.int .u32 0,.int .i64 0,.bool false,.int .i64 0,.slice none 0 0,_]) fa fa rfl rfl) ?_
 refine iS iP fun sR=>?_
 refine g_ [311,5,102,2,707,1066,1] ?_
 refine aS (dj:=67) rfl rfl rfl (aF (n:=11) fa rfl gO gA ⟨_,rfl,?_⟩)
 refine bq (dj:=67) rfl rfl rfl (iE.func call59 rfl) (AB (j4 gE (ke l (next-1#64).toNat) (next-1#64) l[i]) _ _ ⟨_,_,rfl⟩ ⟨_,_,rfl⟩ _) (g_ [702] ?_)
 refine af (t:=70) (v:=.bool false) rfl (congrArg Value.bool (by rw[Pg he];rfl)) ?_
 refine g_ [8,411,311,4] ?_
 refine au (s:=11) (A++H) results84 fa rfl rfl gO gA fc ?_
 exact ⟨_,A,rfl,hA.bs,rfl⟩
theorem agt (v:Value) (l:List En) (hl:l.length≤1000) (hr:mn l) (gE:BitVec 32) (next:BitVec 64) (H:List Ck) (hv:EV v l H) (hn:next.toNat=0∨l.length<next.toNat):gC prog 84 [v,.int .u32 gE.toNat,.int .u64 next.toNat] H fun r gr=>r=.tuple #[.agg (gS jF (.slice none 0 0) (.slice none 0 0)).toArray,.bool false]∧gr=H:=by
 refine gC.enter func84 rfl ntmps84 rfl ?_
 intro w0 R
 obtain ⟨ao,ac,rfl,Ct⟩:=hv.form
 have hf:=IL hr
 have Jc:(vO l).toNat=1:=by rw[hf];rfl
 have qJ:(zM l).toNat=l.length:=by rw[JR hr hl,nO hl]
 refine gY (iS iP fun b6=>?_)
 refine g_ [7] ?_
 refine iG call143 rfl (Fm _ l hl hr.mG _ (hv.mono hZ)) ?_
 refine g_ [709,1014,2] ?_
 refine jx 15 rfl rfl rfl (aD _ (0#32) rfl rfl rfl rfl) (g_ [2] ?_)
 refine ag (t:=19) rfl (fun CG=>?_) (fun CG=>?_)
 refine g_ [26] ?_
 refine kJ kz iP (g_ [311,5] ?_)
 refine au (s:=11) (H) results84 fa rfl rfl gO gA fc ?_
 exact ⟨rfl,rfl⟩
 refine g_ [2] ?_
 refine bV (dj:=19) rfl rfl rfl (iE.func call144 rfl) (tu _ l hl _ hv) fc ?_
 refine g_ [705,2] ?_
 refine ag (t:=25) rfl (fun AZ=>?_) (fun AZ=>?_)
 refine g_ [20] ?_
 refine kJ kz iP (g_ [311,5] ?_)
 refine au (s:=11) (H) results84 fa rfl rfl gO gA fc ?_
 exact ⟨rfl,rfl⟩
 refine g_ [2] ?_
 refine bV (dj:=25) rfl rfl rfl (iE.func call145 rfl) (HH _ l hl _ hv) fc ?_
 refine g_ [707,2029,16] ?_
 refine kJ kz iP (g_ [311,5] ?_)
 refine au (s:=11) (H) results84 fa rfl rfl gO gA fc ?_
 exact ⟨rfl,rfl⟩
theorem agJ (v:Value) (l:List En) (qs:l.length≤900) (hr:mn l) (seen gE gT:BitVec 32) (gF:BitVec 64) (e:En) (he:iZ e) (h0:gE≠0#32) (ho:gT=0#32↔gF=0#64) (lR:e.gF-1#64=gF) (kZ:e.ep.toNat≤gE.toNat) (hold:gT.toNat≤e.ep.toNat) (k:Nat) (hk:gF.toNat=k) (ja:k≤l.length→(k≠0→ke l k=gT)→mE (l.take k++[e])) (kd:Option Addr×Nat) (vd:Value) (H:List Ck) (hv:EV v l H) (hd:Bs vd (iB e) H) (jZ:l.length≤k):gC prog 85 [v,.int .u32 seen.toNat,.agg (gS (j4 gE gT gF e) (.slice kd.1 0 kd.2) vd).toArray] H fun r gr=>∃vo A,r=.tuple #[vo,.int .u32 (mf l seen gE gT k e).2.1.toNat,.agg (gS (mf l seen gE gT k e).2.2 (.slice none 0 0) (.slice none 0 0)).toArray,.int .i64 0]∧EV vo (mf l seen gE gT k e).1 A∧gr=A++H:=by
 refine gC.enter func85 rfl ntmps85 rfl ?_
 intro w0 R
 have hl:l.length≤1000:=by omega
 obtain ⟨ao,ac,rfl,Ct⟩:=hv.form
 obtain ⟨eo,ec,rfl,_⟩:=hd.form
 have hf:=IL hr
 have Jc:(vO l).toNat=1:=by rw[hf];rfl
 have Jp:=JR hr hl
 have qJ:(js l).toNat=l.length:=nO hl
 have abR:(zM l).toNat=l.length:=by rw[Jp,qJ]
 have mR:∀e∈l,e.key.length≤1000∧e.data.length≤1000:=fun e he=>RU (hr.mG.ok e he)
 have ek:(j4 gE gT gF e).gF.toNat=k:=hk
 have ee:(j4 gE gT gF e).gE.toNat=gE.toNat:=rfl
 have hz:(1#64-1#64).toNat=0:=rfl
 have Z2:(vO l-1#64).toNat=0:=by rw[hf];rfl
 have MH:=Lh l gT (k-1)
 have ZY:((j4 gE gT gF e).gF-(1#64-1#64)).toNat=k:=by
   show (gF-(1#64-1#64)).toNat=k
   rw[show 1#64-1#64=0#64 from rfl,BitVec.sub_zero];exact hk
 refine gY (iV fun b5=>?_)
 refine g_ [1] ?_
 refine ae rfl (Yd.assign (v:=.int .u32 ((0#32).toNat:Int)) rfl) (iS iP fun b8=>?_)
 refine g_ [5,411] ?_
 refine c_ call147 rfl (WO gE gT gF e he h0 ho lR kZ hold kd _ H hd) ?_
 rintro KF Ig ⟨uk,ud,A,rfl,vQ,sw,rfl⟩
 obtain ⟨ko,kc,rfl,_⟩:=vQ.form
 obtain ⟨wo,wc,rfl,_⟩:=sw.form
 refine g_ [3] ?_
 refine iS lh fun pg=>?_
 refine WL.s (aH (n:=11) fa rfl rfl gA (sV rfl rfl) ir gA ⟨rfl,?_⟩)
 refine g_ [3] ?_
 refine aI (fun _z:Unit=>(k≠0→ke l k=gT)∧k≤l.length∧¬gE.toNat<seen.toNat) (fun _z:Unit=>[]) (fun _z:Unit=>row pg (enc e (.slice ko e.key.length kc) (.slice wo e.data.length wc)) 77::(row b8 iP 104::(row b5 (gS (j4 gE gT gF e) (.slice kd.1 0 kd.2) (.slice eo (iB e).length ec)) 104::(A++H)))) ?_ ?_
 refine g_ [4,709,1021,2] ?_
 refine bq (dj:=22) rfl rfl rfl (iE.func call143 rfl) (Fm _ l hl hr.mG _ (hv.mono hZ)) ?_
 refine g_ [709,1025,7,101,2,705,3] ?_
 refine gK rfl (fun su=>?_) fun su=>?_
 refine g_ [3] ?_
 refine c_ call148 rfl (Dx _ l hl mR H hv) ?_
 rintro PH XY ⟨B,hB,rfl⟩
 refine g_ [2] ?_
 refine ae rfl (aj (pl:=kz) (zs:=iP) (parts:=[(0,.const (.int .i64 6)),(1,.tmp 36),(8,.const (.int .i64 3))]) (vs:=[(0,_),(1,_),(8,_)]) (cells:=[_,_,.int .u32 0,.int .u64 0,.int .u64 0,.int .u32 0,.int .i64 0,.bool false,_,.slice none 0 0,.slice none 0 0]) fa fa rfl rfl) ?_
 refine g_ [2,311,6] ?_
 refine bP (s:=11) (B++H) results85 fa rfl rfl rfl rfl gO gA fc ?_
 have ht:mf l seen gE gT k e=(l,seen,yx seen):=by
   unfold mf
   rw[dx gz]
 refine ⟨PH,B,?_,?_,rfl⟩
 · rw[ht];rfl
 · rw[ht];exact hB.ev
 refine g_ [1,506] ?_
 refine w_ [1003,0,1,2] ?_
 refine jy 3 [2] rfl call145 rfl (HH _ l hl _ (hv.mono hZ)) ax ?_
 refine w_ [1007,4,5] ?_
 refine gM ?_
 refine g_ [1] ?_
 refine gK rfl (fun pM=>?_) fun pM=>?_
 refine g_ [1,513] ?_
 refine w_ [0,1001,2,3,1001,4,5,6] ?_
 refine gD 1 ?_
 refine iI rfl call148 rfl (Dx _ l hl mR H hv) ?_
 rintro PI Qm ⟨B,hB,rfl⟩
 refine iO [0,0] ?_
 refine jy 7 [6] rfl call145 rfl (HH _ l hl _ (hv.mono hZ)) ax ?_
 refine az (v:=.int .u64 ((js l).toNat:Int)) (by rw[Jp]) ?_
 refine gW 8 [7,5] rfl (aj (pl:=kz) (zs:=iP) (parts:=[(0,.const (.int .i64 3)),(1,.tmp 49),(3,.tmp 51)]) (vs:=[(0,_),(1,_),(3,_)]) (cells:=[_,_,.int .u32 0,_,.int .u64 0,.int .u32 0,.int .i64 0,.bool false,.int .i64 0,.slice none 0 0,.slice none 0 0]) fa fa rfl rfl) fa ?_
 refine gD 9 ?_
 refine jm ?_
 refine iO [2,1,0,1001,0,1001] ?_
 refine gD 10 ?_
 refine jm ?_
 refine iO [2,1,0,1001] ?_
 refine gD 11 ?_
 refine jT 11 ?_
 refine gG ?_
 refine gD 12 ?_
 refine jm ?_
 refine gG ?_
 refine gM ?_
 refine g_ [4] ?_
 refine bP (s:=11) (B++H) results85 fa rfl rfl rfl rfl gO gA fc ?_
 have ht:mf l seen gE gT k e=(l,gE,uz gE (js l)):=by
   unfold mf
   rw[dp gz,dx gz]
 refine ⟨PI,B,?_,?_,rfl⟩
 · rw[ht];rfl
 · rw[ht];exact hB.ev
 refine g_ [1,507] ?_
 refine w_ [1003,0,1,2] ?_
 refine jy 3 [2] rfl call144 rfl (tu _ l hl _ (hv.mono hZ)) ax ?_
 refine gW 4 [3] rfl (aL _ (1#64) rfl rfl rfl rfl) fa ?_
 refine w_ [1005,5,9001,6] ?_
 refine gM ?_
 refine g_ [3,515] ?_
 refine w_ [1003,0,1,2] ?_
 refine jy 3 [2] rfl call144 rfl (tu _ l hl _ (hv.mono hZ)) ax ?_
 refine w_ [1008,4,5] ?_
 refine aW (fun M9=>?_) (fun M9=>?_)
 refine w_ [6,1003,7,8] ?_
 refine ny (iw (i:=9) [8,6,5] rfl (aO (aP (dj:=76) rfl rfl) (iE.func call146 rfl) (Kj _ l hl (j4 gE gT gF e).gF hf gz _ (hv.mono hZ)) ax) fa) fa ?_
 refine w_ [1002,10,11] ?_
 refine jP 12 [11,9,5] 76 rfl rfl (bZ _ _ rfl rfl rfl rfl) fa ?_
 refine w_ [13,14] ?_
 refine gM ?_
 refine g_ [1] ?_
 refine gK rfl (fun B3=>?_) fun B3=>?_
 refine g_ [1,514] ?_
 refine w_ [0,1001,2,3,1001,4,5,6,2011,7] ?_
 refine gD 1 ?_
 refine iI rfl call148 rfl (Dx _ l hl mR H hv) ?_
 rintro PL X6 ⟨B,hB,rfl⟩
 refine iO [111,0,0] ?_
 refine jy 8 [7,6] rfl call149 rfl (Wv _ l hl hf (j4 gE gT gF e) gz _ _ rfl rfl _ (hv.mono hZ)) ax ?_
 refine az (v:=.int .u64 ((BitVec.ofNat 64 (vJ l gT (k-1))).toNat:Int)) (by rw[fg,ek];show Value.int .u64 ((vJ l gT (k-1):Nat):Int)=_;congr 1;omega) ?_
 refine gW 9 [8,5] rfl (aj (pl:=kz) (zs:=iP) (parts:=[(0,.const (.int .i64 3)),(1,.tmp 90),(3,.tmp 93)]) (vs:=[(0,_),(1,_),(3,_)]) (cells:=[_,_,.int .u32 0,_,.int .u64 0,.int .u32 0,.int .i64 0,.bool false,.int .i64 0,.slice none 0 0,.slice none 0 0]) fa fa rfl rfl) fa ?_
 refine gD 10 ?_
 refine jm ?_
 refine iO [2,111,1,0,1001,0,1001] ?_
 refine gD 11 ?_
 refine jm ?_
 refine iO [2,111,1,0,1001] ?_
 refine gD 12 ?_
 refine jT 11 ?_
 refine gG ?_
 refine gD 13 ?_
 refine jm ?_
 refine gG ?_
 refine gM ?_
 refine g_ [4] ?_
 refine bP (s:=11) (B++H) results85 fa rfl rfl rfl rfl gO gA fc ?_
 have ht:mf l seen gE gT k e=(l,gE,uz gE (BitVec.ofNat 64 (vJ l gT (k-1)))):=by
   unfold mf
   rw[dp gz,dp gz,dx ⟨by omega,by rw[←hk];exact B3⟩]
 refine ⟨PL,B,?_,?_,rfl⟩
 · rw[ht];rfl
 · rw[ht];exact hB.ev
 refine g_ [2] ?_
 exact ah (()) (⟨by intro q;(have h9:=Classical.not_not.1 B3;rw[←hk];exact h9),by omega,by omega⟩) (gL) (Sp.all fc)
 refine w_ [6,7,8,9,10,11,12,13,14] ?_
 refine gM ?_
 refine g_ [4] ?_
 exact ah (()) (⟨by intro q;(exfalso;omega),by omega,by omega⟩) (gL) (Sp.all fc)
 rintro _ ⟨Ev,GR,su⟩
 refine g_ [1,508] ?_
 refine w_ [1003,0,1,2] ?_
 refine jy 3 [2] rfl call144 rfl (tu _ l hl _ (hv.mono hZ)) ax ?_
 refine az (v:=.int .u64 ((1#64).toNat:Int)) (by rw[hf]) ?_
 refine gW 4 [3] rfl (aL _ (1#64) rfl rfl rfl rfl) fa ?_
 refine gW 5 [4,1] rfl (aL _ _ rfl rfl rfl rfl) fa ?_
 refine gW 6 [5] rfl (bQ fa fa rfl gz gz) fa ?_
 refine az (v:=.int .i64 (k:Int)) (congrArg (Value.int .i64) gz) ?_
 refine w_ [7] ?_
 refine gM ?_
 refine g_ [4] ?_
 refine c_ call148 rfl (Dx _ l hl mR H hv) ?_
 rintro aip XP ⟨B,⟨cells,Ca,Cb,Ej,I1,rfl⟩,rfl⟩
 obtain ⟨bo,F0,rfl,hbc⟩:=Ej.form
 refine g_ [5,513] ?_
 refine w_ [0,1,3077,2,1001,3,9002,4,5,6,7,8,9,10,11,12] ?_
 refine gM ?_
 refine g_ [3,507] ?_
 refine w_ [0,1] ?_
 refine gW 2 [1,0] rfl (bJ (e:=77) (s:=11) (j:=k) fa fa rfl rfl rfl gz) fa ?_
 refine w_ [2011,3] ?_
 refine gD 4 ?_
 refine SO.h rfl Wt.none rfl (aX (e:=77) (sz:=11) (zs:=lh) (vs:=enc e (.slice ko e.key.length kc) (.slice wo e.data.length wc)) fa fa fa rfl rfl rfl fa fun QU=>⟨_,rfl,?_⟩)
 refine gG ?_
 refine gD 5 ?_
 refine SO.h rfl Wt.none rfl (bU (e:=77) (sz:=11) (bytes:=112) (zs:=lh) (m:=1) fa fa rfl gz rfl rfl (Ej.w.upto (m:=k) gz) fc (cm gO) rfl (sV rfl rfl) gz (by simp only[maxLen];omega) gz fun Ft xE Eg=>⟨_,rfl,?_⟩)
 refine gG ?_
 refine gD 6 ?_
 refine jm ?_
 refine gG ?_
 refine gM ?_
 refine g_ [3] ?_
 have MI:mE (l.take k++[e]):=ja gz Ev
 have jU:EV Ft (l.take k++[e]) (xE++(Cb++A)):=by
   refine ⟨_,?_,((I1.take k).mono fun c hc=>dq _ (dw _ hc)).append (VL.one (E:=nh) ⟨_,_,rfl,vQ.mono fun c hc=>dq _ (dq _ hc),sw.mono fun c hc=>dq _ (dq _ hc)⟩)⟩
   rw[dr,dE,dZ,eE gz]
   exact Eg.rs.mono fun c hc=>dw _ hc
 have GZ:xx l k e=l.take k++[e]:=by unfold xx;rw[dp gz]
 refine g_ [1] ?_
 refine iG call143 rfl (Fm _ (l.take k++[e]) (by rw[dr,dE,dZ];omega) MI _ (jU.mono (Sp.sub fc))) ?_
 refine g_ [709,1125,6,512] ?_
 refine w_ [0,1001,1,2,1001,3,4,1001,5,6] ?_
 refine gW 7 [6,4] rfl (aj (pl:=kz) (zs:=iP) (parts:=[(0,.const (.int .i64 2)),(1,.tmp 131),(3,.tmp 133)]) (vs:=[(0,_),(1,_),(3,_)]) (cells:=[_,_,.int .u32 0,_,.int .u64 0,.int .u32 0,.int .i64 0,.bool false,.int .i64 0,.slice none 0 0,.slice none 0 0]) fa fa rfl rfl) fa ?_
 refine gD 8 ?_
 refine jm ?_
 refine iO [2,0,1001,0,1001,0,1001] ?_
 refine gD 9 ?_
 refine jm ?_
 refine iO [2,0,1001,0,1001] ?_
 refine gD 10 ?_
 refine jT 11 ?_
 refine gG ?_
 refine gD 11 ?_
 refine jm ?_
 refine gG ?_
 refine gM ?_
 refine g_ [2] ?_
 refine bP (s:=11) ((xE++(Cb++A))++H) results85 fa rfl rfl rfl rfl gO gA fc ?_
 have EB:¬(k≠0∧ke l k≠gT):=fun q=>q.2 (Ev q.1)
 have ht:mf l seen gE gT k e=(xx l k e,gE,mq gE e.gF):=by
   unfold mf
   rw[dp gz,dp gz,dp EB]
 refine ⟨Ft,xE++(Cb++A),?_,?_,rfl⟩
 · rw[ht];rfl
 rw[ht];exact (by rw[GZ];exact jU)
theorem agI (v:Value) (l:List En) (qs:l.length≤900) (hr:mn l) (seen gE gT:BitVec 32) (gF:BitVec 64) (e:En) (he:iZ e) (h0:gE≠0#32) (ho:gT=0#32↔gF=0#64) (lR:e.gF-1#64=gF) (kZ:e.ep.toNat≤gE.toNat) (hold:gT.toNat≤e.ep.toNat) (k:Nat) (hk:gF.toNat=k) (ja:k≤l.length→(k≠0→ke l k=gT)→mE (l.take k++[e])) (kd:Option Addr×Nat) (vd:Value) (H:List Ck) (hv:EV v l H) (hd:Bs vd (iB e) H) (jZ:k<l.length):gC prog 85 [v,.int .u32 seen.toNat,.agg (gS (j4 gE gT gF e) (.slice kd.1 0 kd.2) vd).toArray] H fun r gr=>∃vo A,r=.tuple #[vo,.int .u32 (mf l seen gE gT k e).2.1.toNat,.agg (gS (mf l seen gE gT k e).2.2 (.slice none 0 0) (.slice none 0 0)).toArray,.int .i64 0]∧EV vo (mf l seen gE gT k e).1 A∧gr=A++H:=by
 refine gC.enter func85 rfl ntmps85 rfl ?_
 intro w0 R
 have hl:l.length≤1000:=by omega
 obtain ⟨ao,ac,rfl,Ct⟩:=hv.form
 obtain ⟨eo,ec,rfl,_⟩:=hd.form
 have hf:=IL hr
 have Jc:(vO l).toNat=1:=by rw[hf];rfl
 have Jp:=JR hr hl
 have qJ:(js l).toNat=l.length:=nO hl
 have abR:(zM l).toNat=l.length:=by rw[Jp,qJ]
 have mR:∀e∈l,e.key.length≤1000∧e.data.length≤1000:=fun e he=>RU (hr.mG.ok e he)
 have ek:(j4 gE gT gF e).gF.toNat=k:=hk
 have ee:(j4 gE gT gF e).gE.toNat=gE.toNat:=rfl
 have hz:(1#64-1#64).toNat=0:=rfl
 have Z2:(vO l-1#64).toNat=0:=by rw[hf];rfl
 have MH:=Lh l gT (k-1)
 have ZY:((j4 gE gT gF e).gF-(1#64-1#64)).toNat=k:=by
   show (gF-(1#64-1#64)).toNat=k
   rw[show 1#64-1#64=0#64 from rfl,BitVec.sub_zero];exact hk
 have hek:=hr.mG.ok _ (dG jZ)
 obtain ⟨b0,o0,nU,kK,T0,nB,nA,ie,l8,kh,c0,⟨wk9,wd9,rfl,jd,kf⟩,hrw⟩:=hv.rowAt jZ gB
 simp only[dI,eD] at ie
 obtain ⟨rfl,rfl⟩:=ie
 obtain ⟨qo,qc,rfl,_⟩:=jd.form
 obtain ⟨ro,rc,rfl,_⟩:=kf.form
 refine gY (iV fun b5=>?_)
 refine g_ [1] ?_
 refine ae rfl (Yd.assign (v:=.int .u32 ((0#32).toNat:Int)) rfl) (iS iP fun b8=>?_)
 refine g_ [5,411] ?_
 refine c_ call147 rfl (WO gE gT gF e he h0 ho lR kZ hold kd _ H hd) ?_
 rintro KF Ig ⟨uk,ud,A,rfl,vQ,sw,rfl⟩
 obtain ⟨ko,kc,rfl,_⟩:=vQ.form
 obtain ⟨wo,wc,rfl,_⟩:=sw.form
 refine g_ [3] ?_
 refine iS lh fun pg=>?_
 refine WL.s (aH (n:=11) fa rfl rfl gA (sV rfl rfl) ir gA ⟨rfl,?_⟩)
 refine g_ [3] ?_
 refine aI (fun _z:Unit=>(k≠0→ke l k=gT)∧k≤l.length∧¬gE.toNat<seen.toNat) (fun _z:Unit=>[]) (fun _z:Unit=>row pg (enc e (.slice ko e.key.length kc) (.slice wo e.data.length wc)) 77::(row b8 iP 104::(row b5 (gS (j4 gE gT gF e) (.slice kd.1 0 kd.2) (.slice eo (iB e).length ec)) 104::(A++H)))) ?_ ?_
 refine g_ [4,709,1021,2] ?_
 refine bq (dj:=22) rfl rfl rfl (iE.func call143 rfl) (Fm _ l hl hr.mG _ (hv.mono hZ)) ?_
 refine g_ [709,1025,7,101,2,705,3] ?_
 refine gK rfl (fun su=>?_) fun su=>?_
 refine g_ [3] ?_
 refine c_ call148 rfl (Dx _ l hl mR H hv) ?_
 rintro PH XY ⟨B,hB,rfl⟩
 refine g_ [2] ?_
 refine ae rfl (aj (pl:=kz) (zs:=iP) (parts:=[(0,.const (.int .i64 6)),(1,.tmp 36),(8,.const (.int .i64 3))]) (vs:=[(0,_),(1,_),(8,_)]) (cells:=[_,_,.int .u32 0,.int .u64 0,.int .u64 0,.int .u32 0,.int .i64 0,.bool false,_,.slice none 0 0,.slice none 0 0]) fa fa rfl rfl) ?_
 refine g_ [2,311,6] ?_
 refine bP (s:=11) (B++H) results85 fa rfl rfl rfl rfl gO gA fc ?_
 have ht:mf l seen gE gT k e=(l,seen,yx seen):=by
   unfold mf
   rw[dx gz]
 refine ⟨PH,B,?_,?_,rfl⟩
 · rw[ht];rfl
 · rw[ht];exact hB.ev
 refine g_ [1,506] ?_
 refine w_ [1003,0,1,2] ?_
 refine jy 3 [2] rfl call145 rfl (HH _ l hl _ (hv.mono hZ)) ax ?_
 refine w_ [1007,4,9001,5] ?_
 refine gM ?_
 refine g_ [3,507] ?_
 refine w_ [1003,0,1,2] ?_
 refine jy 3 [2] rfl call144 rfl (tu _ l hl _ (hv.mono hZ)) ax ?_
 refine gW 4 [3] rfl (aL _ (1#64) rfl rfl rfl rfl) fa ?_
 refine w_ [1005,5,9001,6] ?_
 refine gM ?_
 refine g_ [3,515] ?_
 refine w_ [1003,0,1,2] ?_
 refine jy 3 [2] rfl call144 rfl (tu _ l hl _ (hv.mono hZ)) ax ?_
 refine w_ [1008,4,5] ?_
 refine aW (fun M9=>?_) (fun M9=>?_)
 refine w_ [6,1003,7,8] ?_
 refine ny (iw (i:=9) [8,6,5] rfl (aO (aP (dj:=76) rfl rfl) (iE.func call146 rfl) (Kj _ l hl (j4 gE gT gF e).gF hf gz _ (hv.mono hZ)) ax) fa) fa ?_
 refine w_ [1002,10,11] ?_
 refine jP 12 [11,9,5] 76 rfl rfl (bZ _ _ rfl rfl rfl rfl) fa ?_
 refine w_ [13,14] ?_
 refine gM ?_
 refine g_ [1] ?_
 refine gK rfl (fun B3=>?_) fun B3=>?_
 refine g_ [1,514] ?_
 refine w_ [0,1001,2,3,1001,4,5,6,2011,7] ?_
 refine gD 1 ?_
 refine iI rfl call148 rfl (Dx _ l hl mR H hv) ?_
 rintro PL X6 ⟨B,hB,rfl⟩
 refine iO [111,0,0] ?_
 refine jy 8 [7,6] rfl call149 rfl (Wv _ l hl hf (j4 gE gT gF e) gz _ _ rfl rfl _ (hv.mono hZ)) ax ?_
 refine az (v:=.int .u64 ((BitVec.ofNat 64 (vJ l gT (k-1))).toNat:Int)) (by rw[fg,ek];show Value.int .u64 ((vJ l gT (k-1):Nat):Int)=_;congr 1;omega) ?_
 refine gW 9 [8,5] rfl (aj (pl:=kz) (zs:=iP) (parts:=[(0,.const (.int .i64 3)),(1,.tmp 90),(3,.tmp 93)]) (vs:=[(0,_),(1,_),(3,_)]) (cells:=[_,_,.int .u32 0,_,.int .u64 0,.int .u32 0,.int .i64 0,.bool false,.int .i64 0,.slice none 0 0,.slice none 0 0]) fa fa rfl rfl) fa ?_
 refine gD 10 ?_
 refine jm ?_
 refine iO [2,111,1,0,1001,0,1001] ?_
 refine gD 11 ?_
 refine jm ?_
 refine iO [2,111,1,0,1001] ?_
 refine gD 12 ?_
 refine jT 11 ?_
 refine gG ?_
 refine gD 13 ?_
 refine jm ?_
 refine gG ?_
 refine gM ?_
 refine g_ [4] ?_
 refine bP (s:=11) (B++H) results85 fa rfl rfl rfl rfl gO gA fc ?_
 have ht:mf l seen gE gT k e=(l,gE,uz gE (BitVec.ofNat 64 (vJ l gT (k-1)))):=by
   unfold mf
   rw[dp gz,dp gz,dx ⟨by omega,by rw[←hk];exact B3⟩]
 refine ⟨PL,B,?_,?_,rfl⟩
 · rw[ht];rfl
 · rw[ht];exact hB.ev
 refine g_ [2] ?_
 exact ah (()) (⟨by intro q;(have h9:=Classical.not_not.1 B3;rw[←hk];exact h9),by omega,by omega⟩) (gL) (Sp.all fc)
 refine w_ [6,7,8,9,10,11,12,13,14] ?_
 refine gM ?_
 refine g_ [4] ?_
 exact ah (()) (⟨by intro q;(exfalso;omega),by omega,by omega⟩) (gL) (Sp.all fc)
 rintro _ ⟨Ev,GR,su⟩
 refine g_ [1,508] ?_
 refine w_ [1003,0,1,2] ?_
 refine jy 3 [2] rfl call144 rfl (tu _ l hl _ (hv.mono hZ)) ax ?_
 refine az (v:=.int .u64 ((1#64).toNat:Int)) (by rw[hf]) ?_
 refine gW 4 [3] rfl (aL _ (1#64) rfl rfl rfl rfl) fa ?_
 refine gW 5 [4,1] rfl (aL _ _ rfl rfl rfl rfl) fa ?_
 refine gW 6 [5] rfl (bQ fa fa rfl gz gz) fa ?_
 refine az (v:=.int .i64 (k:Int)) (congrArg (Value.int .i64) gz) ?_
 refine w_ [7] ?_
 refine gM ?_
 refine g_ [4] ?_
 refine c_ call148 rfl (Dx _ l hl mR H hv) ?_
 rintro aip XP ⟨B,⟨cells,Ca,Cb,Ej,I1,rfl⟩,rfl⟩
 obtain ⟨bo,F0,rfl,hbc⟩:=Ej.form
 refine g_ [5,513] ?_
 refine w_ [0,1,3077,2,1001,3,9001,4,5,6] ?_
 refine jP 7 [6,5,4] 108 rfl rfl (Yd.indexAddr (e:=77) (s:=11) fa fa rfl rfl gz gz) fa ?_
 refine ki 8 [7,4] 108 rfl rfl rfl (aE (n:=11) (vs:=enc l[k] (.slice qo l[k].key.length qc) (.slice ro l[k].data.length rc)) fa rfl (ib kh) rfl (by rw[show o0+((k:Int)).toNat*11=o0+k*11 by omega];exact hrw)) ?_
 refine ki 9 [4] 108 rfl rfl rfl (aQ (n:=11) fa rfl gO gA) ?_
 refine gD 10 ?_
 refine SO.c rfl (aP (dj:=108) rfl rfl) rfl (iE.func call150 rfl) (ags l[k] hek _ _ (j4 gE gT gF e) _ _ (iB e) H jd kf rfl hd) (Sp.p fc) ?_
 rintro KE Ie ⟨rfl,A9,rfl⟩
 refine gG ?_
 refine w_ [1009,11,12] ?_
 refine gM ?_
 refine g_ [1] ?_
 refine WC.cond rfl (fun IU=>?_) (fun IU=>?_)
 refine g_ [1,507] ?_
 refine w_ [0,1] ?_
 refine gW 2 [1,0] rfl (bJ (e:=77) (s:=11) (j:=k) fa fa rfl rfl rfl gz) fa ?_
 refine w_ [2011,3] ?_
 refine gD 4 ?_
 refine SO.h rfl Wt.none rfl (aX (e:=77) (sz:=11) (zs:=lh) (vs:=enc e (.slice ko e.key.length kc) (.slice wo e.data.length wc)) fa fa fa rfl rfl rfl fa fun QU=>⟨_,rfl,?_⟩)
 refine gG ?_
 refine gD 5 ?_
 refine SO.h rfl Wt.none rfl (bU (e:=77) (sz:=11) (bytes:=112) (zs:=lh) (m:=1) fa fa rfl gz rfl rfl (Ej.w.upto (m:=k) gz) fc (cm gO) rfl (sV rfl rfl) gz (by simp only[maxLen];omega) gz fun Ft xE Eg=>⟨_,rfl,?_⟩)
 refine gG ?_
 refine gD 6 ?_
 refine jm ?_
 refine gG ?_
 refine gM ?_
 refine g_ [3] ?_
 have MI:mE (l.take k++[e]):=ja gz Ev
 have jU:EV Ft (l.take k++[e]) (xE++(Cb++A)):=by
   refine ⟨_,?_,((I1.take k).mono fun c hc=>dq _ (dw _ hc)).append (VL.one (E:=nh) ⟨_,_,rfl,vQ.mono fun c hc=>dq _ (dq _ hc),sw.mono fun c hc=>dq _ (dq _ hc)⟩)⟩
   rw[dr,dE,dZ,eE gz]
   exact Eg.rs.mono fun c hc=>dw _ hc
 have GZ:xx l k e=l.take k++[e]:=by
   unfold xx
   rw[dp]
   rintro ⟨_,q⟩
   rw[dK jZ] at q
   have q2:iB l[k]=iB e:=eQ q
   rw[fo q2] at IU
   cases IU
 refine g_ [1] ?_
 refine iG call143 rfl (Fm _ (l.take k++[e]) (by rw[dr,dE,dZ];omega) MI _ (jU.mono (Sp.sub fc))) ?_
 refine g_ [709,1125,6,512] ?_
 refine w_ [0,1001,1,2,1001,3,4,1001,5,6] ?_
 refine gW 7 [6,4] rfl (aj (pl:=kz) (zs:=iP) (parts:=[(0,.const (.int .i64 2)),(1,.tmp 131),(3,.tmp 133)]) (vs:=[(0,_),(1,_),(3,_)]) (cells:=[_,_,.int .u32 0,_,.int .u64 0,.int .u32 0,.int .i64 0,.bool false,.int .i64 0,.slice none 0 0,.slice none 0 0]) fa fa rfl rfl) fa ?_
 refine gD 8 ?_
 refine jm ?_
 refine iO [2,0,1001,0,1001,0,1001] ?_
 refine gD 9 ?_
 refine jm ?_
 refine iO [2,0,1001,0,1001] ?_
 refine gD 10 ?_
 refine jT 11 ?_
 refine gG ?_
 refine gD 11 ?_
 refine jm ?_
 refine gG ?_
 refine gM ?_
 refine g_ [2] ?_
 refine bP (s:=11) ((xE++(Cb++A))++H) results85 fa rfl rfl rfl rfl gO gA fc ?_
 have EB:¬(k≠0∧ke l k≠gT):=fun q=>q.2 (Ev q.1)
 have ht:mf l seen gE gT k e=(xx l k e,gE,mq gE e.gF):=by
   unfold mf
   rw[dp gz,dp gz,dp EB]
 refine ⟨Ft,xE++(Cb++A),?_,?_,rfl⟩
 · rw[ht];rfl
 · rw[ht];exact (by rw[GZ];exact jU)
 refine g_ [3,512] ?_
 refine w_ [0,1001,1,2,1001,3,4,1001,5,6] ?_
 refine gW 7 [6,4] rfl (aj (pl:=kz) (zs:=iP) (parts:=[(0,.const (.int .i64 2)),(1,.tmp 131),(3,.tmp 133)]) (vs:=[(0,_),(1,_),(3,_)]) (cells:=[_,_,.int .u32 0,_,.int .u64 0,.int .u32 0,.int .i64 0,.bool false,.int .i64 0,.slice none 0 0,.slice none 0 0]) fa fa rfl rfl) fa ?_
 refine gD 8 ?_
 refine jm ?_
 refine iO [2,0,1001,0,1001,0,1001] ?_
 refine gD 9 ?_
 refine jm ?_
 refine iO [2,0,1001,0,1001] ?_
 refine gD 10 ?_
 refine jT 11 ?_
 refine gG ?_
 refine gD 11 ?_
 refine jm ?_
 refine gG ?_
 refine gM ?_
 refine g_ [2] ?_
 refine bP (s:=11) ((Ca++Cb)++H) results85 fa rfl rfl rfl rfl gO gA fc ?_
 have GZ:xx l k e=l:=by
   have q2:iB l[k]=iB e:=by simpa using IU
   have q3:k<l.length∧(l[k]?.map iB)=some (iB e):=⟨jZ,by rw[dK jZ];exact congrArg some q2⟩
   unfold xx
   rw[dx q3]
 have EB:¬(k≠0∧ke l k≠gT):=fun q=>q.2 (Ev q.1)
 have ht:mf l seen gE gT k e=(xx l k e,gE,mq gE e.gF):=by
   unfold mf
   rw[dp gz,dp gz,dp EB]
 refine ⟨(.slice bo l.length F0),Ca++Cb,?_,?_,rfl⟩
 · rw[ht];rfl
 rw[ht];exact (by rw[GZ];exact ⟨cells,Ej.rs.mono fun c hc=>dw _ hc,I1.mono fun c hc=>dq _ hc⟩)
theorem aan (v:Value) (fs:List uv) (hl:fs.length≤100) (mI:∀f∈fs,okF f) (H:List Ck) (hv:VS fdR v fs H):gC prog 126 [v] H fun r gr=>∃w A,r=.tuple #[w,.int .i64 0]∧Ob 5 w (fs.flatMap bF) A∧gr=A++H:=by
 refine gC.enter func126 rfl ntmps126 rfl ?_
 intro w0 R
 obtain ⟨ao,ac,rfl,_⟩:=VS.form hv
 refine g_ [8] ?_
 refine c_ call174 rfl (E0) ?_
 rintro x0 H0 ⟨bw,rfl,rfl⟩
 refine g_ [7,710,265,4] ?_
 refine aC (fun z:Nat×Value×List Ck=>z.1≤fs.length∧Ob 5 z.2.1 ((fs.take z.1).flatMap bF) z.2.2) (fun z:Nat×Value×List Ck=>[(4,ptr bw),(10,.int .i64 (z.1:Int))]) (fun z:Nat×Value×List Ck=>row bw [z.2.1,.bool false] 372::(z.2.2++H)) (fun z:Nat×Value×List Ck=>fs.length-z.1) (⟨0,.slice none 0 0,[]⟩) (show 0≤fs.length∧Ob 5 (.slice none 0 0) ((fs.take 0).flatMap bF) [] from ⟨dN _,Ob.nil _⟩) (Sx.put rfl (Sx.put rfl (gL))) fc ?_
 rintro ⟨i,u,Cu⟩ hI
 replace hI:i≤fs.length∧Ob 5 u ((fs.take i).flatMap bF) Cu:=hI
 obtain ⟨hi,ho⟩:=hI
 change WC _ _ _ _ _ _ ([(4,ptr bw),(10,.int .i64 (i:Int))]++_) (row bw [u,.bool false] 372::(Cu++H))
 refine g_ [2,705,3] ?_
 refine gK rfl (fun oN=>?_) fun oN=>?_
 have gQ:i<fs.length:=by omega
 obtain ⟨b0,o0,nU,kK,T0,nB,nA,ie,l8,kh,c0,⟨vt,rfl,I4⟩,ja⟩:=VS.rowAt hv gQ gB
 simp only[dI,eD] at ie
 obtain ⟨rfl,rfl⟩:=ie
 obtain ⟨to,tc,rfl,_⟩:=I4.form
 have hf:=mI _ (dG gQ)
 have hf0:=hf.sz
 have hft:=hf.t
 have Jc:=hf.n
 have kE:fs.take (i+1)=fs.take i++[fs[i]]:=dJ gQ
 have lx:((fs.take i).flatMap bF).length≤25600:=by
   have:=QW (fs:=fs.take i) (fun f hf=>mI f (fY hf))
   rw[dE] at this
   omega
 refine g_ [6,711,265,3] ?_
 refine WL.h rfl (aJ (n:=3) (vs:=wO fs[i] (.slice to fs[i].text.length tc)) fa rfl (ib kh) rfl (by rw[show o0+((i:Int)).toNat*3=o0+i*3 by omega];exact ja) ⟨_,rfl,?_⟩)
 refine WL.h rfl (Hd.alloc (zs:=[.int .i64 0,.int .u64 0,.slice none 0 0]) fa fun b6=>⟨_,rfl,?_⟩)
 refine g_ [303,4,100,6,701,3] ?_
 refine gK rfl (fun mr=>?_) fun mr=>?_
 refine g_ [3,101,1,707,1020,8,102,1,710,5,707,1024,7,102,1] ?_
 refine c_ call178 rfl (KC bw u ((fs.take i).flatMap bF) Cu H _ fs[i].text I4 gz ho gz) ?_
 rintro XB Qk ⟨rfl,v28,PZ,aca,rfl⟩
 refine g_ [5,703,2] ?_
 exact ai ⟨i+1,v28,PZ⟩ (show i+1≤fs.length∧Ob 5 v28 ((fs.take (i+1)).flatMap bF) PZ from ⟨by omega,by rw[kE,List.flatMap_append,List.flatMap_singleton];rw[show bF fs[i]=tb fs[i].text from dx gz];exact aca⟩) (by show fs.length-(i+1)<fs.length-i;omega) (Sx.put rfl (Sx.put rfl (gL))) fc
 refine g_ [3,701,3] ?_
 refine gK rfl (fun wR=>?_) fun wR=>?_
 refine g_ [2] ?_
 refine gK rfl (fun wR=>?_) fun wR=>?_
 refine g_ [3,102,1,710,5,707,1037,1,100,1,705,2041,1,101,1,100,1] ?_
 refine jx 42 rfl rfl rfl (Yd.mul rfl rfl gz gz) ?_
 refine jx 42 rfl rfl rfl (cJ fs[i].n (8*fs[i].size) rfl rfl rfl gz) ?_
 refine g_ [707,1049,9,101,1,100,1] ?_
 refine c_ call195 rfl (E8 bw u ((fs.take i).flatMap bF) Cu fs[i].n fs[i].size gz ho gz) ?_
 rintro PJ KW ⟨rfl,HO,FA,NC,rfl⟩
 refine g_ [5,703,2] ?_
 exact ai ⟨i+1,HO,FA⟩ (show i+1≤fs.length∧Ob 5 HO ((fs.take (i+1)).flatMap bF) FA from ⟨by omega,by rw[kE,List.flatMap_append,List.flatMap_singleton];rw[show bF fs[i]=iu fs[i].n fs[i].size from dp gz];exact NC⟩) (by show fs.length-(i+1)<fs.length-i;omega) (Sx.put rfl (Sx.put rfl (gL))) fc
 refine g_ [13] ?_
 refine ay results126 rfl rfl ?_
 exfalso;omega
 refine g_ [2,701,1031,6,701,3] ?_
 refine gK rfl (fun wR=>?_) fun wR=>?_
 refine g_ [2] ?_
 refine gK rfl (fun wR=>?_) fun wR=>?_
 refine g_ [3,102,1,710,5,707,1037,1,100,1,705,2041,1,101,1,100,1] ?_
 refine jx 42 rfl rfl rfl (Yd.mul rfl rfl gz gz) ?_
 refine jx 42 rfl rfl rfl (cJ fs[i].n (8*fs[i].size) rfl rfl rfl gz) ?_
 refine g_ [707,1049,9,101,1,100,1] ?_
 refine c_ call195 rfl (E8 bw u ((fs.take i).flatMap bF) Cu fs[i].n fs[i].size gz ho gz) ?_
 rintro PJ KW ⟨rfl,HO,FA,NC,rfl⟩
 refine g_ [5,703,2] ?_
 exact ai ⟨i+1,HO,FA⟩ (show i+1≤fs.length∧Ob 5 HO ((fs.take (i+1)).flatMap bF) FA from ⟨by omega,by rw[kE,List.flatMap_append,List.flatMap_singleton];rw[show bF fs[i]=iu fs[i].n fs[i].size from dp gz];exact NC⟩) (by show fs.length-(i+1)<fs.length-i;omega) (Sx.put rfl (Sx.put rfl (gL))) fc
 refine g_ [13] ?_
 refine ay results126 rfl rfl ?_
 exfalso;omega
 refine g_ [1,701,1033,17] ?_
 refine ay results126 rfl rfl ?_
 exfalso;omega
 have lY:i=fs.length:=by omega
 subst lY
 rw[eH] at ho
 refine g_ [8] ?_
 refine c_ call180 rfl (Fu bw u (fs.flatMap bF) Cu ho (by have:=QW mI;omega)) ?_
 rintro PK FL ⟨v60,C60,rfl,acb,rfl⟩
 refine g_ [7] ?_
 refine gH (FL++H) ?_
 exact ay results126 rfl rfl (⟨_,FL,rfl,acb,rfl⟩)
theorem Ww (w:Wk) (hw:pb w) (vn:Value) (H:List Ck) (hv:Bs vn w.name H):gC prog 74 [.agg (Ac w vn).toArray] H fun r gr=>∃A,Bs r (r6 w) A∧gr=A++H:=by
 refine gC.enter func74 rfl ntmps74 rfl ?_
 intro w0 R
 obtain ⟨no,nc,rfl,_⟩:=hv.form
 obtain ⟨CB,AY⟩:=aay hw
 have hw9:=hw
 obtain ⟨Ew,Ex,CH,hg4,rn⟩:=hw9
 refine gY (iV fun b1=>?_)
 refine g_ [5,100,1] ?_
 refine ae rfl (bM _ fa fa rfl rfl) ?_
 refine ae rfl (aj (pl:=[(0,1),(1,1),(2,1)]) (zs:=[.int .i64 0,.int .u64 0,.slice none 0 0]) (parts:=[(0,.const (.int .i64 1)),(1,.tmp 8)]) (vs:=[(0,_),(1,_)]) (cells:=[_,_,.slice none 0 0]) fa fa rfl rfl) ?_
 refine g_ [101,1] ?_
 refine ae rfl (bM _ fa fa rfl rfl) ?_
 refine ae rfl (aj (pl:=[(0,1),(1,1),(2,1)]) (zs:=[.int .i64 0,.int .u64 0,.slice none 0 0]) (parts:=[(0,.const (.int .i64 4)),(1,.tmp 12)]) (vs:=[(0,_),(1,_)]) (cells:=[_,_,.slice none 0 0]) fa fa rfl rfl) ?_
 refine g_ [102,1] ?_
 refine ae rfl (aj (pl:=[(0,1),(1,1),(2,1)]) (zs:=[.int .i64 0,.int .u64 0,.slice none 0 0]) (parts:=[(2,.tmp 15)]) (vs:=[(2,_)]) (cells:=[.int .i64 0,.int .u64 0,_]) fa fa rfl rfl) ?_
 refine WL.h rfl (Hd.buildSlice (e:=265) (sz:=3) (zs:=[.int .i64 0,.int .u64 0,.slice none 0 0]) (parts:=[(0,.tmp 9),(1,.tmp 13),(2,.tmp 16)]) (vs:=[(0,.agg (wO ⟨1,BitVec.ofInt 64 w.iA,[]⟩ (.slice none 0 0)).toArray),(1,.agg (wO ⟨4,BitVec.ofInt 64 w.n,[]⟩ (.slice none 0 0)).toArray),(2,.agg (wO ⟨0,0#64,w.name⟩ (.slice no w.name.length nc)).toArray)]) (cells:=(wO ⟨1,BitVec.ofInt 64 w.iA,[]⟩ (.slice none 0 0))++(wO ⟨4,BitVec.ofInt 64 w.n,[]⟩ (.slice none 0 0))++(wO ⟨0,0#64,w.name⟩ (.slice no w.name.length nc))) fa fa fa rfl fa fa fun FX=>⟨_,rfl,?_⟩)
 refine c_ call126 rfl (aan (.slice (some ⟨FX,0,none⟩) 3 3) (AM w) (show 3≤100 by decide) CB (row FX ((wO ⟨1,BitVec.ofInt 64 w.iA,[]⟩ (.slice none 0 0))++(wO ⟨4,BitVec.ofInt 64 w.n,[]⟩ (.slice none 0 0))++(wO ⟨0,0#64,w.name⟩ (.slice no w.name.length nc))) 265::H) ⟨_,.inr ⟨FX,0,3,_,_,_,_,rfl,dA _,dy,rfl⟩,.cons ⟨_,rfl,.inl ⟨_,_,rfl,rfl,rfl⟩⟩ (.cons ⟨_,rfl,.inl ⟨_,_,rfl,rfl,rfl⟩⟩ (.cons ⟨_,rfl,hv.mono fun c hc=>dt _ hc⟩ .nil))⟩) ?_
 rintro x18 XV ⟨v18,A,rfl,hA,rfl⟩
 rw[AY] at hA
 refine g_ [14] ?_
 refine gH (A++H) ?_
 exact aa results74 rfl (⟨A,hA.bs,rfl⟩)
theorem Ki (a b:En) (ha:iZ a) (hb:iZ b) (vk vd wk wd:Value) (H:List Ck) (h1:Bs vk a.key H) (h2:Bs vd a.data H) (h3:Bs wk b.key H) (h4:Bs wd b.data H):gC prog 86 [.agg (enc a vk vd).toArray,.agg (enc b wk wd).toArray] H fun r gr=>r=.bool (decide (iB a=iB b))∧∃A,gr=A++H:=by
 refine gC.enter func86 rfl ntmps86 rfl ?_
 intro w0 R
 obtain ⟨ko,kc,rfl,_⟩:=h1.form
 obtain ⟨eo,ec,rfl,_⟩:=h2.form
 obtain ⟨po,pc,rfl,_⟩:=h3.form
 obtain ⟨qo,qc,rfl,_⟩:=h4.form
 refine gY (iV fun b2=>?_)
 refine iV fun b3=>?_
 refine g_ [5,411] ?_
 refine c_ call108 rfl (D3 a ha _ _ H h1 h2) ?_
 rintro HU FG ⟨v11,A,rfl,hA,rfl⟩
 obtain ⟨uo,uc,rfl,_⟩:=hA.form
 refine g_ [9,411] ?_
 refine c_ call108 rfl (D3 b hb _ _ H h3 h4) ?_
 rintro KF Ig ⟨v16,B,rfl,hB,rfl⟩
 obtain ⟨wo,wc,rfl,_⟩:=hB.form
 refine g_ [10] ?_
 refine WL.h rfl (aM (e:=5) (bs:=iB a) fa fa underlying9 rfl (hA.bs.mono hZ) ⟨_,rfl,?_⟩)
 refine g_ [1] ?_
 refine WL.h rfl (aM (e:=5) (bs:=iB b) fa fa underlying9 rfl (hB.bs.mono hZ) ⟨_,rfl,?_⟩)
 refine ae rfl (bN rfl rfl) (g_ [4] ?_)
 refine gH ((A++B)++H) ?_
 refine aa results86 rfl (⟨?_,_,rfl⟩)
 congr 1
 rw[dM,dz,dz]
 exact str_inj
theorem WG (vp ve:Value) (ps:List (List ia)) (gN:∀q∈ps,jh q) (lx:1≤ps.length∧ps.length≤8) (l:List En) (hl:l.length≤1000) (abl:∀e∈l,iZ e) (L:Ld) (hL:l7 ps Ld.z l=some L) (H:List Ck) (hp:yL vp ps H) (he:EV ve l H):gC prog 57 [vp,ve] H fun r gr=>∃p C,r=.tuple #[ptr p,.int .i64 0]∧ln 179 185 p ps L C∧l4 ps L∧gr=C++H:=by
 refine gC.enter func57 rfl ntmps57 rfl ?_
 intro w0 R
 obtain ⟨ao,ac,rfl,_⟩:=VS.form hp
 obtain ⟨bo,F0,rfl,_⟩:=VS.form he
 refine g_ [9] ?_
 refine c_ call97 rfl (aeb _ ps gN lx H hp) ?_
 rintro x12 XR ⟨p,C0,rfl,Mc,rfl⟩
 refine g_ [11,702,1016,9,710,77,4] ?_
 refine aC (fun z:Nat×Ld×List Ck=>z.1≤l.length∧l7 ps z.2.1 (l.drop z.1)=some L∧l4 ps z.2.1∧ln 179 185 p ps z.2.1 z.2.2) (fun z:Nat×Ld×List Ck=>[(6,ptr p),(20,.int .i64 (z.1:Int))]) (fun z:Nat×Ld×List Ck=>z.2.2++H) (fun z:Nat×Ld×List Ck=>l.length-z.1) (⟨0,Ld.z,C0⟩) (show 0≤l.length∧l7 ps Ld.z (l.drop 0)=some L∧l4 ps Ld.z∧ln 179 185 p ps Ld.z C0 from ⟨dN _,hL,l4.z,Mc⟩) (Sx.put rfl (Sx.put rfl (gL))) fc ?_
 rintro ⟨i,Li,Ci⟩ hI
 replace hI:i≤l.length∧l7 ps Li (l.drop i)=some L∧l4 ps Li∧ln 179 185 p ps Li Ci:=hI
 obtain ⟨hi,I2,hI,SY⟩:=hI
 change WC _ _ _ _ _ _ ([(6,ptr p),(20,.int .i64 (i:Int))]++_) (Ci++H)
 refine g_ [2,705,3] ?_
 refine gK rfl (fun nK=>?_) fun nK=>?_
 have gQ:i<l.length:=by omega
 obtain ⟨b0,o0,nU,kK,T0,nB,nA,ie,l8,kh,c0,⟨vk,vd,rfl,jd,kf⟩,ja⟩:=VS.rowAt he gQ gB
 simp only[dI,eD] at ie
 obtain ⟨rfl,rfl⟩:=ie
 obtain ⟨ko,kc,rfl,_⟩:=jd.form
 obtain ⟨eo,ec,rfl,_⟩:=kf.form
 have MT:=abl _ (dG gQ)
 obtain ⟨jc,EE,vX⟩:∃jc,nH ps Li l[i]=some jc∧l7 ps jc (l.drop (i+1))=some L:=by
   rw[List.drop_eq_getElem_cons gQ] at I2
   have h9:(nH ps Li l[i]).bind (fun jc=>l7 ps jc (l.drop (i+1)))=some L:=I2
   cases hs:nH ps Li l[i] with
   |none=>rw[hs] at h9;cases h9
   |some jc=>rw[hs] at h9;exact ⟨jc,rfl,h9⟩
 have tL:lI ps Li l[i]=0:=dW fun q=>by rw[agM MT q] at EE;cases EE
 have oy:nG ps Li l[i]=jc:=by have:=Pk MT tL;rw[EE] at this;exact (eQ this).symm
 have hinv:=(HJ (fun q hq=>(gN q hq).G) hI EE).1
 refine g_ [6,711,77,11] ?_
 refine WL.h rfl (aJ (n:=11) (vs:=enc l[i] (.slice ko l[i].key.length kc) (.slice eo l[i].data.length ec)) fa rfl (ib kh) rfl (by rw[show o0+((i:Int)).toNat*11=o0+i*11 by omega];exact ja) ⟨_,rfl,?_⟩)
 refine iS lh fun b9=>?_
 refine WL.s (aH (n:=11) fa rfl rfl gA (sV rfl rfl) ir gA ⟨rfl,?_⟩)
 refine g_ [5,411] ?_
 refine c_ call70 rfl (UW p ps gN Li hI l[i] MT tL _ _ Ci SY H jd kf) ?_
 rintro XA Qj ⟨gP,rfl,xX,rfl⟩
 rw[oy] at xX
 refine g_ [702,1027,7,703,2] ?_
 exact ai (⟨i+1,jc,gP⟩) (show (i+1)≤l.length∧l7 ps jc (l.drop (i+1))=some L∧l4 ps jc∧ln 179 185 p ps jc gP from ⟨by omega,vX,hinv,xX⟩) (show l.length-(i+1)<l.length-i by omega) (Sx.put rfl (Sx.put rfl (gL))) fc
 have lY:i=l.length:=by omega
 subst lY
 rw[List.drop_length] at I2
 obtain rfl:Li=L:=eQ I2
 refine g_ [13] ?_
 refine gH (Ci++H) ?_
 exact ay results57 rfl rfl (⟨p,Ci,rfl,SY,hI,rfl⟩)
end Go.Proofs.YtchdmlkiggdhaaaGreat
namespace Go.Proofs.YtchdmlkiggdhaaaGreat
open Go.SL Go.Sum Go.Proofs.Tryz
attribute [local irreducible] WL WC DN gZ iX
theorem agN (a:qg) (H:List Ck):Reads prog 216 [.int .u32 a.toNat] H (.int .u32 (Iz a).toNat):=by
 refine gC.enter func216 rfl ntmps216 rfl ?_
 intro w0 R
 refine gY (ae rfl (Yd.assign (v:=.int .u32 ((0#32).toNat:Int)) rfl) (g_ [6] ?_))
 refine ae rfl (Yd.Yo _ (1#32) rfl rfl rfl rfl) (ae rfl (aD _ (1#32) rfl rfl rfl rfl) (qb (gK rfl (fun h5=>?_) fun h5=>?_)))
 refine g_ [3] ?_
 refine ae rfl (Yd.WK _ 1 rfl rfl rfl rfl) (ae rfl (Yd.XH _ (3988292384#32) rfl rfl rfl rfl) (g_ [5] ?_))
 exact aa results216 rfl (⟨by rw[Iz,dx h5],rfl⟩)
 refine g_ [5] ?_
 refine ae rfl (Yd.WK _ 1 rfl rfl rfl rfl) (g_ [4] ?_)
 exact aa results216 rfl (⟨by rw[Iz,dp h5],rfl⟩)
theorem Oo (s:qg) (v:Value) (l:List B8) (H:List Ck) (hv:Bs v l H) (hl:l.length≤9223372036854775807):Reads prog 183 [.int .u32 s.toNat,v] H (.int .u32 (wL s l).toNat):=by
 obtain ⟨ao,c,rfl,hc⟩:=Rs.form hv
 refine gC.enter func183 rfl ntmps183 rfl ?_
 intro w0 R
 refine gY (ae rfl (Yd.assign (v:=.int .u32 ((0#32).toNat:Int)) rfl) (g_ [5] ?_))
 refine ae rfl (Yd.Vu _ rfl rfl) (g_ [7,710,5,4] ?_)
 refine WC.loop (fun k:Nat=>k≤l.length) (fun k=>[(5,.int .u32 (xO (~~~ s) (l.take k)).toNat),(10,.slice ao l.length c),(11,.int .i64 l.length),(12,.int .i64 k)]) (fun _=>H) (fun k=>l.length-k) 0 (dN _) ⟨rfl,rfl,rfl,rfl,eX⟩ (fb _) ?_
 intro k hk
 refine g_ [2,705,3] ?_
 refine gK rfl (fun sW=>?_) fun sW=>?_
 have jZ:k<l.length:=by omega
 refine g_ [6] ?_
 refine bX (e:=5) fa fa fa rfl rfl rfl hv (Le jZ) jZ rfl rfl ?_
 intro _
 refine g_ [7] ?_
 refine ae rfl (Yd.ZC _ fa fa rfl rfl) ?_
 refine ae rfl (Yd.XH _ _ rfl rfl rfl rfl) (g_ [9] ?_)
 refine WC.loop (fun j:Nat=>j≤8) (fun j=>[(5,.int .u32 (Lr j (xO (~~~ s) (l.take k) ^^^ l[k].setWidth 32)).toNat),(10,.slice ao l.length c),(11,.int .i64 l.length),(12,.int .i64 k),(20,.int .i64 j)]) (fun _=>H) (fun j=>8-j) 0 gz ⟨rfl,rfl,rfl,rfl,rfl,eX⟩ (fb _) ?_
 intro j hj
 refine g_ [2,705,3] ?_
 refine gK rfl (fun nK=>?_) fun nK=>?_
 refine g_ [6] ?_
 refine iG call216 rfl (agN _ _) (g_ [5,703,2] ?_)
 exact DN.again (j+1) gz gz ⟨rfl,rfl,rfl,rfl,rfl,eX⟩ (fb _)
 have hj8:j=8:=by omega
 subst hj8
 refine g_ [7,703,2] ?_
 exact DN.again (k+1) gz gz ⟨by rw[ZE _ _ _ jZ];rfl,rfl,rfl,rfl,eX⟩ (fb _)
 refine g_ [8] ?_
 refine ae rfl (Yd.Vu _ rfl rfl) (g_ [4] ?_)
 exact aa results183 rfl (⟨by rw[wL,dL gz],rfl⟩)
theorem VC (v:Value) (l:List B8) (H:List Ck) (hv:Bs v l H) (hl:l.length≤9223372036854775807):Reads prog 184 [v] H (.int .u32 (wM l).toNat):=by
 refine gC.enter func184 rfl ntmps184 rfl ?_
 intro w0 R
 refine gY (ae rfl (Yd.assign (v:=.int .u32 ((0#32).toNat:Int)) rfl) (g_ [5] ?_))
 refine iG call183 rfl (Oo 0#32 _ _ _ hv hl) (g_ [4] ?_)
 exact aa results184 rfl (⟨rfl,rfl⟩)
end Go.Proofs.YtchdmlkiggdhaaaGreat
namespace Go.Proofs.YtchdmlkiggdhaaaGreat
open Go.SL
attribute [local irreducible] WL WC DN gZ iX
open Go.Proofs.Tryz
open Go.Sum hiding iu kj kO mj my ju
abbrev Aj:=BitVec 8
theorem VB (k:Nat):BitVec.ofInt 16 (k:Int)=BitVec.ofNat 16 k:=by simp
theorem aeP (a b:List Aj):wL (wM a) b=wM (a++b):=Rt 0#32 a b
theorem aav (l:List Aj):([]++iu ((55206#16).setWidth 64) 2++iu ((BitVec.ofNat 16 l.length).setWidth 64) 2)++iu ((wL (wM (xM l.length)) l).setWidth 64) 4++l=j5 l:=by
  rw[aeP]
  have:iu ((55206#16).setWidth 64) 2=[215#8,166#8]:=by decide
  rw[this]
  rfl
theorem Wa (br:Nat) (u:Value) (bs:List Aj) (sh:Bool) (C:List Ck) (hu:Bs u bs C) (hl:bs.length≤1000000):gC prog 224 [.pointer (some ⟨br,0,none⟩)] (row br [u,.bool sh] 365::C) fun r gr=>∃jn,r=.int .u16 ((Sum.kj (Sum.mj bs sh 2)).setWidth 16).toNat∧Bs jn (Sum.my bs sh 2) C∧gr=row br [jn,.bool (Sum.kO bs sh 2)] 365::C:=afn br u bs sh C hu hl
theorem afo (br:Nat) (u:Value) (bs:List Aj) (sh:Bool) (C:List Ck) (hu:Bs u bs C) (hl:bs.length≤1000000):gC prog 157 [.pointer (some ⟨br,0,none⟩)] (row br [u,.bool sh] 365::C) fun r gr=>∃jn,r=.int .u32 ((Sum.kj (Sum.mj bs sh 4)).setWidth 32).toNat∧Bs jn (Sum.my bs sh 4) C∧gr=row br [jn,.bool (Sum.kO bs sh 4)] 365::C:=OV br u bs sh C hu hl
theorem WM (n:Int) (H:List Ck):Reads prog 162 [.int .i64 n] H (.int .i64 (Ed n)):=by
 refine gC.enter func162 rfl ntmps162 rfl ?_
 intro w0 R
 refine g_ [9,705,1] ?_
 refine ag (t:=5) rfl (fun rn=>?_) (fun rn=>?_)
 refine g_ [13] ?_
 exact aa results162 rfl (⟨by rw[Ed,dp gz],rfl⟩)
 refine g_ [1,707,3] ?_
 refine gK rfl (fun h8=>?_) fun h8=>?_
 refine g_ [7] ?_
 exact aa results162 rfl (⟨by rw[Ed,dp gz],rfl⟩)
 refine g_ [5,703,4] ?_
 refine aa results162 rfl ?_
 exact ⟨by rw[Ed,dx gz];congr 1;omega,rfl⟩
theorem V1 (v:Value) (l:List Aj) (H:List Ck) (hv:Bs v l H) (hl:l.length≤9223372036854775807):gC prog 111 [v] H fun r gr=>∃iJ gP,r=.tuple #[iJ,.int .i64 (OR l)]∧Ob 5 iJ (Hz l) gP∧gr=gP++H:=by
 refine gC.enter func111 rfl ntmps111 rfl ?_
 intro w0 R
 obtain ⟨vo,vc,rfl,xk⟩:=hv.form
 refine g_ [10,710,5,707,2] ?_
 refine gK rfl (fun re=>?_) fun re=>?_
 have h2:¬l.length≤2000:=by omega
 refine g_ [8] ?_
 try (refine aR (C7++H) (List.Sublist.append (List.Sublist.refl _) (fA _ _)) ?_)
 refine ay results111 rfl rfl ?_
 exact ⟨_,[],by rw[OR,dp h2],by rw[Hz,dp h2];exact Ob.nil _,rfl⟩
 have h2:l.length≤2000:=by omega
 refine g_ [4] ?_
 refine c_ call174 rfl (E0) ?_
 rintro x H1 ⟨b1,rfl,rfl⟩
 refine g_ [1,710,5] ?_
 refine ae rfl (Yd.Pp (BitVec.ofNat 16 l.length) fa fa rfl (VB _)) ?_
 refine c_ call182 rfl (Ps b1 _ [] [] (BitVec.ofNat 16 l.length) (Ob.nil _) (by simp)) ?_
 rintro x H2 ⟨rfl,v1,C1,oS,rfl⟩
 refine c_ call180 rfl (Fu b1 v1 _ C1 oS (by simp[ju])) ?_
 rintro x C2 ⟨v2,K2,rfl,pC,rfl⟩
 replace pC:Ob 5 v2 (xM l.length) C2:=pC
 refine g_ [9] ?_
 refine c_ call174 rfl (E0) ?_
 rintro x H4 ⟨b3,rfl,rfl⟩
 refine c_ call182 rfl (Ps b3 _ [] [] 55206#16 (Ob.nil _) (by simp)) ?_
 rintro x H5 ⟨rfl,v3,C3,xb,rfl⟩
 refine g_ [1,710,5] ?_
 refine ae rfl (Yd.Pp (BitVec.ofNat 16 l.length) fa fa rfl (VB _)) ?_
 refine c_ call182 rfl (Ps b3 v3 _ C3 (BitVec.ofNat 16 l.length) xb (by simp[ju])) ?_
 rintro x H6 ⟨rfl,v4,C4,vV,rfl⟩
 refine g_ [1] ?_
 refine iG call184 rfl (VC _ (xM l.length) _ (pC.bs.mono fun x hx=>by simp[hx]) (by rw[QZ];omega)) ?_
 refine g_ [1] ?_
 refine iG call183 rfl (Oo _ _ l _ (hv.mono fun x hx=>by simp[hx]) gz) ?_
 refine c_ call177 rfl (BC b3 v4 _ C4 _ vV (by simp[ju])) ?_
 rintro x H7 ⟨rfl,v5,C5,vW,rfl⟩
 refine c_ call180 rfl (Fu b3 v5 _ C5 vW (by simp[ju])) ?_
 rintro x C6 ⟨v6,K6,rfl,xd,rfl⟩
 refine g_ [11] ?_
 refine WL.h rfl (cM (e:=5) (zs:=[.int .u8 0]) (C:=C6) (D:=C2++H) fa fa rfl rfl rfl xd (hv.mono fun x hx=>by simp[hx]) (by simp[ju];omega) (fb _) fun v7 C7 zx _=>⟨_,rfl,?_⟩)
 refine g_ [5] ?_
 try (refine aR (C7++H) (List.Sublist.append (List.Sublist.refl _) (fA _ _)) ?_)
 refine ay results111 rfl rfl (⟨v7,C7,by rw[OR,dx h2],?_,rfl⟩)
 rw[aav] at zx
 rw[Hz,dx h2]
 exact zx
theorem aaM (v:Value) (b:List Aj) (at_:Int) (H:List Ck) (hv:Bs v b H) (hl:b.length≤1000000) (ha:at_≤9223372036854775807):gC prog 210 [v,.int .i64 at_] H fun r gr=>∃u C,r=.tuple #[u,.int .i64 (lv b at_).2.1,.int .i64 (lv b at_).2.2]∧Ob 5 u (lv b at_).1 C∧gr=C++H:=by
 refine gC.enter func210 rfl ntmps210 rfl ?_
 intro w0 R
 obtain ⟨vo,vc,rfl,xk⟩:=hv.form
 refine g_ [12,705,1] ?_
 refine ag (t:=15) rfl (fun rS=>?_) (fun rS=>?_)
 refine g_ [19] ?_
 refine bO results210 rfl rfl rfl ?_
 have hg:lv b at_=([],0,2):=by rw[lv,dx gz]
 rw[hg]
 exact ⟨_,[],rfl,Ob.nil _,rfl⟩
 refine g_ [2,710,5,707,4] ?_
 refine gK rfl (fun nj=>?_) fun nj=>?_
 refine g_ [10] ?_
 refine bO results210 rfl rfl rfl ?_
 have hg:lv b at_=([],0,2):=by rw[lv,dx gz]
 rw[hg]
 exact ⟨_,[],rfl,Ob.nil _,rfl⟩
 obtain ⟨k,rfl⟩:∃k:Nat,at_=k:=⟨at_.toNat,by omega⟩
 have jZ:k≤b.length:=by omega
 obtain ⟨p,hp⟩:∃p,p=(b.drop k).take 8:=⟨_,rfl⟩
 have hpb:Bs (.slice (if vc=k then vo else vo.map (·.add (k*1))) (min b.length (k+8)-k) (vc-k)) p H:=by
   have:=hv.sub (i:=k) (j:=min b.length (k+8)) gz gz
   rwa [ae7 b k jZ,←hp] at this
 have lx:p.length≤8:=by rw[hp];exact OL _
 refine g_ [4,710,5,701,1] ?_
 refine ag (t:=26) rfl (fun abB=>?_) (fun abB=>?_)
 refine g_ [20] ?_
 refine bO results210 rfl rfl rfl ?_
 have hg:lv b k=([],0,30):=by rw[lv,dp gz,dx (.inl gz)]
 rw[hg]
 exact ⟨_,[],rfl,Ob.nil _,rfl⟩
 refine g_ [2] ?_
 refine WL.Z6 (e:=5) (dj:=26) fa fa fa rfl rfl (rfl) (hv) (Le (i:=k) gz) gz rfl rfl rfl rfl rfl ?_
 intro _
 refine jx 26 rfl rfl rfl (Yd.R0 _ (0#8) rfl rfl rfl rfl) (g_ [4] ?_)
 refine gK rfl (fun nK=>?_) fun nK=>?_
 refine g_ [10] ?_
 refine bO results210 rfl rfl rfl ?_
 have hg:lv b k=([],0,30):=by
   have A8:k<b.length:=by omega
   rw[lv,dp gz,dx (.inr (by simpa [List.getD,A8] using nK))]
 rw[hg]
 exact ⟨_,[],rfl,Ob.nil _,rfl⟩
 refine g_ [5] ?_
 have A8:k<b.length:=by omega
 refine g_ [3,710,5,1,703] ?_
 refine ae rfl (cg rfl rfl) (af (t:=39) (v:=.int .i64 ((min b.length (k+8):Nat):Int)) rfl (congrArg (Value.int .i64) gz) ?_)
 refine ae rfl (Yd.slice (e:=5) (s:=1) (i:=k) (j:=min b.length (k+8)) fa fa rfl ⟨_,_,rfl,rfl⟩ ⟨_,_,rfl,rfl⟩ gz gz) ?_
 refine bK rfl (iE.func call155 rfl) (J3 _ p H hpb gz) ?_
 rintro x H1 ⟨br,v1,C1,rfl,hv1,rfl⟩
 refine g_ [6] ?_
 refine c_ call224 rfl (Wa br v1 p false C1 hv1 gz) ?_
 rintro x H2 ⟨v2,rfl,yo,rfl⟩
 refine g_ [1] ?_
 refine c_ call224 rfl (Wa br v2 (r1 p) (s1 p) C1 yo (eJ (Sum.OX _ _ _) gz)) ?_
 rintro x H3 ⟨v3,rfl,Uw,rfl⟩
 refine ae rfl (Yd.acK _ fa fa rfl rfl) ?_
 refine g_ [1] ?_
 refine c_ call157 rfl (afo br v3 (r2 p) (s2 p) C1 Uw (eJ (Sum.OX _ _ _) (eJ (Sum.OX _ _ _) gz))) ?_
 rintro x H4 ⟨v4,rfl,hv4,rfl⟩
 refine g_ [8] ?_
 obtain ⟨n,hn⟩:∃n,n=((Sum.kj (Sum.mj (r1 p) (s1 p) 2)).setWidth 16).toNat:=⟨_,rfl⟩
 rw[←hn]
 have sF:n<65536:=by rw[hn];exact BitVec.isLt _
 refine g_ [1] ?_
 refine c_ call159 rfl (Bu br v4 (r3 p) (s3 p) C1 hv4) ?_
 rintro x H5 ⟨rfl,rfl⟩
 refine af (t:=50) (v:=.int .i64 (uC p)) rfl (rfl) (g_ [702,1] ?_)
 refine ag (t:=52) rfl (fun TH=>?_) (fun TH=>?_)
 refine g_ [28] ?_
 refine aR H (fA _ _) (bO results210 rfl rfl rfl ?_)
 have hg:=Gg A8 nK (Zt hp TH)
 rw[hg]
 exact ⟨_,[],rfl,Ob.nil _,rfl⟩
 refine g_ [1] ?_
 refine jx 52 rfl rfl rfl (Yd.aeA _ (55206#16) rfl rfl rfl rfl) (g_ [2] ?_)
 refine ag (t:=56) rfl (fun pz=>?_) (fun pz=>?_)
 refine g_ [24] ?_
 refine aR H (fA _ _) (bO results210 rfl rfl rfl ?_)
 have hg:=Gg A8 nK (by
   obtain ⟨h8,e1,e2,e3⟩:=F7 hp (show uC p=0 by omega)
   unfold uB
   rw[dp]
   rintro ⟨c1,c2,c3,c4,c5⟩
   rw[e2] at hn
   rw[←hn] at c3 c4 c5
   rw[e1] at pz
   exact pz c2)
 rw[hg]
 exact ⟨_,[],rfl,Ob.nil _,rfl⟩
 refine g_ [1,707,2] ?_
 refine ag (t:=60) rfl (fun abG=>?_) (fun abG=>?_)
 refine g_ [20] ?_
 refine aR H (fA _ _) (bO results210 rfl rfl rfl ?_)
 have hg:=Gg A8 nK (by
   obtain ⟨h8,e1,e2,e3⟩:=F7 hp (show uC p=0 by omega)
   unfold uB
   rw[dp]
   rintro ⟨c1,c2,c3,c4,c5⟩
   rw[e2] at hn
   rw[←hn] at c3 c4 c5
   omega)
 rw[hg]
 exact ⟨_,[],rfl,Ob.nil _,rfl⟩
 refine g_ [2,710,5,1,704,704,707,3] ?_
 refine gK rfl (fun Gk=>?_) fun Gk=>?_
 refine g_ [9] ?_
 refine aR H (fA _ _) (bO results210 rfl rfl rfl ?_)
 have hg:=Gg A8 nK (by
   obtain ⟨h8,e1,e2,e3⟩:=F7 hp (show uC p=0 by omega)
   unfold uB
   rw[dp]
   rintro ⟨c1,c2,c3,c4,c5⟩
   rw[e2] at hn
   rw[←hn] at c3 c4 c5
   simp only[eg] at c4
   omega)
 rw[hg]
 exact ⟨_,[],rfl,Ob.nil _,rfl⟩
 have mW:n≤2000:=by omega
 have tg:k+8+n≤b.length:=by omega
 refine g_ [6,703,1,703,1,703] ?_
 refine ae rfl (Yd.slice (e:=5) (s:=1) (i:=k+8) (j:=k+8+n) fa fa rfl ⟨_,_,rfl,rfl⟩ ⟨_,_,rfl,rfl⟩ gz gz) ?_
 refine g_ [8,703,1,703] ?_
 refine ae rfl (Yd.slice (e:=5) (s:=1) (i:=k+2) (j:=k+4) fa fa rfl ⟨_,_,rfl,rfl⟩ ⟨_,_,rfl,rfl⟩ gz gz) ?_
 refine iG call184 rfl (VC _ (((b.drop (k+2)).take 2)) _ ((hv.cut (i:=k+2) (n:=2) gz gz).mono fun x hx=>dq _ hx) (by simp;omega)) ?_
 refine g_ [1] ?_
 refine iG call183 rfl (Oo _ _ ((b.drop (k+8)).take n) _ ((hv.cut (i:=k+8) (n:=n) rfl gz).mono fun x hx=>dq _ hx) (by simp;omega)) ?_
 refine g_ [1] ?_
 refine ae rfl (bZ _ _ rfl rfl rfl rfl) (qb (gK rfl (fun xW=>?_) fun xW=>?_))
 refine g_ [9] ?_
 refine aR H (fA _ _) (bO results210 rfl rfl rfl ?_)
 have hg:=Gg A8 nK (by
   obtain ⟨h8,e1,e2,e3⟩:=F7 hp (show uC p=0 by omega)
   unfold uB
   rw[dp]
   rintro ⟨c1,c2,c3,c4,c5⟩
   rw[e2] at hn
   rw[←hn] at c3 c4 c5
   rw[e3] at xW
   apply xW
   rw[←c5]
   simp only[gv])
 rw[hg]
 exact ⟨_,[],rfl,Ob.nil _,rfl⟩
 refine g_ [4] ?_
 refine WL.h rfl (aU (e:=5) [] fa fa fa rfl rfl fa fun rb=>⟨_,rfl,?_⟩)
 refine g_ [1] ?_
 refine WL.h rfl (cM (e:=5) (zs:=[.int .u8 0]) (a:=[]) (b:=(b.drop (k+8)).take n) (C:=[row rb (bc []) 5]) (D:=row br [v4,.bool (s3 p)] 365::C1++H) fa fa rfl rfl rfl (.inr ⟨rb,0,[],rfl,dA _,by simp only[maxLen];omega,rfl,rfl,rfl⟩) ((hv.cut (i:=k+8) (n:=n) rfl gz).mono fun x hx=>by simp[hx]) (by simp;omega) (fb _) fun iJ gP nY ajf=>⟨_,rfl,?_⟩)
 refine g_ [1,703,1,703,6] ?_
 refine aR (gP++H) (List.Sublist.append (List.Sublist.refl _) (fA _ _)) (bO results210 rfl rfl rfl ?_)
 have hg:lv b k=((b.drop (k+8)).take n,(k:Int)+8+n,0):=by
   have qs:((b.drop (k+8)).take n).length=n:=by simp;omega
   have:=aaP (l:=(b.drop (k+8)).take n) A8 nK (by
     obtain ⟨h8,e1,e2,e3⟩:=F7 hp (show uC p=0 by omega)
     rw[e2] at hn
     rw[e1] at pz
     rw[e3] at xW
     unfold uB
     rw[←hn,dx]
     · simp only[gv]
     refine ⟨h8,by simpa using pz,mW,by simp only[eg];omega,?_⟩
     simp only[gv]
     simpa using xW)
   rw[this,qs]
 rw[hg]
 exact ⟨iJ,gP,rfl,by simpa using nY,rfl⟩
theorem QD (v:Value) (b:List Aj) (H:List Ck) (hv:Bs v b H) (hl:b.length≤1000000):gC prog 154 [v] H fun r gr=>∃u vs C D,r=.tuple #[u,.int .i64 (vD b).2.1,.int .i64 (vD b).2.2]∧il u (vD b).1.length vs 68 1 C∧rJ 5 vs (vD b).1 D∧gr=C++(D++H):=by
 refine gC.enter func154 rfl ntmps154 rfl ?_
 intro w0 R
 obtain ⟨vo,vc,rfl,xk⟩:=hv.form
 refine g_ [7] ?_
 refine WC.scope (g_ [11] ?_)
 refine WC.label (g_ [3] ?_)
 refine WC.loop (fun z:Nat×Nat×List (List Aj)×Value×List Value×List Ck×List Ck=>wG b z.2.2.1 z.1 z.2.1∧il z.2.2.2.1 z.2.2.1.length z.2.2.2.2.1 68 1 z.2.2.2.2.2.1∧rJ 5 z.2.2.2.2.1 z.2.2.1 z.2.2.2.2.2.2) (fun z=>[(0,.slice vo b.length vc),(5,z.2.2.2.1),(6,.int .i64 z.2.1)]) (fun z=>z.2.2.2.2.2.1++(z.2.2.2.2.2.2++H)) (fun z=>z.1) (b.length+1,0,[],.slice none 0 0,[],[],[]) ⟨wG.start b,il.nil _ _,rJ.nil⟩ ⟨rfl,rfl,rfl,eX⟩ (fb _) ?_
 rintro ⟨f,k,acc,u,vs,C,D⟩ ⟨hr,ho,Jt⟩
 simp only at hr ho Jt
 have jZ:=hr.here
 have uL:=hr.jW
 refine g_ [5] ?_
 refine bK rfl (iE.func call210 rfl) (aaM _ b k _ (hv.mono fun x hx=>by simp[hx]) hl gz) ?_
 rintro q H1 ⟨x,G,rfl,hx,rfl⟩
 refine g_ [17,701,3] ?_
 refine gK rfl (fun pw=>?_) fun pw=>?_
 obtain ⟨lS,sm,ma,AY,ti,gQ⟩:=hr.next pw
 refine g_ [4] ?_
 refine WL.h rfl (bp (e:=68) (z:=.slice none 0 0) fa fa fa rfl hx.one_cell fun rb=>⟨_,rfl,?_⟩)
 refine WL.h rfl (Hd.append (e:=68) (sz:=1) (bytes:=24) (zs:=[.slice none 0 0]) (C:=C) (D:=row rb [x] 68::(G++(D++H))) (m:=1) (news:=[x]) fa fa rfl gz rfl rfl ho (.inr ⟨rb,0,1,[x],68,(0,0),true,rfl,by omega,dq _ dy,rfl⟩) rfl (by intro y hy;rw[dH.1 hy];exact hx.one_cell) (by simp only[maxLen];omega) gz (ae6 _ _ _ _) fun u2 C2 pC _=>⟨_,rfl,?_⟩)
 refine g_ [9] ?_
 refine aR (C2++(G++(D++H))) (List.Sublist.append (List.Sublist.refl _) (du _ _)) ?_
 refine DN.again (sm,lS,acc++[(lv b k).1],u2,vs++[x],C2,D++G) ⟨ti,by simpa using pC,Jt.append (.one hx)⟩ (by show sm<f;omega) ⟨rfl,rfl,by rw[ma];rfl,eX⟩ (ae5 _ _ _ _)
 refine g_ [2,701,3] ?_
 refine gK rfl (fun lz=>?_) fun lz=>?_
 refine g_ [1] ?_
 refine av rfl (av rfl (g_ [13] ?_))
 refine cq (aR (C++(D++H)) (fA _ _) (bO results154 rfl rfl rfl ?_))
 have jM:=hr.stop lz
 rw[jM]
 exact ⟨u,vs,C,D,rfl,ho,Jt,rfl⟩
 refine g_ [15] ?_
 refine cq (aR (C++(D++H)) (fA _ _) (bO results154 rfl rfl rfl ?_))
 have jM:=hr.bad pw lz
 rw[jM]
 exact ⟨u,vs,C,D,rfl,ho,Jt,rfl⟩
end Go.Proofs.YtchdmlkiggdhaaaGreat
namespace Go.Proofs.YtchdmlkiggdhaaaGreat
open Go.SL Go.Proofs.Tryz
attribute [local irreducible] WL WC DN gZ iX
theorem Y2 (H:List Ck):gC prog 12 [.int .i64 512] H fun r gr=>∃p C,r=.tuple #[.pointer (some ⟨p,0,none⟩),.int .i64 0]∧jo 97 127 129 p (List.replicate 32768 0#8) 0 C∧gr=C++H:=by
 refine gC.enter func12 rfl ntmps12 rfl ?_
 intro w0 R
 refine g_ [10,705,1005,2,707,1008,7,509] ?_
 refine w_ [0,2,4] ?_
 refine pe [(1,[0]),(3,[2])] fa (ig ?_ (ig ?_ (jl)))
 refine kP ?_
 refine SO.h rfl Wt.none rfl (cP (e:=127) (n:=512) (sz:=64) (bytes:=64) (z:=.int .u8 0) fa fa rfl rfl rfl rfl gB gB gB fun sR=>⟨_,rfl,?_⟩)
 refine gG ?_
 refine gD 3 ?_
 refine SO.h rfl Wt.none rfl (cP (e:=127) (n:=512) (sz:=64) (bytes:=64) (z:=.int .u8 0) fa fa rfl rfl rfl rfl gB gB gB fun se=>⟨_,rfl,?_⟩)
 refine gG ?_
 refine gW 5 [4] rfl (aj (pl:=pE) (zs:=[.slice none 0 0,.slice none 0 0,.slice none 0 0,.int .i64 0,.int .i64 0,.bool false]) (parts:=[(0,.tmp 11),(1,.tmp 13),(3,.tmp 14),(4,.const (.int .i64 (-1)))]) (vs:=[(0,_),(1,_),(3,_),(4,_)]) (cells:=[_,_,.slice none 0 0,_,_,.bool false]) fa fa rfl rfl) fa ?_
 refine gD 6 ?_
 refine SO.h rfl Wt.none rfl (cH rfl fun vH=>⟨_,rfl,?_⟩)
 refine gG ?_
 refine gD 7 ?_
 refine jm ?_
 refine gG ?_
 refine gD 8 ?_
 refine jm ?_
 refine gG ?_
 refine gM ?_
 refine g_ [2] ?_
 refine gH (row vH [.slice (some ⟨sR,0,none⟩) 512 512,.slice (some ⟨se,0,none⟩) 512 512,.slice none 0 0,.int .i64 512,.int .i64 (-1),.bool false] 97::([row sR _ 127]++([row se _ 127]++([]++H)))) ?_
 exact ay results12 rfl rfl (⟨_,_,rfl,⟨_,_,_,List.replicate 32768 0#8,[],_,_,_,rfl,Kd _ _,Kd _ _,il.nil _ _,fun _=>rfl⟩,rfl⟩)
 refine kP ?_
 refine SO.h rfl Wt.none rfl (cP (e:=127) (n:=512) (sz:=64) (bytes:=64) (z:=.int .u8 0) fa fa rfl rfl rfl rfl gB gB gB fun se=>⟨_,rfl,?_⟩)
 refine gG ?_
 refine gD 1 ?_
 refine SO.h rfl Wt.none rfl (cP (e:=127) (n:=512) (sz:=64) (bytes:=64) (z:=.int .u8 0) fa fa rfl rfl rfl rfl gB gB gB fun sR=>⟨_,rfl,?_⟩)
 refine gG ?_
 refine gW 5 [4] rfl (aj (pl:=pE) (zs:=[.slice none 0 0,.slice none 0 0,.slice none 0 0,.int .i64 0,.int .i64 0,.bool false]) (parts:=[(0,.tmp 11),(1,.tmp 13),(3,.tmp 14),(4,.const (.int .i64 (-1)))]) (vs:=[(0,_),(1,_),(3,_),(4,_)]) (cells:=[_,_,.slice none 0 0,_,_,.bool false]) fa fa rfl rfl) fa ?_
 refine gD 6 ?_
 refine SO.h rfl Wt.none rfl (cH rfl fun vH=>⟨_,rfl,?_⟩)
 refine gG ?_
 refine gD 7 ?_
 refine jm ?_
 refine gG ?_
 refine gD 8 ?_
 refine jm ?_
 refine gG ?_
 refine gM ?_
 refine g_ [2] ?_
 refine gH (row vH [.slice (some ⟨sR,0,none⟩) 512 512,.slice (some ⟨se,0,none⟩) 512 512,.slice none 0 0,.int .i64 512,.int .i64 (-1),.bool false] 97::([row sR _ 127]++([row se _ 127]++([]++H)))) ?_
 exact ay results12 rfl rfl (⟨_,_,rfl,⟨_,_,_,List.replicate 32768 0#8,[],_,_,_,rfl,Kd _ _,Kd _ _,il.nil _ _,fun _=>rfl⟩,rfl⟩)
theorem YK (pd:Nat) (gI:List (BitVec 8)) (n:Nat) (C:List Ck) (h:jo 97 127 129 pd gI n C) (H:List Ck):Reads prog 91 [.pointer (some ⟨pd,0,none⟩)] (C++H) (.int .i64 512):=by
 refine gC.enter func91 rfl ntmps91 rfl ?_
 intro w0 R
 obtain ⟨vn,vs,vw,sure,ws,Cn,Cs,Cw,rfl,hN,hS,hW,qF⟩:=h
 obtain ⟨no,nc,rfl,_⟩:=hN.form
 refine g_ [9] ?_
 refine ae rfl (an underlying30 rfl rfl) (g_ [1004,9,100,1,710,127,4] ?_)
 exact aa results91 rfl (⟨rfl,rfl⟩)
theorem YX (pd:Nat) (gI:List (BitVec 8)) (n:Nat) (C:List Ck) (h:jo 97 127 129 pd gI n C) (H:List Ck):Reads prog 92 [.pointer (some ⟨pd,0,none⟩)] (C++H) (.bool true):=by
 refine gC.enter func92 rfl ntmps92 rfl ?_
 intro w0 R
 obtain ⟨vn,vs,vw,sure,ws,Cn,Cs,Cw,rfl,hN,hS,hW,qF⟩:=h
 refine g_ [8] ?_
 refine ae rfl (aK underlying30 rfl rfl) (g_ [2004,3,105,1,709,2010,5] ?_)
 exact aa results92 rfl (⟨rfl,rfl⟩)
theorem QX (pd:Nat) (vn vs vw z:Value) (H:List Ck):Reads prog 219 [.pointer (some ⟨pd,0,none⟩)] (row pd [vn,vs,vw,z,.int .i64 (-1),.bool false] 97::H) (.bool true):=by
 refine gC.enter func219 rfl ntmps219 rfl ?_
 intro w0 R
 refine g_ [11,105,1,1007,1,1003,7,104,1,701,1013,1,1008,7,104,1,707,1022,1,1017,12] ?_
 exact aa results219 rfl (⟨rfl,rfl⟩)
theorem Za (pd:Nat) (gI:List (BitVec 8)) (n:Nat) (C:List Ck) (h:jo 97 127 129 pd gI n C) (a:Nat) (ha:a<512) (v:Value) (b:List (BitVec 8)) (H:List Ck) (hv:Bs v b H) (hb:b.length=64) (hn:n≤1000):gC prog 217 [.pointer (some ⟨pd,0,none⟩),.int .i64 (a:Int),v] (C++H) fun r gr=>∃gP,r=.int .i64 0∧jo 97 127 129 pd (lO gI (64*a) b) (n+1) gP∧gr=gP++H:=by
 refine gC.enter func217 rfl ntmps217 rfl ?_
 intro w0 R
 have hlen:=h.len
 obtain ⟨vn,vs,vw,sure,ws,Cn,Cs,Cw,rfl,hN,hS,hW,qF⟩:=h
 obtain ⟨bn,Ix,xn,rfl,I8,rfl,G0⟩:=hN.open gB
 obtain ⟨vo,vc,rfl,xk⟩:=hv.form
 obtain ⟨wo,wc,rfl,JB⟩:=hW.form
 refine g_ [10] ?_
 refine ae rfl (an underlying30 rfl rfl) (g_ [1010,1,1008,7,105,1,1015,1,1011,6,705,1018,4,100,1,710,127,708,1026,3,710,5,702,1031,10,103,1,708,1039,7] ?_)
 refine iG call219 rfl (QX pd _ _ _ _ _) (g_ [709,1043,10] ?_)
 refine ae rfl (aj (pl:=[(0,1),(1,64)]) (zs:=(.int .i64 0::List.replicate 64 (.int .u8 0))) (parts:=[(0,.tmp 44)]) (vs:=[(0,_)]) (cells:=uj a z64) fa fa rfl rfl) ?_
 refine WL.h rfl (Hd.alloc (zs:=(.int .i64 0::List.replicate 64 (.int .u8 0))) fa fun b7=>⟨_,rfl,?_⟩)
 refine g_ [365,4,101] ?_
 refine ae rfl (bt (n:=64) (e:=5) (s:=1) fa fa rfl) ?_
 refine g_ [1] ?_
 refine WL.h rfl (bB (e:=5) (sz:=1) (zs:=[.int .u8 0]) (bytes:=1) (uA:=uj a b) (q:=64) fa fa rfl rfl ir (hv.mono hZ) (by show Nat.min b.length 64=64;rw[hb];rfl) (by rw[je,hb]) (qA b) (by rw[je,hb];simp[uj,je,Af]) (ah5 a hb) ⟨_,rfl,?_⟩)
 refine g_ [3,509] ?_
 refine w_ [0,1,1000,2,3,4,1001,5] ?_
 refine iD 6 [5] rfl (aE (n:=64) (vs:=bc b) fa rfl gO (by rw[je,hb]) (ah6 a hb)) ?_
 refine gW 7 [6,5,4,3,2,1,0] rfl (Yd.indexAddr (e:=127) (s:=64) fa fa rfl rfl gz gz) fa ?_
 refine az (v:=.pointer (some ⟨bn,64*a,none⟩)) (by rw[show 0+((a:Int)).toNat*64=64*a by omega]) ?_
 refine gD 8 ?_
 refine SO.s rfl Wt.none (bj (n:=64) (iT:=bc (lO gI (64*a) b)++xn) fa rfl rfl (by rw[je,hb]) (qA b) ir (by rw[dr,je,hlen];omega) (ae0 gI b xn (64*a) gz hb) ⟨rfl,?_⟩)
 refine gG ?_
 refine gM ?_
 refine g_ [2,511] ?_
 refine w_ [0,1,2,1002,3,4] ?_
 refine iD 5 [] rfl (aQ (n:=65) (cs:=uj a b) fa rfl gO (by simp[uj,je,hb])) ?_
 refine gD 6 ?_
 refine SO.h rfl Wt.none rfl (aX (e:=129) (sz:=65) (zs:=(.int .i64 0::List.replicate 64 (.int .u8 0))) (vs:=uj a b) fa fa fa rfl rfl (by simp[uj,je,hb]) fa fun b64=>⟨_,rfl,?_⟩)
 refine iO [0] ?_
 refine gD 7 ?_
 refine SO.h rfl Wt.none rfl (aT (e:=129) (sz:=65) (bytes:=72) (zs:=(.int .i64 0::List.replicate 64 (.int .u8 0))) (vs:=uj a b) fa fa rfl gz rfl rfl hW fc gO (by simp[uj,je,hb]) (ah7 a b) (by simp only[maxLen];omega) gz fun v2 C2 h2=>⟨_,rfl,?_⟩)
 refine gG ?_
 obtain ⟨Xu,Xo,rfl,ajx⟩:=h2.form
 refine w_ [8,1002,9] ?_
 refine gD 10 ?_
 refine SO.s rfl Wt.none (bg fa rfl rfl gA ir gA (by (simp only[fC,ff,eV,fG,Nat.reduceAdd];rfl)) ⟨rfl,?_⟩)
 refine gG ?_
 refine gM ?_
 refine g_ [7] ?_
 refine gH ((row pd [.slice (some ⟨bn,0,none⟩) 512 Ix,vs,.slice Xu (n+1) Xo,.int .i64 512,.int .i64 (-1),.bool false] 97)::([row bn (bc (lO gI (64*a) b)++xn) 127]++(Cs++(C2++H)))) ?_
 refine aa results217 rfl ?_
 rotate_left
 all_goals
  exact ⟨(row pd [.slice (some ⟨bn,0,none⟩) 512 Ix,vs,.slice Xu (n+1) Xo,.int .i64 512,.int .i64 (-1),.bool false] 97)::([row bn (bc (lO gI (64*a) b)++xn) 127]++(Cs++C2)),rfl,⟨_,_,_,sure,_,_,_,_,rfl,G0 _ (by rw[je,je,Ds gz]),hS,h2,fun e=>absurd e (Nat.succ_ne_zero n)⟩,by simp only[fp,dD]⟩
theorem Rc (pd:Nat) (gI:List (BitVec 8)) (n:Nat) (C:List Ck) (h:jo 97 127 129 pd gI n C) (a:Nat) (ha:a<512) (H:List Ck):gC prog 93 [.pointer (some ⟨pd,0,none⟩),.int .i64 (a:Int)] (C++H) fun r gr=>∃b,r=.tuple #[.slice (some ⟨b,0,none⟩) 64 64,.int .i64 0]∧gr=row b (bc (j9 gI a)) 127::(C++H):=by
 refine gC.enter func93 rfl ntmps93 rfl ?_
 intro w0 R
 have hlen:=h.len
 obtain ⟨vn,vs,vw,sure,ws,Cn,Cs,Cw,rfl,hN,hS,hW,qF⟩:=h
 obtain ⟨bn,Ix,xn,rfl,I8,rfl,G0⟩:=hN.open gB
 have nq:(j9 gI a).length=64:=by unfold j9;rw[dE,eg];omega
 refine g_ [11] ?_
 refine ae rfl (an underlying30 rfl rfl) (g_ [1009,1,1007,7,105,1,1014,1,1010,6,705,1017,4,100,1,710,127,708,1025,12,100,2,711,127,64] ?_)
 refine af (t:=32) (v:=.pointer (some ⟨bn,64*a,none⟩)) rfl (by rw[show 0+((a:Int)).toNat*64=64*a by omega]) ?_
 refine WL.h rfl (aJ (n:=64) (vs:=bc (j9 gI a)) fa rfl gO (by rw[je,nq]) (YY gI xn a gz) ⟨_,rfl,?_⟩)
 refine WL.h rfl (Hd.alloc (zs:=(List.replicate 64 (.int .u8 0))) fa fun b6=>⟨_,rfl,?_⟩)
 refine WL.s (aH (n:=64) fa rfl rfl (by rw[je,nq]) (qA _) ir gA ⟨rfl,?_⟩)
 refine E1 (ae rfl (bt (n:=64) (e:=5) (s:=1) fa fa rfl) ?_)
 refine g_ [5] ?_
 exact ay results93 rfl rfl (⟨b6,rfl,rfl⟩)
theorem Rv (v:Value) (x:List (BitVec 8)) (C H:List Ck) (h:il v 512 (bc x) 127 64 C):gC prog 47 [v] (C++H) fun r gr=>∃gP,il r 512 (bc x) 127 64 gP∧gr=gP++(C++H):=by
 refine gC.enter func47 rfl ntmps47 rfl ?_
 intro w0 R
 obtain ⟨bn,Ix,xn,rfl,I8,rfl,G0⟩:=h.open gB
 have hl:=h.len
 refine g_ [9] ?_
 refine ae rfl (cI underlying94 rfl rfl) (g_ [1004,7] ?_)
 refine WL.h rfl (Hd.Y8 (e:=127) (sz:=64) (zs:=(List.replicate 64 (.int .u8 0))) fa fa fa fun b5=>⟨_,rfl,?_⟩)
 refine g_ [1] ?_
 refine WL.h rfl (cQ (e:=127) (sz:=64) (bytes:=64) (zs:=(List.replicate 64 (.int .u8 0))) (m:=512) (news:=bc x) fa fa rfl gz rfl rfl (il.empty b5 _ _) fc (h.rs.mono hZ) hl (qA x) gB gB fun v7 C7 h7=>⟨_,rfl,?_⟩)
 refine g_ [4] ?_
 exact aa results47 rfl (⟨C7,by simpa using h7,rfl⟩)
theorem YS (pd:Nat) (gI:List (BitVec 8)) (n:Nat) (C:List Ck) (h:jo 97 127 129 pd gI n C) (H:List Ck):gC prog 189 [.pointer (some ⟨pd,0,none⟩)] (C++H) fun r gr=>∃gP,r=.int .i64 0∧jo 97 127 129 pd gI 0 gP∧gr=gP++H:=by
 refine gC.enter func189 rfl ntmps189 rfl ?_
 intro w0 R
 obtain ⟨vn,vs,vw,sure,ws,Cn,Cs,Cw,rfl,hN,hS,hW,qF⟩:=h
 refine g_ [10] ?_
 refine ae rfl (an underlying30 rfl rfl) (g_ [1005,1,1003,6] ?_)
 refine iG call219 rfl (QX pd _ _ _ _ _) (g_ [709,1009,12,100,1] ?_)
 refine c_ call47 rfl (Rv _ gI Cn _ hN) ?_
 rintro r15 KS ⟨Fx,pt,rfl⟩
 obtain ⟨so,sc,rfl,_⟩:=pt.form
 refine g_ [1,101,7,102,9] ?_
 refine gH (row pd [vn,.slice so 512 sc,.slice none 0 0,.int .i64 512,.int .i64 (-1),.bool false] 97::(Cn++(Fx++([]++H)))) ?_
 exact aa results189 rfl (⟨_,rfl,⟨_,_,_,gI,[],Cn,Fx,[],rfl,hN,pt,il.nil _ _,fun _=>rfl⟩,by simp only[fp,dD]⟩)
theorem YL (pd:Nat) (gI:List (BitVec 8)) (C:List Ck) (h:jo 97 127 129 pd gI 0 C) (H:List Ck):gC prog 23 [.pointer (some ⟨pd,0,none⟩),.int .i64 0,.int .i64 0] (C++H) fun r gr=>∃gP,jo 97 127 129 pd gI 0 gP∧gr=gP++H:=by
 refine gC.enter func23 rfl ntmps23 rfl ?_
 intro w0 R
 obtain ⟨vn,vs,vw,sure,ws,Cn,Cs,Cw,rfl,hN,hS,hW,qF⟩:=h
 obtain rfl:=qF rfl
 obtain ⟨wo,wc,rfl,_⟩:=hW.form
 refine g_ [4] ?_
 refine ae rfl (an underlying30 rfl rfl) (g_ [1009,10,102,1,710,129,4] ?_)
 refine aC (fun z:Unit=>True) (fun z:Unit=>[(15,.int .i64 0)]) (fun z:Unit=>row pd [vn,vs,.slice wo 0 wc,.int .i64 512,.int .i64 (-1),.bool false] 97::(Cn++(Cs++(Cw++H)))) (fun z:Unit=>0) (()) (show True from eX) (Sx.put rfl (gL)) fc ?_
 rintro z hI
 replace hI:True:=hI
 obtain _:=hI
 change WC _ _ _ _ _ _ ([(15,.int .i64 0)]++_) (row pd [vn,vs,.slice wo 0 wc,.int .i64 512,.int .i64 (-1),.bool false] 97::(Cn++(Cs++(Cw++H))))
 refine g_ [2,705,1016,14,101,1] ?_
 refine c_ call47 rfl (Rv _ sure Cs _ hS) ?_
 rintro r15 KS ⟨Fx,pt,rfl⟩
 obtain ⟨so,sc,rfl,_⟩:=pt.form
 refine g_ [1,100,8,102,2,104,2,105,2] ?_
 refine gH (row pd [.slice so 512 sc,vs,.slice none 0 0,.int .i64 512,.int .i64 (-1),.bool false] 97::(Fx++(Cs++([]++H)))) ?_
 exact bl results23 (⟨_,⟨_,_,_,sure,[],Fx,Cs,[],rfl,pt,hS,il.nil _ _,fun _=>rfl⟩,by simp only[fp,dD]⟩)
end Go.Proofs.YtchdmlkiggdhaaaGreat
namespace Go.Proofs.YtchdmlkiggdhaaaGreat
open Go.SL Top Go.Proofs.Tryz
attribute [local irreducible] WL WC DN gZ iX
theorem ac0 (no:BitVec 32) (first:BitVec 64) (H:List Ck):gC prog 212 [.int .u32 no.toNat,.int .u64 first.toNat] H fun r gr=>∃A,Ob 5 r (Sum.j5 (oR no first)) A∧gr=A++H:=by
 refine gC.enter func212 rfl ntmps212 rfl ?_
 intro w0 R
 refine g_ [7] ?_
 refine c_ call174 rfl (E0) ?_
 rintro x0 H0 ⟨bw,rfl,rfl⟩
 refine c_ call175 rfl (wC bw (.slice none 0 0) [] [] 83#8 (Ob.nil _) (by simp)) ?_
 rintro x1 H1 ⟨rfl,v1,C1,oS,rfl⟩
 refine g_ [1] ?_
 refine c_ call177 rfl (BC bw v1 ([]++[83#8]) C1 no oS (by simp only[dr,dF,dR,ju,tb];omega)) ?_
 rintro x2 H2 ⟨rfl,v2,C2,pC,rfl⟩
 refine g_ [1] ?_
 refine c_ call176 rfl (Xm bw v2 (([]++[83#8])++iu (no.setWidth 64) 4) C2 first pC (by simp only[dr,dF,dR,ju,tb];omega)) ?_
 rintro x3 H3 ⟨rfl,v3,C3,xb,rfl⟩
 refine c_ call180 rfl (Fu bw v3 ((([]++[83#8])++iu (no.setWidth 64) 4)++iu first 8) C3 xb (by simp only[dr,dF,dR,ju,tb];omega)) ?_
 rintro x9 H9 ⟨v4,C4,rfl,vV,nk⟩
 rw[nk]
 clear nk H9
 have e4:((([]++[83#8])++iu (no.setWidth 64) 4)++iu first 8)=oR no first:=by simp[oR]
 rw[e4] at vV
 refine g_ [10] ?_
 refine c_ call111 rfl (V1 v4 (oR no first) C4 vV.bs (by rw[Eu];decide)) ?_
 rintro x5 H5 ⟨v5,C5,rfl,vW,rfl⟩
 have hl5:(oR no first).length≤2000:=by rw[Eu];decide
 rw[show Sum.Hz (oR no first)=Sum.j5 (oR no first) from dx hl5] at vW
 refine g_ [14] ?_
 refine gH (C5++H) ?_
 exact aa results212 rfl (⟨C5,vW,rfl⟩)
theorem UN (no:BitVec 32) (first:BitVec 64) (H:List Ck):gC prog 160 [.int .u32 no.toNat,.int .u64 first.toNat] H fun r gr=>∃p C,r=ptr p∧uw 248 3 77 p ⟨no,first,[]⟩ C∧gr=C++H:=by
 refine gC.enter func160 rfl ntmps160 rfl ?_
 intro w0 R
 have zl:=Tq no first
 have lC:(lO um 0 (Sum.j5 (oR no first))).length=1024:=by rw[Ds (by rw[Ah];omega),Ah]
 refine g_ [9] ?_
 refine ae rfl (aj (pl:=[(0,1),(1,1),(2,1024),(1026,1),(1027,1)]) (zs:=(.int .u32 0::.int .u64 0::((List.replicate 1024 (.int .u8 0))++[.slice none 0 0,.slice none 0 0]))) (parts:=[(0,.tmp 6),(1,.tmp 7)]) (vs:=[(0,_),(1,_)]) (cells:=kG no first um (.slice none 0 0) (.slice none 0 0)) fa fa rfl fa) ?_
 refine iV fun b9=>?_
 refine g_ [4,513] ?_
 refine w_ [0,1,2,1002,3] ?_
 refine gW 4 [3] rfl (bt (n:=1024) (e:=5) (s:=1) fa fa rfl) fa ?_
 refine w_ [5,6] ?_
 refine gD 7 ?_
 refine iI rfl call212 rfl (ac0 no first []) ?_
 rintro x17 XU ⟨A17,SP,rfl⟩
 obtain ⟨o17,c17,rfl,_⟩:=SP.form
 refine gG ?_
 refine gD 8 ?_
 refine SO.h rfl Wt.none rfl (bB (e:=5) (sz:=1) (zs:=[.int .u8 0]) (bytes:=1) (q:=21) (uA:=kG no first (lO um 0 (Sum.j5 (oR no first))) (.slice none 0 0) (.slice none 0 0)) fa fa rfl rfl ir (SP.bs.mono hZ) (by rw[zl];rfl) (by rw[je,zl]) (qA _) (by rw[je,zl,xz Ah];decide) (agd Ah (by rw[zl];decide)) ⟨_,rfl,?_⟩)
 refine gG ?_
 refine gD 9 ?_
 refine SO.h rfl Wt.none rfl (bp (e:=3) (z:=.int .i64 0) fa fa fa rfl gA fun vI=>⟨_,rfl,?_⟩)
 refine gG ?_
 refine w_ [10,2026,11] ?_
 refine gD 12 ?_
 refine SO.s rfl Wt.none (aq (iT:=kG no first (lO um 0 (Sum.j5 (oR no first))) (.slice (some ⟨vI,0,none⟩) 1 1) (.slice none 0 0)) fa rfl rfl gA ir (by rw[xz lC];decide) (Kr lC _) ⟨rfl,?_⟩)
 refine gG ?_
 refine gM ?_
 refine g_ [8] ?_
 refine gH (row b9 (kG no first (lO um 0 (Sum.j5 (oR no first))) (.slice (some ⟨vI,0,none⟩) 1 1) (.slice none 0 0)) 248::([row vI [.int .i64 21] 3]++(([]++[])++H))) ?_
 refine aa results160 rfl ?_
 rotate_left
 all_goals
  refine ⟨b9,_,rfl,⟨.slice (some ⟨vI,0,none⟩) 1 1,.slice none 0 0,[row vI [.int .i64 21] 3],[],[],[],rfl,?_,?_,kQ.nil _ _,.nil⟩,?_⟩
  · rw[←Ss];exact lC
  · rw[aax];exact il.w (.inr ⟨vI,1,[],rfl,dA _,by simp only[maxLen];omega,rfl,rfl,rfl⟩)
  rw[←Ss];rfl
theorem Hq (p:Nat) (no:BitVec 32) (first:BitVec 64) (gI:List (BitVec 8)) (ends:List Int) (l:List En) (H:List Ck) (h:xJ p no first gI ends l H) (n:Nat) (hn:n<ends.length) (e:Int) (he:ends[n]=e):Reads prog 112 [ptr p,.int .i64 (n:Int)] H (.int .i64 e):=by
 refine gC.enter func112 rfl ntmps112 rfl ?_
 intro w0 R
 obtain ⟨ve,vl,T,fr,ex,hU,hi,hr,hv⟩:=h
 obtain ⟨eo,ec,rfl,_⟩:=hr.form
 obtain ⟨lo,lc,rfl,_⟩:=hv.form
 subst he
 refine g_ [9,1126] ?_
 refine WL.h rfl (ak fa rfl (ib hU) (Fj hi) ⟨_,rfl,?_⟩)
 refine g_ [1] ?_
 refine bX (e:=3) fa fa fa rfl rfl (rfl) (hr) (acA hn) (hn) rfl rfl ?_
 intro _
 refine g_ [4] ?_
 exact aa results112 rfl (⟨rfl,rfl⟩)
theorem UO (p:Nat) (no:BitVec 32) (first:BitVec 64) (gI:List (BitVec 8)) (ends:List Int) (l:List En) (H:List Ck) (h:xJ p no first gI ends l H):Reads prog 105 [ptr p] H (.int .u64 (first+BitVec.ofInt 64 (l.length:Int)).toNat):=by
 refine gC.enter func105 rfl ntmps105 rfl ?_
 intro w0 R
 obtain ⟨ve,vl,T,fr,ex,hU,hi,hr,hv⟩:=h
 obtain ⟨eo,ec,rfl,_⟩:=hr.form
 obtain ⟨lo,lc,rfl,_⟩:=hv.form
 refine gY (ae rfl (Yd.assign (v:=.int .u64 ((0#64).toNat:Int)) rfl) (g_ [3,512] ?_))
 refine w_ [0,1,1001,2] ?_
 refine iD 3 [2] rfl (ab fa rfl (ib hU) gA) ?_
 refine w_ [4,5,2027,6] ?_
 refine iD 7 [6] rfl (ab fa rfl (ib hU) (pG hi)) ?_
 refine w_ [3077,8] ?_
 refine gW 9 [8] rfl (bM _ fa fa rfl rfl) fa ?_
 refine gW 10 [9,3] rfl (aY _ _ rfl rfl rfl rfl) fa ?_
 refine gD 11 ?_
 refine jm ?_
 refine gG ?_
 refine gM ?_
 refine g_ [2] ?_
 exact aa results105 rfl (⟨rfl,rfl⟩)
theorem N0 (a b:En) (ha:iZ a) (hb:iZ b) (h:yF a b) (vk vd uk ud:Value) (H:List Ck) (h1:Bs vk a.key H) (h2:Bs vd a.data H) (h3:Bs uk b.key H) (h4:Bs ud b.data H):Reads prog 110 [.agg (enc a vk vd).toArray,.agg (enc b uk ud).toArray] H (.bool true):=by
 refine gC.enter func110 rfl ntmps110 rfl ?_
 intro w0 R
 obtain ⟨ko,kc,rfl,_⟩:=h1.form
 obtain ⟨vo,vc,rfl,_⟩:=h2.form
 obtain ⟨lo,lc,rfl,_⟩:=h3.form
 obtain ⟨wo,wc,rfl,_⟩:=h4.form
 refine gY (iV fun b2=>?_)
 refine iV fun b3=>?_
 refine g_ [5] ?_
 refine WL.h rfl (aF (n:=11) (cs:=enc a _ _) fa rfl gO rfl ⟨_,rfl,?_⟩)
 refine WL.h rfl (aF (n:=11) (cs:=enc b _ _) fa rfl gO rfl ⟨_,rfl,?_⟩)
 refine WL.h rfl (Hd.Y9 (e:=77) (sz:=11) (zs:=lh) fa fa fa rfl rfl rfl rfl rfl fa fun pg=>⟨_,rfl,?_⟩)
 refine iG call181 rfl (R3 _ [a,b] (by simp) (Zn ha hb h) _ (ev2 dy (h1.mono hZ) (h2.mono hZ) (h3.mono hZ) (h4.mono hZ))) ?_
 refine g_ [10,701,2015,4] ?_
 refine gH H ?_
 exact aa results110 rfl (⟨rfl,rfl⟩)
theorem N2 (x:List (BitVec 8)) (hx:x.length=1024) (i:Nat) (hi:i<16) (H:List Ck):Reads prog 185 [.agg (bc x).toArray,.int .i64 (i:Int)] H (.agg (bc (j9 x i)).toArray):=by
 refine gC.enter func185 rfl ntmps185 rfl ?_
 intro w0 R
 have nq:=wJ hx hi
 refine gY (iV fun b2=>?_)
 refine WL.h rfl (Hd.alloc (zs:=(List.replicate 64 (.int .u8 0))) fa fun b4=>⟨_,rfl,?_⟩)
 refine E1 (WL.h rfl (Hd.alloc (zs:=bc z64) fa fun b5=>⟨_,rfl,?_⟩))
 refine g_ [3,505] ?_
 refine gW 0 [] rfl (bt (n:=64) (e:=5) (s:=1) fa fa rfl) fa ?_
 refine w_ [1] ?_
 refine gW 2 [1] rfl (Yd.mul rfl rfl gz gz) fa ?_
 refine gW 3 [2] rfl (bY (n:=1024) (e:=5) (s:=1) (i:=64*i) fa fa rfl rfl gz gz) fa ?_
 refine gD 4 ?_
 refine SO.h rfl Wt.none rfl (bB (e:=5) (sz:=1) (zs:=[.int .u8 0]) (bytes:=1) (q:=64) (uA:=bc (j9 x i)) fa fa rfl rfl ir (Rs.gI hx hi gO) (by show Nat.min (1024-64*i) 64=64;exact Nat.min_eq_right gz) (by rw[je,nq]) (qA _) (by rw[je,nq];simp[je,Af]) (ait nq) ⟨_,rfl,?_⟩)
 refine gG ?_
 refine gM ?_
 refine g_ [3] ?_
 refine WL.h rfl (aF (n:=64) (cs:=bc (j9 x i)) fa rfl gO (by rw[je,nq]) ⟨_,rfl,?_⟩)
 refine WL.s (aH (n:=64) fa rfl rfl (by rw[je,nq]) (qA _) ir gA ⟨rfl,?_⟩)
 refine g_ [3] ?_
 refine aB (s:=64) H results185 fa rfl gO (by rw[je,nq]) (.cons _ (.cons _ (.cons _ (.refl _)))) ?_
 exact ⟨rfl,rfl⟩
theorem UQ (pj pd:Nat) (vs sf:Value) (H:List Ck):Reads prog 188 [ptr pj,.int .i64 0] (row pj [ptr pd,.int .i64 32,vs,sf,.bool false] 223::H) (.int .i64 0):=by
 refine gC.enter func188 rfl ntmps188 rfl ?_
 intro w0 R
 refine g_ [10,104,1,1009,2,701,1012,2,104,10] ?_
 exact aa results188 rfl (⟨rfl,rfl⟩)
theorem JH (pj pd:Nat) (vs sf:Value) (gI:List (BitVec 8)) (n:Nat) (C:List Ck) (hD:jo 97 127 129 pd gI n C) (no:BitVec 32) (jf:no.toNat<32) (i:Nat) (hi:i<16) (v:Value) (b:List (BitVec 8)) (H:List Ck) (hv:Bs v b H) (hb:b.length=64) (hn:n≤1000):gC prog 186 [ptr pj,.int .u32 no.toNat,.int .i64 (i:Int),v] (row pj [ptr pd,.int .i64 32,vs,sf,.bool false] 223::(C++H)) fun r gr=>∃gP,r=.int .i64 0∧jo 97 127 129 pd (lO gI (64*(no.toNat*16+i)) b) (n+1) gP∧gr=row pj [ptr pd,.int .i64 32,vs,sf,.bool false] 223::(gP++H):=by
 refine gC.enter func186 rfl ntmps186 rfl ?_
 intro w0 R
 refine g_ [6,519] ?_
 refine w_ [0,1,2,1000,3,4,5] ?_
 refine gW 6 [5] rfl (bS _ fa fa rfl rfl) fa ?_
 refine w_ [7,8,1001,9,10] ?_
 refine gW 11 [10,6] rfl (Yd.rem rfl rfl gz gz) fa ?_
 refine az (v:=.int .i64 (no.toNat:Int)) (congrArg (Value.int .i64) gz) ?_
 refine gW 12 [11] rfl (Yd.mul rfl rfl gz gz) fa ?_
 refine w_ [13,1003,14] ?_
 refine az (v:=.int .i64 ((no.toNat*16+i:Nat):Int)) (congrArg (Value.int .i64) gz) ?_
 refine w_ [15] ?_
 refine gD 16 ?_
 refine iI rfl call217 rfl (Za pd gI n C hD (no.toNat*16+i) gz v b H hv hb hn) ?_
 rintro PG KU ⟨Fz,rfl,aa0,rfl⟩
 refine iO [0] ?_
 refine jy 17 [0] rfl call188 rfl (UQ pj pd vs sf _) fc ?_
 refine gD 18 ?_
 refine jm ?_
 refine gG ?_
 refine gM ?_
 refine g_ [2] ?_
 refine gH (row pj [ptr pd,.int .i64 32,vs,sf,.bool false] 223::(Fz++H)) ?_
 exact aa results186 rfl (⟨Fz,rfl,aa0,rfl⟩)
theorem UP (pj pd:Nat) (vs sf:Value) (gI:List (BitVec 8)) (n:Nat) (C:List Ck) (hD:jo 97 127 129 pd gI n C) (H:List Ck):gC prog 116 [ptr pj] (row pj [ptr pd,.int .i64 32,vs,sf,.bool false] 223::(C++H)) fun r gr=>∃gP,r=.int .i64 0∧jo 97 127 129 pd gI 0 gP∧gr=row pj [ptr pd,.int .i64 32,vs,sf,.bool false] 223::(gP++H):=by
 refine gC.enter func116 rfl ntmps116 rfl ?_
 intro w0 R
 refine g_ [10,100,1] ?_
 refine c_ call189 rfl (YS pd gI n C hD H) ?_
 rintro x8 H8 ⟨C8,rfl,hD8,rfl⟩
 refine jv call188 rfl (UQ pj pd vs sf _) ?_
 refine g_ [4] ?_
 refine gH (row pj [ptr pd,.int .i64 32,vs,sf,.bool false] 223::(C8++H)) ?_
 exact aa results116 rfl (⟨C8,rfl,hD8,rfl⟩)
theorem Dg (pj pd:Nat) (vs sf:Value) {T9:TypeId} {kr:Nat×Nat} {km:Bool} (H:List Ck) (hU:(⟨pj,.cells [ptr pd,.int .i64 32,vs,sf,.bool false].toArray T9 kr,km⟩:Ck)∈H):Reads prog 103 [ptr pj] H (.int .i64 0):=by
 refine gC.enter func103 rfl ntmps103 rfl ?_
 intro w0 R
 refine g_ [10] ?_
 refine ae rfl (an underlying113 rfl rfl) (g_ [1005,1,1003,7,104] ?_)
 refine WL.h rfl (ak fa rfl hU gA ⟨_,rfl,?_⟩)
 refine g_ [1010,1,1006,12] ?_
 exact aa results103 rfl (⟨rfl,rfl⟩)
theorem Hp (pj pd:Nat) (vs sf:Value) {T9:TypeId} {kr:Nat×Nat} {km:Bool} (H:List Ck) (hU:(⟨pj,.cells [ptr pd,.int .i64 32,vs,sf,.bool false].toArray T9 kr,km⟩:Ck)∈H) (ps:List Nat) (n:Nat) (hn:ps.length=n) (hr:Rs vs n (ps.map ptr) H) (hl:n≤1000):Reads prog 104 [ptr pj] H (UX ps):=by
 refine gC.enter func104 rfl ntmps104 rfl ?_
 intro w0 R
 obtain ⟨vo,vc,rfl,_⟩:=hr.form
 subst hn
 refine g_ [10,102] ?_
 refine WL.h rfl (ak fa rfl hU gA ⟨_,rfl,?_⟩)
 refine g_ [710,229,701,2] ?_
 refine gK rfl (fun h8=>?_) fun h8=>?_
 refine g_ [7] ?_
 refine aa results104 rfl ?_
 rw[show ps=[] from dU gz]
 exact ⟨rfl,rfl⟩
 obtain ⟨j,hj⟩:∃j,ps.length=j+1:=⟨ps.length-1,by omega⟩
 obtain ⟨b1,o1,si,lV,T1,ra,qY,ie,_,kM,lX⟩:=hr.Bt (i:=j) gz
 simp only[dI,eD] at ie
 obtain ⟨rfl,rfl⟩:=ie
 refine g_ [3,513] ?_
 refine w_ [0,1,1002,2] ?_
 refine iD 3 [2] rfl (ab fa rfl hU gA) ?_
 refine w_ [4,5,1002,6] ?_
 refine iD 7 [6] rfl (ab fa rfl hU gA) ?_
 refine w_ [3229,8,1004,9] ?_
 refine az (v:=.int .i64 (j:Int)) (congrArg (Value.int .i64) gz) ?_
 refine gW 10 [9,3] rfl (Yd.indexAddr (e:=229) (s:=1) fa fa rfl rfl gz gz) fa ?_
 refine iD 11 [10] rfl (ab fa rfl kM (by rw[show o1+((j:Int)).toNat*1=o1+j by omega];exact lX)) ?_
 refine gD 12 ?_
 refine jm ?_
 refine gG ?_
 refine gM ?_
 refine g_ [2] ?_
 exact aa results104 rfl (⟨congrArg Value.pointer (EP hj).symm,rfl⟩)
theorem acY (p:Nat) (no:BitVec 32) (first:BitVec 64) (gI:List (BitVec 8)) (ends:List Int) (l:List En) (H:List Ck) (h:xJ p no first gI ends l H) (e:En) (he:iZ e) (hl:l.length≤1000) (h0:l=[]→e.gF=first) (hc:∀x,l.getLast?=some x→iZ x∧yF x e) (vk vd:Value) (hk:Bs vk e.key H) (hd:Bs vd e.data H):Reads prog 161 [ptr p,.agg (enc e vk vd).toArray] H (.bool true):=by
 refine gC.enter func161 rfl ntmps161 rfl ?_
 intro w0 R
 obtain ⟨ve,vl,T,fr,ex,hU,hi,hr,hv⟩:=h
 obtain ⟨eo,ec,rfl,_⟩:=hr.form
 obtain ⟨lo,lc,rfl,_⟩:=hv.form
 obtain ⟨ko9,N4,rfl,_⟩:=hk.form
 obtain ⟨Xj,BB,rfl,_⟩:=hd.form
 refine gY (iV fun b3=>?_)
 refine g_ [8,1127] ?_
 refine WL.h rfl (ak fa rfl (ib hU) (pG hi) ⟨_,rfl,?_⟩)
 refine g_ [710,77,701,2] ?_
 refine gK rfl (fun re=>?_) fun re=>?_
 have qJ:l=[]:=dU gz
 refine g_ [1,508] ?_
 refine w_ [1001,0,1,2,3,1001,4] ?_
 refine iD 5 [4] rfl (ab fa rfl (ib hU) gA) ?_
 refine gW 6 [5,1] rfl (cc _ _ rfl rfl rfl rfl) fa ?_
 refine qf (h0 qJ) (gD 7 ?_)
 refine jm ?_
 refine gG ?_
 refine gM ?_
 refine g_ [3] ?_
 refine gH H ?_
 exact aa results161 rfl (⟨rfl,rfl⟩)
 obtain ⟨j,hj⟩:∃j,l.length=j+1:=⟨l.length-1,by omega⟩
 have hx:=hc _ (SH hj)
 obtain ⟨b0,o0,nU,kK,T0,nB,nA,ie,l8,kh,c0,⟨wk,wd,rfl,jd,kf⟩,ja⟩:=hv.rowAt (i:=j) gz gB
 simp only[dI,eD] at ie
 obtain ⟨rfl,rfl⟩:=ie
 obtain ⟨ko,kc,rfl,_⟩:=jd.form
 obtain ⟨jR,dc,rfl,_⟩:=kf.form
 refine g_ [3,515] ?_
 refine w_ [0,1,2027,2] ?_
 refine iD 3 [2] rfl (ab fa rfl (ib hU) (pG hi)) ?_
 refine w_ [4,5,2027,6] ?_
 refine iD 7 [6] rfl (ab fa rfl (ib hU) (pG hi)) ?_
 refine w_ [3077,8,1004,9] ?_
 refine az (v:=.int .i64 (j:Int)) (congrArg (Value.int .i64) gz) ?_
 refine gW 10 [9,3] rfl (Yd.indexAddr (e:=77) (s:=11) fa fa rfl rfl gz gz) fa ?_
 refine iD 11 [10] rfl (aE (n:=11) (vs:=enc l[j] (.slice ko l[j].key.length kc) (.slice jR l[j].data.length dc)) fa rfl (ib kh) rfl (by rw[show o0+((j:Int)).toNat*11=o0+j*11 by omega];exact ja)) ?_
 refine iD 12 [] rfl (aQ (n:=11) (cs:=enc e _ _) fa rfl gO rfl) ?_
 refine jy 13 [12,11] rfl call110 rfl (N0 l[j] e hx.1 he hx.2 _ _ _ _ _ (jd.mono hZ) (kf.mono hZ) (hk.mono hZ) (hd.mono hZ)) ax ?_
 refine gD 14 ?_
 refine jm ?_
 refine gG ?_
 refine gM ?_
 refine g_ [2] ?_
 refine gH H ?_
 exact aa results161 rfl (⟨rfl,rfl⟩)
theorem ac5 (pj pd:Nat) (ss:List gR) (safe:BitVec 64) (H:List Ck) (h:JV pj pd ss safe H) (hn:ss.length≤1000) (hb:(gh ss).length≤1000):gC prog 109 [ptr pj] H fun r gr=>gr=H∧∃x vk vd b,r=.tuple #[.agg (enc x vk vd).toArray,.bool b]∧mm vk x.key.length∧mm vd x.data.length∧(b=true→(gh ss).getLast?=some x∧Bs vk x.key H∧Bs vd x.data H)∧(b=false→gh ss=[]):=by
 refine gC.enter func109 rfl ntmps109 rfl ?_
 intro w0 R
 obtain ⟨vs,ps,T9,kr,km,hU,gN,lx,xh⟩:=h
 obtain ⟨so,sc,rfl,_⟩:=gN.form
 refine gY (iS lh fun b2=>?_)
 refine g_ [8,102] ?_
 refine WL.h rfl (ak fa rfl (ib hU) gA ⟨_,rfl,?_⟩)
 refine g_ [710,229,704,4] ?_
 refine aC (fun z:Nat=>z≤ss.length∧gh (ss.drop z)=[]) (fun z:Nat=>[(4,.int .i64 ((z:Int)-1))]) (fun z:Nat=>row b2 [.int .i64 0,.int .u64 0,.int .u32 0,.int .u32 0,.int .i64 0,.bool false,.int .i64 0,.int .i64 0,.int .u64 0,.slice none 0 0,.slice none 0 0] 77::H) (fun z:Nat=>z) (ss.length) (show ss.length≤ss.length∧gh (ss.drop ss.length)=[] from ⟨dA _,by rw[List.drop_length];rfl⟩) (Sx.put rfl (gL)) fc ?_
 rintro m hI
 replace hI:m≤ss.length∧gh (ss.drop m)=[]:=hI
 obtain ⟨hm,hz⟩:=hI
 change WC _ _ _ _ _ _ ([(4,.int .i64 ((m:Int)-1))]++_) (row b2 [.int .i64 0,.int .u64 0,.int .u32 0,.int .u32 0,.int .i64 0,.bool false,.int .i64 0,.int .i64 0,.int .u64 0,.slice none 0 0,.slice none 0 0] 77::H)
 refine g_ [4,708,2] ?_
 refine gK rfl (fun sW=>?_) fun sW=>?_
 obtain ⟨q,rfl⟩:∃q,m=q+1:=⟨m-1,by omega⟩
 have NI:q<ss.length:=by omega
 have Bf:=Fg NI
 obtain ⟨b1,o1,si,lV,T1,ra,qY,kL,_,kM,lX⟩:=gN.Bt (i:=q) gz
 simp only[dI,eD] at kL
 obtain ⟨rfl,rfl⟩:=kL
 obtain ⟨ve,vl,T2,sr,nW,kD,hi,hr,hv⟩:=xh q gz gz
 obtain ⟨lo,lc,rfl,_⟩:=hv.form
 refine g_ [8,102] ?_
 refine WL.h rfl (ak fa rfl (ib hU) gA ⟨_,rfl,?_⟩)
 refine g_ [1] ?_
 refine af (t:=20) (v:=.int .i64 (q:Int)) rfl (congrArg (Value.int .i64) gz) ?_
 refine g_ [711,229,1] ?_
 refine WL.h rfl (ak fa rfl (ib kM) (by rw[show o1+((q:Int)).toNat*1=o1+q by omega];exact lX) ⟨_,rfl,?_⟩)
 refine g_ [1,1127] ?_
 refine WL.h rfl (ak fa rfl (ib kD) (pG hi) ⟨_,rfl,?_⟩)
 refine g_ [6,710,77,707,2] ?_
 refine gK rfl (fun su=>?_) fun su=>?_
 obtain ⟨j,hj⟩:∃j,ss[q].l.length=j+1:=⟨ss[q].l.length-1,by omega⟩
 have hx:=(adW NI hz (fun e=>by rw[e] at hj;cases hj)).trans (SH hj)
 obtain ⟨b0,o0,nU,kK,T0,nB,nA,ie,l8,kh,c0,⟨wk,wd,rfl,jd,kf⟩,ja⟩:=hv.rowAt (i:=j) gz gB
 simp only[dI,eD] at ie
 obtain ⟨rfl,rfl⟩:=ie
 obtain ⟨ko,kc,rfl,_⟩:=jd.form
 obtain ⟨jR,dc,rfl,_⟩:=kf.form
 refine g_ [4,710,77,704] ?_
 refine af (t:=32) (v:=.int .i64 (j:Int)) rfl (congrArg (Value.int .i64) gz) ?_
 refine g_ [711,77,11] ?_
 refine WL.h rfl (aJ (n:=11) (vs:=enc ss[q].l[j] (.slice ko ss[q].l[j].key.length kc) (.slice jR ss[q].l[j].data.length dc)) fa rfl (ib kh) rfl (by rw[show o0+((j:Int)).toNat*11=o0+j*11 by omega];exact ja) ⟨_,rfl,?_⟩)
 refine WL.s (aH (n:=11) fa rfl rfl gA (sV rfl rfl) ir gA ⟨rfl,?_⟩)
 refine g_ [9] ?_
 refine au (s:=11) H results109 fa rfl rfl gO gA fc ?_
 exact ⟨rfl,_,_,_,true,rfl,⟨_,_,rfl⟩,⟨_,_,rfl⟩,fun _=>⟨hx,jd,kf⟩,fun e=>by cases e⟩
 refine g_ [5] ?_
 refine af (t:=14) (v:=.int .i64 (q:Int)) rfl (congrArg (Value.int .i64) gz) ?_
 refine g_ [704,2] ?_
 exact ai q (show q≤ss.length∧gh (ss.drop q)=[] from ⟨by omega,by rw[DP NI,hz,eF];exact dU gz⟩) (show q<q+1 by omega) (Sx.put rfl (gL)) fc
 refine g_ [7] ?_
 refine kJ kz lh (g_ [311,4] ?_)
 refine au (s:=11) H results109 fa rfl rfl gO gA fc ?_
 exact ⟨rfl,En.z,.slice none 0 0,.slice none 0 0,false,rfl,⟨_,_,rfl⟩,⟨_,_,rfl⟩,(fun e=>by cases e),fun _=>by rw[show m=0 by omega,List.drop_zero] at hz;exact hz⟩
theorem acX (pj pd:Nat) (ss:List gR) (safe:BitVec 64) (H:List Ck) (h:JV pj pd ss safe H) (hn:ss.length≤1000) (hj:iM ss):Reads prog 151 [ptr pj] H (.int .u64 1):=by
 refine gC.enter func151 rfl ntmps151 rfl ?_
 intro w0 R
 obtain ⟨vs,ps,T9,kr,km,hU,gN,lx,xh⟩:=h
 obtain ⟨so,sc,rfl,_⟩:=gN.form
 refine gY (ae rfl (Yd.assign (v:=.int .u64 ((0#64).toNat:Int)) rfl) (g_ [7] ?_))
 refine iG call103 rfl (Dg pj pd _ _ _ (ib hU)) ?_
 refine g_ [702,1006,8,102] ?_
 refine WL.h rfl (ak fa rfl (ib hU) gA ⟨_,rfl,?_⟩)
 refine g_ [710,229,701,3] ?_
 refine gK rfl (fun h7=>?_) fun h7=>?_
 refine gY (ae rfl (Yd.assign (v:=.int .u64 ((1#64).toNat:Int)) rfl) (g_ [5] ?_))
 exact aa results151 rfl (⟨rfl,rfl⟩)
 obtain ⟨b1,o1,si,lV,T1,ra,qY,kL,_,kM,lX⟩:=gN.Bt (i:=0) gz
 simp only[dI,eD] at kL
 obtain ⟨rfl,rfl⟩:=kL
 obtain ⟨ve,vl,T2,sr,nW,kD,hi,hr,hv⟩:=xh 0 gz gz
 obtain ⟨lo,lc,rfl,_⟩:=hv.form
 have hf:ss[0].first=1#64:=dB (hj.at 0 gz).first
 refine g_ [7,102] ?_
 refine WL.h rfl (ak fa rfl (ib hU) gA ⟨_,rfl,?_⟩)
 refine g_ [711,229,1] ?_
 refine WL.h rfl (ak fa rfl (ib kM) (by rw[show o1+(0:Int).toNat*1=o1+0 by omega];exact lX) ⟨_,rfl,?_⟩)
 refine g_ [1,101] ?_
 refine WL.h rfl (ak fa rfl (ib kD) gA ⟨_,rfl,?_⟩)
 refine g_ [4] ?_
 refine aa results151 rfl ?_
 rw[hf]
 exact ⟨rfl,rfl⟩
theorem qM (pj pd:Nat) (ss:List gR) (safe:BitVec 64) (H:List Ck) (h:JV pj pd ss safe H) (hn:ss.length≤1000) (hj:iM ss) (hb:(gh ss).length≤1000):Reads prog 64 [ptr pj] H (.int .u64 (js (gh ss)).toNat):=by
 refine gC.enter func64 rfl ntmps64 rfl ?_
 intro w0 R
 obtain ⟨vs,ps,T9,kr,km,hU,gN,lx,xh⟩:=h
 obtain ⟨so,sc,rfl,_⟩:=gN.form
 refine gY (ae rfl (Yd.assign (v:=.int .u64 ((0#64).toNat:Int)) rfl) (g_ [7] ?_))
 refine iG call103 rfl (Dg pj pd _ _ _ (ib hU)) ?_
 refine g_ [702,1006,3,102] ?_
 refine aS (dj:=7) rfl rfl rfl (ak fa rfl (ib hU) gA ⟨_,rfl,?_⟩)
 refine g_ [710,229,701,4] ?_
 refine gK rfl (fun h3=>?_) fun h3=>?_
 refine gY (ae rfl (Yd.assign (v:=.int .u64 ((0#64).toNat:Int)) rfl) (g_ [5] ?_))
 refine aa results64 rfl ?_
 rw[show ss=[] from dU gz]
 exact ⟨rfl,rfl⟩
 obtain ⟨q,hq⟩:∃q,ps.length=q+1:=⟨ps.length-1,by omega⟩
 obtain ⟨a9,El⟩:∃s,s=ss[q]'gz:=⟨_,rfl⟩
 have Ur:=xh q gz gz
 rw[←El] at Ur
 have GY:a9.first+BitVec.ofInt 64 (a9.l.length:Int)-1#64=js (gh ss):=by
   have e9:ss=ss.take q++[a9]:=by rw[El,←dJ gz,dL gz]
   have hL:=hj.at q gz
   rw[←El] at hL
   have:=adX hL (by rw[←e9];exact hb)
   rwa [←e9] at this
 refine g_ [6] ?_
 refine iG call104 rfl (Hp pj pd _ _ _ (ib hU) ps ss.length lx (gN.mono hZ) hn) ?_
 refine af (t:=16) (v:=ptr ps[q]) rfl (congrArg Value.pointer (EP hq)) (iG call105 rfl (UO ps[q] a9.no a9.first _ _ a9.l _ Ur) (ae rfl (aL _ (1#64) rfl rfl rfl rfl) (af (t:=18) (v:=.int .u64 (js (gh ss)).toNat) rfl (congrArg (fun q:BitVec 64=>Value.int .u64 q.toNat) GY) ?_)))
 refine g_ [4] ?_
 exact aa results64 rfl (⟨rfl,rfl⟩)
theorem adf (pj pd:Nat) (ss:List gR) (safe:BitVec 64) (H:List Ck) (h:JV pj pd ss safe H) (hn:ss.length≤1000) (hj:iM ss) (hb:(gh ss).length≤1000) (hs:safe=js (gh ss)):Reads prog 124 [ptr pj] H (.int .u64 (js (gh ss)).toNat):=by
 refine gC.enter func124 rfl ntmps124 rfl ?_
 intro w0 R
 have h9:=h
 obtain ⟨vs,ps,T9,kr,km,hU,gN,lx,xh⟩:=h
 obtain ⟨so,sc,rfl,_⟩:=gN.form
 refine gY (ae rfl (Yd.assign (v:=.int .u64 ((0#64).toNat:Int)) rfl) (g_ [6] ?_))
 refine iG call103 rfl (Dg pj pd _ _ _ (ib hU)) ?_
 refine g_ [702,1005,6,508] ?_
 refine w_ [0,1,1003,2] ?_
 refine iD 3 [2] rfl (ab fa rfl (ib hU) gA) ?_
 refine w_ [4] ?_
 refine jy 5 [4] rfl call64 rfl (qM pj pd ss safe _ (h9.mono hZ) hn hj hb) ax ?_
 refine gW 6 [5,3] rfl (cg rfl rfl) fa ?_
 refine az (v:=.int .u64 (js (gh ss)).toNat) (by rw[hs];congr 1;omega) ?_
 refine gD 7 ?_
 refine jm ?_
 refine gG ?_
 refine gM ?_
 refine g_ [2] ?_
 exact aa results124 rfl (⟨rfl,rfl⟩)
theorem ac8 (e:En) (vk vd:Value) (H:List Ck) (hk:Bs vk e.key H) (hd:Bs vd e.data H) (hl:e.key.length≤1000∧e.data.length≤1000):gC prog 153 [.agg (enc e vk vd).toArray] H fun r gr=>∃uk ud A B,r=.agg (enc e uk ud).toArray∧Ob 5 uk e.key A∧Ob 5 ud e.data B∧gr=A++(B++H):=by
 refine gC.enter func153 rfl ntmps153 rfl ?_
 intro w0 R
 obtain ⟨ko,kc,rfl,_⟩:=hk.form
 obtain ⟨vo,vc,rfl,_⟩:=hd.form
 refine gY (iV fun b1=>?_)
 refine iS lh fun b2=>?_
 refine E1 (WL.h rfl (aU (e:=5) [] fa fa fa rfl rfl fa fun b3=>⟨_,rfl,?_⟩))
 refine g_ [109,1] ?_
 refine WL.h rfl (aZ (e:=5) (zs:=[.int .u8 0]) fa fa rfl rfl rfl (Ob.block b3 [] (by simp)) fc (hk.mono hZ) (by simp;omega) fun v6 C6 xd=>⟨_,rfl,?_⟩)
 rw[eC] at xd
 obtain ⟨ko6,kc6,rfl,_⟩:=xd.form
 refine g_ [109,5] ?_
 refine WL.h rfl (aU (e:=5) [] fa fa fa rfl rfl fa fun b8=>⟨_,rfl,?_⟩)
 refine g_ [110,1] ?_
 refine WL.h rfl (aZ (e:=5) (zs:=[.int .u8 0]) fa fa rfl rfl rfl (Ob.block b8 [] (by simp)) fc (hd.mono hZ) (by simp;omega) fun v11 PW Ny=>⟨_,rfl,?_⟩)
 rw[eC] at Ny
 obtain ⟨adK,adi,rfl,_⟩:=Ny.form
 refine g_ [110,5] ?_
 refine WL.h rfl (aF (n:=11) (cs:=enc e (.slice ko6 e.key.length kc6) (.slice adK e.data.length adi)) fa rfl gO rfl ⟨_,rfl,?_⟩)
 refine WL.s (aH (n:=11) fa rfl rfl gA (sV rfl rfl) ir gA ⟨rfl,?_⟩)
 refine g_ [3] ?_
 refine bH (s:=11) (C6++(PW++H)) results153 fa rfl gO gA fc ?_
 exact ⟨_,_,C6,PW,rfl,xd,Ny,rfl⟩
theorem N1 (pj pd:Nat) (ss:List gR) (safe:BitVec 64) (H:List Ck) (h:JV pj pd ss safe H) (hn:ss.length≤1000) (hb:(gh ss).length≤1000) (mI:∀e∈gh ss,iZ e) (mD:Nat):gC prog 89 [ptr pj,.int .u64 0,.int .i64 (mD:Int)] H fun r gr=>∃A,EO 77 r ((gh ss).take mD) A∧gr=A++H:=by
 refine gC.enter func89 rfl ntmps89 rfl ?_
 intro w0 R
 obtain ⟨vs,ps,T9,kr,km,hU,gN,lx,xh⟩:=h
 obtain ⟨so,sc,rfl,_⟩:=gN.form
 refine g_ [9] ?_
 refine iG call103 rfl (Dg pj pd _ _ _ (ib hU)) ?_
 refine g_ [702,1014,15,102] ?_
 refine WL.h rfl (ak fa rfl (ib hU) gA ⟨_,rfl,?_⟩)
 refine g_ [710,229,4] ?_
 refine aC (fun z:Nat×Value×List Value×List Ck×List Ck=>z.1≤ss.length∧il z.2.1 ((gh (ss.take z.1)).take mD).length z.2.2.1 77 11 z.2.2.2.1∧VL nh z.2.2.2.2 z.2.2.1 ((gh (ss.take z.1)).take mD)) (fun z:Nat×Value×List Value×List Ck×List Ck=>[(7,z.2.1),(20,.int .i64 (z.1:Int))]) (fun z:Nat×Value×List Value×List Ck×List Ck=>z.2.2.2.1++(z.2.2.2.2++H)) (fun z:Nat×Value×List Value×List Ck×List Ck=>ss.length-z.1) (⟨0,.slice none 0 0,[],[],[]⟩) (show 0≤ss.length∧il (.slice none 0 0) ((gh (ss.take 0)).take mD).length [] 77 11 []∧VL nh [] [] ((gh (ss.take 0)).take mD) from ⟨dN _,by rw[fJ];simp only[gh,List.flatMap_nil,List.take_nil];exact il.nil _ _,by rw[fJ];simp only[gh,List.flatMap_nil,List.take_nil];exact .nil⟩) (Sx.put rfl (Sx.put rfl (gL))) fc ?_
 rintro ⟨k,u,cells,Ca,Cb⟩ hI
 replace hI:k≤ss.length∧il u ((gh (ss.take k)).take mD).length cells 77 11 Ca∧VL nh Cb cells ((gh (ss.take k)).take mD):=hI
 obtain ⟨hk,hO,hV⟩:=hI
 change WC _ _ _ _ _ _ ([(7,u),(20,.int .i64 (k:Int))]++_) (Ca++(Cb++H))
 refine g_ [2,705,3] ?_
 refine gK rfl (fun nK=>?_) fun nK=>?_
 have gQ:k<ss.length:=by omega
 have Bf:=Fg gQ
 obtain ⟨b1,o1,si,lV,T1,ra,qY,kL,_,kM,lX⟩:=gN.Bt (i:=k) gz
 simp only[dI,eD] at kL
 obtain ⟨rfl,rfl⟩:=kL
 obtain ⟨ve,vl,T2,sr,nW,kD,hi,hr,hv⟩:=xh k gz gz
 obtain ⟨lo,lc,rfl,_⟩:=hv.form
 refine g_ [6,711,229,1] ?_
 refine WL.h rfl (ak fa rfl (ib kM) (by rw[show o1+((k:Int)).toNat*1=o1+k by omega];exact lX) ⟨_,rfl,?_⟩)
 refine g_ [7,1127] ?_
 refine WL.h rfl (ak fa rfl (ib kD) (pG hi) ⟨_,rfl,?_⟩)
 refine g_ [710,77,4] ?_
 refine aC (fun z:Nat×Value×List Value×List Ck×List Ck=>z.1≤ss[k].l.length∧il z.2.1 ((gh (ss.take k)++ss[k].l.take z.1).take mD).length z.2.2.1 77 11 z.2.2.2.1∧VL nh z.2.2.2.2 z.2.2.1 ((gh (ss.take k)++ss[k].l.take z.1).take mD)) (fun z:Nat×Value×List Value×List Ck×List Ck=>[(7,z.2.1),(29,.int .i64 (z.1:Int))]) (fun z:Nat×Value×List Value×List Ck×List Ck=>z.2.2.2.1++(z.2.2.2.2++H)) (fun z:Nat×Value×List Value×List Ck×List Ck=>ss[k].l.length-z.1) (⟨0,u,cells,Ca,Cb⟩) (show 0≤ss[k].l.length∧il u ((gh (ss.take k)++ss[k].l.take 0).take mD).length cells 77 11 Ca∧VL nh Cb cells ((gh (ss.take k)++ss[k].l.take 0).take mD) from ⟨dN _,by rw[fJ,eF];exact hO,by rw[fJ,eF];exact hV⟩) (Sx.put rfl (Sx.put rfl (gL))) fc ?_
 rintro ⟨i,u2,qB,BF,Am⟩ hI
 replace hI:i≤ss[k].l.length∧il u2 ((gh (ss.take k)++ss[k].l.take i).take mD).length qB 77 11 BF∧VL nh Am qB ((gh (ss.take k)++ss[k].l.take i).take mD):=hI
 obtain ⟨jV,qm,wX⟩:=hI
 change WC _ _ _ _ _ _ ([(7,u2),(29,.int .i64 (i:Int))]++_) (BF++(Am++H))
 obtain ⟨uo,uc,rfl,_⟩:=qm.form
 refine g_ [2,705,3] ?_
 refine gK rfl (fun sX=>?_) fun sX=>?_
 have lC:i<ss[k].l.length:=by omega
 have th:=tG.qP (.inl (mI _ (Yk gQ _ (dG lC))))
 have ma:=th.k2
 have tQ:=th.s5
 have jZ:(ss[k].l[i]).key.length≤1000∧(ss[k].l[i]).data.length≤1000:=by
   by_cases e2:(ss[k].l[i]).kind=2
   · have:=ma e2;omega
   rw[(tQ e2).1,(tQ e2).2];decide
 have kE:gh (ss.take k)++ss[k].l.take (i+1)=(gh (ss.take k)++ss[k].l.take i)++[ss[k].l[i]]:=by rw[dJ lC,dD]
 have hml:((gh (ss.take k)++ss[k].l.take i).take mD).length≤2000:=by
   have:=congrArg List.length (BM ss k)
   rw[dr] at this
   rw[dE,dr,dE];omega
 obtain ⟨b0,o0,nU,kK,T0,nB,nA,ie,l8,kh,c0,⟨wk,wd,rfl,jd,kf⟩,ja⟩:=hv.rowAt (i:=i) lC gB
 simp only[dI,eD] at ie
 obtain ⟨rfl,rfl⟩:=ie
 obtain ⟨ko,kc,rfl,_⟩:=jd.form
 obtain ⟨jR,dc,rfl,_⟩:=kf.form
 refine g_ [6,711,77,11] ?_
 refine WL.h rfl (aJ (n:=11) (vs:=enc ss[k].l[i] (.slice ko (ss[k].l[i]).key.length kc) (.slice jR (ss[k].l[i]).data.length dc)) fa rfl (ib kh) rfl (by rw[show o0+((i:Int)).toNat*11=o0+i*11 by omega];exact ja) ⟨_,rfl,?_⟩)
 refine iS lh fun sR=>?_
 refine g_ [311,4,101,2,708,2036,2,710,77,1,705,3] ?_
 refine WC.cond rfl (fun pN=>?_) (fun pN=>?_)
 have oy:=(congrArg (List.take mD) kE).trans (ag8 _ _ mD (by simpa using pN))
 refine g_ [2] ?_
 refine WL.h rfl (aF (n:=11) (cs:=enc ss[k].l[i] _ _) fa rfl gO rfl ⟨_,rfl,?_⟩)
 refine c_ call153 rfl (ac8 ss[k].l[i] _ _ H jd kf jZ) ?_
 rintro PI Qm ⟨w45,wD,PS,PT,rfl,SR,SV,rfl⟩
 obtain ⟨wo,wc,rfl,_⟩:=SR.form
 obtain ⟨xo,xc,rfl,_⟩:=SV.form
 refine WL.h rfl (aX (e:=77) (sz:=11) (zs:=lh) (vs:=enc ss[k].l[i] (.slice wo (ss[k].l[i]).key.length wc) (.slice xo (ss[k].l[i]).data.length xc)) fa fa fa rfl rfl rfl fa fun Lb=>⟨_,rfl,?_⟩)
 refine WL.h rfl (aT (e:=77) (sz:=11) (bytes:=112) (zs:=lh) fa fa rfl gz rfl rfl (qm) fc gO gA (sV rfl rfl) (by simp only[maxLen];omega) gz fun Xe P5 lN=>⟨_,rfl,?_⟩)
 refine g_ [5,703,2] ?_
 exact ai (⟨i+1,Xe,qB++enc ss[k].l[i] (.slice wo (ss[k].l[i]).key.length wc) (.slice xo (ss[k].l[i]).data.length xc),P5,Am++(PS++PT)⟩) (show (i+1)≤ss[k].l.length∧il Xe ((gh (ss.take k)++ss[k].l.take (i+1)).take mD).length (qB++enc ss[k].l[i] (.slice wo (ss[k].l[i]).key.length wc) (.slice xo (ss[k].l[i]).data.length xc)) 77 11 P5∧VL nh (Am++(PS++PT)) (qB++enc ss[k].l[i] (.slice wo (ss[k].l[i]).key.length wc) (.slice xo (ss[k].l[i]).data.length xc)) ((gh (ss.take k)++ss[k].l.take (i+1)).take mD) from ⟨by omega,by rw[oy,dr];exact lN,by rw[oy];exact (wX.mono fun c hc=>dw _ hc).append (VL.one (E:=nh) ⟨_,_,rfl,SR.bs.mono fun c hc=>dq _ (dw _ hc),SV.bs.mono fun c hc=>dq _ (dq _ hc)⟩)⟩) (show ss[k].l.length-(i+1)<ss[k].l.length-i by omega) (Sx.put rfl (Sx.put rfl (gL))) fc
 have oy:=(congrArg (List.take mD) kE).trans (ag6 _ _ mD (by simpa using pN))
 refine g_ [4,703,2] ?_
 exact ai (⟨i+1,.slice uo ((gh (ss.take k)++ss[k].l.take i).take mD).length uc,qB,BF,Am⟩) (show (i+1)≤ss[k].l.length∧il (.slice uo ((gh (ss.take k)++ss[k].l.take i).take mD).length uc) ((gh (ss.take k)++ss[k].l.take (i+1)).take mD).length qB 77 11 BF∧VL nh Am qB ((gh (ss.take k)++ss[k].l.take (i+1)).take mD) from ⟨by omega,by rw[oy];exact qm,by rw[oy];exact wX⟩) (show ss[k].l.length-(i+1)<ss[k].l.length-i by omega) (Sx.put rfl (Sx.put rfl (gL))) fc
 have lY:i=ss[k].l.length:=by omega
 subst lY
 have e9:(gh (ss.take k)++ss[k].l.take ss[k].l.length).take mD=(gh (ss.take (k+1))).take mD:=by rw[eH,QE gQ]
 have zd:il (.slice uo ((gh (ss.take k)++ss[k].l.take ss[k].l.length).take mD).length uc) ((gh (ss.take (k+1))).take mD).length qB 77 11 BF:=by rw[←e9];exact qm
 rw[e9] at wX
 refine g_ [7,703,2] ?_
 exact ai (⟨k+1,.slice uo ((gh (ss.take k)++ss[k].l.take ss[k].l.length).take mD).length uc,qB,BF,Am⟩) (show (k+1)≤ss.length∧il (.slice uo ((gh (ss.take k)++ss[k].l.take ss[k].l.length).take mD).length uc) ((gh (ss.take (k+1))).take mD).length qB 77 11 BF∧VL nh Am qB ((gh (ss.take (k+1))).take mD) from ⟨by omega,zd,wX⟩) (show ss.length-(k+1)<ss.length-k by omega) (Sx.put rfl (Sx.put rfl (gL))) fc
 have hke:k=ss.length:=by omega
 rw[hke,eH] at hO hV
 refine g_ [12] ?_
 refine gH ((Ca++Cb)++H) ?_
 exact aa results89 rfl (⟨_,⟨cells,Ca,Cb,hO,hV,rfl⟩,rfl⟩)
theorem adg (pj pd:Nat) (ss:List gR) (safe:BitVec 64) (CJ:List Ck) (hJ:na 223 229 248 3 77 pj pd ss safe CJ) (gI:List (BitVec 8)) (n:Nat) (CD:List Ck) (hD:jo 97 127 129 pd gI n CD) (hj:iM ss) (hl:ss.length<32) (hn:n≤900) (first:BitVec 64) (H:List Ck):gC prog 113 [ptr pj,.int .u64 first.toNat] (CJ++(CD++H)) fun r gr=>∃p C jb,r=.tuple #[ptr p,.int .i64 0]∧uw 248 3 77 p (⟨BitVec.ofNat 32 ss.length,first,[]⟩:gR) C∧jo 97 127 129 pd (lZ gI ss.length (ij (⟨BitVec.ofNat 32 ss.length,first,[]⟩:gR))) (n+16) jb∧gr=C++(CJ++(jb++H)):=by
 refine gC.enter func113 rfl ntmps113 rfl ?_
 intro w0 R
 have rT:=hD.len
 obtain ⟨vs,ps,Cv,D,rfl,kT,hS⟩:=hJ
 have lx:=hS.len
 obtain ⟨nb,GX⟩:∃b,b=BitVec.ofNat 32 ss.length:=⟨_,rfl⟩
 have jf:nb.toNat=ss.length:=by rw[GX,fg];omega
 rw[←GX]
 obtain ⟨gT,hold⟩:∃x,x=slot gI ss.length:=⟨_,rfl⟩
 have NF:gT.length=1024:=by rw[hold];exact yv rT hl
 have hU:JI 223 pj pd vs safe∈JI 223 pj pd vs safe::(Cv++D):=dy
 refine g_ [8] ?_
 refine ae rfl (Yd.assign (v:=.int .u32 ((0#32).toNat:Int)) rfl) (qb (aI (fun _z:Unit=>True) (fun _z:Unit=>[(6,.int .u32 nb.toNat)]) (fun _z:Unit=>(row pj [ptr pd,.int .i64 32,vs,.int .u64 safe.toNat,.bool false] 223::(Cv++D))++(CD++H)) ?_ ?_))
 refine g_ [3] ?_
 refine iG call104 rfl (Hp pj pd vs _ _ gO ps ss.length lx (kT.rs.mono hZ) gz) ?_
 refine g_ [6] ?_
 refine ae rfl (aK underlying229 rfl rfl) (qb (WC.cond rfl (fun pt=>?_) (fun pt=>?_)))
 obtain ⟨q,hq⟩:∃q,ps.length=q+1:=by
   rcases Nat.eq_zero_or_pos ps.length with h0|h0
   · rw[dU h0] at pt;cases pt
   exact ⟨ps.length-1,by omega⟩
 obtain ⟨ve,vl,T2,sr,nW,kD,hi,hr,hv⟩:=hS.at q gz gz
 refine g_ [2] ?_
 refine af (t:=16) (v:=ptr ps[q]) rfl (congrArg Value.pointer (EP hq)) (g_ [1,100] ?_)
 refine WL.h rfl (ak fa rfl (dw _ (dt _ (dq _ kD))) gA ⟨_,rfl,?_⟩)
 refine ae rfl (Yd.KY _ (1#32) rfl rfl rfl rfl) (af (t:=20) (v:=.int .u32 nb.toNat) rfl (congrArg (fun q:BitVec 32=>Value.int .u32 q.toNat) ((aeI hj gz gz).trans GX.symm)) ?_)
 refine g_ [2] ?_
 exact ah (()) (eX) (Sx.put rfl (gL)) (Sp.all fc)
 refine g_ [1] ?_
 have h0:ps=[]:=N7 (by simpa using pt)
 have h9:ss.length=0:=by rw[←lx,h0];rfl
 have h8:nb=0#32:=by rw[GX,h9]
 rw[h8]
 exact ah (()) (eX) (Sx.put rfl (gL)) (Sp.all fc)
 intro _ _
 refine g_ [4] ?_
 refine c_ call160 rfl (UN nb first []) ?_
 rintro Xz Qi ⟨p,C,rfl,hC,rfl⟩
 rw[eF]
 obtain ⟨DA,vl3,T3,fr3,ex3,hm3,ie,Uh,Uw⟩:=hC.v
 refine g_ [10] ?_
 refine aC (fun z:Nat×List Ck=>z.1≤16∧jo 97 127 129 pd (lZ gI ss.length (mix gT (ij (⟨nb,first,[]⟩:gR)) z.1)) (n+(16-z.1)) z.2) (fun z:Nat×List Ck=>[(9,.int .i64 ((z.1:Int)-1))]) (fun z:Nat×List Ck=>C++((row pj [ptr pd,.int .i64 32,vs,.int .u64 safe.toNat,.bool false] 223::(Cv++D))++(z.2++H))) (fun z:Nat×List Ck=>z.1) (⟨16,CD⟩) (show 16≤16∧jo 97 127 129 pd (lZ gI ss.length (mix gT (ij (⟨nb,first,[]⟩:gR)) 16)) (n+(16-16)) CD from ⟨dA _,by rw[Om ie NF,hold,Fi rT hl];exact hD⟩) (Sx.put rfl (gL)) fc ?_
 rintro ⟨m,FD⟩ hI
 replace hI:m≤16∧jo 97 127 129 pd (lZ gI ss.length (mix gT (ij (⟨nb,first,[]⟩:gR)) m)) (n+(16-m)) FD:=hI
 obtain ⟨hm,Mh⟩:=hI
 change WC _ _ _ _ _ _ ([(9,.int .i64 ((m:Int)-1))]++_) (C++((row pj [ptr pd,.int .i64 32,vs,.int .u64 safe.toNat,.bool false] 223::(Cv++D))++(FD++H)))
 refine g_ [4,708,2] ?_
 refine gK rfl (fun mg=>?_) fun mg=>?_
 obtain ⟨q,rfl⟩:∃q,m=q+1:=⟨m-1,by omega⟩
 have hq:q<16:=by omega
 have nq:(j9 (ij (⟨nb,first,[]⟩:gR)) q).length=64:=wJ ie hq
 refine g_ [8,102] ?_
 refine WL.h rfl (aJ (n:=1024) (vs:=bc (ij (⟨nb,first,[]⟩:gR))) fa rfl (dw _ hm3) (by rw[je];exact ie) (Pd ie) ⟨_,rfl,?_⟩)
 refine g_ [1] ?_
 refine af (t:=32) (v:=.int .i64 (q:Int)) rfl (congrArg (Value.int .i64) gz) ?_
 refine iG call185 rfl (N2 (ij (⟨nb,first,[]⟩:gR)) ie q hq _) (WL.h rfl (Hd.alloc (zs:=(List.replicate 64 (.int .u8 0))) fa fun pg=>⟨_,rfl,?_⟩))
 refine WL.s (aH (n:=64) fa rfl rfl (by rw[je,nq]) (qA _) ir gA ⟨rfl,?_⟩)
 refine g_ [7] ?_
 refine af (t:=36) (v:=.int .i64 (q:Int)) rfl (congrArg (Value.int .i64) gz) ?_
 refine ae rfl (bt (n:=64) (e:=5) (s:=1) fa fa rfl) ?_
 refine c_ call186 rfl (JH pj pd vs (.int .u64 safe.toNat) (lZ gI ss.length (mix gT (ij (⟨nb,first,[]⟩:gR)) (q+1))) (n+(16-(q+1))) FD Mh nb gz q hq (.slice (some ⟨pg,0,none⟩) 64 64) (j9 (ij (⟨nb,first,[]⟩:gR)) q) [row pg (bc (j9 (ij (⟨nb,first,[]⟩:gR)) q)) 126] (Bs.row nq) nq gz) ?_
 rintro HW FJ ⟨yG,rfl,xY,rfl⟩
 rw[jf,Kb rT hl (Bm ie NF _) hq nq,aes NF ie hq,show n+(16-(q+1))+1=n+(16-q) by omega] at xY
 refine g_ [6,702,1040,8] ?_
 refine af (t:=26) (v:=.int .i64 (q:Int)) rfl (congrArg (Value.int .i64) gz) ?_
 refine g_ [704,2] ?_
 exact ai ⟨q,yG⟩ (show q≤16∧_ from ⟨by omega,xY⟩) (show q<q+1 by omega) (Sx.put rfl (gL)) fc
 have kh:m=0:=by omega
 subst kh
 rw[Vm] at Mh
 refine g_ [13] ?_
 refine gH (C++((row pj [ptr pd,.int .i64 32,vs,.int .u64 safe.toNat,.bool false] 223::(Cv++D))++(FD++H))) ?_
 exact ay results113 rfl rfl (⟨p,C,FD,rfl,hC,Mh,rfl⟩)
theorem ac6 (pj pd:Nat) (vs sf:Value) (gI:List (BitVec 8)) (n:Nat) (CD:List Ck) (hD:jo 97 127 129 pd gI n CD) (p:Nat) (s:gR) (C:List Ck) (hS:uw 248 3 77 p s C) (e:En) (he:iZ e) (zD:(jw s).length≤1024) (lA:(jw (s.snoc e)).length≤1024) (jf:s.no.toNat<32) (qs:s.l.length≤1000) (NP:slot gI s.no.toNat=ij s) (hn:n≤900) (v:Value) (H:List Ck) (hv:Bs v (Sum.j5 (iB e)) H):gC prog 114 [ptr pj,ptr p,v] (row pj [ptr pd,.int .i64 32,vs,sf,.bool false] 223::(CD++(C++H))) fun r gr=>∃gP jb ob,r=.int .i64 0∧Ap 248 3 77 p s.no s.first (ij (s.snoc e)) (jI (s.snoc e)) s.l gP∧jo 97 127 129 pd (lZ gI s.no.toNat (ij (s.snoc e))) ob jb∧ob≤n+16∧gr=row pj [ptr pd,.int .i64 32,vs,sf,.bool false] 223::(jb++(gP++H)):=by
 refine gC.enter func114 rfl ntmps114 rfl ?_
 intro w0 R
 have rT:=hD.len
 obtain ⟨ve,vl,Ce,Ca,Cb,cells,rfl,lC,hE,hL,hV⟩:=hS
 have rR:(Sum.j5 (iB e)).length=(iB e).length+8:=Ge _
 have nq:=BU he
 have Eo:(jw s).length+(Sum.j5 (iB e)).length≤1024:=by rw[HE,dr] at lA;exact lA
 have mv:(ij (s.snoc e)).length=1024:=De lA
 have xa:=acE lA
 obtain ⟨w5,hea⟩:=LB s
 have uK:=BV s
 obtain ⟨eo,ec,rfl,_⟩:=hE.form
 obtain ⟨lo,lc,rfl,_⟩:=hL.form
 obtain ⟨vo,vc,rfl,_⟩:=hv.form
 refine g_ [10,1127] ?_
 refine WL.h rfl (ak fa rfl gO (pG lC) ⟨_,rfl,?_⟩)
 refine g_ [710,77] ?_
 refine iG call112 rfl (Hq p s.no s.first (ij s) (jI s) s.l _ (xJ.mono (Ap.v ⟨_,_,Ce,Ca,Cb,cells,rfl,lC,hE,hL,hV⟩) hZ) s.l.length w5 _ hea) ?_
 refine g_ [7,102] ?_
 refine WL.h rfl (aJ (n:=1024) (vs:=bc (ij s)) fa rfl gO (by rw[je];exact lC) (Pd lC) ⟨_,rfl,?_⟩)
 refine WL.h rfl (Hd.alloc (zs:=bc um) fa fun b8=>⟨_,rfl,?_⟩)
 refine WL.s (aH (n:=1024) fa rfl rfl (by rw[je];exact lC) (qA _) ir (by rw[je,Ah]) ⟨rfl,?_⟩)
 refine g_ [5] ?_
 refine ae rfl (bY (n:=1024) (e:=5) (s:=1) (i:=(jw s).length) fa fa rfl rfl rfl gz) ?_
 refine af (t:=24) (v:=.slice (some ⟨b8,(jw s).length,none⟩) (1024-(jw s).length) (1024-(jw s).length)) rfl (by rw[dp gz,eV,Nat.mul_one]) ?_
 refine g_ [1] ?_
 refine WL.h rfl (bB (e:=5) (sz:=1) (zs:=[.int .u8 0]) (bytes:=1) (q:=(Sum.j5 (iB e)).length) (uA:=bc (ij (s.snoc e))) fa fa rfl rfl ir (hv.mono hZ) (by show Nat.min _ (1024-(jw s).length)=_;exact eE gz) (by rw[je,Nat.mul_one]) (qA _) (by rw[je,je,lC];omega) (by rw[←xa];unfold lO;rw[yP,yP,Ay,BQ,je]) ⟨_,rfl,?_⟩)
 refine g_ [6] ?_
 refine ae rfl (Yd.quo rfl rfl gz gz gz) ?_
 refine af (t:=28) (v:=.int .i64 (((jw s).length/64:Nat):Int)) rfl (congrArg (Value.int .i64) gz) ?_
 refine g_ [4] ?_
 refine aC (fun z:Nat×Nat×List Ck=>(jw s).length/64≤z.1∧z.1≤16∧z.2.1≤n+z.1∧jo 97 127 129 pd (lZ gI s.no.toNat (mix (ij (s.snoc e)) (ij s) z.1)) z.2.1 z.2.2) (fun z:Nat×Nat×List Ck=>[(9,.int .i64 (z.1:Int))]) (fun z:Nat×Nat×List Ck=>row pj [ptr pd,.int .i64 32,vs,sf,.bool false] 223::(z.2.2++(row b8 (bc (ij (s.snoc e))) 226::((row p (kG s.no s.first (ij s) (.slice eo (jI s).length ec) (.slice lo s.l.length lc)) 248::(Ce++(Ca++Cb)))++H)))) (fun z:Nat×Nat×List Ck=>16-z.1) (⟨(jw s).length/64,n,CD⟩) (show (jw s).length/64≤((jw s).length/64)∧((jw s).length/64)≤16∧n≤n+((jw s).length/64)∧jo 97 127 129 pd (lZ gI s.no.toNat (mix (ij (s.snoc e)) (ij s) ((jw s).length/64))) n CD from ⟨dA _,by omega,by omega,by rw[←xa,aer lC Eo gz,←NP,Fi rT jf];exact hD⟩) (Sx.put rfl (gL)) fc ?_
 rintro ⟨i,ni,sL⟩ hI
 replace hI:(jw s).length/64≤i∧i≤16∧ni≤n+i∧jo 97 127 129 pd (lZ gI s.no.toNat (mix (ij (s.snoc e)) (ij s) i)) ni sL:=hI
 obtain ⟨hi1,jV,uS,zc⟩:=hI
 change WC _ _ _ _ _ _ ([(9,.int .i64 (i:Int))]++_) (row pj [ptr pd,.int .i64 32,vs,sf,.bool false] 223::(sL++(row b8 (bc (ij (s.snoc e))) 226::((row p (kG s.no s.first (ij s) (.slice eo (jI s).length ec) (.slice lo s.l.length lc)) 248::(Ce++(Ca++Cb)))++H))))
 refine g_ [4] ?_
 refine ae rfl (Yd.mul rfl rfl gz gz) ?_
 refine g_ [2,710,5,703,705,2] ?_
 refine gK rfl (fun uG=>?_) fun uG=>?_
 have te:i<16:=by omega
 have jd:(j9 (ij (s.snoc e)) i).length=64:=wJ mv te
 refine g_ [6] ?_
 refine WL.h rfl (aF (n:=1024) (cs:=bc (ij (s.snoc e))) fa rfl gO (by rw[je];exact mv) ⟨_,rfl,?_⟩)
 refine g_ [1] ?_
 refine iG call185 rfl (N2 (ij (s.snoc e)) mv i te _) (WL.h rfl (Hd.alloc (zs:=(List.replicate 64 (.int .u8 0))) fa fun pg=>⟨_,rfl,?_⟩))
 refine WL.s (aH (n:=64) fa rfl rfl (by rw[je,jd]) (qA _) ir gA ⟨rfl,?_⟩)
 refine g_ [3,509] ?_
 refine w_ [0,1,2,1000,3,4,5] ?_
 refine gW 6 [] rfl (bt (n:=64) (e:=5) (s:=1) fa fa rfl) fa ?_
 refine gD 7 ?_
 refine iI rfl call186 rfl (JH pj pd vs sf (lZ gI s.no.toNat (mix (ij (s.snoc e)) (ij s) i)) ni sL zc s.no jf i te (.slice (some ⟨pg,0,none⟩) 64 64) (j9 (ij (s.snoc e)) i) [row pg (bc (j9 (ij (s.snoc e)) i)) 126] (Bs.row jd) jd gz) ?_
 rintro x48 H48 ⟨yG,rfl,xY,rfl⟩
 rw[Kb rT jf (Bm lC mv _) te jd,On lC mv te] at xY
 refine gG ?_
 refine w_ [8] ?_
 refine gM ?_
 refine g_ [4,702,1050,8,703,2] ?_
 exact ai (⟨i+1,ni+1,yG⟩) (show (jw s).length/64≤(i+1)∧(i+1)≤16∧(ni+1)≤n+(i+1)∧jo 97 127 129 pd (lZ gI s.no.toNat (mix (ij (s.snoc e)) (ij s) (i+1))) (ni+1) yG from ⟨by omega,by omega,by omega,xY⟩) (show 16-(i+1)<16-i by omega) (Sx.put rfl (gL)) fc
 have zj:mix (ij (s.snoc e)) (ij s) i=ij (s.snoc e):=by rw[←xa];exact aet lC Eo gz jV
 rw[zj] at zc
 refine g_ [8] ?_
 refine WL.h rfl (aF (n:=1024) (cs:=bc (ij (s.snoc e))) fa rfl gO (by rw[je];exact mv) ⟨_,rfl,?_⟩)
 refine g_ [1,102] ?_
 refine WL.s (bj (n:=1024) (iT:=kG s.no s.first (ij (s.snoc e)) (.slice eo (jI s).length ec) (.slice lo s.l.length lc)) fa rfl rfl (by rw[je];exact mv) (qA _) ir (by rw[xz lC];decide) (Pe lC mv) ⟨rfl,?_⟩)
 refine g_ [7,1126] ?_
 refine WL.h rfl (ak fa rfl gO (Fj mv) ⟨_,rfl,?_⟩)
 refine g_ [2,710,5,703] ?_
 refine WL.h rfl (bp (e:=3) (z:=.int .i64 0) fa fa fa rfl gA fun Lc=>⟨_,rfl,?_⟩)
 refine WL.h rfl (bU (e:=3) (sz:=1) (bytes:=8) (zs:=[.int .i64 0]) (m:=1) fa fa rfl gz rfl rfl hE fc (cm gO) rfl (by intro u hu;rw[dH.1 hu];rfl) gz (by simp only[maxLen];omega) gz fun v66 Ak wT=>⟨_,rfl,?_⟩)
 obtain ⟨yZ,yV,rfl,_⟩:=wT.form
 refine g_ [1,1126] ?_
 refine WL.s (aq (iT:=kG s.no s.first (ij (s.snoc e)) (.slice yZ ((jI s).length+1) yV) (.slice lo s.l.length lc)) fa rfl rfl gA ir (by rw[xz mv];decide) (Kr mv _) ⟨rfl,?_⟩)
 refine g_ [8] ?_
 refine gH (row pj [ptr pd,.int .i64 32,vs,sf,.bool false] 223::(sL++((row p (kG s.no s.first (ij (s.snoc e)) (.slice yZ ((jI s).length+1) yV) (.slice lo s.l.length lc)) 248::(Ak++(Ca++Cb)))++H))) ?_
 refine aa results114 rfl ?_
 rotate_left
 all_goals
  refine ⟨_,sL,ni,rfl,⟨.slice yZ ((jI s).length+1) yV,.slice lo s.l.length lc,Ak,Ca,Cb,cells,rfl,mv,?_,hL,hV⟩,zc,by omega,rfl⟩
  rw[RW,dr,UF]
  have e9:ic [((jw s++Sum.j5 (iB e)).length:Int)]=[Value.int .i64 (((jw s).length:Int)+((Sum.j5 (iB e)).length:Int))]:=by
    rw[dr];simp[ic]
  rw[e9]
  exact wT
theorem NZ (pj pd:Nat) (ss:List gR) (safe:BitVec 64) (CJ:List Ck) (hJ:na 223 229 248 3 77 pj pd ss safe CJ) (gI:List (BitVec 8)) (n:Nat) (CD:List Ck) (hD:jo 97 127 129 pd gI n CD) (hj:iM ss) (hb:(gh ss).length≤1000) (ie:ss.length≤1000) (H:List Ck):gC prog 69 [ptr pj] (CJ++(CD++H)) fun r gr=>∃sN jb,r=.int .i64 0∧na 223 229 248 3 77 pj pd ss (js (gh ss)) sN∧jo 97 127 129 pd gI 0 jb∧gr=sN++(jb++H):=by
 refine gC.enter func69 rfl ntmps69 rfl ?_
 intro w0 R
 have sy:=hJ
 obtain ⟨vs,ps,Cv,D,rfl,kT,hS⟩:=hJ
 obtain ⟨vo,vc,rfl,_⟩:=kT.form
 refine g_ [9] ?_
 refine iG call103 rfl (Dg pj pd _ _ _ (dw _ dy)) (g_ [6,702,1008,9] ?_)
 refine c_ call116 rfl (UP pj pd (.slice vo ss.length vc) (.int .u64 safe.toNat) gI n CD hD []) ?_
 rintro HU FG ⟨ml,rfl,ot,rfl⟩
 refine g_ [6,702,1013,9] ?_
 refine jv call64 rfl (qM pj pd ss safe _ sy.v ie hj hb) ?_
 refine g_ [1,103,9] ?_
 refine gH ((row pj [ptr pd,.int .i64 32,.slice vo ss.length vc,.int .u64 (js (gh ss)).toNat,.bool false] 223::(Cv++D))++(ml++H)) ?_
 exact aa results69 rfl (⟨_,ml,rfl,⟨.slice vo ss.length vc,ps,Cv,D,rfl,kT,hS⟩,ot,rfl⟩)
end Go.Proofs.YtchdmlkiggdhaaaGreat
