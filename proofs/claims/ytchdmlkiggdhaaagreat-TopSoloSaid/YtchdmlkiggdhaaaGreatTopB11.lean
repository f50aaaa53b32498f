/-
  Lemmas and walks that TopOne and TopSolo stands on (part 11); no condition.
-/
import Derived.Test.YtchdmlkiggdhaaaGreatTopB10
set_option linter.unusedVariables false
set_option linter.unusedSimpArgs false
set_option maxHeartbeats 4000000
namespace Go.Proofs.YtchdmlkiggdhaaaGreat
open Go.SL Top Go.Proofs.Tryz
attribute [local irreducible] WL WC DN gZ iX
theorem yw (v:Value) (l:List En) (qs:l.length≤900) (hr:mn l) (seen gE gT:BitVec 32) (gF:BitVec 64) (e:En) (he:iZ e) (h0:gE≠0#32) (ho:gT=0#32↔gF=0#64) (lR:e.gF-1#64=gF) (kZ:e.ep.toNat≤gE.toNat) (hold:gT.toNat≤e.ep.toNat) (k:Nat) (hk:gF.toNat=k) (ja:k≤l.length→(k≠0→ke l k=gT)→mE (l.take k++[e])) (kd:Option Addr×Nat) (vd:Value) (H:List Ck) (hv:EV v l H) (hd:Bs vd (iB e) H):gC prog 85 [v,.int .u32 seen.toNat,.agg (gS (j4 gE gT gF e) (.slice kd.1 0 kd.2) vd).toArray] H fun r gr=>∃vo A,r=.tuple #[vo,.int .u32 (mf l seen gE gT k e).2.1.toNat,.agg (gS (mf l seen gE gT k e).2.2 (.slice none 0 0) (.slice none 0 0)).toArray,.int .i64 0]∧EV vo (mf l seen gE gT k e).1 A∧gr=A++H:=by
  rcases Nat.lt_or_ge k l.length with h|h
  · exact agI v l qs hr seen gE gT gF e he h0 ho lR kZ hold k hk ja kd vd H hv hd h
  exact agJ v l qs hr seen gE gT gF e he h0 ho lR kZ hold k hk ja kd vd H hv hd h
theorem agS (p pd:Nat) (ps:List (List ia)) (gN:∀q∈ps,jh q) (ss:List gR) (hj:iM ss) (hb:(gh ss).length≤125) (seen:BitVec 32) (r:Option Rl) (L:Ld) (CS:List Ck) (hS:iY 115 112 179 185 223 229 248 3 77 p pd ps ss seen r L CS) (gE gT:BitVec 32) (gF:BitVec 64) (e:En) (he:iZ e) (h0:gE≠0#32) (ho:gT=0#32↔gF=0#64) (lR:e.gF-1#64=gF) (kZ:e.ep.toNat≤gE.toNat) (hold:gT.toNat≤e.ep.toNat) (k:Nat) (hk:gF.toNat=k) (ja:k≤(gh ss).length→(k≠0→ke (gh ss) k=gT)→mE ((gh ss).take k++[e])) (kd:Option Addr×Nat) (vd:Value) (H:List Ck) (hd:Bs vd (iB e) H) (jB:gE.toNat<seen.toNat) (G5:(nV r).toNat<seen.toNat) (jk:∀x,r=some x→x.ep≠gE) (kE:mf (gh ss) seen gE gT k e=(gh ss,seen,yx seen)):gC prog 45 [ptr p,.agg (gS (j4 gE gT gF e) (.slice kd.1 0 kd.2) vd).toArray] (CS++H) fun r0 gr=>r0=.tuple #[.agg (gS (yx seen) (.slice none 0 0) (.slice none 0 0)).toArray,.int .i64 0]∧∃iH D,iY 115 112 179 185 223 229 248 3 77 p pd ps ss seen none L iH∧gr=iH++(D++H):=by
 refine gC.enter func45 rfl ntmps45 rfl ?_
 intro w0 R
 have ie:=hj.jW gz
 obtain ⟨vp,pj,vr,CJ,CR,V,rfl,hJ,hR,hP⟩:=hS
 obtain ⟨jR,dc,rfl,_⟩:=hd.form
 have sD:e.gF=gF+1#64:=by rw[←lR,BitVec.sub_add_cancel]
 have qJ:(js (gh ss)).toNat=(gh ss).length:=nO gz
 refine gY (iV fun b3=>?_)
 refine iS iP fun b4=>?_
 refine g_ [3] ?_
 refine aI (fun _z:Unit=>True) (fun _z:Unit=>[]) (fun _z:Unit=>row b4 (gS jF (.slice none 0 0) (.slice none 0 0)) 104::(row b3 (gS (j4 gE gT gF e) (.slice kd.1 0 kd.2) (.slice jR (iB e).length dc)) 104::((row p (iN vp pj seen vr) 115::(CJ++(CR++V)))++H))) ?_ ?_
 refine g_ [4] ?_
 refine ae rfl (an underlying32 rfl rfl) (g_ [1016,5] ?_)
 rcases Fb hR with ⟨rfl,rfl,rfl⟩|⟨r9,q,pl,CL,rfl,rfl,rfl,ky,jG⟩
 refine g_ [518] ?_
 refine w_ [0,1,1003,2,3] ?_
 refine gW 4 [3] rfl (aK underlying108 rfl rfl) fa ?_
 refine w_ [9001,5,6,7,8,9,10,11,12,13,14,15,16,17] ?_
 refine gM ?_
 refine g_ [4] ?_
 exact ah (()) (eX) (gL) (Sp.all fc)
 refine g_ [518] ?_
 refine w_ [0,1,1003,2,3] ?_
 refine gW 4 [3] rfl (aK underlying108 rfl rfl) fa ?_
 refine w_ [9002,5,6,7,1003,8,9,10,1000,11,12,1001,13,14] ?_
 refine jP 15 [14,12,5] 24 rfl rfl (aD _ _ rfl rfl rfl rfl) fa ?_
 refine lL (jk _ rfl) (w_ [16,17] ?_)
 refine gM ?_
 refine g_ [4] ?_
 exact ah (()) (eX) (gL) (Sp.all fc)
 intro _ _
 refine g_ [3] ?_
 refine c_ call51 rfl (yu p pd ps gN ss hj gz gz seen r L (row p (iN vp pj seen vr) 115::(CJ++(CR++V))) (iY.v (⟨vp,pj,vr,CJ,CR,V,rfl,hJ,hR,hP⟩:iY 115 112 179 185 223 229 248 3 77 p pd ps ss seen r L _))) ?_
 rintro HW FJ ⟨A,hA,rfl⟩
 obtain ⟨ao,ac,rfl,_⟩:=VS.form (EO.ev hA)
 refine g_ [4,517] ?_
 refine w_ [0,1,2,1002,3,4,2011,5] ?_
 refine pe [(6,[5,4,0]),(12,[])] fa (ig ?_ (ig ?_ (jl)))
 refine kP ?_
 refine iI rfl call85 rfl (yw _ (gh ss) gz hj.row seen gE gT gF e he h0 ho lR kZ hold k hk ja kd _ (A++H) (VS.mono (EO.ev hA) fun c hc=>dw _ hc) (hd.mono fun c hc=>dq _ hc)) ?_
 rintro wD wH ⟨vo,A2,rfl,jU,rfl⟩
 rw[kE] at jU ⊢
 replace jU:EV vo (gh ss) A2:=jU
 obtain ⟨oo,zR,rfl,_⟩:=VS.form jU
 refine gG ?_
 refine w_ [7,8,9,10,11] ?_
 refine gD 12 ?_
 refine nQ iP fun b9=>?_
 refine gG ?_
 refine w_ [13,14] ?_
 refine gD 15 ?_
 refine jT 11 ?_
 refine gG ?_
 refine w_ [16] ?_
 refine gM ?_
 refine g_ [5,702,1052,10,102] ?_
 refine WL.s (aq (iT:=iN vp pj seen vr) fa rfl rfl gA ir (by show 0+2<4;decide) rfl ⟨rfl,?_⟩)
 refine g_ [6] ?_
 refine iG call17 rfl (wu p pd ps gN ss hj gz gz seen r L _ (kX.mono (iY.v (⟨vp,pj,vr,CJ,CR,V,rfl,hJ,hR,hP⟩:iY 115 112 179 185 223 229 248 3 77 p pd ps ss seen r L _)) (Sp.sub fc))) ?_
 refine g_ [1,705] ?_
 refine kl 62 rfl (show ((nV r).toNat:Int)<(seen.toNat:Int) by omega) ?_
 refine g_ [6,103] ?_
 refine WL.s (aq (iT:=iN vp pj seen (.pointer none)) fa rfl rfl gA ir (by show 0+3<4;decide) rfl ⟨rfl,?_⟩)
 refine g_ [4,533] ?_
 refine w_ [1000,0,1,1002,2] ?_
 refine qf (show ¬(6:Int)=2 by decide) ?_
 refine w_ [3,4,5,6,7,8,9,10,11,12,13,14,15,16,17,18,19,20,21,22,23,24,25,26,27,28,29,30,31,32] ?_
 refine gM ?_
 refine g_ [4,411,311,5] ?_
 refine au (s:=11) ((row p (iN vp pj seen (.pointer none)) 115::(CJ++([]++V)))++(((A++A2)++CR)++H)) results45 fa rfl rfl iz gA fc ?_
 exact ⟨rfl,_,_,⟨vp,pj,_,CJ,_,V,rfl,hJ,⟨rfl,rfl⟩,hP⟩,rfl⟩
 refine kP ?_
 refine nQ iP fun b9=>?_
 refine iO [111,0] ?_
 refine gD 6 ?_
 refine iI rfl call85 rfl (yw _ (gh ss) gz hj.row seen gE gT gF e he h0 ho lR kZ hold k hk ja kd _ (A++H) (VS.mono (EO.ev hA) fun c hc=>dw _ hc) (hd.mono fun c hc=>dq _ hc)) ?_
 rintro wD wH ⟨vo,A2,rfl,jU,rfl⟩
 rw[kE] at jU ⊢
 replace jU:EV vo (gh ss) A2:=jU
 obtain ⟨oo,zR,rfl,_⟩:=VS.form jU
 refine gG ?_
 refine w_ [7,8,9,10,11,13,14] ?_
 refine gD 15 ?_
 refine jT 11 ?_
 refine gG ?_
 refine w_ [16] ?_
 refine gM ?_
 refine g_ [5,702,1052,10,102] ?_
 refine WL.s (aq (iT:=iN vp pj seen vr) fa rfl rfl gA ir (by show 0+2<4;decide) rfl ⟨rfl,?_⟩)
 refine g_ [6] ?_
 refine iG call17 rfl (wu p pd ps gN ss hj gz gz seen r L _ (kX.mono (iY.v (⟨vp,pj,vr,CJ,CR,V,rfl,hJ,hR,hP⟩:iY 115 112 179 185 223 229 248 3 77 p pd ps ss seen r L _)) (Sp.sub fc))) ?_
 refine g_ [1,705] ?_
 refine kl 62 rfl (show ((nV r).toNat:Int)<(seen.toNat:Int) by omega) ?_
 refine g_ [6,103] ?_
 refine WL.s (aq (iT:=iN vp pj seen (.pointer none)) fa rfl rfl gA ir (by show 0+3<4;decide) rfl ⟨rfl,?_⟩)
 refine g_ [4,533] ?_
 refine w_ [1000,0,1,1002,2] ?_
 refine qf (show ¬(6:Int)=2 by decide) ?_
 refine w_ [3,4,5,6,7,8,9,10,11,12,13,14,15,16,17,18,19,20,21,22,23,24,25,26,27,28,29,30,31,32] ?_
 refine gM ?_
 refine g_ [4,411,311,5] ?_
 refine au (s:=11) ((row p (iN vp pj seen (.pointer none)) 115::(CJ++([]++V)))++(((A++A2)++CR)++H)) results45 fa rfl rfl iz gA fc ?_
 exact ⟨rfl,_,_,⟨vp,pj,_,CJ,_,V,rfl,hJ,⟨rfl,rfl⟩,hP⟩,rfl⟩
theorem agP (p pd:Nat) (ps:List (List ia)) (gN:∀q∈ps,jh q) (ss:List gR) (hj:iM ss) (hb:(gh ss).length≤125) (seen:BitVec 32) (r:Option Rl) (L:Ld) (CS:List Ck) (hS:iY 115 112 179 185 223 229 248 3 77 p pd ps ss seen r L CS) (gE gT:BitVec 32) (gF:BitVec 64) (e:En) (he:iZ e) (h0:gE≠0#32) (ho:gT=0#32↔gF=0#64) (lR:e.gF-1#64=gF) (kZ:e.ep.toNat≤gE.toNat) (hold:gT.toNat≤e.ep.toNat) (k:Nat) (hk:gF.toNat=k) (ja:k≤(gh ss).length→(k≠0→ke (gh ss) k=gT)→mE ((gh ss).take k++[e])) (kd:Option Addr×Nat) (vd:Value) (H:List Ck) (hd:Bs vd (iB e) H) (jB:gE.toNat<seen.toNat) (G5:seen.toNat≤(nV r).toNat) (jk:∀x,r=some x→x.ep≠gE) (kE:mf (gh ss) seen gE gT k e=(gh ss,seen,yx seen)):gC prog 45 [ptr p,.agg (gS (j4 gE gT gF e) (.slice kd.1 0 kd.2) vd).toArray] (CS++H) fun r0 gr=>r0=.tuple #[.agg (gS (yx seen) (.slice none 0 0) (.slice none 0 0)).toArray,.int .i64 0]∧∃iH D,iY 115 112 179 185 223 229 248 3 77 p pd ps ss seen r L iH∧gr=iH++(D++H):=by
 refine gC.enter func45 rfl ntmps45 rfl ?_
 intro w0 R
 have ie:=hj.jW gz
 obtain ⟨vp,pj,vr,CJ,CR,V,rfl,hJ,hR,hP⟩:=hS
 obtain ⟨jR,dc,rfl,_⟩:=hd.form
 have sD:e.gF=gF+1#64:=by rw[←lR,BitVec.sub_add_cancel]
 have qJ:(js (gh ss)).toNat=(gh ss).length:=nO gz
 refine gY (iV fun b3=>?_)
 refine iS iP fun b4=>?_
 refine g_ [3] ?_
 refine aI (fun _z:Unit=>True) (fun _z:Unit=>[]) (fun _z:Unit=>row b4 (gS jF (.slice none 0 0) (.slice none 0 0)) 104::(row b3 (gS (j4 gE gT gF e) (.slice kd.1 0 kd.2) (.slice jR (iB e).length dc)) 104::((row p (iN vp pj seen vr) 115::(CJ++(CR++V)))++H))) ?_ ?_
 refine g_ [4] ?_
 refine ae rfl (an underlying32 rfl rfl) (g_ [1016,5] ?_)
 rcases Fb hR with ⟨rfl,rfl,rfl⟩|⟨r9,q,pl,CL,rfl,rfl,rfl,ky,jG⟩
 refine g_ [518] ?_
 refine w_ [0,1,1003,2,3] ?_
 refine gW 4 [3] rfl (aK underlying108 rfl rfl) fa ?_
 refine w_ [9001,5,6,7,8,9,10,11,12,13,14,15,16,17] ?_
 refine gM ?_
 refine g_ [4] ?_
 exact ah (()) (eX) (gL) (Sp.all fc)
 refine g_ [518] ?_
 refine w_ [0,1,1003,2,3] ?_
 refine gW 4 [3] rfl (aK underlying108 rfl rfl) fa ?_
 refine w_ [9002,5,6,7,1003,8,9,10,1000,11,12,1001,13,14] ?_
 refine jP 15 [14,12,5] 24 rfl rfl (aD _ _ rfl rfl rfl rfl) fa ?_
 refine lL (jk _ rfl) (w_ [16,17] ?_)
 refine gM ?_
 refine g_ [4] ?_
 exact ah (()) (eX) (gL) (Sp.all fc)
 intro _ _
 refine g_ [3] ?_
 refine c_ call51 rfl (yu p pd ps gN ss hj gz gz seen r L (row p (iN vp pj seen vr) 115::(CJ++(CR++V))) (iY.v (⟨vp,pj,vr,CJ,CR,V,rfl,hJ,hR,hP⟩:iY 115 112 179 185 223 229 248 3 77 p pd ps ss seen r L _))) ?_
 rintro HW FJ ⟨A,hA,rfl⟩
 obtain ⟨ao,ac,rfl,_⟩:=VS.form (EO.ev hA)
 refine g_ [4,517] ?_
 refine w_ [0,1,2,1002,3,4,2011,5] ?_
 refine pe [(6,[5,4,0]),(12,[])] fa (ig ?_ (ig ?_ (jl)))
 refine kP ?_
 refine iI rfl call85 rfl (yw _ (gh ss) gz hj.row seen gE gT gF e he h0 ho lR kZ hold k hk ja kd _ (A++H) (VS.mono (EO.ev hA) fun c hc=>dw _ hc) (hd.mono fun c hc=>dq _ hc)) ?_
 rintro wD wH ⟨vo,A2,rfl,jU,rfl⟩
 rw[kE] at jU ⊢
 replace jU:EV vo (gh ss) A2:=jU
 obtain ⟨oo,zR,rfl,_⟩:=VS.form jU
 refine gG ?_
 refine w_ [7,8,9,10,11] ?_
 refine gD 12 ?_
 refine nQ iP fun b9=>?_
 refine gG ?_
 refine w_ [13,14] ?_
 refine gD 15 ?_
 refine jT 11 ?_
 refine gG ?_
 refine w_ [16] ?_
 refine gM ?_
 refine g_ [5,702,1052,10,102] ?_
 refine WL.s (aq (iT:=iN vp pj seen vr) fa rfl rfl gA ir (by show 0+2<4;decide) rfl ⟨rfl,?_⟩)
 refine g_ [6] ?_
 refine iG call17 rfl (wu p pd ps gN ss hj gz gz seen r L _ (kX.mono (iY.v (⟨vp,pj,vr,CJ,CR,V,rfl,hJ,hR,hP⟩:iY 115 112 179 185 223 229 248 3 77 p pd ps ss seen r L _)) (Sp.sub fc))) ?_
 refine g_ [1,705] ?_
 refine j8 62 rfl (show ¬(((nV r).toNat:Int)<(seen.toNat:Int)) by omega) ?_
 refine g_ [7,533] ?_
 refine w_ [1000,0,1,1002,2] ?_
 refine qf (show ¬(6:Int)=2 by decide) ?_
 refine w_ [3,4,5,6,7,8,9,10,11,12,13,14,15,16,17,18,19,20,21,22,23,24,25,26,27,28,29,30,31,32] ?_
 refine gM ?_
 refine g_ [4,411,311,5] ?_
 refine au (s:=11) ((row p (iN vp pj seen vr) 115::(CJ++(CR++V)))++(((A++A2))++H)) results45 fa rfl rfl iz gA fc ?_
 exact ⟨rfl,_,_,⟨vp,pj,_,CJ,_,V,rfl,hJ,hR,hP⟩,rfl⟩
 refine kP ?_
 refine nQ iP fun b9=>?_
 refine iO [111,0] ?_
 refine gD 6 ?_
 refine iI rfl call85 rfl (yw _ (gh ss) gz hj.row seen gE gT gF e he h0 ho lR kZ hold k hk ja kd _ (A++H) (VS.mono (EO.ev hA) fun c hc=>dw _ hc) (hd.mono fun c hc=>dq _ hc)) ?_
 rintro wD wH ⟨vo,A2,rfl,jU,rfl⟩
 rw[kE] at jU ⊢
 replace jU:EV vo (gh ss) A2:=jU
 obtain ⟨oo,zR,rfl,_⟩:=VS.form jU
 refine gG ?_
 refine w_ [7,8,9,10,11,13,14] ?_
 refine gD 15 ?_
 refine jT 11 ?_
 refine gG ?_
 refine w_ [16] ?_
 refine gM ?_
 refine g_ [5,702,1052,10,102] ?_
 refine WL.s (aq (iT:=iN vp pj seen vr) fa rfl rfl gA ir (by show 0+2<4;decide) rfl ⟨rfl,?_⟩)
 refine g_ [6] ?_
 refine iG call17 rfl (wu p pd ps gN ss hj gz gz seen r L _ (kX.mono (iY.v (⟨vp,pj,vr,CJ,CR,V,rfl,hJ,hR,hP⟩:iY 115 112 179 185 223 229 248 3 77 p pd ps ss seen r L _)) (Sp.sub fc))) ?_
 refine g_ [1,705] ?_
 refine j8 62 rfl (show ¬(((nV r).toNat:Int)<(seen.toNat:Int)) by omega) ?_
 refine g_ [7,533] ?_
 refine w_ [1000,0,1,1002,2] ?_
 refine qf (show ¬(6:Int)=2 by decide) ?_
 refine w_ [3,4,5,6,7,8,9,10,11,12,13,14,15,16,17,18,19,20,21,22,23,24,25,26,27,28,29,30,31,32] ?_
 refine gM ?_
 refine g_ [4,411,311,5] ?_
 refine au (s:=11) ((row p (iN vp pj seen vr) 115::(CJ++(CR++V)))++(((A++A2))++H)) results45 fa rfl rfl iz gA fc ?_
 exact ⟨rfl,_,_,⟨vp,pj,_,CJ,_,V,rfl,hJ,hR,hP⟩,rfl⟩
theorem agO (p pd:Nat) (ps:List (List ia)) (gN:∀q∈ps,jh q) (ss:List gR) (hj:iM ss) (hb:(gh ss).length≤125) (seen:BitVec 32) (r:Option Rl) (L:Ld) (CS:List Ck) (hS:iY 115 112 179 185 223 229 248 3 77 p pd ps ss seen r L CS) (gE gT:BitVec 32) (gF:BitVec 64) (e:En) (he:iZ e) (h0:gE≠0#32) (ho:gT=0#32↔gF=0#64) (lR:e.gF-1#64=gF) (kZ:e.ep.toNat≤gE.toNat) (hold:gT.toNat≤e.ep.toNat) (k:Nat) (hk:gF.toNat=k) (ja:k≤(gh ss).length→(k≠0→ke (gh ss) k=gT)→mE ((gh ss).take k++[e])) (kd:Option Addr×Nat) (vd:Value) (H:List Ck) (hd:Bs vd (iB e) H) (jB:0<gE.toNat) (G5:(nV r).toNat<gE.toNat) (x:BitVec 64) (jk:∀x,r=some x→x.ep≠gE) (kE:mf (gh ss) seen gE gT k e=(gh ss,gE,uz gE x)):gC prog 45 [ptr p,.agg (gS (j4 gE gT gF e) (.slice kd.1 0 kd.2) vd).toArray] (CS++H) fun r0 gr=>r0=.tuple #[.agg (gS (uz gE x) (.slice none 0 0) (.slice none 0 0)).toArray,.int .i64 0]∧∃iH D,iY 115 112 179 185 223 229 248 3 77 p pd ps ss gE none L iH∧gr=iH++(D++H):=by
 refine gC.enter func45 rfl ntmps45 rfl ?_
 intro w0 R
 have ie:=hj.jW gz
 obtain ⟨vp,pj,vr,CJ,CR,V,rfl,hJ,hR,hP⟩:=hS
 obtain ⟨jR,dc,rfl,_⟩:=hd.form
 have sD:e.gF=gF+1#64:=by rw[←lR,BitVec.sub_add_cancel]
 have qJ:(js (gh ss)).toNat=(gh ss).length:=nO gz
 refine gY (iV fun b3=>?_)
 refine iS iP fun b4=>?_
 refine g_ [3] ?_
 refine aI (fun _z:Unit=>True) (fun _z:Unit=>[]) (fun _z:Unit=>row b4 (gS jF (.slice none 0 0) (.slice none 0 0)) 104::(row b3 (gS (j4 gE gT gF e) (.slice kd.1 0 kd.2) (.slice jR (iB e).length dc)) 104::((row p (iN vp pj seen vr) 115::(CJ++(CR++V)))++H))) ?_ ?_
 refine g_ [4] ?_
 refine ae rfl (an underlying32 rfl rfl) (g_ [1016,5] ?_)
 rcases Fb hR with ⟨rfl,rfl,rfl⟩|⟨r9,q,pl,CL,rfl,rfl,rfl,ky,jG⟩
 refine g_ [518] ?_
 refine w_ [0,1,1003,2,3] ?_
 refine gW 4 [3] rfl (aK underlying108 rfl rfl) fa ?_
 refine w_ [9001,5,6,7,8,9,10,11,12,13,14,15,16,17] ?_
 refine gM ?_
 refine g_ [4] ?_
 exact ah (()) (eX) (gL) (Sp.all fc)
 refine g_ [518] ?_
 refine w_ [0,1,1003,2,3] ?_
 refine gW 4 [3] rfl (aK underlying108 rfl rfl) fa ?_
 refine w_ [9002,5,6,7,1003,8,9,10,1000,11,12,1001,13,14] ?_
 refine jP 15 [14,12,5] 24 rfl rfl (aD _ _ rfl rfl rfl rfl) fa ?_
 refine lL (jk _ rfl) (w_ [16,17] ?_)
 refine gM ?_
 refine g_ [4] ?_
 exact ah (()) (eX) (gL) (Sp.all fc)
 intro _ _
 refine g_ [3] ?_
 refine c_ call51 rfl (yu p pd ps gN ss hj gz gz seen r L (row p (iN vp pj seen vr) 115::(CJ++(CR++V))) (iY.v (⟨vp,pj,vr,CJ,CR,V,rfl,hJ,hR,hP⟩:iY 115 112 179 185 223 229 248 3 77 p pd ps ss seen r L _))) ?_
 rintro HW FJ ⟨A,hA,rfl⟩
 obtain ⟨ao,ac,rfl,_⟩:=VS.form (EO.ev hA)
 refine g_ [4,517] ?_
 refine w_ [0,1,2,1002,3,4,2011,5] ?_
 refine pe [(6,[5,4,0]),(12,[])] fa (ig ?_ (ig ?_ (jl)))
 refine kP ?_
 refine iI rfl call85 rfl (yw _ (gh ss) gz hj.row seen gE gT gF e he h0 ho lR kZ hold k hk ja kd _ (A++H) (VS.mono (EO.ev hA) fun c hc=>dw _ hc) (hd.mono fun c hc=>dq _ hc)) ?_
 rintro wD wH ⟨vo,A2,rfl,jU,rfl⟩
 rw[kE] at jU ⊢
 replace jU:EV vo (gh ss) A2:=jU
 obtain ⟨oo,zR,rfl,_⟩:=VS.form jU
 refine gG ?_
 refine w_ [7,8,9,10,11] ?_
 refine gD 12 ?_
 refine nQ iP fun b9=>?_
 refine gG ?_
 refine w_ [13,14] ?_
 refine gD 15 ?_
 refine jT 11 ?_
 refine gG ?_
 refine w_ [16] ?_
 refine gM ?_
 refine g_ [5,702,1052,10,102] ?_
 refine WL.s (aq (iT:=iN vp pj gE vr) fa rfl rfl gA ir (by show 0+2<4;decide) rfl ⟨rfl,?_⟩)
 refine g_ [6] ?_
 refine iG call17 rfl (wu p pd ps gN ss hj gz gz gE r L _ (kX.mono (iY.v (⟨vp,pj,vr,CJ,CR,V,rfl,hJ,hR,hP⟩:iY 115 112 179 185 223 229 248 3 77 p pd ps ss gE r L _)) (Sp.sub fc))) ?_
 refine g_ [1,705] ?_
 refine kl 62 rfl (show ((nV r).toNat:Int)<(gE.toNat:Int) by omega) ?_
 refine g_ [6,103] ?_
 refine WL.s (aq (iT:=iN vp pj gE (.pointer none)) fa rfl rfl gA ir (by show 0+3<4;decide) rfl ⟨rfl,?_⟩)
 refine g_ [4,533] ?_
 refine w_ [1000,0,1,1002,2] ?_
 refine qf (show ¬(3:Int)=2 by decide) ?_
 refine w_ [3,4,5,6,7,8,9,10,11,12,13,14,15,16,17,18,19,20,21,22,23,24,25,26,27,28,29,30,31,32] ?_
 refine gM ?_
 refine g_ [4,411,311,5] ?_
 refine au (s:=11) ((row p (iN vp pj gE (.pointer none)) 115::(CJ++([]++V)))++(((A++A2)++CR)++H)) results45 fa rfl rfl iz gA fc ?_
 exact ⟨rfl,_,_,⟨vp,pj,_,CJ,_,V,rfl,hJ,⟨rfl,rfl⟩,hP⟩,rfl⟩
 refine kP ?_
 refine nQ iP fun b9=>?_
 refine iO [111,0] ?_
 refine gD 6 ?_
 refine iI rfl call85 rfl (yw _ (gh ss) gz hj.row seen gE gT gF e he h0 ho lR kZ hold k hk ja kd _ (A++H) (VS.mono (EO.ev hA) fun c hc=>dw _ hc) (hd.mono fun c hc=>dq _ hc)) ?_
 rintro wD wH ⟨vo,A2,rfl,jU,rfl⟩
 rw[kE] at jU ⊢
 replace jU:EV vo (gh ss) A2:=jU
 obtain ⟨oo,zR,rfl,_⟩:=VS.form jU
 refine gG ?_
 refine w_ [7,8,9,10,11,13,14] ?_
 refine gD 15 ?_
 refine jT 11 ?_
 refine gG ?_
 refine w_ [16] ?_
 refine gM ?_
 refine g_ [5,702,1052,10,102] ?_
 refine WL.s (aq (iT:=iN vp pj gE vr) fa rfl rfl gA ir (by show 0+2<4;decide) rfl ⟨rfl,?_⟩)
 refine g_ [6] ?_
 refine iG call17 rfl (wu p pd ps gN ss hj gz gz gE r L _ (kX.mono (iY.v (⟨vp,pj,vr,CJ,CR,V,rfl,hJ,hR,hP⟩:iY 115 112 179 185 223 229 248 3 77 p pd ps ss gE r L _)) (Sp.sub fc))) ?_
 refine g_ [1,705] ?_
 refine kl 62 rfl (show ((nV r).toNat:Int)<(gE.toNat:Int) by omega) ?_
 refine g_ [6,103] ?_
 refine WL.s (aq (iT:=iN vp pj gE (.pointer none)) fa rfl rfl gA ir (by show 0+3<4;decide) rfl ⟨rfl,?_⟩)
 refine g_ [4,533] ?_
 refine w_ [1000,0,1,1002,2] ?_
 refine qf (show ¬(3:Int)=2 by decide) ?_
 refine w_ [3,4,5,6,7,8,9,10,11,12,13,14,15,16,17,18,19,20,21,22,23,24,25,26,27,28,29,30,31,32] ?_
 refine gM ?_
 refine g_ [4,411,311,5] ?_
 refine au (s:=11) ((row p (iN vp pj gE (.pointer none)) 115::(CJ++([]++V)))++(((A++A2)++CR)++H)) results45 fa rfl rfl iz gA fc ?_
 exact ⟨rfl,_,_,⟨vp,pj,_,CJ,_,V,rfl,hJ,⟨rfl,rfl⟩,hP⟩,rfl⟩
theorem agR (p pd:Nat) (ps:List (List ia)) (gN:∀q∈ps,jh q) (ss:List gR) (hj:iM ss) (hb:(gh ss).length≤125) (seen:BitVec 32) (r:Option Rl) (L:Ld) (CS:List Ck) (hS:iY 115 112 179 185 223 229 248 3 77 p pd ps ss seen r L CS) (gE gT:BitVec 32) (gF:BitVec 64) (e:En) (he:iZ e) (h0:gE≠0#32) (ho:gT=0#32↔gF=0#64) (lR:e.gF-1#64=gF) (kZ:e.ep.toNat≤gE.toNat) (hold:gT.toNat≤e.ep.toNat) (k:Nat) (hk:gF.toNat=k) (ja:k≤(gh ss).length→(k≠0→ke (gh ss) k=gT)→mE ((gh ss).take k++[e])) (kd:Option Addr×Nat) (vd:Value) (H:List Ck) (hd:Bs vd (iB e) H) (jB:0<gE.toNat) (G5:(nV r).toNat<gE.toNat) (jZ:k<(gh ss).length) (jk:∀x,r=some x→x.ep≠gE) (kE:mf (gh ss) seen gE gT k e=(gh ss,gE,mq gE e.gF)):gC prog 45 [ptr p,.agg (gS (j4 gE gT gF e) (.slice kd.1 0 kd.2) vd).toArray] (CS++H) fun r0 gr=>r0=.tuple #[.agg (gS (mq gE e.gF) (.slice none 0 0) (.slice none 0 0)).toArray,.int .i64 0]∧∃iH D,iY 115 112 179 185 223 229 248 3 77 p pd ps ss gE none L iH∧gr=iH++(D++H):=by
 refine gC.enter func45 rfl ntmps45 rfl ?_
 intro w0 R
 have ie:=hj.jW gz
 obtain ⟨vp,pj,vr,CJ,CR,V,rfl,hJ,hR,hP⟩:=hS
 obtain ⟨jR,dc,rfl,_⟩:=hd.form
 have sD:e.gF=gF+1#64:=by rw[←lR,BitVec.sub_add_cancel]
 have qJ:(js (gh ss)).toNat=(gh ss).length:=nO gz
 refine gY (iV fun b3=>?_)
 refine iS iP fun b4=>?_
 refine g_ [3] ?_
 refine aI (fun _z:Unit=>True) (fun _z:Unit=>[]) (fun _z:Unit=>row b4 (gS jF (.slice none 0 0) (.slice none 0 0)) 104::(row b3 (gS (j4 gE gT gF e) (.slice kd.1 0 kd.2) (.slice jR (iB e).length dc)) 104::((row p (iN vp pj seen vr) 115::(CJ++(CR++V)))++H))) ?_ ?_
 refine g_ [4] ?_
 refine ae rfl (an underlying32 rfl rfl) (g_ [1016,5] ?_)
 rcases Fb hR with ⟨rfl,rfl,rfl⟩|⟨r9,q,pl,CL,rfl,rfl,rfl,ky,jG⟩
 refine g_ [518] ?_
 refine w_ [0,1,1003,2,3] ?_
 refine gW 4 [3] rfl (aK underlying108 rfl rfl) fa ?_
 refine w_ [9001,5,6,7,8,9,10,11,12,13,14,15,16,17] ?_
 refine gM ?_
 refine g_ [4] ?_
 exact ah (()) (eX) (gL) (Sp.all fc)
 refine g_ [518] ?_
 refine w_ [0,1,1003,2,3] ?_
 refine gW 4 [3] rfl (aK underlying108 rfl rfl) fa ?_
 refine w_ [9002,5,6,7,1003,8,9,10,1000,11,12,1001,13,14] ?_
 refine jP 15 [14,12,5] 24 rfl rfl (aD _ _ rfl rfl rfl rfl) fa ?_
 refine lL (jk _ rfl) (w_ [16,17] ?_)
 refine gM ?_
 refine g_ [4] ?_
 exact ah (()) (eX) (gL) (Sp.all fc)
 intro _ _
 refine g_ [3] ?_
 refine c_ call51 rfl (yu p pd ps gN ss hj gz gz seen r L (row p (iN vp pj seen vr) 115::(CJ++(CR++V))) (iY.v (⟨vp,pj,vr,CJ,CR,V,rfl,hJ,hR,hP⟩:iY 115 112 179 185 223 229 248 3 77 p pd ps ss seen r L _))) ?_
 rintro HW FJ ⟨A,hA,rfl⟩
 obtain ⟨ao,ac,rfl,_⟩:=VS.form (EO.ev hA)
 refine g_ [4,517] ?_
 refine w_ [0,1,2,1002,3,4,2011,5] ?_
 refine pe [(6,[5,4,0]),(12,[])] fa (ig ?_ (ig ?_ (jl)))
 refine kP ?_
 refine iI rfl call85 rfl (yw _ (gh ss) gz hj.row seen gE gT gF e he h0 ho lR kZ hold k hk ja kd _ (A++H) (VS.mono (EO.ev hA) fun c hc=>dw _ hc) (hd.mono fun c hc=>dq _ hc)) ?_
 rintro wD wH ⟨vo,A2,rfl,jU,rfl⟩
 rw[kE] at jU ⊢
 replace jU:EV vo (gh ss) A2:=jU
 obtain ⟨oo,zR,rfl,_⟩:=VS.form jU
 refine gG ?_
 refine w_ [7,8,9,10,11] ?_
 refine gD 12 ?_
 refine nQ iP fun b9=>?_
 refine gG ?_
 refine w_ [13,14] ?_
 refine gD 15 ?_
 refine jT 11 ?_
 refine gG ?_
 refine w_ [16] ?_
 refine gM ?_
 refine g_ [5,702,1052,10,102] ?_
 refine WL.s (aq (iT:=iN vp pj gE vr) fa rfl rfl gA ir (by show 0+2<4;decide) rfl ⟨rfl,?_⟩)
 refine g_ [6] ?_
 refine iG call17 rfl (wu p pd ps gN ss hj gz gz gE r L _ (kX.mono (iY.v (⟨vp,pj,vr,CJ,CR,V,rfl,hJ,hR,hP⟩:iY 115 112 179 185 223 229 248 3 77 p pd ps ss gE r L _)) (Sp.sub fc))) ?_
 refine g_ [1,705] ?_
 refine kl 62 rfl (show ((nV r).toNat:Int)<(gE.toNat:Int) by omega) ?_
 refine g_ [6,103] ?_
 refine WL.s (aq (iT:=iN vp pj gE (.pointer none)) fa rfl rfl gA ir (by show 0+3<4;decide) rfl ⟨rfl,?_⟩)
 refine g_ [4,533] ?_
 have yi:(gh ss).length-1<(gh ss).length:=by omega
 have zy:=hj.row.mG.ok _ (dG yi)
 obtain ⟨b1,o1,si,lV,T1,ra,qY,kL,zi,kM,c1,⟨DG,DF,rfl,np,nL⟩,rY⟩:=VS.rowAt jU (i:=(gh ss).length-1) yi gB
 simp only[dI,eD] at kL
 obtain ⟨rfl,rfl⟩:=kL
 obtain ⟨kW,kV,rfl,_⟩:=np.form
 obtain ⟨lq,lp,rfl,_⟩:=nL.form
 obtain ⟨b2,o2,F5,tF,T2,sr,nW,tU,GB,kD,c2,⟨Pw,Pv,rfl,w2,wZ⟩,CY⟩:=VS.rowAt (EO.ev hA) (i:=(gh ss).length-1) yi gB
 simp only[dI,eD] at tU
 obtain ⟨rfl,rfl⟩:=tU
 obtain ⟨we,wb,rfl,_⟩:=w2.form
 obtain ⟨xR,xP,rfl,_⟩:=wZ.form
 refine w_ [1000,0,1,1002,2] ?_
 refine lL (fun h=>h rfl) ?_
 refine w_ [3,1003,4,5,1003,6,7] ?_
 refine jP 8 [7,3] 69 rfl rfl (aY _ (1#64) rfl rfl rfl rfl) fa ?_
 refine jP 9 [8,5,3] 69 rfl rfl (bA _ _ rfl rfl rfl rfl) fa ?_
 refine lL (fun h=>h sD) ?_
 refine w_ [10,11,12,3077,13,14,3077,15,1001,16] ?_
 refine qf rfl (w_ [17,18,19,3077,20,1004,21] ?_)
 refine jP 22 [21,18,17] 83 rfl rfl (Yd.indexAddr (e:=77) (s:=11) fa fa rfl rfl gz gz) fa ?_
 refine ki 23 [22,17] 83 rfl rfl rfl (aE (n:=11) (vs:=enc (gh ss)[(gh ss).length-1] (.slice kW (gh ss)[(gh ss).length-1].key.length kV) (.slice lq (gh ss)[(gh ss).length-1].data.length lp)) (cs:=lV) fa rfl (aA (C:=A2) fc kM) rfl (by rw[show o1+(((gh ss).length:Int)-1).toNat*11=o1+((gh ss).length-1)*11 by omega];exact rY)) ?_
 refine w_ [24,25,3077,26,1004,27] ?_
 refine jP 28 [27,24,17] 83 rfl rfl (Yd.indexAddr (e:=77) (s:=11) fa fa rfl rfl gz gz) fa ?_
 refine ki 29 [28,17] 83 rfl rfl rfl (aE (n:=11) (vs:=enc (gh ss)[(gh ss).length-1] (.slice we (gh ss)[(gh ss).length-1].key.length wb) (.slice xR (gh ss)[(gh ss).length-1].data.length xP)) (cs:=tF) fa rfl (aA (C:=A) fc kD) rfl (by rw[show o2+(((gh ss).length:Int)-1).toNat*11=o2+((gh ss).length-1)*11 by omega];exact CY)) ?_
 refine gD 30 ?_
 refine SO.c rfl (aP (dj:=83) rfl rfl) rfl (iE.func call86 rfl) (Ki (gh ss)[(gh ss).length-1] (gh ss)[(gh ss).length-1] zy zy _ _ _ _ (A++A2) (np.mono fun c hc=>dq _ hc) (nL.mono fun c hc=>dq _ hc) (w2.mono fun c hc=>dw _ hc) (wZ.mono fun c hc=>dw _ hc)) (Sp.p fc) ?_
 rintro KI Ij ⟨rfl,G,rfl⟩
 refine iO [0,0,0] ?_
 refine w_ [31] ?_
 refine qf rfl (w_ [32] ?_)
 refine gM ?_
 refine g_ [4,411,311,5] ?_
 refine au (s:=11) ((row p (iN vp pj gE (.pointer none)) 115::(CJ++([]++V)))++(((A++A2)++CR++G)++H)) results45 fa rfl rfl iz gA fc ?_
 exact ⟨rfl,_,_,⟨vp,pj,_,CJ,_,V,rfl,hJ,⟨rfl,rfl⟩,hP⟩,rfl⟩
 refine kP ?_
 refine nQ iP fun b9=>?_
 refine iO [111,0] ?_
 refine gD 6 ?_
 refine iI rfl call85 rfl (yw _ (gh ss) gz hj.row seen gE gT gF e he h0 ho lR kZ hold k hk ja kd _ (A++H) (VS.mono (EO.ev hA) fun c hc=>dw _ hc) (hd.mono fun c hc=>dq _ hc)) ?_
 rintro wD wH ⟨vo,A2,rfl,jU,rfl⟩
 rw[kE] at jU ⊢
 replace jU:EV vo (gh ss) A2:=jU
 obtain ⟨oo,zR,rfl,_⟩:=VS.form jU
 refine gG ?_
 refine w_ [7,8,9,10,11,13,14] ?_
 refine gD 15 ?_
 refine jT 11 ?_
 refine gG ?_
 refine w_ [16] ?_
 refine gM ?_
 refine g_ [5,702,1052,10,102] ?_
 refine WL.s (aq (iT:=iN vp pj gE vr) fa rfl rfl gA ir (by show 0+2<4;decide) rfl ⟨rfl,?_⟩)
 refine g_ [6] ?_
 refine iG call17 rfl (wu p pd ps gN ss hj gz gz gE r L _ (kX.mono (iY.v (⟨vp,pj,vr,CJ,CR,V,rfl,hJ,hR,hP⟩:iY 115 112 179 185 223 229 248 3 77 p pd ps ss gE r L _)) (Sp.sub fc))) ?_
 refine g_ [1,705] ?_
 refine kl 62 rfl (show ((nV r).toNat:Int)<(gE.toNat:Int) by omega) ?_
 refine g_ [6,103] ?_
 refine WL.s (aq (iT:=iN vp pj gE (.pointer none)) fa rfl rfl gA ir (by show 0+3<4;decide) rfl ⟨rfl,?_⟩)
 refine g_ [4,533] ?_
 have yi:(gh ss).length-1<(gh ss).length:=by omega
 have zy:=hj.row.mG.ok _ (dG yi)
 obtain ⟨b1,o1,si,lV,T1,ra,qY,kL,zi,kM,c1,⟨DG,DF,rfl,np,nL⟩,rY⟩:=VS.rowAt jU (i:=(gh ss).length-1) yi gB
 simp only[dI,eD] at kL
 obtain ⟨rfl,rfl⟩:=kL
 obtain ⟨kW,kV,rfl,_⟩:=np.form
 obtain ⟨lq,lp,rfl,_⟩:=nL.form
 obtain ⟨b2,o2,F5,tF,T2,sr,nW,tU,GB,kD,c2,⟨Pw,Pv,rfl,w2,wZ⟩,CY⟩:=VS.rowAt (EO.ev hA) (i:=(gh ss).length-1) yi gB
 simp only[dI,eD] at tU
 obtain ⟨rfl,rfl⟩:=tU
 obtain ⟨we,wb,rfl,_⟩:=w2.form
 obtain ⟨xR,xP,rfl,_⟩:=wZ.form
 refine w_ [1000,0,1,1002,2] ?_
 refine lL (fun h=>h rfl) ?_
 refine w_ [3,1003,4,5,1003,6,7] ?_
 refine jP 8 [7,3] 69 rfl rfl (aY _ (1#64) rfl rfl rfl rfl) fa ?_
 refine jP 9 [8,5,3] 69 rfl rfl (bA _ _ rfl rfl rfl rfl) fa ?_
 refine lL (fun h=>h sD) ?_
 refine w_ [10,11,12,3077,13,14,3077,15,1001,16] ?_
 refine qf rfl (w_ [17,18,19,3077,20,1004,21] ?_)
 refine jP 22 [21,18,17] 83 rfl rfl (Yd.indexAddr (e:=77) (s:=11) fa fa rfl rfl gz gz) fa ?_
 refine ki 23 [22,17] 83 rfl rfl rfl (aE (n:=11) (vs:=enc (gh ss)[(gh ss).length-1] (.slice kW (gh ss)[(gh ss).length-1].key.length kV) (.slice lq (gh ss)[(gh ss).length-1].data.length lp)) (cs:=lV) fa rfl (aA (C:=A2) fc kM) rfl (by rw[show o1+(((gh ss).length:Int)-1).toNat*11=o1+((gh ss).length-1)*11 by omega];exact rY)) ?_
 refine w_ [24,25,3077,26,1004,27] ?_
 refine jP 28 [27,24,17] 83 rfl rfl (Yd.indexAddr (e:=77) (s:=11) fa fa rfl rfl gz gz) fa ?_
 refine ki 29 [28,17] 83 rfl rfl rfl (aE (n:=11) (vs:=enc (gh ss)[(gh ss).length-1] (.slice we (gh ss)[(gh ss).length-1].key.length wb) (.slice xR (gh ss)[(gh ss).length-1].data.length xP)) (cs:=tF) fa rfl (aA (C:=A) fc kD) rfl (by rw[show o2+(((gh ss).length:Int)-1).toNat*11=o2+((gh ss).length-1)*11 by omega];exact CY)) ?_
 refine gD 30 ?_
 refine SO.c rfl (aP (dj:=83) rfl rfl) rfl (iE.func call86 rfl) (Ki (gh ss)[(gh ss).length-1] (gh ss)[(gh ss).length-1] zy zy _ _ _ _ (A++A2) (np.mono fun c hc=>dq _ hc) (nL.mono fun c hc=>dq _ hc) (w2.mono fun c hc=>dw _ hc) (wZ.mono fun c hc=>dw _ hc)) (Sp.p fc) ?_
 rintro KI Ij ⟨rfl,G,rfl⟩
 refine iO [0,0,0] ?_
 refine w_ [31] ?_
 refine qf rfl (w_ [32] ?_)
 refine gM ?_
 refine g_ [4,411,311,5] ?_
 refine au (s:=11) ((row p (iN vp pj gE (.pointer none)) 115::(CJ++([]++V)))++(((A++A2)++CR++G)++H)) results45 fa rfl rfl iz gA fc ?_
 exact ⟨rfl,_,_,⟨vp,pj,_,CJ,_,V,rfl,hJ,⟨rfl,rfl⟩,hP⟩,rfl⟩
theorem agQ (p pd:Nat) (ps:List (List ia)) (gN:∀q∈ps,jh q) (ss:List gR) (hj:iM ss) (hb:(gh ss).length≤125) (seen:BitVec 32) (r:Option Rl) (L:Ld) (CS:List Ck) (hS:iY 115 112 179 185 223 229 248 3 77 p pd ps ss seen r L CS) (gI:List (BitVec 8)) (CD:List Ck) (hD:jo 97 127 129 pd gI 0 CD) (hH:Holds gI ss) (gE gT:BitVec 32) (gF:BitVec 64) (e:En) (he:iZ e) (h0:gE≠0#32) (ho:gT=0#32↔gF=0#64) (lR:e.gF-1#64=gF) (kZ:e.ep.toNat≤gE.toNat) (hold:gT.toNat≤e.ep.toNat) (k:Nat) (hk:gF.toNat=k) (ja:k≤(gh ss).length→(k≠0→ke (gh ss) k=gT)→mE ((gh ss).take k++[e])) (kd:Option Addr×Nat) (vd:Value) (H:List Ck) (hd:Bs vd (iB e) H) (jB:0<gE.toNat) (G5:(nV r).toNat<gE.toNat) (uT:mn ((gh ss).take k++[e])) (zG:(iB e).length≤30) (ajb:k≤(gh ss).length) (tN:∀h:k<(gh ss).length,iB e≠iB (gh ss)[k]) (jk:∀x,r=some x→x.ep≠gE) (kE:mf (gh ss) seen gE gT k e=(((gh ss).take k++[e]),gE,mq gE e.gF)):gC prog 45 [ptr p,.agg (gS (j4 gE gT gF e) (.slice kd.1 0 kd.2) vd).toArray] (CS++(CD++H)) fun r0 gr=>r0=.tuple #[.agg (gS (mq gE e.gF) (.slice none 0 0) (.slice none 0 0)).toArray,.int .i64 0]∧∃iQ jN iH jb D,iY 115 112 179 185 223 229 248 3 77 p pd ps iQ gE none L iH∧jo 97 127 129 pd jN 0 jb∧Holds jN iQ∧iM iQ∧gh iQ=(gh ss).take k++[e]∧gr=iH++(jb++(D++H)):=by
 refine gC.enter func45 rfl ntmps45 rfl ?_
 intro w0 R
 have ie:=hj.jW gz
 obtain ⟨vp,pj,vr,CJ,CR,V,rfl,hJ,hR,hP⟩:=hS
 obtain ⟨jR,dc,rfl,_⟩:=hd.form
 have sD:e.gF=gF+1#64:=by rw[←lR,BitVec.sub_add_cancel]
 have qJ:(js (gh ss)).toNat=(gh ss).length:=nO gz
 refine gY (iV fun b3=>?_)
 refine iS iP fun b4=>?_
 refine g_ [3] ?_
 refine aI (fun _z:Unit=>True) (fun _z:Unit=>[]) (fun _z:Unit=>row b4 (gS jF (.slice none 0 0) (.slice none 0 0)) 104::(row b3 (gS (j4 gE gT gF e) (.slice kd.1 0 kd.2) (.slice jR (iB e).length dc)) 104::((row p (iN vp pj seen vr) 115::(CJ++(CR++V)))++(CD++H)))) ?_ ?_
 refine g_ [4] ?_
 refine ae rfl (an underlying32 rfl rfl) (g_ [1016,5] ?_)
 rcases Fb hR with ⟨rfl,rfl,rfl⟩|⟨r9,q,pl,CL,rfl,rfl,rfl,ky,jG⟩
 refine g_ [518] ?_
 refine w_ [0,1,1003,2,3] ?_
 refine gW 4 [3] rfl (aK underlying108 rfl rfl) fa ?_
 refine w_ [9001,5,6,7,8,9,10,11,12,13,14,15,16,17] ?_
 refine gM ?_
 refine g_ [4] ?_
 exact ah (()) (eX) (gL) (Sp.all fc)
 refine g_ [518] ?_
 refine w_ [0,1,1003,2,3] ?_
 refine gW 4 [3] rfl (aK underlying108 rfl rfl) fa ?_
 refine w_ [9002,5,6,7,1003,8,9,10,1000,11,12,1001,13,14] ?_
 refine jP 15 [14,12,5] 24 rfl rfl (aD _ _ rfl rfl rfl rfl) fa ?_
 refine lL (jk _ rfl) (w_ [16,17] ?_)
 refine gM ?_
 refine g_ [4] ?_
 exact ah (()) (eX) (gL) (Sp.all fc)
 intro _ _
 refine g_ [3] ?_
 refine c_ call51 rfl (yu p pd ps gN ss hj gz gz seen r L (row p (iN vp pj seen vr) 115::(CJ++(CR++V))) (iY.v (⟨vp,pj,vr,CJ,CR,V,rfl,hJ,hR,hP⟩:iY 115 112 179 185 223 229 248 3 77 p pd ps ss seen r L _))) ?_
 rintro HW FJ ⟨A,hA,rfl⟩
 obtain ⟨ao,ac,rfl,_⟩:=VS.form (EO.ev hA)
 refine g_ [4,517] ?_
 refine w_ [0,1,2,1002,3,4,2011,5] ?_
 refine pe [(6,[5,4,0]),(12,[])] fa (ig ?_ (ig ?_ (jl)))
 refine kP ?_
 refine iI rfl call85 rfl (yw _ (gh ss) gz hj.row seen gE gT gF e he h0 ho lR kZ hold k hk ja kd _ (A++H) (VS.mono (EO.ev hA) fun c hc=>dw _ hc) (hd.mono fun c hc=>dq _ hc)) ?_
 rintro wD wH ⟨vo,A2,rfl,jU,rfl⟩
 rw[kE] at jU ⊢
 replace jU:EV vo (((gh ss).take k++[e])) A2:=jU
 obtain ⟨oo,zR,rfl,_⟩:=VS.form jU
 have th:((gh ss).take k++[e]).length=k+1:=by rw[dr,dE,dZ,eE gz]
 have zu:k<((gh ss).take k++[e]).length:=by omega
 have EI:((gh ss).take k++[e])[k]=e:=by rw[List.getElem_append_right (by rw[dE];omega)];simp
 obtain ⟨b1,o1,si,lV,T1,ra,qY,kL,zi,kM,c1,⟨DG,DF,rfl,np,nL⟩,rY⟩:=VS.rowAt jU (i:=k) zu gB
 simp only[dI,eD] at kL
 obtain ⟨rfl,rfl⟩:=kL
 obtain ⟨kW,kV,rfl,_⟩:=np.form
 obtain ⟨lq,lp,rfl,_⟩:=nL.form
 rw[EI] at np nL rY
 refine gG ?_
 refine w_ [7,8,9,10,11] ?_
 refine gD 12 ?_
 refine nQ iP fun b9=>?_
 refine gG ?_
 refine w_ [13,14] ?_
 refine gD 15 ?_
 refine jT 11 ?_
 refine gG ?_
 refine w_ [16] ?_
 refine gM ?_
 refine g_ [5,702,1052,10,102] ?_
 refine WL.s (aq (iT:=iN vp pj gE vr) fa rfl rfl gA ir (by show 0+2<4;decide) rfl ⟨rfl,?_⟩)
 refine g_ [6] ?_
 refine iG call17 rfl (wu p pd ps gN ss hj gz gz gE r L _ (kX.mono (iY.v (⟨vp,pj,vr,CJ,CR,V,rfl,hJ,hR,hP⟩:iY 115 112 179 185 223 229 248 3 77 p pd ps ss gE r L _)) (Sp.sub fc))) ?_
 refine g_ [1,705] ?_
 refine kl 62 rfl (show ((nV r).toNat:Int)<(gE.toNat:Int) by omega) ?_
 refine g_ [6,103] ?_
 refine WL.s (aq (iT:=iN vp pj gE (.pointer none)) fa rfl rfl gA ir (by show 0+3<4;decide) rfl ⟨rfl,?_⟩)
 refine qb (aI (fun G:List Ck=>True) (fun G:List Ck=>[]) (fun G:List Ck=>row b9 (gS (mq gE e.gF) (.slice none 0 0) (.slice none 0 0)) 104::(row b4 (gS jF (.slice none 0 0) (.slice none 0 0)) 104::(row b3 (gS (j4 gE gT gF e) (.slice kd.1 0 kd.2) (.slice jR (iB e).length dc)) 104::((row p (iN vp pj gE (.pointer none)) 115::(CJ++([]++V)))++(CD++((A++A2)++(CR++(G++H)))))))) ?_ ?_)
 refine WC.seq ?_
 rcases (show (k<(gh ss).length∧k+1=(gh ss).length)∨(k<(gh ss).length∧k+1≠(gh ss).length)∨k=(gh ss).length by omega) with ⟨jZ,qI⟩|⟨jZ,qI⟩|jZ
 refine g_ [533] ?_
 refine w_ [1000,0,1,1002,2] ?_
 refine lL (fun h=>h rfl) ?_
 refine w_ [3,1003,4,5,1003,6,7] ?_
 refine jP 8 [7,3] 69 rfl rfl (aY _ (1#64) rfl rfl rfl rfl) fa ?_
 refine jP 9 [8,5,3] 69 rfl rfl (bA _ _ rfl rfl rfl rfl) fa ?_
 refine lL (fun h=>h sD) ?_
 refine w_ [10,11,12,3077,13,14,3077,15,1001,16,9002,17,18,19,3077,20,1004,21] ?_
 refine jP 22 [21,18,17] 83 rfl rfl (Yd.indexAddr (e:=77) (s:=11) fa fa rfl rfl gz gz) fa ?_
 refine ki 23 [22,17] 83 rfl rfl rfl (aE (n:=11) (vs:=enc e (.slice kW e.key.length kV) (.slice lq e.data.length lp)) (cs:=lV) fa rfl (aA (C:=A2) fc kM) rfl (by rw[show o1+((((gh ss).take k++[e]).length:Int)-1).toNat*11=o1+(k)*11 by omega];exact rY)) ?_
 refine w_ [24,25,3077,26,1004,27] ?_
 have zy:=hj.row.mG.ok _ (dG jZ)
 obtain ⟨b2,o2,F5,tF,T2,sr,nW,tU,GB,kD,c2,⟨Pw,Pv,rfl,w2,wZ⟩,CY⟩:=VS.rowAt (EO.ev hA) (i:=k) jZ gB
 simp only[dI,eD] at tU
 obtain ⟨rfl,rfl⟩:=tU
 obtain ⟨we,wb,rfl,_⟩:=w2.form
 obtain ⟨xR,xP,rfl,_⟩:=wZ.form
 refine jP 28 [27,24,17] 83 rfl rfl (Yd.indexAddr (e:=77) (s:=11) fa fa rfl rfl gz gz) fa ?_
 refine ki 29 [28,17] 83 rfl rfl rfl (aE (n:=11) (vs:=enc (gh ss)[k] (.slice we (gh ss)[k].key.length wb) (.slice xR (gh ss)[k].data.length xP)) (cs:=tF) fa rfl (aA (C:=A) fc kD) rfl (by rw[show o2+((((gh ss).take k++[e]).length:Int)-1).toNat*11=o2+(k)*11 by omega];exact CY)) ?_
 refine gD 30 ?_
 refine SO.c rfl (aP (dj:=83) rfl rfl) rfl (iE.func call86 rfl) (Ki e (gh ss)[k] he zy _ _ _ _ (A++A2) (np.mono fun c hc=>dq _ hc) (nL.mono fun c hc=>dq _ hc) (w2.mono fun c hc=>dw _ hc) (wZ.mono fun c hc=>dw _ hc)) (Sp.p fc) ?_
 rintro KI Ij ⟨rfl,G,rfl⟩
 refine iO [0,0,0] ?_
 refine w_ [31] ?_
 refine lL (tN jZ) (w_ [32] ?_)
 refine gM ?_
 refine g_ [3] ?_
 refine gH (row b9 (gS (mq gE e.gF) (.slice none 0 0) (.slice none 0 0)) 104::(row b4 (gS jF (.slice none 0 0) (.slice none 0 0)) 104::(row b3 (gS (j4 gE gT gF e) (.slice kd.1 0 kd.2) (.slice jR (iB e).length dc)) 104::((row p (iN vp pj gE (.pointer none)) 115::(CJ++([]++V)))++(CD++((A++A2)++(CR++(G++H)))))))) ?_
 exact ah (G) (eX) (gL) (Sp.all fc)
 refine g_ [533] ?_
 refine w_ [1000,0,1,1002,2] ?_
 refine lL (fun h=>h rfl) ?_
 refine w_ [3,1003,4,5,1003,6,7] ?_
 refine jP 8 [7,3] 69 rfl rfl (aY _ (1#64) rfl rfl rfl rfl) fa ?_
 refine jP 9 [8,5,3] 69 rfl rfl (bA _ _ rfl rfl rfl rfl) fa ?_
 refine lL (fun h=>h sD) ?_
 refine w_ [10,11,12,3077,13,14,3077,15,1001,16,9001,17,18,19,20,21,22,23,24,25,26,27,28,29,30,31,32] ?_
 refine gM ?_
 refine g_ [3] ?_
 refine gH (row b9 (gS (mq gE e.gF) (.slice none 0 0) (.slice none 0 0)) 104::(row b4 (gS jF (.slice none 0 0) (.slice none 0 0)) 104::(row b3 (gS (j4 gE gT gF e) (.slice kd.1 0 kd.2) (.slice jR (iB e).length dc)) 104::((row p (iN vp pj gE (.pointer none)) 115::(CJ++([]++V)))++(CD++((A++A2)++(CR++([]++H)))))))) ?_
 exact ah ([]) (eX) (gL) (Sp.all fc)
 refine g_ [533] ?_
 refine w_ [1000,0,1,1002,2] ?_
 refine lL (fun h=>h rfl) ?_
 refine w_ [3,1003,4,5,1003,6,7] ?_
 refine jP 8 [7,3] 69 rfl rfl (aY _ (1#64) rfl rfl rfl rfl) fa ?_
 refine jP 9 [8,5,3] 69 rfl rfl (bA _ _ rfl rfl rfl rfl) fa ?_
 refine lL (fun h=>h sD) ?_
 refine w_ [10,11,12,3077,13,14,3077,15,1001,16,9001,17,18,19,20,21,22,23,24,25,26,27,28,29,30,31,32] ?_
 refine gM ?_
 refine g_ [3] ?_
 refine gH (row b9 (gS (mq gE e.gF) (.slice none 0 0) (.slice none 0 0)) 104::(row b4 (gS jF (.slice none 0 0) (.slice none 0 0)) 104::(row b3 (gS (j4 gE gT gF e) (.slice kd.1 0 kd.2) (.slice jR (iB e).length dc)) 104::((row p (iN vp pj gE (.pointer none)) 115::(CJ++([]++V)))++(CD++((A++A2)++(CR++([]++H)))))))) ?_
 exact ah ([]) (eX) (gL) (Sp.all fc)
 intro G _
 refine aI (fun z:List gR×List (BitVec 8)×BitVec 64×List Ck×List Ck=>na 223 229 248 3 77 pj pd z.1 z.2.2.1 z.2.2.2.1∧jo 97 127 129 pd z.2.1 0 z.2.2.2.2∧Holds z.2.1 z.1∧iM z.1∧gh z.1=(gh ss).take k) (fun z:List gR×List (BitVec 8)×BitVec 64×List Ck×List Ck=>[]) (fun z:List gR×List (BitVec 8)×BitVec 64×List Ck×List Ck=>row b9 (gS (mq gE e.gF) (.slice none 0 0) (.slice none 0 0)) 104::(row b4 (gS jF (.slice none 0 0) (.slice none 0 0)) 104::(row b3 (gS (j4 gE gT gF e) (.slice kd.1 0 kd.2) (.slice jR (iB e).length dc)) 104::((row p (iN vp pj gE (.pointer none)) 115::(z.2.2.2.1++([]++V)))++(z.2.2.2.2++((A++A2)++(CR++(G++H)))))))) ?_ ?_
 refine WC.seq ?_
 rcases (show (k<(gh ss).length∧k+1=(gh ss).length)∨(k<(gh ss).length∧k+1≠(gh ss).length)∨k=(gh ss).length by omega) with ⟨jZ,qI⟩|⟨jZ,qI⟩|jZ
 refine g_ [508] ?_
 refine w_ [0,1,1001,2,3] ?_
 refine jy 4 [3] rfl call64 rfl (qM pj pd ss _ _ (JV.mono (na.v hJ) (Sp.sub fc)) gz hj gz) ax ?_
 refine w_ [1003,5,6,1007,7] ?_
 refine qf (show (gF.toNat:Int)<((js (gh ss)).toNat:Int) by omega) ?_
 refine gM ?_
 refine g_ [3,508] ?_
 refine w_ [0,1,1001,2,3,1003,4,5] ?_
 refine gD 6 ?_
 have CV:ss≠[]:=fun q=>by rw[q] at jZ;exact absurd jZ (gl _)
 refine iI rfl call87 rfl (JJ pj pd ss _ CJ hJ gI 0 CD hD hj hH gz CV gz gF k hk gz []) ?_
 rintro KE Ie ⟨xA,xm,rH,ml,rfl,rQ,ot,uJ,pO,ox,rfl⟩
 refine gG ?_
 refine w_ [7] ?_
 refine gM ?_
 refine g_ [4,702,1116,4] ?_
 refine gH (row b9 (gS (mq gE e.gF) (.slice none 0 0) (.slice none 0 0)) 104::(row b4 (gS jF (.slice none 0 0) (.slice none 0 0)) 104::(row b3 (gS (j4 gE gT gF e) (.slice kd.1 0 kd.2) (.slice jR (iB e).length dc)) 104::((row p (iN vp pj gE (.pointer none)) 115::(rH++([]++V)))++(ml++((A++A2)++(CR++(G++H)))))))) ?_
 exact ah ((xA,xm,_,rH,ml)) (⟨rQ,ot,uJ,pO,ox⟩) (gL) (Sp.all fc)
 refine g_ [508] ?_
 refine w_ [0,1,1001,2,3] ?_
 refine jy 4 [3] rfl call64 rfl (qM pj pd ss _ _ (JV.mono (na.v hJ) (Sp.sub fc)) gz hj gz) ax ?_
 refine w_ [1003,5,6,1007,7] ?_
 refine qf (show (gF.toNat:Int)<((js (gh ss)).toNat:Int) by omega) ?_
 refine gM ?_
 refine g_ [3,508] ?_
 refine w_ [0,1,1001,2,3,1003,4,5] ?_
 refine gD 6 ?_
 have CV:ss≠[]:=fun q=>by rw[q] at jZ;exact absurd jZ (gl _)
 refine iI rfl call87 rfl (JJ pj pd ss _ CJ hJ gI 0 CD hD hj hH gz CV gz gF k hk gz []) ?_
 rintro KE Ie ⟨xA,xm,rH,ml,rfl,rQ,ot,uJ,pO,ox,rfl⟩
 refine gG ?_
 refine w_ [7] ?_
 refine gM ?_
 refine g_ [4,702,1116,4] ?_
 refine gH (row b9 (gS (mq gE e.gF) (.slice none 0 0) (.slice none 0 0)) 104::(row b4 (gS jF (.slice none 0 0) (.slice none 0 0)) 104::(row b3 (gS (j4 gE gT gF e) (.slice kd.1 0 kd.2) (.slice jR (iB e).length dc)) 104::((row p (iN vp pj gE (.pointer none)) 115::(rH++([]++V)))++(ml++((A++A2)++(CR++(G++H)))))))) ?_
 exact ah ((xA,xm,_,rH,ml)) (⟨rQ,ot,uJ,pO,ox⟩) (gL) (Sp.all fc)
 refine g_ [508] ?_
 refine w_ [0,1,1001,2,3] ?_
 refine jy 4 [3] rfl call64 rfl (qM pj pd ss _ _ (JV.mono (na.v hJ) (Sp.sub fc)) gz hj gz) ax ?_
 refine w_ [1003,5,6,1007,7] ?_
 refine lL (show ¬(gF.toNat:Int)<((js (gh ss)).toNat:Int) by omega) ?_
 refine gM ?_
 refine g_ [3] ?_
 refine gH (row b9 (gS (mq gE e.gF) (.slice none 0 0) (.slice none 0 0)) 104::(row b4 (gS jF (.slice none 0 0) (.slice none 0 0)) 104::(row b3 (gS (j4 gE gT gF e) (.slice kd.1 0 kd.2) (.slice jR (iB e).length dc)) 104::((row p (iN vp pj gE (.pointer none)) 115::(CJ++([]++V)))++(CD++((A++A2)++(CR++(G++H)))))))) ?_
 exact ah ((ss,gI,_,CJ,CD)) (⟨hJ,hD,hH,hj,(dL (Nat.le_of_eq jZ.symm)).symm⟩) (gL) (Sp.all fc)
 rintro ⟨xA,xm,sf,rH,ml⟩ ⟨rQ,ot,uJ,pO,ox⟩
 refine g_ [2,512] ?_
 refine w_ [0,1,1001,2,3,4,5,3077,6,1004,7] ?_
 refine gW 8 [7,4] rfl (Yd.indexAddr (e:=77) (s:=11) fa fa rfl rfl gz gz) fa ?_
 refine iD 9 [8] rfl (aE (n:=11) (vs:=enc e (.slice kW e.key.length kV) (.slice lq e.data.length lp)) (cs:=lV) fa rfl (aA (C:=A2) fc kM) rfl (by rw[show o1+((((gh ss).take k++[e]).length:Int)-1).toNat*11=o1+(k)*11 by omega];exact rY)) ?_
 refine gD 10 ?_
 refine iI rfl call68 rfl (NY pj pd xA _ rH rQ xm 0 ml ot pO uJ (by rw[ox,dE];omega) gz e he (by rw[ox];exact uT) zG _ _ A2 np nL) ?_
 rintro air XS ⟨Dy,Hm,n3,DJ,vA,rfl,Gu,zb,Mj,CQ,vU,tg,rfl⟩
 rw[ox] at vU
 have abU:(gh Dy).length≤126:=by rw[vU,th];omega
 have abo:=CQ.jW gz
 refine gG ?_
 refine w_ [11] ?_
 refine gM ?_
 refine g_ [4,702,1131,10,101,1] ?_
 refine c_ call69 rfl (NZ pj pd Dy _ DJ Gu Hm n3 vA zb CQ gz gz []) ?_
 rintro ais XT ⟨FE,FC,rfl,Mk,Mf,rfl⟩
 refine g_ [6,702,1140,7,411,311,4] ?_
 refine au (s:=11) ((row p (iN vp pj gE (.pointer none)) 115::(FE++([]++V)))++(FC++(((A++A2)++(CR++G))++H))) results45 fa rfl rfl iz gA fc ?_
 exact ⟨rfl,Dy,Hm,_,FC,_,⟨vp,pj,_,FE,[],V,rfl,Mk,⟨rfl,rfl⟩,hP⟩,Mf,Mj,CQ,vU,rfl⟩
 refine kP ?_
 refine nQ iP fun b9=>?_
 refine iO [111,0] ?_
 refine gD 6 ?_
 refine iI rfl call85 rfl (yw _ (gh ss) gz hj.row seen gE gT gF e he h0 ho lR kZ hold k hk ja kd _ (A++H) (VS.mono (EO.ev hA) fun c hc=>dw _ hc) (hd.mono fun c hc=>dq _ hc)) ?_
 rintro wD wH ⟨vo,A2,rfl,jU,rfl⟩
 rw[kE] at jU ⊢
 replace jU:EV vo (((gh ss).take k++[e])) A2:=jU
 obtain ⟨oo,zR,rfl,_⟩:=VS.form jU
 have th:((gh ss).take k++[e]).length=k+1:=by rw[dr,dE,dZ,eE gz]
 have zu:k<((gh ss).take k++[e]).length:=by omega
 have EI:((gh ss).take k++[e])[k]=e:=by rw[List.getElem_append_right (by rw[dE];omega)];simp
 obtain ⟨b1,o1,si,lV,T1,ra,qY,kL,zi,kM,c1,⟨DG,DF,rfl,np,nL⟩,rY⟩:=VS.rowAt jU (i:=k) zu gB
 simp only[dI,eD] at kL
 obtain ⟨rfl,rfl⟩:=kL
 obtain ⟨kW,kV,rfl,_⟩:=np.form
 obtain ⟨lq,lp,rfl,_⟩:=nL.form
 rw[EI] at np nL rY
 refine gG ?_
 refine w_ [7,8,9,10,11,13,14] ?_
 refine gD 15 ?_
 refine jT 11 ?_
 refine gG ?_
 refine w_ [16] ?_
 refine gM ?_
 refine g_ [5,702,1052,10,102] ?_
 refine WL.s (aq (iT:=iN vp pj gE vr) fa rfl rfl gA ir (by show 0+2<4;decide) rfl ⟨rfl,?_⟩)
 refine g_ [6] ?_
 refine iG call17 rfl (wu p pd ps gN ss hj gz gz gE r L _ (kX.mono (iY.v (⟨vp,pj,vr,CJ,CR,V,rfl,hJ,hR,hP⟩:iY 115 112 179 185 223 229 248 3 77 p pd ps ss gE r L _)) (Sp.sub fc))) ?_
 refine g_ [1,705] ?_
 refine kl 62 rfl (show ((nV r).toNat:Int)<(gE.toNat:Int) by omega) ?_
 refine g_ [6,103] ?_
 refine WL.s (aq (iT:=iN vp pj gE (.pointer none)) fa rfl rfl gA ir (by show 0+3<4;decide) rfl ⟨rfl,?_⟩)
 refine qb (aI (fun G:List Ck=>True) (fun G:List Ck=>[]) (fun G:List Ck=>row b9 (gS (mq gE e.gF) (.slice none 0 0) (.slice none 0 0)) 104::(row b4 (gS jF (.slice none 0 0) (.slice none 0 0)) 104::(row b3 (gS (j4 gE gT gF e) (.slice kd.1 0 kd.2) (.slice jR (iB e).length dc)) 104::((row p (iN vp pj gE (.pointer none)) 115::(CJ++([]++V)))++(CD++((A++A2)++(CR++(G++H)))))))) ?_ ?_)
 refine WC.seq ?_
 rcases (show (k<(gh ss).length∧k+1=(gh ss).length)∨(k<(gh ss).length∧k+1≠(gh ss).length)∨k=(gh ss).length by omega) with ⟨jZ,qI⟩|⟨jZ,qI⟩|jZ
 refine g_ [533] ?_
 refine w_ [1000,0,1,1002,2] ?_
 refine lL (fun h=>h rfl) ?_
 refine w_ [3,1003,4,5,1003,6,7] ?_
 refine jP 8 [7,3] 69 rfl rfl (aY _ (1#64) rfl rfl rfl rfl) fa ?_
 refine jP 9 [8,5,3] 69 rfl rfl (bA _ _ rfl rfl rfl rfl) fa ?_
 refine lL (fun h=>h sD) ?_
 refine w_ [10,11,12,3077,13,14,3077,15,1001,16,9002,17,18,19,3077,20,1004,21] ?_
 refine jP 22 [21,18,17] 83 rfl rfl (Yd.indexAddr (e:=77) (s:=11) fa fa rfl rfl gz gz) fa ?_
 refine ki 23 [22,17] 83 rfl rfl rfl (aE (n:=11) (vs:=enc e (.slice kW e.key.length kV) (.slice lq e.data.length lp)) (cs:=lV) fa rfl (aA (C:=A2) fc kM) rfl (by rw[show o1+((((gh ss).take k++[e]).length:Int)-1).toNat*11=o1+(k)*11 by omega];exact rY)) ?_
 refine w_ [24,25,3077,26,1004,27] ?_
 have zy:=hj.row.mG.ok _ (dG jZ)
 obtain ⟨b2,o2,F5,tF,T2,sr,nW,tU,GB,kD,c2,⟨Pw,Pv,rfl,w2,wZ⟩,CY⟩:=VS.rowAt (EO.ev hA) (i:=k) jZ gB
 simp only[dI,eD] at tU
 obtain ⟨rfl,rfl⟩:=tU
 obtain ⟨we,wb,rfl,_⟩:=w2.form
 obtain ⟨xR,xP,rfl,_⟩:=wZ.form
 refine jP 28 [27,24,17] 83 rfl rfl (Yd.indexAddr (e:=77) (s:=11) fa fa rfl rfl gz gz) fa ?_
 refine ki 29 [28,17] 83 rfl rfl rfl (aE (n:=11) (vs:=enc (gh ss)[k] (.slice we (gh ss)[k].key.length wb) (.slice xR (gh ss)[k].data.length xP)) (cs:=tF) fa rfl (aA (C:=A) fc kD) rfl (by rw[show o2+((((gh ss).take k++[e]).length:Int)-1).toNat*11=o2+(k)*11 by omega];exact CY)) ?_
 refine gD 30 ?_
 refine SO.c rfl (aP (dj:=83) rfl rfl) rfl (iE.func call86 rfl) (Ki e (gh ss)[k] he zy _ _ _ _ (A++A2) (np.mono fun c hc=>dq _ hc) (nL.mono fun c hc=>dq _ hc) (w2.mono fun c hc=>dw _ hc) (wZ.mono fun c hc=>dw _ hc)) (Sp.p fc) ?_
 rintro KI Ij ⟨rfl,G,rfl⟩
 refine iO [0,0,0] ?_
 refine w_ [31] ?_
 refine lL (tN jZ) (w_ [32] ?_)
 refine gM ?_
 refine g_ [3] ?_
 refine gH (row b9 (gS (mq gE e.gF) (.slice none 0 0) (.slice none 0 0)) 104::(row b4 (gS jF (.slice none 0 0) (.slice none 0 0)) 104::(row b3 (gS (j4 gE gT gF e) (.slice kd.1 0 kd.2) (.slice jR (iB e).length dc)) 104::((row p (iN vp pj gE (.pointer none)) 115::(CJ++([]++V)))++(CD++((A++A2)++(CR++(G++H)))))))) ?_
 exact ah (G) (eX) (gL) (Sp.all fc)
 refine g_ [533] ?_
 refine w_ [1000,0,1,1002,2] ?_
 refine lL (fun h=>h rfl) ?_
 refine w_ [3,1003,4,5,1003,6,7] ?_
 refine jP 8 [7,3] 69 rfl rfl (aY _ (1#64) rfl rfl rfl rfl) fa ?_
 refine jP 9 [8,5,3] 69 rfl rfl (bA _ _ rfl rfl rfl rfl) fa ?_
 refine lL (fun h=>h sD) ?_
 refine w_ [10,11,12,3077,13,14,3077,15,1001,16,9001,17,18,19,20,21,22,23,24,25,26,27,28,29,30,31,32] ?_
 refine gM ?_
 refine g_ [3] ?_
 refine gH (row b9 (gS (mq gE e.gF) (.slice none 0 0) (.slice none 0 0)) 104::(row b4 (gS jF (.slice none 0 0) (.slice none 0 0)) 104::(row b3 (gS (j4 gE gT gF e) (.slice kd.1 0 kd.2) (.slice jR (iB e).length dc)) 104::((row p (iN vp pj gE (.pointer none)) 115::(CJ++([]++V)))++(CD++((A++A2)++(CR++([]++H)))))))) ?_
 exact ah ([]) (eX) (gL) (Sp.all fc)
 refine g_ [533] ?_
 refine w_ [1000,0,1,1002,2] ?_
 refine lL (fun h=>h rfl) ?_
 refine w_ [3,1003,4,5,1003,6,7] ?_
 refine jP 8 [7,3] 69 rfl rfl (aY _ (1#64) rfl rfl rfl rfl) fa ?_
 refine jP 9 [8,5,3] 69 rfl rfl (bA _ _ rfl rfl rfl rfl) fa ?_
 refine lL (fun h=>h sD) ?_
 refine w_ [10,11,12,3077,13,14,3077,15,1001,16,9001,17,18,19,20,21,22,23,24,25,26,27,28,29,30,31,32] ?_
 refine gM ?_
 refine g_ [3] ?_
 refine gH (row b9 (gS (mq gE e.gF) (.slice none 0 0) (.slice none 0 0)) 104::(row b4 (gS jF (.slice none 0 0) (.slice none 0 0)) 104::(row b3 (gS (j4 gE gT gF e) (.slice kd.1 0 kd.2) (.slice jR (iB e).length dc)) 104::((row p (iN vp pj gE (.pointer none)) 115::(CJ++([]++V)))++(CD++((A++A2)++(CR++([]++H)))))))) ?_
 exact ah ([]) (eX) (gL) (Sp.all fc)
 intro G _
 refine aI (fun z:List gR×List (BitVec 8)×BitVec 64×List Ck×List Ck=>na 223 229 248 3 77 pj pd z.1 z.2.2.1 z.2.2.2.1∧jo 97 127 129 pd z.2.1 0 z.2.2.2.2∧Holds z.2.1 z.1∧iM z.1∧gh z.1=(gh ss).take k) (fun z:List gR×List (BitVec 8)×BitVec 64×List Ck×List Ck=>[]) (fun z:List gR×List (BitVec 8)×BitVec 64×List Ck×List Ck=>row b9 (gS (mq gE e.gF) (.slice none 0 0) (.slice none 0 0)) 104::(row b4 (gS jF (.slice none 0 0) (.slice none 0 0)) 104::(row b3 (gS (j4 gE gT gF e) (.slice kd.1 0 kd.2) (.slice jR (iB e).length dc)) 104::((row p (iN vp pj gE (.pointer none)) 115::(z.2.2.2.1++([]++V)))++(z.2.2.2.2++((A++A2)++(CR++(G++H)))))))) ?_ ?_
 refine WC.seq ?_
 rcases (show (k<(gh ss).length∧k+1=(gh ss).length)∨(k<(gh ss).length∧k+1≠(gh ss).length)∨k=(gh ss).length by omega) with ⟨jZ,qI⟩|⟨jZ,qI⟩|jZ
 refine g_ [508] ?_
 refine w_ [0,1,1001,2,3] ?_
 refine jy 4 [3] rfl call64 rfl (qM pj pd ss _ _ (JV.mono (na.v hJ) (Sp.sub fc)) gz hj gz) ax ?_
 refine w_ [1003,5,6,1007,7] ?_
 refine qf (show (gF.toNat:Int)<((js (gh ss)).toNat:Int) by omega) ?_
 refine gM ?_
 refine g_ [3,508] ?_
 refine w_ [0,1,1001,2,3,1003,4,5] ?_
 refine gD 6 ?_
 have CV:ss≠[]:=fun q=>by rw[q] at jZ;exact absurd jZ (gl _)
 refine iI rfl call87 rfl (JJ pj pd ss _ CJ hJ gI 0 CD hD hj hH gz CV gz gF k hk gz []) ?_
 rintro KE Ie ⟨xA,xm,rH,ml,rfl,rQ,ot,uJ,pO,ox,rfl⟩
 refine gG ?_
 refine w_ [7] ?_
 refine gM ?_
 refine g_ [4,702,1116,4] ?_
 refine gH (row b9 (gS (mq gE e.gF) (.slice none 0 0) (.slice none 0 0)) 104::(row b4 (gS jF (.slice none 0 0) (.slice none 0 0)) 104::(row b3 (gS (j4 gE gT gF e) (.slice kd.1 0 kd.2) (.slice jR (iB e).length dc)) 104::((row p (iN vp pj gE (.pointer none)) 115::(rH++([]++V)))++(ml++((A++A2)++(CR++(G++H)))))))) ?_
 exact ah ((xA,xm,_,rH,ml)) (⟨rQ,ot,uJ,pO,ox⟩) (gL) (Sp.all fc)
 refine g_ [508] ?_
 refine w_ [0,1,1001,2,3] ?_
 refine jy 4 [3] rfl call64 rfl (qM pj pd ss _ _ (JV.mono (na.v hJ) (Sp.sub fc)) gz hj gz) ax ?_
 refine w_ [1003,5,6,1007,7] ?_
 refine qf (show (gF.toNat:Int)<((js (gh ss)).toNat:Int) by omega) ?_
 refine gM ?_
 refine g_ [3,508] ?_
 refine w_ [0,1,1001,2,3,1003,4,5] ?_
 refine gD 6 ?_
 have CV:ss≠[]:=fun q=>by rw[q] at jZ;exact absurd jZ (gl _)
 refine iI rfl call87 rfl (JJ pj pd ss _ CJ hJ gI 0 CD hD hj hH gz CV gz gF k hk gz []) ?_
 rintro KE Ie ⟨xA,xm,rH,ml,rfl,rQ,ot,uJ,pO,ox,rfl⟩
 refine gG ?_
 refine w_ [7] ?_
 refine gM ?_
 refine g_ [4,702,1116,4] ?_
 refine gH (row b9 (gS (mq gE e.gF) (.slice none 0 0) (.slice none 0 0)) 104::(row b4 (gS jF (.slice none 0 0) (.slice none 0 0)) 104::(row b3 (gS (j4 gE gT gF e) (.slice kd.1 0 kd.2) (.slice jR (iB e).length dc)) 104::((row p (iN vp pj gE (.pointer none)) 115::(rH++([]++V)))++(ml++((A++A2)++(CR++(G++H)))))))) ?_
 exact ah ((xA,xm,_,rH,ml)) (⟨rQ,ot,uJ,pO,ox⟩) (gL) (Sp.all fc)
 refine g_ [508] ?_
 refine w_ [0,1,1001,2,3] ?_
 refine jy 4 [3] rfl call64 rfl (qM pj pd ss _ _ (JV.mono (na.v hJ) (Sp.sub fc)) gz hj gz) ax ?_
 refine w_ [1003,5,6,1007,7] ?_
 refine lL (show ¬(gF.toNat:Int)<((js (gh ss)).toNat:Int) by omega) ?_
 refine gM ?_
 refine g_ [3] ?_
 refine gH (row b9 (gS (mq gE e.gF) (.slice none 0 0) (.slice none 0 0)) 104::(row b4 (gS jF (.slice none 0 0) (.slice none 0 0)) 104::(row b3 (gS (j4 gE gT gF e) (.slice kd.1 0 kd.2) (.slice jR (iB e).length dc)) 104::((row p (iN vp pj gE (.pointer none)) 115::(CJ++([]++V)))++(CD++((A++A2)++(CR++(G++H)))))))) ?_
 exact ah ((ss,gI,_,CJ,CD)) (⟨hJ,hD,hH,hj,(dL (Nat.le_of_eq jZ.symm)).symm⟩) (gL) (Sp.all fc)
 rintro ⟨xA,xm,sf,rH,ml⟩ ⟨rQ,ot,uJ,pO,ox⟩
 refine g_ [2,512] ?_
 refine w_ [0,1,1001,2,3,4,5,3077,6,1004,7] ?_
 refine gW 8 [7,4] rfl (Yd.indexAddr (e:=77) (s:=11) fa fa rfl rfl gz gz) fa ?_
 refine iD 9 [8] rfl (aE (n:=11) (vs:=enc e (.slice kW e.key.length kV) (.slice lq e.data.length lp)) (cs:=lV) fa rfl (aA (C:=A2) fc kM) rfl (by rw[show o1+((((gh ss).take k++[e]).length:Int)-1).toNat*11=o1+(k)*11 by omega];exact rY)) ?_
 refine gD 10 ?_
 refine iI rfl call68 rfl (NY pj pd xA _ rH rQ xm 0 ml ot pO uJ (by rw[ox,dE];omega) gz e he (by rw[ox];exact uT) zG _ _ A2 np nL) ?_
 rintro air XS ⟨Dy,Hm,n3,DJ,vA,rfl,Gu,zb,Mj,CQ,vU,tg,rfl⟩
 rw[ox] at vU
 have abU:(gh Dy).length≤126:=by rw[vU,th];omega
 have abo:=CQ.jW gz
 refine gG ?_
 refine w_ [11] ?_
 refine gM ?_
 refine g_ [4,702,1131,10,101,1] ?_
 refine c_ call69 rfl (NZ pj pd Dy _ DJ Gu Hm n3 vA zb CQ gz gz []) ?_
 rintro ais XT ⟨FE,FC,rfl,Mk,Mf,rfl⟩
 refine g_ [6,702,1140,7,411,311,4] ?_
 refine au (s:=11) ((row p (iN vp pj gE (.pointer none)) 115::(FE++([]++V)))++(FC++(((A++A2)++(CR++G))++H))) results45 fa rfl rfl iz gA fc ?_
 exact ⟨rfl,Dy,Hm,_,FC,_,⟨vp,pj,_,FE,[],V,rfl,Mk,⟨rfl,rfl⟩,hP⟩,Mf,Mj,CQ,vU,rfl⟩
def n5 (a:Int) (n:Nat):Nat:=(BitVec.ofInt 64 a).toNat%n
theorem EY {a:Int} {n:Nat} (h:0<n):n5 a n<n:=Nat.mod_lt _ h
def Bh (a:Int):List (BitVec 8):=[107#8,BitVec.ofInt 8 (97+(n5 a 6:Int))]
def kH (iA n:Int) (l:List (BitVec 8)) (back:Bool):ia:=⟨iA,n,l,2,5,back⟩
theorem Fp (a:Int) (n:Nat) (h1:1≤n) (h2:n≤1000) (H:List Ck):Reads prog 14 [.int .i64 a,.int .i64 (n:Int)] H (.int .i64 (n5 a n:Int)):=by
 refine gC.enter func14 rfl ntmps14 rfl ?_
 intro w0 R
 have nM:(BitVec.ofInt 64 (n:Int)).toNat=n:=by rw[dX];omega
 have hmm:(BitVec.ofInt 64 a%BitVec.ofInt 64 (n:Int)).toNat=n5 a n:=by rw[BitVec.toNat_umod,nM];rfl
 have gQ:=EY (a:=a) (n:=n) gz
 refine g_ [9,705,1006,8] ?_
 refine ae rfl (bM _ fa fa rfl rfl) ?_
 refine g_ [1] ?_
 refine ae rfl (bM _ fa fa rfl rfl) ?_
 refine ae rfl (Yd.afu (BitVec.ofInt 64 a) (BitVec.ofInt 64 (n:Int)) rfl rfl rfl rfl gz) ?_
 refine ae rfl (bQ fa fa rfl gz gz) ?_
 refine af (t:=12) (v:=.int .i64 (n5 a n:Int)) rfl (congrArg (Value.int .i64) gz) ?_
 refine g_ [4] ?_
 refine gH H ?_
 exact aa results14 rfl (⟨rfl,rfl⟩)
theorem Po (a:Int) (H:List Ck):gC prog 20 [.int .i64 a] H fun r gr=>∃A,Bs r (Bh a) A∧gr=A++H:=by
 refine gC.enter func20 rfl ntmps20 rfl ?_
 intro w0 R
 have gQ:=EY (a:=a) (n:=6) gz
 refine g_ [8] ?_
 refine iG call14 rfl (Fp a 6 gz gz _) ?_
 refine g_ [703] ?_
 refine ae rfl (bT _ fa fa rfl rfl) ?_
 refine WL.h rfl (Hd.buildSlice (e:=5) (sz:=1) (zs:=[.int .u8 0]) (parts:=[(0,.const (.int .u8 107)),(1,.tmp 6)]) (vs:=[(0,.int .u8 107),(1,.int .u8 ((BitVec.ofInt 8 (97+(n5 a 6:Int))).toNat:Int))]) (cells:=bc (Bh a)) fa fa fa rfl fa fa fun b7=>⟨_,rfl,?_⟩)
 refine g_ [4] ?_
 refine gH ([row b7 (bc (Bh a)) 5]++H) ?_
 exact aa results20 rfl (⟨_,Bs.row rfl,rfl⟩)
theorem yB (iA n:Int) (l:List (BitVec 8)) (back:Bool) (H:List Ck):gC prog 58 [.int .i64 iA,.int .i64 n,.string (str l),.bool back] H fun r gr=>∃vn A,r=.agg (kA (kH iA n l back) vn).toArray∧Bs vn l A∧gr=A++H:=by
 refine gC.enter func58 rfl ntmps58 rfl ?_
 intro w0 R
 refine gY (iS vy fun b8=>?_)
 refine g_ [7] ?_
 refine WL.h rfl (Hd.ofStr (e:=5) (bs:=l) underlying9 fa fa rfl fun Is Iw UR abP=>⟨_,rfl,?_⟩)
 refine ae rfl (aj (pl:=[(0,1),(1,1),(2,1)]) (zs:=[.int .i64 0,.int .i64 0,.slice none 0 0]) (parts:=[(0,.tmp 9),(1,.tmp 10),(2,.tmp 12)]) (vs:=[(0,_),(1,_),(2,_)]) (cells:=[_,_,_]) fa fa rfl rfl) ?_
 refine g_ [1] ?_
 refine ae rfl (aj (pl:=[(0,3),(3,1),(4,1),(5,1)]) (zs:=vy) (parts:=[(0,.tmp 13),(1,.const (.int .i64 2)),(2,.const (.int .i64 5)),(3,.tmp 14)]) (vs:=[(0,_),(1,_),(2,_),(3,_)]) (cells:=[_,_,_,_,_,_]) fa fa rfl rfl) ?_
 refine g_ [306,3] ?_
 refine bH (s:=6) ([UR]++H) results58 fa rfl iz gA fc ?_
 exact ⟨_,[UR],rfl,abP,rfl⟩
def kF:List (List ia):=[[(kH 1 1 [97#8] true),(kH 3 2 [97#8,110#8,110#8] true),(kH 2 0 [] false)],[(kH 1 1 [98#8] true),(kH 5 1 [] true),(kH 4 0 [] true)],[(kH 3 1 [97#8,110#8,110#8] true),(kH 4 0 [] true),(kH 6 0 [104#8,105#8] false),(kH 1 2 [98#8] true)]]
theorem mY:∀q∈kF,jh q:=by
  intro q hq
  unfold kF at hq
  have nm:∀l:List (BitVec 8),l=[97#8]∨l=[98#8]∨l=[97#8,110#8,110#8]∨l=[104#8,105#8]→Ot l:=by
    rintro l (rfl|rfl|rfl|rfl)<;>exact ⟨by simp,by simp,by decide⟩
  simp only[eS,ej,or_false] at hq
  rcases hq with rfl|rfl|rfl
  all_goals
    refine ⟨by simp,fun x hx=>?_⟩
    simp only[eS,ej,or_false] at hx
    rcases hx with rfl|rfl|rfl|rfl
    all_goals (refine ⟨by simp[kH],by simp[kH],by simp[kH],fun h9=>?_,by simp[kH],by simp[kH],by simp[kH]⟩;first|(exfalso;simp[kH] at h9;done)|exact nm _ (by simp[kH]))
theorem ahl (H:List Ck):gC prog 33 [] H fun r gr=>∃A,yL r kF A∧gr=A++H:=by
 refine gC.enter func33 rfl ntmps33 rfl ?_
 intro w0 R
 refine g_ [7] ?_
 refine c_ call58 rfl (yB 1 1 [97#8] true []) ?_
 rintro x1 H1 ⟨v1,A1,rfl,h1,rfl⟩
 obtain ⟨o1,c1,rfl,_⟩:=h1.form
 refine c_ call58 rfl (yB 3 2 [97#8,110#8,110#8] true []) ?_
 rintro x2 H2 ⟨v2,A2,rfl,h2,rfl⟩
 obtain ⟨o2,c2,rfl,_⟩:=h2.form
 refine c_ call58 rfl (yB 2 0 [] false []) ?_
 rintro x3 H3 ⟨v3,A3,rfl,h3,rfl⟩
 obtain ⟨o3,c3,rfl,_⟩:=h3.form
 refine WL.h rfl (Hd.buildSlice (e:=159) (sz:=6) (zs:=vy) (parts:=[(0,.tmp 1),(1,.tmp 2),(2,.tmp 3)]) (vs:=[(0,.agg (kA (kH 1 1 [97#8] true) (.slice o1 ([97#8]:List (BitVec 8)).length c1)).toArray),(1,.agg (kA (kH 3 2 [97#8,110#8,110#8] true) (.slice o2 ([97#8,110#8,110#8]:List (BitVec 8)).length c2)).toArray),(2,.agg (kA (kH 2 0 [] false) (.slice o3 ([]:List (BitVec 8)).length c3)).toArray)]) (cells:=(kA (kH 1 1 [97#8] true) (.slice o1 ([97#8]:List (BitVec 8)).length c1))++((kA (kH 3 2 [97#8,110#8,110#8] true) (.slice o2 ([97#8,110#8,110#8]:List (BitVec 8)).length c2))++((kA (kH 2 0 [] false) (.slice o3 ([]:List (BitVec 8)).length c3))++[]))) fa fa fa rfl fa fa fun b4=>⟨_,rfl,?_⟩)
 refine c_ call58 rfl (yB 1 1 [98#8] true []) ?_
 rintro x5 H5 ⟨v5,A5,rfl,h5,rfl⟩
 obtain ⟨o5,c5,rfl,_⟩:=h5.form
 refine c_ call58 rfl (yB 5 1 [] true []) ?_
 rintro x6 H6 ⟨v6,A6,rfl,h6,rfl⟩
 obtain ⟨o6,c6,rfl,_⟩:=h6.form
 refine c_ call58 rfl (yB 4 0 [] true []) ?_
 rintro x7 H7 ⟨v7,A7,rfl,h7,rfl⟩
 obtain ⟨o7,c7,rfl,_⟩:=h7.form
 refine WL.h rfl (Hd.buildSlice (e:=159) (sz:=6) (zs:=vy) (parts:=[(0,.tmp 5),(1,.tmp 6),(2,.tmp 7)]) (vs:=[(0,.agg (kA (kH 1 1 [98#8] true) (.slice o5 ([98#8]:List (BitVec 8)).length c5)).toArray),(1,.agg (kA (kH 5 1 [] true) (.slice o6 ([]:List (BitVec 8)).length c6)).toArray),(2,.agg (kA (kH 4 0 [] true) (.slice o7 ([]:List (BitVec 8)).length c7)).toArray)]) (cells:=(kA (kH 1 1 [98#8] true) (.slice o5 ([98#8]:List (BitVec 8)).length c5))++((kA (kH 5 1 [] true) (.slice o6 ([]:List (BitVec 8)).length c6))++((kA (kH 4 0 [] true) (.slice o7 ([]:List (BitVec 8)).length c7))++[]))) fa fa fa rfl fa fa fun b8=>⟨_,rfl,?_⟩)
 refine c_ call58 rfl (yB 3 1 [97#8,110#8,110#8] true []) ?_
 rintro x9 H9 ⟨v9,A9,rfl,h9,rfl⟩
 obtain ⟨o9,c9,rfl,_⟩:=h9.form
 refine c_ call58 rfl (yB 4 0 [] true []) ?_
 rintro jz XN ⟨v10,XI,rfl,re,rfl⟩
 obtain ⟨OA,Lk,rfl,_⟩:=re.form
 refine c_ call58 rfl (yB 6 0 [104#8,105#8] false []) ?_
 rintro HU FG ⟨v11,XJ,rfl,oN,rfl⟩
 obtain ⟨OB,Ll,rfl,_⟩:=oN.form
 refine c_ call58 rfl (yB 1 2 [98#8] true []) ?_
 rintro x12 XR ⟨v12,XK,rfl,nj,rfl⟩
 obtain ⟨OC,Iw,rfl,_⟩:=nj.form
 refine WL.h rfl (Hd.buildSlice (e:=159) (sz:=6) (zs:=vy) (parts:=[(0,.tmp 9),(1,.tmp 10),(2,.tmp 11),(3,.tmp 12)]) (vs:=[(0,.agg (kA (kH 3 1 [97#8,110#8,110#8] true) (.slice o9 ([97#8,110#8,110#8]:List (BitVec 8)).length c9)).toArray),(1,.agg (kA (kH 4 0 [] true) (.slice OA ([]:List (BitVec 8)).length Lk)).toArray),(2,.agg (kA (kH 6 0 [104#8,105#8] false) (.slice OB ([104#8,105#8]:List (BitVec 8)).length Ll)).toArray),(3,.agg (kA (kH 1 2 [98#8] true) (.slice OC ([98#8]:List (BitVec 8)).length Iw)).toArray)]) (cells:=(kA (kH 3 1 [97#8,110#8,110#8] true) (.slice o9 ([97#8,110#8,110#8]:List (BitVec 8)).length c9))++((kA (kH 4 0 [] true) (.slice OA ([]:List (BitVec 8)).length Lk))++((kA (kH 6 0 [104#8,105#8] false) (.slice OB ([104#8,105#8]:List (BitVec 8)).length Ll))++((kA (kH 1 2 [98#8] true) (.slice OC ([98#8]:List (BitVec 8)).length Iw))++[])))) fa fa fa rfl fa fa fun se=>⟨_,rfl,?_⟩)
 refine WL.h rfl (Hd.buildSlice (e:=161) (sz:=1) (zs:=[.slice none 0 0]) (parts:=[(0,.tmp 4),(1,.tmp 8),(2,.tmp 13)]) (vs:=[(0,.slice (some ⟨b4,0,none⟩) 3 3),(1,.slice (some ⟨b8,0,none⟩) 3 3),(2,.slice (some ⟨se,0,none⟩) 4 4)]) (cells:=[.slice (some ⟨b4,0,none⟩) 3 3,.slice (some ⟨b8,0,none⟩) 3 3,.slice (some ⟨se,0,none⟩) 4 4]) fa fa fa rfl fa fa fun DU=>⟨_,rfl,?_⟩)
 refine g_ [4] ?_
 refine gH ((row DU [.slice (some ⟨b4,0,none⟩) 3 3,.slice (some ⟨b8,0,none⟩) 3 3,.slice (some ⟨se,0,none⟩) 4 4] 161::(row se ((kA (kH 3 1 [97#8,110#8,110#8] true) (.slice o9 ([97#8,110#8,110#8]:List (BitVec 8)).length c9))++((kA (kH 4 0 [] true) (.slice OA ([]:List (BitVec 8)).length Lk))++((kA (kH 6 0 [104#8,105#8] false) (.slice OB ([104#8,105#8]:List (BitVec 8)).length Ll))++((kA (kH 1 2 [98#8] true) (.slice OC ([98#8]:List (BitVec 8)).length Iw))++[])))) 159::(row b8 ((kA (kH 1 1 [98#8] true) (.slice o5 ([98#8]:List (BitVec 8)).length c5))++((kA (kH 5 1 [] true) (.slice o6 ([]:List (BitVec 8)).length c6))++((kA (kH 4 0 [] true) (.slice o7 ([]:List (BitVec 8)).length c7))++[]))) 159::(row b4 ((kA (kH 1 1 [97#8] true) (.slice o1 ([97#8]:List (BitVec 8)).length c1))++((kA (kH 3 2 [97#8,110#8,110#8] true) (.slice o2 ([97#8,110#8,110#8]:List (BitVec 8)).length c2))++((kA (kH 2 0 [] false) (.slice o3 ([]:List (BitVec 8)).length c3))++[]))) 159::(A1++(A2++(A3++(A5++(A6++(A7++(A9++(XI++(XJ++(XK))))))))))))))++H) ?_
 refine aa results33 rfl ?_
 rotate_left
 all_goals
  exact ⟨_,⟨_,.inr ⟨DU,0,3,_,_,_,_,rfl,dA _,dy,rfl⟩,.cons ⟨_,rfl,⟨_,.inr ⟨b4,0,3,_,_,_,_,rfl,dA _,dt _ (dt _ (dt _ (dy))),rfl⟩,(.cons ⟨_,rfl,h1.mono fun c hc=>dt _ (dt _ (dt _ (dt _ (dw _ hc))))⟩ (.cons ⟨_,rfl,h2.mono fun c hc=>dt _ (dt _ (dt _ (dt _ (dq _ (dw _ hc)))))⟩ (.cons ⟨_,rfl,h3.mono fun c hc=>dt _ (dt _ (dt _ (dt _ (dq _ (dq _ (dw _ hc))))))⟩ .nil)))⟩⟩ (.cons ⟨_,rfl,⟨_,.inr ⟨b8,0,3,_,_,_,_,rfl,dA _,dt _ (dt _ (dy)),rfl⟩,(.cons ⟨_,rfl,h5.mono fun c hc=>dt _ (dt _ (dt _ (dt _ (dq _ (dq _ (dq _ (dw _ hc)))))))⟩ (.cons ⟨_,rfl,h6.mono fun c hc=>dt _ (dt _ (dt _ (dt _ (dq _ (dq _ (dq _ (dq _ (dw _ hc))))))))⟩ (.cons ⟨_,rfl,h7.mono fun c hc=>dt _ (dt _ (dt _ (dt _ (dq _ (dq _ (dq _ (dq _ (dq _ (dw _ hc)))))))))⟩ .nil)))⟩⟩ (.cons ⟨_,rfl,⟨_,.inr ⟨se,0,4,_,_,_,_,rfl,dA _,dt _ (dy),rfl⟩,(.cons ⟨_,rfl,h9.mono fun c hc=>dt _ (dt _ (dt _ (dt _ (dq _ (dq _ (dq _ (dq _ (dq _ (dq _ (dw _ hc))))))))))⟩ (.cons ⟨_,rfl,re.mono fun c hc=>dt _ (dt _ (dt _ (dt _ (dq _ (dq _ (dq _ (dq _ (dq _ (dq _ (dq _ (dw _ hc)))))))))))⟩ (.cons ⟨_,rfl,oN.mono fun c hc=>dt _ (dt _ (dt _ (dt _ (dq _ (dq _ (dq _ (dq _ (dq _ (dq _ (dq _ (dq _ (dw _ hc))))))))))))⟩ (.cons ⟨_,rfl,nj.mono fun c hc=>dt _ (dt _ (dt _ (dt _ (dq _ (dq _ (dq _ (dq _ (dq _ (dq _ (dq _ (dq _ (dq _ (hc)))))))))))))⟩ .nil))))⟩⟩ .nil))⟩,rfl⟩
theorem W1 (v:Value) (l:List jt) (a:jt) (hl:l.length≤100000) (C:List Ck) (hO:il v l.length (l.flatMap jY) 40 4 C) (H:List Ck):gC prog 50 [v,.agg (jY a).toArray] (C++H) fun r gr=>∃gP,il r (oW l a).length ((oW l a).flatMap jY) 40 4 gP∧gr=gP++H:=by
 refine gC.enter func50 rfl ntmps50 rfl ?_
 intro w0 R
 obtain ⟨vo,vc,rfl,_⟩:=hO.form
 have hlen:=K3 l
 refine gY (iV fun b3=>?_)
 refine g_ [10] ?_
 refine aC (fun z:Nat=>z≤l.length∧∀j (h:j<l.length),j<z→l[j]≠a) (fun z:Nat=>[(5,.int .i64 (z:Int))]) (fun z:Nat=>row b3 (jY a) 40::(C++H)) (fun z:Nat=>l.length-z) (0) (show 0≤l.length∧∀j (h:j<l.length),j<0→l[j]≠a from ⟨dN _,fun j _ h=>absurd h (gl _)⟩) (Sx.put rfl (gL)) fc ?_
 rintro i hI
 replace hI:i≤l.length∧∀j (h:j<l.length),j<i→l[j]≠a:=hI
 obtain ⟨hi,jf⟩:=hI
 change WC _ _ _ _ _ _ ([(5,.int .i64 (i:Int))]++_) (row b3 (jY a) 40::(C++H))
 refine g_ [5,710,40,705,2] ?_
 refine gK rfl (fun h9=>?_) fun h9=>?_
 have gQ:i<l.length:=by omega
 obtain ⟨b,cap,extra,ie,Cd,qm,zd,Cf,rfl⟩:=hO.resolve_left (fun q=>by have:=q.2.1;omega)
 simp only[dI] at ie
 obtain ⟨rfl,_,rfl⟩:=ie
 have Eo:=Ip l i gQ
 have rq:((l.flatMap jY++extra).drop (i*4)).take 4=jY l[i]:=by rw[eN gz,dQ (by rw[eg];omega)];exact Eo
 refine g_ [5,506] ?_
 refine w_ [0,1] ?_
 refine gW 2 [1,0] rfl (Yd.indexAddr (e:=40) (s:=4) fa fa rfl rfl gz gz) fa ?_
 refine iD 3 [2] rfl (aE (n:=4) (vs:=jY l[i]) (cs:=l.flatMap jY++extra) fa rfl iz rfl (by rw[show 0+((i:Int)).toNat*4=i*4 by omega];exact rq)) ?_
 refine w_ [2004,4] ?_
 refine gW 5 [4,3] rfl (Yd.R2 [0,1,1,0] fa rfl rfl (afN _ _)) fa ?_
 refine gM ?_
 refine g_ [1] ?_
 refine gK rfl (fun wQ=>?_) fun wQ=>?_
 refine g_ [12] ?_
 refine gH ([row b (l.flatMap jY++extra) 40]++H) ?_
 refine aa results50 rfl ?_
 have Nf:a∈l:=by rw[←wQ];exact dG gQ
 have e8:oW l a=l:=dx Nf
 rw[e8]
 exact ⟨_,.inr ⟨b,vc,extra,rfl,Cd,qm,zd,Cf,rfl⟩,rfl⟩
 refine g_ [5,703,2] ?_
 exact ai (i+1) (show (i+1)≤l.length∧∀j (h:j<l.length),j<(i+1)→l[j]≠a from ⟨by omega,fun j hj hji=>by
   by_cases e9:j=i
   · subst e9;exact wQ
   exact jf j hj gz⟩) (show l.length-(i+1)<l.length-i by omega) (Sx.put rfl (gL)) fc
 refine g_ [8,404] ?_
 refine WL.h rfl (aX (e:=40) (sz:=4) (zs:=[.int .u32 0,.string ⟨#[]⟩,.string ⟨#[]⟩,.int .i64 0]) (vs:=jY a) fa fa fa rfl rfl rfl fa fun La=>⟨_,rfl,?_⟩)
 refine WL.h rfl (aT (e:=40) (sz:=4) (bytes:=48) (zs:=[.int .u32 0,.string ⟨#[]⟩,.string ⟨#[]⟩,.int .i64 0]) fa fa rfl gz rfl rfl (hO) fc iz gA qd (by simp only[maxLen];omega) gz fun v22 Fy kS=>⟨_,rfl,?_⟩)
 refine g_ [4] ?_
 refine gH (Fy++H) ?_
 refine aa results50 rfl ?_
 have Nf:¬a∈l:=by
   intro q
   obtain ⟨j,hj,hja⟩:=fu q
   exact jf j hj gz hja
 have e8:oW l a=l++[a]:=dp Nf
 rw[e8,dr,List.flatMap_append,List.flatMap_singleton]
 exact ⟨Fy,kS,rfl⟩
def SA (p pd:Nat) (ps:List (List ia)) (l:List En) (seen:BitVec 32) (r:Option Rl) (C:List Ck):Prop:=
  ∃ss gI L CS CD,C=CS++CD∧iY 115 112 179 185 223 229 248 3 77 p pd ps ss seen r L CS∧(r≠none→L=ku ps l)∧jo 97 127 129 pd gI 0 CD∧Holds gI ss∧iM ss∧gh ss=l
def BL (p pd:Nat) (ps:List (List ia)) (l:List En) (seen:BitVec 32) (r:Option Rl) (H:List Ck):Prop:=
  ∃ss L,kX p pd ps ss seen r L H∧(r≠none→L=ku ps l)∧iM ss∧gh ss=l
theorem SA.v {p pd:Nat} {ps:List (List ia)} {l:List En} {seen:BitVec 32} {r:Option Rl} {C H:List Ck} (h:SA p pd ps l seen r C) (s:∀c∈C,c∈H):BL p pd ps l seen r H:=by
  obtain ⟨ss,gI,L,CS,CD,rfl,h1,h2,h3,h4,h5,h6⟩:=h
  exact ⟨ss,L,(iY.v h1).mono fun c hc=>s c (dw _ hc),h2,h5,h6⟩
def sO (k:Bool) (g gU:Gs):Prop:=gU.J (!k)=g.J (!k)∧gU.seen (!k)=g.seen (!k)∧gU.R (!k)=g.R (!k)
theorem sO.trans {k:Bool} {a b c:Gs} (h:sO k a b) (h2:sO k b c):sO k a c:=⟨h2.1.trans h.1,h2.2.1.trans h.2.1,h2.2.2.trans h.2.2⟩
section
variable {p pd:Nat} {ps:List (List ia)} (gN:∀q∈ps,jh q) {l:List En} {seen:BitVec 32} {r:Option Rl}
include gN
theorem ahg {H:List Ck} (hv:BL p pd ps l seen r H) (hb:l.length≤125) (now:BitVec 64):Reads prog 26 [ptr p,.int .u64 now.toNat] H (.bool (lj r now)):=by
  obtain ⟨ss,L,h1,h2,h3,rfl⟩:=hv
  exact vj p pd ps gN ss h3 hb (eJ (h3.jW gz) gB) seen r L H h1 now
theorem ahc {H:List Ck} (hv:BL p pd ps l seen r H) (hb:l.length≤125):Reads prog 17 [ptr p] H (.int .u32 (nV r).toNat):=by
  obtain ⟨ss,L,h1,h2,h3,rfl⟩:=hv
  exact wu p pd ps gN ss h3 hb (eJ (h3.jW gz) gB) seen r L H h1
theorem aht {H:List Ck} (hv:BL p pd ps l seen r H) (hb:l.length≤125):gC prog 34 [ptr p] H fun r0 gr=>r0=.agg (gS (nR (nV r) 0) (.slice none 0 0) (.slice none 0 0)).toArray∧gr=H:=by
  obtain ⟨ss,L,h1,h2,h3,rfl⟩:=hv
  exact ag5 p pd ps gN ss h3 hb (eJ (h3.jW gz) gB) seen r L H h1
theorem WZ {H:List Ck} (hv:BL p pd ps l seen r H) (hb:l.length≤125):gC prog 27 [ptr p] H fun r0 gr=>∃A,EO 77 r0 l A∧gr=A++H:=by
  obtain ⟨ss,L,h1,h2,h3,rfl⟩:=hv
  exact af7 p pd ps gN ss h3 hb (eJ (h3.jW gz) gB) seen r L H h1
theorem Pq {H:List Ck} (hv:BL p pd ps l seen r H) (hb:l.length≤125) (now:BitVec 64) (key:List (BitVec 8)) (vk:Value) (hk:Bs vk key H):gC prog 49 [ptr p,.int .u64 now.toNat,vk] H fun r0 gr=>∃n DB A b,r0=.tuple #[.agg (gS n DB (.slice none 0 0)).toArray,.bool b]∧gr=A++H∧Bs DB n.key A∧
    (b=true→lj r now=true∧n.key=key∧∃e∈l.take (ng r l).toNat,e.kind=2∧e.key=key∧e.order=n.order∧(n.code=0∨∃oM∈l.take (ng r l).toNat,oM.kind=5∧oM.order=n.order∧oM.code=n.code)):=by
  obtain ⟨ss,L,h1,h2,h3,rfl⟩:=hv
  cases hl:lj r now with
  | false=>
    refine (agq p pd ps gN ss h3 hb seen r L now key vk H h1 hk hl).mono ?_
    rintro r0 gr ⟨rfl,rfl⟩
    exact ⟨jF,_,[],false,rfl,rfl,.inl ⟨_,_,rfl,rfl,rfl⟩,fun q=>by cases q⟩
  | true=>
    refine (agr p pd ps gN ss h3 hb seen r L now key vk H h1 hk hl).mono ?_
    rintro r0 gr ⟨DB,A,rfl,oQ,rfl⟩
    refine ⟨_,DB,A,_,rfl,rfl,oQ,fun q=>?_⟩
    cases hs:rA key ((gh ss).take (ng r (gh ss)).toNat) with
    |none=>rw[hs] at q;cases q
    | some x=>
      obtain ⟨⟨e,he,e1,e2,e3⟩,h9⟩:=Wh hs
      exact ⟨rfl,rfl,e,he,e1,e2,e3,h9⟩
theorem ahi (lx:1≤ps.length∧ps.length≤8) {CD:List Ck} {gI:List (BitVec 8)} {ss:List gR} (hD:jo 97 127 129 pd gI 0 CD) (hj:iM ss) (hH:Holds gI ss) (hb:(gh ss).length≤125) (hf:Folds ps (gh ss)) (v:Value) (H:List Ck) (hv:yL v ps H):
    gC prog 32 [ptr pd,v] (CD++H) fun r0 gr=>∃p S D,r0=.tuple #[ptr p,.int .i64 0]∧SA p pd ps (gh ss) (ke (gh ss) (gh ss).length) none S∧gr=S++(D++H):=by
  refine (ago pd gI CD hD ss hj hH hb (eJ (hj.jW gz) gB) v ps gN lx (ku ps (gh ss)) (Eb hf) H hv).mono ?_
  rintro r0 gr ⟨p,C,jb,D,rfl,h1,h2,rfl⟩
  exact ⟨p,C++jb,D,rfl,⟨ss,gI,_,C,jb,rfl,h1,fun q=>absurd rfl q,h2,hH,hj,rfl⟩,by rw[dD]⟩
omit gN in
theorem ag9 {S:List Ck} (hS:SA p pd ps l seen r S) (H:List Ck):gC prog 23 [ptr pd,.int .i64 0,.int .i64 0] (S++H) fun r0 gr=>∃gI ss CD D,jo 97 127 129 pd gI 0 CD∧iM ss∧Holds gI ss∧gh ss=l∧gr=CD++(D++H):=by
  obtain ⟨ss,gI,L,CS,CD,rfl,h1,h2,h3,h4,h5,h6⟩:=hS
  have h:=YL pd gI CD h3 (CS++H)
  intro w R hs
  have sG:Sat w ((CD++(CS++H))++R):=hs.perm (by
    refine List.Perm.append_right _ ?_
    rw[dD]
    exact (List.perm_append_comm_assoc CS CD H))
  refine (h w R sG).mono ?_
  rintro e jq ⟨v,gr,he,⟨gP,h7,rfl⟩,oT,hk⟩
  exact ⟨v,_,he,⟨gI,ss,gP,CS,h7,h5,h4,h6,rfl⟩,oT,hk⟩
end
section
variable {p pd:Nat} {ps:List (List ia)} (gN:∀q∈ps,jh q) {g:Gs} {C:List En} {m mc:Nat} (v:iR ps g C m mc) (hm:m≤119) {k:Bool} {S:List Ck} (hS:SA p pd ps (g.J k) (g.seen k) (g.R k) S)
include gN v hm hS
theorem W0 (lx:1≤ps.length∧ps.length≤8) (n:Nt) (gX:Ar) (hg:¬(n.gE=0#32∧g.a.l.mode=2∧kI k≠g.a.last)) (h2:(oV g.a (kI k) n.gE n.code).2=0) (ha:gX={g.a with l:=(oV g.a (kI k) n.gE n.code).1,last:=kI k})
    (hn:n.gE≠0#32→∃r,g.R k=some r∧n.gE=r.ep∧(n.code=0∨((n.code=1∨n.code=2)∧r.mode=1))∧(n.code=1→(g.J k).length≤r.iU.toNat)) (H:List Ck):
    gC prog 36 [ptr p,.int .u64 g.a.now.toNat,.agg (gS (EU gX.l g.a.now) (.slice none 0 0) (.slice none 0 0)).toArray] (S++H) fun r0 gr=>r0=.int .i64 0∧∃gU kR D,SA p pd ps (gU.J k) (gU.seen k) (gU.R k) kR∧iR ps gU C (m+1) mc∧gU.a=gX∧gU.c=g.c∧sO k g gU∧gr=kR++(D++H):=by
  obtain ⟨ss,gI,L,CS,CD,rfl,mP,hL,hD,hH,hj,jM⟩:=hS
  have hlen:=v.len k
  have hb:(gh ss).length≤124:=by rw[jM];omega
  rw[dD]
  by_cases hz:n.gE=0#32
  · obtain ⟨e1,e2,e3,e4,e5,e6,e7,e8,e9⟩:=aaD gN v gz hz hg h2 ha
    have fin:∀(r0:Value) (gr:List Ck),(r0=.int .i64 0∧∃iQ jN iH jb D,iY 115 112 179 185 223 229 248 3 77 p pd ps iQ gX.l.ep (some ⟨gX.l.ep,g.a.now+(gX.l.iC-g.a.now),gX.l.mode,gX.l.mode,js (gh iQ),0#64⟩) (nG ps (ku ps (gh ss)) (jA (gh ss) ⟨gX.l.ep,g.a.now+(gX.l.iC-g.a.now),gX.l.mode,gX.l.mode,0#64,0#64⟩ {En.z with kind:=1})) iH∧jo 97 127 129 pd jN 0 jb∧Holds jN iQ∧iM iQ∧gh iQ=gh ss++[jA (gh ss) ⟨gX.l.ep,g.a.now+(gX.l.iC-g.a.now),gX.l.mode,gX.l.mode,0#64,0#64⟩ {En.z with kind:=1}]∧iZ (jA (gh ss) ⟨gX.l.ep,g.a.now+(gX.l.iC-g.a.now),gX.l.mode,gX.l.mode,0#64,0#64⟩ {En.z with kind:=1})∧lI ps (ku ps (gh ss)) (jA (gh ss) ⟨gX.l.ep,g.a.now+(gX.l.iC-g.a.now),gX.l.mode,gX.l.mode,0#64,0#64⟩ {En.z with kind:=1})=0∧gr=iH++(jb++(D++H)))→
        r0=.int .i64 0∧∃gU kR D,SA p pd ps (gU.J k) (gU.seen k) (gU.R k) kR∧iR ps gU C (m+1) mc∧gU.a=gX∧gU.c=g.c∧sO k g gU∧gr=kR++(D++H):=by
      rintro r0 gr ⟨rfl,iQ,jN,iH,jb,D,jX,sY,uI,uQ,sC,he,hc,rfl⟩
      rw[jM] at sC he hc jX
      have GI:=e9 _ ⟨gX.l.ep,g.a.now+(gX.l.iC-g.a.now),gX.l.mode,gX.l.mode,js (gh iQ),0#64⟩ he hc rfl rfl e5 rfl rfl
      refine ⟨rfl,_,iH++jb,D,?_,GI,rfl,rfl,⟨ll _ _ _,ll _ _ _,ll _ _ _⟩,by rw[dD]⟩
      show SA p pd ps (hX _ _ _ _) (hX _ _ _ _) (hX _ _ _ _) _
      rw[jJ,jJ,jJ]
      exact ⟨iQ,jN,_,iH,jb,rfl,jX,fun _=>(JT (v.fold k) he hc).2.symm,sY,uI,uQ,sC⟩
    have tI:l7 ps Ld.z (gh ss)=some (ku ps (gh ss)):=Eb (by rw[jM];exact v.fold k)
    exact (agl p pd ps gN ss hj hb (g.seen k) lx (g.R k) L CS mP gI CD hD hH (ku ps (gh ss)) tI gX.l.ep (gX.l.iC-g.a.now) g.a.now gX.l.mode e2 (by rw[e3];exact v.ar.l.1) e4 v.ar.now e8 e6 (by rw[jM];exact e7) H).mono fin
  obtain ⟨r,hr,jk,Cy,tM⟩:=hn hz
  obtain ⟨e1,e2,e3,e4,e5⟩:=aaI v gz hr jk gz tM h2 ha
  rw[hr] at mP
  refine (agm p pd ps gN ss hj gz (g.seen k) r L CS mP gX.l.ep (gX.l.iC-g.a.now) g.a.now gX.l.mode (by rw[e1];exact (v.role k r hr).pos) e2 e3 v.ar.now e1.symm (CD++H)).mono ?_
  rintro r0 gr ⟨rfl,iH,jX,rfl⟩
  have GI:=e5 (Bi r g.a.now (gX.l.iC-g.a.now) gX.l.mode) rfl rfl (by show mL r.iC (g.a.now+(gX.l.iC-g.a.now))=_;rw[agZ]) (by
    show (if gX.l.mode=2∧r.ui=2 then (2:Int) else r.mode)=1∨(if gX.l.mode=2∧r.ui=2 then (2:Int) else r.mode)=2∧gX.l.mode=2
    by_cases q:gX.l.mode=2∧r.ui=2
    · rw[dx q];exact .inr ⟨rfl,q.1⟩
    rw[dp q]
    rcases Cy with q1|q1
    · rcases (v.role k r hr).mode with q2|q2
      · exact .inl q2
      exact .inr ⟨q2,e4 q1 q2⟩
    exact .inl q1.2)
  refine ⟨rfl,_,iH++CD,[],?_,GI,rfl,rfl,⟨rfl,rfl,ll _ _ _⟩,by rw[dD];rfl⟩
  show SA p pd ps (g.J k) (g.seen k) (hX _ _ _ _) _
  rw[jJ]
  exact ⟨ss,gI,L,iH,CD,rfl,jX,fun _=>hL (by rw[hr];exact fun q=>by cases q),hD,hH,hj,jM⟩
theorem ahq (mode:Int) (zv:mode=1∨mode=2) (H:List Ck):
    gC prog 48 [ptr p,.int .i64 mode] (S++H) fun r0 gr=>∃gU kR,SA p pd ps (gU.J k) (gU.seen k) (gU.R k) kR∧iR ps gU C m mc∧gU.a=g.a∧gU.c=g.c∧sO k g gU∧gr=kR++H∧
      ∃n e,r0=.tuple #[.agg (gS n (.slice none 0 0) (.slice none 0 0)).toArray,.int .i64 e]∧(e=210∨(e=0∧∃r,gU.R k=some r∧r.ep≠0#32∧r.mode=1∧(mode=1→(gU.J k).length≤r.iU.toNat)∧n=nR r.ep mode)):=by
  have lW:=hS
  obtain ⟨ss,gI,L,CS,CD,rfl,mP,hL,hD,hH,hj,jM⟩:=hS
  have hlen:=v.len k
  have hb:(gh ss).length≤125:=by rw[jM];omega
  rw[dD]
  cases hr:g.R k with
  | none=>
    rw[hr] at mP
    refine (agW p pd ps gN ss hj hb (g.seen k) L CS mP mode zv (CD++H)).mono ?_
    rintro r0 gr ⟨rfl,iH,jX,rfl⟩
    exact ⟨g,iH++CD,by rw[hr];exact ⟨ss,gI,L,iH,CD,rfl,jX,fun q=>absurd rfl q,hD,hH,hj,jM⟩,v,rfl,rfl,⟨rfl,rfl,rfl⟩,by rw[dD],_,_,rfl,.inl rfl⟩
  | some r=>
    rw[hr] at mP
    have Ek:=hL (by rw[hr];exact fun q=>by cases q)
    refine (agX p pd ps gN ss hj hb (g.seen k) r L CS mP mode zv (CD++H)).mono ?_
    rintro r0 gr ⟨iH,h,rfl⟩
    rcases h with ⟨q1,q2,rfl,jX⟩|⟨q1,rfl,jX⟩
    · exact ⟨g,iH++CD,by rw[hr];exact ⟨ss,gI,L,iH,CD,rfl,jX,fun _=>Ek,hD,hH,hj,jM⟩,v,rfl,rfl,⟨rfl,rfl,rfl⟩,by rw[dD],_,_,rfl,.inl rfl⟩
    refine ⟨{g with R:=hX g.R k (some {r with ui:=mode,mode:=1})},iH++CD,?_,SC v hr rfl rfl rfl (.inl rfl),rfl,rfl,⟨rfl,rfl,ll _ _ _⟩,by rw[dD],_,_,rfl,.inr ⟨rfl,{r with ui:=mode,mode:=1},jJ _ _ _,(v.role k r hr).pos,rfl,fun q=>?_,rfl⟩⟩
    · show SA p pd ps (g.J k) (g.seen k) (hX _ _ _ _) _
      rw[jJ]
      exact ⟨ss,gI,L,iH,CD,rfl,jX,fun _=>Ek,hD,hH,hj,jM⟩
    have:¬r.iU.toNat<(gh ss).length:=fun q9=>q1 ⟨q,q9⟩
    show (g.J k).length≤r.iU.toNat
    rw[jM] at this;omega
omit hm hS in
theorem Ky {r:Rl} (hr:g.R k=some r) (hle:lj (g.R k) g.a.now=true) {e:En} (kZ:e.ep=r.ep) {iQ:List gR} {jN:List (BitVec 8)} {iH jb:List Ck} (h1:iY 115 112 179 185 223 229 248 3 77 p pd ps iQ (g.seen k) (some r) (nG ps (ku ps (g.J k)) e) iH) (h2:jo 97 127 129 pd jN 0 jb) (h3:Holds jN iQ) (h4:iM iQ) (h5:gh iQ=g.J k++[e]) (he:iZ e) (hc:lI ps (ku ps (g.J k)) e=0):
    ∃gU,SA p pd ps (gU.J k) (gU.seen k) (gU.R k) (iH++jb)∧iR ps gU C (m+1) mc∧gU.a=g.a∧gU.c=g.c∧sO k g gU:=by
  refine ⟨{g with J:=hX g.J k (g.J k++[e])},?_,aaz gN v hr hle he kZ hc,rfl,rfl,⟨ll _ _ _,rfl,rfl⟩⟩
  show SA p pd ps (hX _ _ _ _) (g.seen k) (g.R k) _
  rw[jJ,hr]
  exact ⟨iQ,jN,_,iH,jb,rfl,h1,fun _=>(JT (v.fold k) he hc).2.symm,h2,h3,h4,h5⟩
theorem ahp (key d:List (BitVec 8)) (vk vd:Value) (H:List Ck) (hk:Bs vk key H) (hd:Bs vd d H) (jZ:0<key.length∧key.length≤2) (sB:d.length≤1) (xg:jD ps d≠[]):
    gC prog 18 [ptr p,.int .u64 g.a.now.toNat,vk,vd] (S++H) fun r0 gr=>∃gU kR,SA p pd ps (gU.J k) (gU.seen k) (gU.R k) kR∧iR ps gU C (m+1) mc∧gU.a=g.a∧gU.c=g.c∧sO k g gU∧gr=kR++H:=by
  have lW:=hS
  obtain ⟨ss,gI,L,CS,CD,rfl,mP,hL,hD,hH,hj,jM⟩:=hS
  have hlen:=v.len k
  have hb:(gh ss).length≤124:=by rw[jM];omega
  have up:∀c∈H,c∈CD++H:=fun c hc=>dq _ hc
  rw[dD]
  have same:∀(r0:Value) (gr:List Ck),(∃iH,iY 115 112 179 185 223 229 248 3 77 p pd ps ss (g.seen k) (g.R k) L iH∧gr=iH++(CD++H))→∃gU kR,SA p pd ps (gU.J k) (gU.seen k) (gU.R k) kR∧iR ps gU C (m+1) mc∧gU.a=g.a∧gU.c=g.c∧sO k g gU∧gr=kR++H:=by
    rintro r0 gr ⟨iH,jX,rfl⟩
    exact ⟨g,iH++CD,⟨ss,gI,L,iH,CD,rfl,jX,hL,hD,hH,hj,jM⟩,v.le (eh _) (dA _),rfl,rfl,⟨rfl,rfl,rfl⟩,by rw[dD]⟩
  cases hr:g.R k with
  | none=>
    rw[hr] at mP same
    exact (agH p pd ps gN ss hj gz (g.seen k) L CS mP g.a.now key d vk vd (CD++H) (hk.mono up) (hd.mono up)).mono same
  | some r=>
    have yf:lj (g.R k) g.a.now=lj (some r) g.a.now:=by rw[hr]
    rw[hr] at mP same hL
    cases hle:lj (some r) g.a.now with
    |false=>exact (agG p pd ps gN ss hj gz (g.seen k) r L CS mP g.a.now key d vk vd (CD++H) (hk.mono up) (hd.mono up) hle).mono same
    | true=>
      have Ek:=hL (fun q=>by cases q)
      obtain ⟨f1,f2,f3,f4⟩:=Gf gN v hr
      subst Ek
      by_cases hx:∃o∈(ku ps (g.J k)).l,o.key=key
      · obtain ⟨o,ho,mI⟩:=hx
        obtain ⟨i,hi,rfl⟩:=fu ho
        exact (agF p pd ps gN ss hj gz (g.seen k) r _ CS mP g.a.now key d vk vd (CD++H) (hk.mono up) (hd.mono up) hle i hi mI).mono same
      refine (agE p pd ps gN ss hj hb (g.seen k) r _ (by rw[jM];exact f1) CS mP gI CD hD hH g.a.now key d vk vd H hk hd hle (fun o ho q=>hx ⟨o,ho,q⟩) (v.role k r hr).pos f2 (by rw[jM];exact f3) jZ sB xg gz).mono ?_
      rintro r0 gr ⟨iQ,jN,iH,jb,jX,sY,uI,uQ,sC,he,hc,rfl⟩
      rw[jM] at sC he hc jX
      obtain ⟨gU,q1,q2,q3,q4,q5⟩:=Ky gN v hr (yf.trans hle) (e:=jA (g.J k) r (wi (ku ps (g.J k)) key d)) rfl jX sY uI uQ sC he hc
      exact ⟨gU,iH++jb,q1,q2,q3,q4,q5,by rw[dD]⟩
end
theorem z6 {P:Program} {f:FuncId} {args:List Value} {H:List Ck} {jE FO:Value→List Ck→Prop} (h:gC P f args H jE) (hp:∀v gr,jE v gr→∃H2,gr.Perm H2∧FO v H2):gC P f args H FO:=
  fun w R hs=>(h w R hs).mono fun _ _ ⟨v,gr,he,q,r,k⟩=>by
    obtain ⟨H2,p,q2⟩:=hp v gr q
    exact ⟨v,H2,he,q2,r.perm (p.append_right R),k⟩
theorem Pm {P:Program} {f:FuncId} {args:List Value} {H H2:List Ck} {jE:Value→List Ck→Prop} (h:gC P f args H2 jE) (p:H.Perm H2):gC P f args H jE:=
  fun w R hs=>h w R (hs.perm (p.append_right R))
theorem Yt {L:Ld} {x:Nat×Int×Bool×Int} {t:List (Nat×Int×Bool×Int)} (h:vG L=x::t):∃(i:Nat) (hi:i<L.l.length),x=(i+1,L.l[i].sg.step,decide (L.l[i].sg.phase=2),L.l[i].sg.tr)∧L.l[i].sg.asked=true:=by
  have hx:x∈vG L:=by rw[h];exact dy
  obtain ⟨a,ha,hf⟩:=List.mem_filterMap.1 hx
  obtain ⟨i,hi,rfl⟩:=fu ha
  have jV:i<L.l.length:=by rw[r4] at hi;exact hi
  rw[yt hi jV] at hf
  unfold pU at hf
  by_cases q:L.l[i].sg.asked=true
  · rw[dx q] at hf
    exact ⟨i,jV,(eQ hf).symm,q⟩
  rw[dp q] at hf;cases hf
theorem ZX {L:Ld} {x:Nat×Int×Bool×Int} {t:List (Nat×Int×Bool×Int)} (h:AG L=x::t):∃(i:Nat) (hi:i<L.l.length) (d:Int×Bool×Int),x=(i+1,d)∧pD L.l[i].sg=some d:=by
  have hx:x∈AG L:=by rw[h];exact dy
  obtain ⟨a,ha,hf⟩:=List.mem_filterMap.1 hx
  obtain ⟨i,hi,rfl⟩:=fu ha
  have jV:i<L.l.length:=by rw[r4] at hi;exact hi
  rw[yt hi jV] at hf
  unfold pV at hf
  cases q:pD L.l[i].sg with
  |none=>simp only at hf;rw[q] at hf;cases hf
  | some d=>
    simp only at hf
    rw[q] at hf
    exact ⟨i,jV,d,(eQ hf).symm,q⟩
theorem agT {gE n:BitVec 32} {step:Int} {iy:Bool} {w:Wk} (h0:0≤step) (h1:step<16) (hw:w.name.length≤32):mS (Kv gE n step iy w)=false:=by
  have h:=ahR w
  have h2:¬((255:Int)<((r6 w).length:Int)):=by omega
  have h3:¬step<0:=by omega
  have h4:¬16≤step:=by omega
  simp[mS,Kv,jF,nm,rest,oG,wo,qx,qE,h2,h3,h4]
theorem ZU {n:Nt} {code:Int} {iq:List (BitVec 8)} (h0:0≤n.step) (h1:n.step<16) (hc:code=1∨code=2) (hl:iq.length≤255):mS (qD n code iq)=false:=by
  have h2:¬((255:Int)<(iq.length:Int)):=by omega
  have h3:¬n.step<0:=by omega
  have h4:¬16≤n.step:=by omega
  rcases hc with rfl|rfl<;>simp[mS,qD,jF,nm,rest,oG,wo,qx,qE,h2,h3,h4]
structure DI (ps:List (List ia)) (g:Gs) (k:Bool) (n:Nt) (r:Rl) (i:Nat):Prop where
  hr:g.R k=some r
  le:lj (g.R k) g.a.now=true
  co:(g.J k).length≤(ng (g.R k) (g.J k)).toNat
  hi:i<(ku ps (g.J k)).l.length
  ask:∃t,vG (ku ps (g.J k))=(i+1,(ku ps (g.J k)).l[i].sg.step,decide ((ku ps (g.J k)).l[i].sg.phase=2),(ku ps (g.J k)).l[i].sg.tr)::t
  asked:(ku ps (g.J k)).l[i].sg.asked=true
  s0:0≤(ku ps (g.J k)).l[i].sg.step∧(ku ps (g.J k)).l[i].sg.step<16
  x:∃x,Fo x∧(jD ps (ku ps (g.J k)).l[i].data)[(ku ps (g.J k)).l[i].sg.step.toNat]?=some x∧n=Kv r.ep (BitVec.ofNat 32 (i+1)) (ku ps (g.J k)).l[i].sg.step (decide ((ku ps (g.J k)).l[i].sg.phase=2)) (yD x)
section
variable {p pd:Nat} {ps:List (List ia)} (gN:∀q∈ps,jh q) {g:Gs} {C:List En} {m mc:Nat} (v:iR ps g C m mc) (hm:m≤119) {k:Bool}
include gN v hm
theorem DI.qk (qt:mc<200) {n:Nt} {r:Rl} {i:Nat} (q:DI ps g k n r i):n.key=[]∧∃code iq g2,oY g.c n=qD n code iq∧(code=1∨code=2)∧iq.length≤255∧iR ps g2 (g.J k) m (mc+1)∧C<+:g.J k∧g2.c=oH g.c n∧g2.a=g.a∧g2.J=g.J∧g2.seen=g.seen∧g2.R=g.R∧DI ps g2 k n r i:=by
  obtain ⟨x,Uz,hx,hn⟩:=q.x
  have hlen:=v.len k
  have abd:=(Gf gN v q.hr).2.2.2
  have qH:=q.hi
  have hb:=agT (gE:=r.ep) (n:=BitVec.ofNat 32 (i+1)) (iy:=decide ((ku ps (g.J k)).l[i].sg.phase=2)) (w:=yD x) q.s0.1 q.s0.2 Uz.len
  have jf:(BitVec.ofNat 32 (i+1)).toNat=i+1:=by rw[fg];omega
  rw[←hn] at hb
  obtain ⟨code,iq,h1,h2,h3,h4,h5⟩:=aaB gN v gz qt q.hr q.le q.co q.hi q.s0.1 hx (by rw[hn];rfl) hb (by rw[hn];rfl) (by rw[hn];exact jf) (congrArg Nt.step hn) (by rw[hn];rfl)
  exact ⟨by rw[hn];rfl,code,iq,_,h1,h2,h3,h4,h5,rfl,rfl,rfl,rfl,rfl,⟨q.hr,q.le,q.co,q.hi,q.ask,q.asked,q.s0,q.x⟩⟩
variable {S:List Ck} (hS:SA p pd ps (g.J k) (g.seen k) (g.R k) S)
include hS
theorem ahn (H:List Ck):gC prog 41 [ptr p,.int .u64 g.a.now.toNat] (S++H) fun r0 gr=>
    (∃gU kR D err,r0=.tuple #[.agg (gS jF (.slice none 0 0) (.slice none 0 0)).toArray,.int .i64 err]∧(err=0∨err=4∨err=210)∧SA p pd ps (gU.J k) (gU.seen k) (gU.R k) kR∧iR ps gU C (m+1) mc∧gU.a=g.a∧gU.c=g.c∧sO k g gU∧gr=kR++(D++H))∨
    (∃n vd A r i,r0=.tuple #[.agg (gS n (.slice none 0 0) vd).toArray,.int .i64 0]∧DI ps g k n r i∧Bs vd n.data A∧gr=A++(S++H)):=by
  have lW:=hS
  obtain ⟨ss,gI,L,CS,CD,rfl,mP,hL,hD,hH,hj,jM⟩:=hS
  have hlen:=v.len k
  have hb:(gh ss).length≤124:=by rw[jM];omega
  have EL:∀(r0:Value) (gr:List Ck),(r0=.tuple #[.agg (gS jF (.slice none 0 0) (.slice none 0 0)).toArray,.int .i64 210]∧gr=(CS++CD)++H)→(∃gU kR D err,r0=.tuple #[.agg (gS jF (.slice none 0 0) (.slice none 0 0)).toArray,.int .i64 err]∧(err=0∨err=4∨err=210)∧SA p pd ps (gU.J k) (gU.seen k) (gU.R k) kR∧iR ps gU C (m+1) mc∧gU.a=g.a∧gU.c=g.c∧sO k g gU∧gr=kR++(D++H)):=by
    rintro r0 gr ⟨rfl,rfl⟩
    exact ⟨g,CS++CD,[],210,rfl,.inr (.inr rfl),lW,v.le (eh _) (dA _),rfl,rfl,⟨rfl,rfl,rfl⟩,rfl⟩
  have hV:=(iY.v mP).mono (B:=(CS++CD)++H) fun c hc=>dw _ (dw _ hc)
  cases hr:g.R k with
  | none=>
    rw[hr] at hV
    exact (agD p pd ps gN ss hj gz (g.seen k) L g.a.now _ hV).mono fun r0 gr h=>.inl (EL r0 gr h)
  | some r=>
    have yf:lj (g.R k) g.a.now=lj (some r) g.a.now:=by rw[hr]
    have abe:(ng (g.R k) (g.J k))=ng (some r) (g.J k):=by rw[hr]
    rw[hr] at hV mP
    have Ek:=hL (by rw[hr];exact fun q=>by cases q)
    by_cases hq:lj (some r) g.a.now=true∧(gh ss).length≤(ng (some r) (gh ss)).toNat
    case neg=>
      refine (agC p pd ps gN ss hj gz (g.seen k) r L g.a.now _ hV (fun q=>by
        have:¬(gh ss).length≤(ng (some r) (gh ss)).toNat:=fun q2=>hq ⟨q,q2⟩
        omega)).mono fun r0 gr h=>.inl (EL r0 gr h)
    obtain ⟨hle,s6⟩:=hq
    obtain ⟨f1,f2,f3,f4⟩:=Gf gN v hr
    subst Ek
    have o:=v.role k r hr
    have ht:=ER gN (v.fold k)
    cases zf:vG (ku ps (g.J k)) with
    | cons x t=>
      obtain ⟨i,hi,rfl,has⟩:=Yt zf
      refine (agz p pd ps gN ss hj gz (g.seen k) r _ g.a.now _ hV hle s6 i hi t zf has).mono ?_
      rintro r0 gr ⟨hs,vd,A,rfl,yb,rfl⟩
      obtain ⟨qu,oB,_⟩:=ht.inv.one _ (dG hi)
      have yl:=gN _ (tp qu)
      have G6:0≤(ku ps (g.J k)).l[i].sg.step∧(ku ps (g.J k)).l[i].sg.step<((jD ps (ku ps (g.J k)).l[i].data).length:Int):=by
        rcases oB with ⟨_,_,_,q⟩|⟨_,q1,q2,_⟩
        · rw[q] at has;cases has
        exact ⟨q1,q2⟩
      have lx:=yl.len
      exact .inr ⟨_,vd,A,r,i,rfl,⟨hr,by rw[yf];exact hle,by rw[abe,←jM];exact s6,hi,⟨t,zf⟩,has,⟨G6.1,by omega⟩,⟨_,yl.one _ (dG hs),dK hs,rfl⟩⟩,yb,rfl⟩
    | nil =>
      rw[dD]
      cases MP:AG (ku ps (g.J k)) with
      | cons x t=>
        obtain ⟨i,hi,d,rfl,oy⟩:=ZX MP
        refine (agA p pd ps gN ss hj hb (g.seen k) r _ (by rw[jM];exact f1) CS mP gI CD hD hH g.a.now hle s6 o.pos f2 (by rw[jM];exact f3) zf i hi d t MP oy H).mono ?_
        rintro r0 gr ⟨rfl,iQ,jN,iH,jb,D,jX,sY,uI,uQ,sC,he,hc,rfl⟩
        rw[jM] at sC he hc jX
        obtain ⟨gU,q1,q2,q3,q4,q5⟩:=Ky gN v hr (yf.trans hle) (e:=jA (g.J k) r (tZ (i+1) d)) rfl jX sY uI uQ sC he hc
        exact .inl ⟨gU,iH++jb,D,0,rfl,.inl rfl,q1,q2,q3,q4,q5,by rw[dD]⟩
      | nil=>
        refine (agB p pd ps gN ss hj hb (g.seen k) r _ (by rw[jM];exact f1) CS mP gI CD hD hH g.a.now hle s6 o.pos f2 (by rw[jM];exact f3) zf MP H).mono ?_
        rintro r0 gr (⟨rfl,i,hi,n,hn,_,iQ,jN,iH,jb,D,jX,sY,uI,uQ,sC,he,hc,rfl⟩|⟨rfl,iH,jb,D,jX,sY,rfl⟩)
        · rw[jM] at sC he hc jX
          obtain ⟨gU,q1,q2,q3,q4,q5⟩:=Ky gN v hr (yf.trans hle) (e:=jA (g.J k) r (yY n (ku ps (g.J k)).l[i].sg.code)) rfl jX sY uI uQ sC he hc
          exact .inl ⟨gU,iH++jb,D,0,rfl,.inl rfl,q1,q2,q3,q4,q5,by rw[dD]⟩
        exact .inl ⟨g,iH++jb,D,4,rfl,.inr (.inl rfl),⟨ss,gI,_,iH,jb,rfl,by rw[hr];exact jX,fun _=>rfl,sY,hH,hj,jM⟩,v.le (eh _) (dA _),rfl,rfl,⟨rfl,rfl,rfl⟩,by rw[dD]⟩
theorem aho (H:List Ck):gC prog 41 [ptr p,.int .u64 g.a.now.toNat] (S++H) fun r0 gr=>∃n jR dn dc err g1 S1 D,r0=.tuple #[.agg (gS n (.slice none 0 0) (.slice jR dn dc)).toArray,.int .i64 err]∧SA p pd ps (g1.J k) (g1.seen k) (g1.R k) S1∧g1.a=g.a∧g1.c=g.c∧sO k g g1∧gr=S1++(D++H)∧
    ((n=jF∧(err=0∨err=4∨err=210)∧iR ps g1 C (m+1) mc)∨(err=0∧n.kind=7∧iR ps g1 C m mc∧∃r i,DI ps g1 k n r i∧Bs (.slice jR dn dc) n.data D)):=by
  refine z6 (ahn gN v hm hS H) ?_
  rintro r0 gr (⟨gU,kR,D,err,rfl,he,h1,h2,h3,h4,h5,rfl⟩|⟨n,vd,A,r,i,rfl,hq,hb,rfl⟩)
  · exact ⟨_,fb _,jF,_,_,_,err,gU,kR,D,rfl,h1,h3,h4,h5,rfl,.inl ⟨rfl,he,h2⟩⟩
  obtain ⟨jR,dc,rfl,_⟩:=hb.form
  obtain ⟨x,_,_,hn⟩:=hq.x
  exact ⟨S++(A++H),List.perm_append_comm_assoc _ _ _,n,_,_,_,0,g,S,A,rfl,hS,rfl,rfl,⟨rfl,rfl,rfl⟩,rfl,.inr ⟨rfl,by rw[hn];rfl,v,r,i,hq,hb⟩⟩
theorem aha {n:Nt} {r:Rl} {i:Nat} (q:DI ps g k n r i) {code:Int} {iq:List (BitVec 8)} (mC:code=1∨code=2) (Jz:iq.length≤255) (vk vd:Value) (tj:mm vk 0) (p7:mm vd iq.length) (H:List Ck):
    gC prog 43 [ptr p,.int .u64 g.a.now.toNat,.agg (gS (qD n code iq) vk vd).toArray] (S++H) fun r0 gr=>r0=.int .i64 0∧∃gU kR D,SA p pd ps (gU.J k) (gU.seen k) (gU.R k) kR∧iR ps gU C (m+1) mc∧gU.a=g.a∧gU.c=g.c∧sO k g gU∧gr=kR++(D++H):=by
  have lW:=hS
  obtain ⟨ss,gI,L,CS,CD,rfl,mP,hL,hD,hH,hj,jM⟩:=hS
  have hlen:=v.len k
  have hb:(gh ss).length≤124:=by rw[jM];omega
  have hr:=q.hr
  have yf:lj (g.R k) g.a.now=lj (some r) g.a.now:=by rw[hr]
  rw[hr] at mP
  obtain rfl:=hL (by rw[hr];exact fun q=>by cases q)
  obtain ⟨f1,f2,f3,f4⟩:=Gf gN v hr
  have qH:=q.hi
  obtain ⟨t,zf⟩:=q.ask
  obtain ⟨x,_,hx,hn⟩:=q.x
  have jf:(BitVec.ofNat 32 (i+1)).toNat=i+1:=by rw[fg];omega
  rw[dD]
  refine (af4 p pd ps gN ss hj hb (g.seen k) r _ (by rw[jM];exact f1) CS mP gI CD hD hH g.a.now (by rw[←yf];exact q.le) (v.role k r hr).pos f2 (by rw[jM];exact f3) i q.hi t zf q.asked (qD n code iq) rfl (ZU (by rw[hn];exact q.s0.1) (by rw[hn];exact q.s0.2) mC Jz) (by rw[hn];rfl) (by rw[hn];exact jf) (congrArg Nt.step hn) (congrArg Nt.iy hn) (by show 1≤code∧code≤3;omega) vk vd tj p7 H).mono ?_
  rintro r0 gr ⟨rfl,iQ,jN,iH,jb,D,jX,sY,uI,uQ,sC,he,hc,rfl⟩
  rw[jM] at sC he hc jX
  obtain ⟨gU,q1,q2,q3,q4,q5⟩:=Ky gN v hr q.le (e:=jA (g.J k) r (ts (qD n code iq).order (ku ps (g.J k)).l[i].sg.step (decide ((ku ps (g.J k)).l[i].sg.phase=2)) (ku ps (g.J k)).l[i].sg.tr (qD n code iq).code)) rfl jX sY uI uQ sC he hc
  exact ⟨rfl,gU,iH++jb,D,q1,q2,q3,q4,q5,by rw[dD]⟩
end
section
variable {p pd:Nat} {ps:List (List ia)} (gN:∀q∈ps,jh q) {l:List En} {seen:BitVec 32} {R:Option Rl}
include gN
theorem ahm {H:List Ck} (hv:BL p pd ps l seen R H) (hb:l.length≤125) (hf:Folds ps l) (hR:∀r,R=some r→FQ l r):gC prog 44 [ptr p] H fun r0 gr=>∃n vd b A,r0=.tuple #[.agg (gS n (.slice none 0 0) vd).toArray,.bool b]∧gr=A++H∧Bs vd n.data A∧
    (b=true→∃r i,∃hi:i<l.length,R=some r∧r.next.toNat=i+1∧n=j4 r.ep (ke l i) (r.next-1#64) l[i]):=by
  obtain ⟨ss,L,h1,h2,h3,rfl⟩:=hv
  have nil:Bs (.slice none 0 0) jF.data []:=.inl ⟨_,_,rfl,rfl,rfl⟩
  cases R with
  | none=>
    refine (agw p pd ps gN ss h3 hb seen L H h1).mono ?_
    rintro r0 gr ⟨rfl,rfl⟩
    exact ⟨jF,_,false,[],rfl,rfl,nil,fun q=>by cases q⟩
  | some r=>
    have o:=hR r rfl
    by_cases hn:r.next.toNat=0∨(gh ss).length<r.next.toNat
    · refine (agx p pd ps gN ss h3 hb seen r L H h1 hn).mono ?_
      rintro r0 gr ⟨rfl,A,rfl⟩
      exact ⟨jF,_,false,A,rfl,rfl,.inl ⟨_,_,rfl,rfl,rfl⟩,fun q=>by cases q⟩
    have hi:r.next.toNat-1<(gh ss).length:=by omega
    have uS:(r.next-1#64).toNat=r.next.toNat-1:=by
      rw[BitVec.toNat_sub]
      show (18446744073709551616-1+r.next.toNat)%18446744073709551616=_
      have:=r.next.isLt
      omega
    obtain ⟨x,hx,JC⟩:=o.last
    have kZ:(gh ss)[r.next.toNat-1].ep.toNat≤r.ep.toNat:=by
      have q1:=(ER gN hf).ep _ (dG hi)
      rw[N9 gN hf hx,JC] at q1
      exact q1
    refine (agy p pd ps gN ss h3 hb seen r L H h1 o.pos (r.next.toNat-1) hi gz kZ).mono ?_
    rintro r0 gr ⟨vd,A,rfl,yb,rfl⟩
    rw[uS]
    exact ⟨_,vd,true,A,rfl,rfl,yb,fun _=>⟨r,_,hi,rfl,by omega,rfl⟩⟩
theorem W5 {S:List Ck} {r:Rl} (hS:SA p pd ps l seen (some r) S) (hb:l.length≤125) (n:Nt) (hl:n.gF.toNat<18446744073709551615) (H:List Ck):gC prog 46 [ptr p,.agg (gS n (.slice none 0 0) (.slice none 0 0)).toArray] (S++H) fun r0 gr=>∃kR D,SA p pd ps l seen (og r n l) kR∧gr=kR++(D++H):=by
  obtain ⟨ss,gI,L,CS,CD,rfl,h1,h2,h3,h4,h5,rfl⟩:=hS
  rw[dD]
  refine z6 (agv p pd ps gN ss h5 hb seen r L CS h1 n _ _ rfl rfl hl (CD++H)) ?_
  rintro r0 gr ⟨rfl,iH,D,jX,rfl⟩
  have hp:List.Perm (iH++(D++(CD++H))) ((iH++CD)++(D++H)):=by
    rw[dD]
    exact gf _ (List.perm_append_comm_assoc _ _ _)
  exact ⟨_,hp,iH++CD,D,⟨ss,gI,L,iH,CD,rfl,jX,fun _=>h2 (fun q=>by cases q),h3,h4,h5,rfl⟩,rfl⟩
end
section
variable {p pd:Nat} {ps:List (List ia)} (gN:∀q∈ps,jh q) {g:Gs} {C:List En} {m mc:Nat} (v:iR ps g C m mc) (hm:m≤119) {k:Bool} {S:List Ck} (hS:SA p pd ps (g.J (!k)) (g.seen (!k)) (g.R (!k)) S)
include gN v hm hS
theorem W6 {r:Rl} (hr:g.R k=some r) {i:Nat} (hi:i<(g.J k).length) (oy:r.next.toNat=i+1) (Jk:∃ss,iM ss∧gh ss=g.J k) {n:Nt} (hn:n=j4 r.ep (ke (g.J k) i) (r.next-1#64) (g.J k)[i]) (vd:Value) (H:List Ck) (hd:Bs vd n.data H):
    gC prog 45 [ptr p,.agg (gS n (.slice none 0 0) vd).toArray] (S++H) fun r0 gr=>∃back gU kR D,r0=.tuple #[.agg (gS back (.slice none 0 0) (.slice none 0 0)).toArray,.int .i64 0]∧back.gF.toNat<18446744073709551615∧SA p pd ps (gU.J (!k)) (gU.seen (!k)) (gU.R (!k)) kR∧iR ps gU C m mc∧
      gU.a=g.a∧gU.c=g.c∧gU.J k=g.J k∧gU.seen k=g.seen k∧gU.R k=og r back (g.J k)∧gr=kR++(D++H):=by
  subst hn
  obtain ⟨ssk,Jk,Td⟩:=Jk
  have zC:mn (g.J k):=by rw[←Td];exact Jk.row
  have zG:(iB (g.J k)[i]).length≤30:=Jk.small _ (by rw[Td];exact dG hi)
  obtain ⟨ss,gI,L,CS,CD,rfl,mP,hL,hD,hH,hj,jM⟩:=hS
  have acm:mn (g.J (!k)):=by rw[←jM];exact hj.row
  have hlen:=v.len (!k)
  have ajc:=v.len k
  have hb:(gh ss).length≤125:=by rw[jM];omega
  obtain ⟨f1,f2,f3,f4⟩:=Gf gN v hr
  have o:=v.role k r hr
  have he:=zC.mG.ok _ (dG hi)
  have pQ:=zC.gF i hi
  have uS:(r.next-1#64).toNat=i:=by
    rw[BitVec.toNat_sub]
    show (18446744073709551616-1+r.next.toNat)%18446744073709551616=_
    have:=r.next.isLt
    omega
  have lR:(g.J k)[i].gF-1#64=r.next-1#64:=by rw[show (g.J k)[i].gF=r.next from dB gz]
  have kZ:(g.J k)[i].ep.toNat≤r.ep.toNat:=eJ ((ER gN (v.fold k)).ep _ (dG hi)) f2
  have hold:(ke (g.J k) i).toNat≤(g.J k)[i].ep.toNat:=by
    cases i with
    |zero=>exact dN _
    | succ j=>
      rw[II gz]
      rcases (zC.mG.nx j hi).2 with q|q
      · rw[q];exact dA _
      exact Nat.le_of_lt q.2
  have ho:ke (g.J k) i=0#32↔r.next-1#64=0#64:=by
    cases i with
    |zero=>exact ⟨fun _=>dB uS,fun _=>rfl⟩
    | succ j=>
      rw[II gz]
      refine ⟨fun q=>absurd q (zC.mG.ok _ (dG gz)).2.1,fun q=>?_⟩
      rw[q] at uS;cases uS
  have AX:i≤(gh ss).length→(i≠0→ke (gh ss) i=ke (g.J k) i)→mE ((gh ss).take i++[(g.J k)[i]]):=fun q1 q2=>by
    rw[jM] at q1 q2 ⊢
    rw[Wy v k zC hi q1 q2]
    exact zC.mG.take _
  have yc:Bs vd (iB (g.J k)[i]) H:=hd
  have up:∀c∈H,c∈CD++H:=fun c hc=>dq _ hc
  rw[dD]
  --iA is left as it is,but for the role and iA is seen
  have EL:∀{back:Nt} {Ff:BitVec 32} {Ao:Option Rl} {gU:Gs},(Ao=none∨Ao=g.R (!k))→back.gF.toNat<18446744073709551615→iR ps gU C m mc→gU.a=g.a→gU.c=g.c→gU.J=g.J→gU.seen (!k)=Ff→gU.R (!k)=Ao→gU.seen k=g.seen k→gU.R k=og r back (g.J k)→
      ∀(r0:Value) (gr:List Ck),(r0=.tuple #[.agg (gS back (.slice none 0 0) (.slice none 0 0)).toArray,.int .i64 0]∧∃iH D,iY 115 112 179 185 223 229 248 3 77 p pd ps ss Ff Ao L iH∧gr=iH++(D++(CD++H)))→
      ∃ H2,gr.Perm H2∧∃back gU kR D,r0=.tuple #[.agg (gS back (.slice none 0 0) (.slice none 0 0)).toArray,.int .i64 0]∧back.gF.toNat<18446744073709551615∧SA p pd ps (gU.J (!k)) (gU.seen (!k)) (gU.R (!k)) kR∧iR ps gU C m mc∧
        gU.a=g.a∧gU.c=g.c∧gU.J k=g.J k∧gU.seen k=g.seen k∧gU.R k=og r back (g.J k)∧H2=kR++(D++H):=by
    intro back Ff Ao gU hR nq hg h1 h2 h3 h4 h5 h6 h7
    rintro r0 gr ⟨rfl,iH,D,jX,rfl⟩
    refine ⟨(iH++CD)++(D++H),?_,back,gU,iH++CD,D,rfl,nq,?_,hg,h1,h2,by rw[h3],h6,h7,rfl⟩
    · rw[dD]
      exact gf _ (List.perm_append_comm_assoc _ _ _)
    rw[h3,h4,h5]
    refine ⟨ss,gI,L,iH,CD,rfl,jX,fun q=>?_,hD,hH,hj,jM⟩
    rcases hR with q2|q2
    · exact absurd q2 q
    rw[q2] at q;exact hL q
  by_cases jB:r.ep.toNat<(g.seen (!k)).toNat
  · obtain ⟨G,ti⟩:=af6 v hr jB
    have kE:mf (gh ss) (g.seen (!k)) r.ep (ke (g.J k) i) i (g.J k)[i]=(gh ss,g.seen (!k),yx (g.seen (!k))):=by unfold mf;rw[dx jB]
    have hsr:og r (yx (g.seen (!k))) (g.J k)=none:=by unfold og;rw[dx ⟨rfl,jB⟩]
    have hf:=EL (back:=yx (g.seen (!k))) (Ff:=g.seen (!k)) (Ao:=g.R (!k)) (gU:={g with R:=hX g.R k none}) (.inr rfl) (by show (0#64).toNat<_;decide) G rfl rfl rfl rfl (ll _ _ _) rfl ((jJ _ _ _).trans hsr.symm)
    have Bb:∀x,g.R (!k)=some x→x.ep≠r.ep:=fun x q=>(ti x q).2
    cases hR:g.R (!k) with
    | none=>
      rw[hR] at mP hf Bb
      exact z6 (agS p pd ps gN ss hj hb (g.seen (!k)) none L CS mP r.ep _ _ _ he o.pos ho lR kZ hold i uS AX (none,0) vd (CD++H) (yc.mono up) jB (Nat.lt_of_le_of_lt (dN _) jB) Bb kE) hf
    | some r2=>
      rw[hR] at mP hf Bb
      exact z6 (agP p pd ps gN ss hj hb (g.seen (!k)) (some r2) L CS mP r.ep _ _ _ he o.pos ho lR kZ hold i uS AX (none,0) vd (CD++H) (yc.mono up) jB (ti r2 hR).1 Bb kE) hf
  obtain ⟨hk,Uj,CX,ti⟩:=O6 v hr jB
  have Bb:∀x,g.R (!k)=some x→x.ep≠r.ep:=fun x q=>(ti x q).2
  have NL:(nV (g.R (!k))).toNat<r.ep.toNat:=by
    cases hR:g.R (!k) with
    |none=>exact CX
    |some r2=>exact (ti r2 hR).1
  have hsa:∀x:BitVec 64,og r (uz r.ep x) (g.J k)=some {r with next:=oD r.next (uz r.ep x),iU:=r.iU}:=fun x=>by
    unfold og
    rw[dp (fun q=>absurd q.1 (by show ¬(3:Int)=6;decide)),dx (show (uz r.ep x).gE=r.ep from rfl),dp (by show ¬(3:Int)=2;decide)]
  have G6:og r (mq r.ep (g.J k)[i].gF) (g.J k)=some {r with next:=oD r.next (mq r.ep (g.J k)[i].gF),iU:=mL r.iU (n4 (g.J k)[i].gF (js (g.J k)))}:=by
    unfold og
    rw[dp (fun q=>absurd q.1 (by show ¬(2:Int)=6;decide)),dx (show (mq r.ep (g.J k)[i].gF).gE=r.ep from rfl),dx (show (mq r.ep (g.J k)[i].gF).kind=2 from rfl)];rfl
  have Ua:(mL r.iU (n4 (g.J k)[i].gF (js (g.J k)))).toNat=r.iU.toNat∨(mL r.iU (n4 (g.J k)[i].gF (js (g.J k)))).toNat=i+1:=by
    have h1:(n4 (g.J k)[i].gF (js (g.J k))).toNat=i+1:=by
      unfold n4
      rw[nO gz,dx gz,pQ]
    unfold mL
    split
    · exact .inr h1
    exact .inl rfl
  rcases aaJ v gz hr jB zC acm hi rfl rfl with ⟨x,hx,kE,hG⟩|⟨gQ,kE,hG⟩|⟨hle,kE,tN,uT,hG⟩
  · rw[←jM] at kE
    have hf:=EL (back:=uz r.ep x) (Ff:=r.ep) (Ao:=none) (.inl rfl) (by show x.toNat<_;omega) (hG {r with next:=oD r.next (uz r.ep x),iU:=r.iU} ⟨rfl,rfl,rfl⟩ rfl) rfl rfl rfl (jJ _ _ _) ((ll _ _ _).trans (jJ _ _ _)) (uh _ _ _) ((jJ _ _ _).trans (hsa x).symm)
    exact z6 (agO p pd ps gN ss hj hb (g.seen (!k)) (g.R (!k)) L CS mP r.ep _ _ _ he o.pos ho lR kZ hold i uS AX (none,0) vd (CD++H) (yc.mono up) CX NL x Bb kE) hf
  · rw[←jM] at kE
    rw[←jM] at gQ
    have hf:=EL (back:=mq r.ep (g.J k)[i].gF) (Ff:=r.ep) (Ao:=none) (.inl rfl) (by show ((g.J k)[i].gF).toNat<_;omega) (hG {r with next:=oD r.next (mq r.ep (g.J k)[i].gF),iU:=mL r.iU (n4 (g.J k)[i].gF (js (g.J k)))} ⟨rfl,rfl,rfl⟩ Ua) rfl rfl rfl (jJ _ _ _) ((ll _ _ _).trans (jJ _ _ _)) (uh _ _ _) ((jJ _ _ _).trans G6.symm)
    exact z6 (agR p pd ps gN ss hj hb (g.seen (!k)) (g.R (!k)) L CS mP r.ep _ _ _ he o.pos ho lR kZ hold i uS AX (none,0) vd (CD++H) (yc.mono up) CX NL gQ Bb kE) hf
  rw[←jM] at kE uT
  have GI:=hG {r with next:=oD r.next (mq r.ep (g.J k)[i].gF),iU:=mL r.iU (n4 (g.J k)[i].gF (js (g.J k)))} ⟨rfl,rfl,rfl⟩ Ua
  have hf:∀(r0:Value) (gr:List Ck),(r0=.tuple #[.agg (gS (mq r.ep (g.J k)[i].gF) (.slice none 0 0) (.slice none 0 0)).toArray,.int .i64 0]∧∃iQ jN iH jb D,iY 115 112 179 185 223 229 248 3 77 p pd ps iQ r.ep none L iH∧jo 97 127 129 pd jN 0 jb∧Holds jN iQ∧iM iQ∧gh iQ=(gh ss).take i++[(g.J k)[i]]∧gr=iH++(jb++(D++H)))→
      ∃ back gU kR D,r0=.tuple #[.agg (gS back (.slice none 0 0) (.slice none 0 0)).toArray,.int .i64 0]∧back.gF.toNat<18446744073709551615∧SA p pd ps (gU.J (!k)) (gU.seen (!k)) (gU.R (!k)) kR∧iR ps gU C m mc∧
        gU.a=g.a∧gU.c=g.c∧gU.J k=g.J k∧gU.seen k=g.seen k∧gU.R k=og r back (g.J k)∧gr=kR++(D++H):=by
    rintro r0 gr ⟨rfl,iQ,jN,iH,jb,D,jX,sY,uI,uQ,sC,rfl⟩
    refine ⟨_,_,iH++jb,D,rfl,?_,?_,GI,rfl,rfl,uh _ _ _,uh _ _ _,(jJ _ _ _).trans G6.symm,by rw[dD]⟩
    · show ((g.J k)[i].gF).toNat<_
      omega
    show SA p pd ps (hX g.J (!k) _ (!k)) (hX g.seen (!k) _ (!k)) (hX (hX g.R (!k) none) k _ (!k)) _
    rw[jJ,jJ,ll,jJ]
    exact ⟨iQ,jN,L,iH,jb,rfl,jX,fun q=>absurd rfl q,sY,uI,uQ,by rw[sC,jM]⟩
  have abT:i≤(gh ss).length:=by rw[jM];exact hle
  have abh:∀h:i<(gh ss).length,iB (g.J k)[i]≠iB (gh ss)[i]:=by
    intro h
    have h9:i<(g.J (!k)).length:=by rw[←jM];exact h
    have:=tN h9
    have e9:(gh ss)[i]=(g.J (!k))[i]:=by simp only[jM]
    rw[e9];exact this
  exact (agQ p pd ps gN ss hj hb (g.seen (!k)) (g.R (!k)) L CS mP gI CD hD hH r.ep _ _ _ he o.pos ho lR kZ hold i uS AX (none,0) vd H yc CX NL uT zG abT abh Bb kE).mono hf
end
end Go.Proofs.YtchdmlkiggdhaaaGreat
namespace Go.Proofs.YtchdmlkiggdhaaaGreat
open Go.SL Go.Proofs.Tryz
attribute [local irreducible] WL WC DN gZ iX
theorem zN (iL:Int) (H:List Ck):Reads prog 168 [.int .i64 iL] H (.bool (decide (iL=1∨iL=2))):=by
 refine gC.enter func168 rfl ntmps168 rfl ?_
 intro w0 R
 refine g_ [8,701,1] ?_
 refine ag (t:=5) rfl (fun rn=>?_) (fun rn=>?_)
 refine g_ [7] ?_
 refine gH H ?_
 refine aa results168 rfl (⟨?_,rfl⟩)
 congr 1
 rw[dM]
 simp only[dz,fR,eW]
 omega
 refine g_ [1,701,5] ?_
 refine gH H ?_
 refine aa results168 rfl (⟨?_,rfl⟩)
 congr 1
 rw[dM]
 simp only[dz,fR,eW]
 omega
theorem Vf (n:BitVec 64) (H:List Ck):Reads prog 169 [.int .u64 n.toNat] H (.bool (decide (1≤n.toNat∧n.toNat≤10000))):=by
 refine gC.enter func169 rfl ntmps169 rfl ?_
 intro w0 R
 refine g_ [8,708,1] ?_
 refine ag (t:=5) rfl (fun rn=>?_) (fun rn=>?_)
 refine g_ [1,706,5] ?_
 refine gH H ?_
 refine aa results169 rfl (⟨?_,rfl⟩)
 congr 1
 rw[dM]
 simp only[dz,eB,fS]
 omega
 refine g_ [7] ?_
 refine gH H ?_
 refine aa results169 rfl (⟨?_,rfl⟩)
 congr 1
 rw[dM]
 simp only[dz,eB,fS]
 omega
theorem Yz (n:BitVec 64) (H:List Ck):Reads prog 28 [.int .u64 n.toNat] H (.bool (decide (1≤n.toNat∧n.toNat≤10000))):=by
 refine gC.enter func28 rfl ntmps28 rfl ?_
 intro w0 R
 refine g_ [8,708,1] ?_
 refine ag (t:=5) rfl (fun rn=>?_) (fun rn=>?_)
 refine g_ [1,706,5] ?_
 refine gH H ?_
 refine aa results28 rfl (⟨?_,rfl⟩)
 congr 1
 rw[dM]
 simp only[dz,eB,fS]
 omega
 refine g_ [7] ?_
 refine gH H ?_
 refine aa results28 rfl (⟨?_,rfl⟩)
 congr 1
 rw[dM]
 simp only[dz,eB,fS]
 omega
theorem JZ (l:Ls) (h:EW l) (H:List Ck):Reads prog 167 [.agg (ry l).toArray] H (.int .i64 0):=by
 refine gC.enter func167 rfl ntmps167 rfl ?_
 intro w0 R
 refine gY (iV fun b1=>?_)
 refine g_ [5,103,1,701,1] ?_
 refine ag (t:=9) rfl (fun GM=>?_) (fun GM=>?_)
 refine g_ [9,101,1,701,1] ?_
 refine ag (t:=17) rfl (fun w8=>?_) (fun w8=>?_)
 refine g_ [100,1] ?_
 refine jx 17 rfl rfl rfl (aD _ (0#32) rfl rfl rfl rfl) (g_ [2] ?_)
 refine ag (t:=22) rfl (fun zm=>?_) (fun zm=>?_)
 refine g_ [102,1] ?_
 refine jx 22 rfl rfl rfl (cc _ (0#64) rfl rfl rfl rfl) (g_ [6,101,1] ?_)
 refine jv call168 rfl (zN _ _) ?_
 refine g_ [1] ?_
 refine ag (t:=30) rfl (fun py=>?_) (fun py=>?_)
 refine g_ [100,1,707,2] ?_
 refine ag (t:=35) rfl (fun ou=>?_) (fun ou=>?_)
 refine g_ [102,1,706,8,709,2,709,1] ?_
 refine aG (t:=45) rfl (fun rm=>?_) (fun rm=>?_)
 refine g_ [1,709,4] ?_
 refine WC.cond rfl (fun wS=>?_) (fun wS=>?_)
 refine g_ [7] ?_
 refine gH H ?_
 refine aa results167 rfl ?_
 exfalso;obtain ⟨hm,⟨h1,h2,h3⟩|⟨h1,h2,h3⟩⟩:=h<;>simp_all<;>omega
 refine g_ [8] ?_
 refine gH H ?_
 refine aa results167 rfl ?_
 exact ⟨rfl,rfl⟩
 refine g_ [15] ?_
 refine gH H ?_
 refine aa results167 rfl ?_
 exact ⟨rfl,rfl⟩
 refine g_ [11,709,2,709,1] ?_
 refine aG (t:=45) rfl (fun rm=>?_) (fun rm=>?_)
 refine g_ [1,709,12] ?_
 refine gH H ?_
 refine aa results167 rfl ?_
 exfalso;obtain ⟨hm,⟨h1,h2,h3⟩|⟨h1,h2,h3⟩⟩:=h<;>simp_all<;>omega
 refine g_ [15] ?_
 refine gH H ?_
 refine aa results167 rfl ?_
 exact ⟨rfl,rfl⟩
 refine g_ [16,709,2,709,1] ?_
 refine aG (t:=45) rfl (fun rm=>?_) (fun rm=>?_)
 refine g_ [1,709,12] ?_
 refine gH H ?_
 refine aa results167 rfl ?_
 exfalso;obtain ⟨hm,⟨h1,h2,h3⟩|⟨h1,h2,h3⟩⟩:=h<;>simp_all<;>omega
 refine g_ [15] ?_
 refine gH H ?_
 refine aa results167 rfl ?_
 exact ⟨rfl,rfl⟩
 refine g_ [9,101,1] ?_
 refine jv call168 rfl (zN _ _) ?_
 refine g_ [1] ?_
 refine ag (t:=30) rfl (fun py=>?_) (fun py=>?_)
 refine g_ [100,1,707,2] ?_
 refine ag (t:=35) rfl (fun ou=>?_) (fun ou=>?_)
 refine g_ [102,1,706,8,709,2,709,2,709,4] ?_
 refine WC.cond rfl (fun wS=>?_) (fun wS=>?_)
 refine g_ [7] ?_
 refine gH H ?_
 refine aa results167 rfl ?_
 exfalso;obtain ⟨hm,⟨h1,h2,h3⟩|⟨h1,h2,h3⟩⟩:=h<;>simp_all<;>omega
 refine g_ [8] ?_
 refine gH H ?_
 refine aa results167 rfl ?_
 exact ⟨rfl,rfl⟩
 refine g_ [11,709,2,709,2,709,12] ?_
 refine gH H ?_
 refine aa results167 rfl ?_
 exfalso;obtain ⟨hm,⟨h1,h2,h3⟩|⟨h1,h2,h3⟩⟩:=h<;>simp_all<;>omega
 refine g_ [16,709,2,709,2,709,12] ?_
 refine gH H ?_
 refine aa results167 rfl ?_
 exfalso;obtain ⟨hm,⟨h1,h2,h3⟩|⟨h1,h2,h3⟩⟩:=h<;>simp_all<;>omega
 refine g_ [14,101,1] ?_
 refine jv call168 rfl (zN _ _) ?_
 refine g_ [1] ?_
 refine ag (t:=30) rfl (fun py=>?_) (fun py=>?_)
 refine g_ [100,1,707,2] ?_
 refine ag (t:=35) rfl (fun ou=>?_) (fun ou=>?_)
 refine g_ [102,1,706,8,709,2,709,2,709,4] ?_
 refine WC.cond rfl (fun wS=>?_) (fun wS=>?_)
 refine g_ [7] ?_
 refine gH H ?_
 refine aa results167 rfl ?_
 exfalso;obtain ⟨hm,⟨h1,h2,h3⟩|⟨h1,h2,h3⟩⟩:=h<;>simp_all<;>omega
 refine g_ [8] ?_
 refine gH H ?_
 refine aa results167 rfl ?_
 exact ⟨rfl,rfl⟩
 refine g_ [11,709,2,709,2,709,12] ?_
 refine gH H ?_
 refine aa results167 rfl ?_
 exfalso;obtain ⟨hm,⟨h1,h2,h3⟩|⟨h1,h2,h3⟩⟩:=h<;>simp_all<;>omega
 refine g_ [16,709,2,709,2,709,12] ?_
 refine gH H ?_
 refine aa results167 rfl ?_
 exfalso;obtain ⟨hm,⟨h1,h2,h3⟩|⟨h1,h2,h3⟩⟩:=h<;>simp_all<;>omega
 refine g_ [103,1,701,6,101,1,701,1] ?_
 refine ag (t:=17) rfl (fun w8=>?_) (fun w8=>?_)
 refine g_ [100,1] ?_
 refine jx 17 rfl rfl rfl (aD _ (0#32) rfl rfl rfl rfl) (g_ [2] ?_)
 refine ag (t:=22) rfl (fun zm=>?_) (fun zm=>?_)
 refine g_ [102,1] ?_
 refine jx 22 rfl rfl rfl (cc _ (0#64) rfl rfl rfl rfl) (g_ [6,101,1] ?_)
 refine jv call168 rfl (zN _ _) ?_
 refine g_ [1] ?_
 refine ag (t:=30) rfl (fun py=>?_) (fun py=>?_)
 refine g_ [100,1,707,2] ?_
 refine ag (t:=35) rfl (fun ou=>?_) (fun ou=>?_)
 refine g_ [102,1,706,8,709,1] ?_
 refine aG (t:=42) rfl (fun mQ=>?_) (fun mQ=>?_)
 refine g_ [17] ?_
 refine gH H ?_
 refine aa results167 rfl ?_
 exfalso;obtain ⟨hm,⟨h1,h2,h3⟩|⟨h1,h2,h3⟩⟩:=h<;>simp_all<;>omega
 refine g_ [1,709,1] ?_
 refine aG (t:=45) rfl (fun rm=>?_) (fun rm=>?_)
 refine g_ [1,709,4] ?_
 refine WC.cond rfl (fun wS=>?_) (fun wS=>?_)
 refine g_ [7] ?_
 refine gH H ?_
 refine aa results167 rfl ?_
 exfalso;obtain ⟨hm,⟨h1,h2,h3⟩|⟨h1,h2,h3⟩⟩:=h<;>simp_all<;>omega
 refine g_ [8] ?_
 refine gH H ?_
 refine aa results167 rfl ?_
 exact ⟨rfl,rfl⟩
 refine g_ [15] ?_
 refine gH H ?_
 refine aa results167 rfl ?_
 exact ⟨rfl,rfl⟩
 refine g_ [11,709,1] ?_
 refine aG (t:=42) rfl (fun mQ=>?_) (fun mQ=>?_)
 refine g_ [17] ?_
 refine gH H ?_
 refine aa results167 rfl ?_
 exfalso;obtain ⟨hm,⟨h1,h2,h3⟩|⟨h1,h2,h3⟩⟩:=h<;>simp_all<;>omega
 refine g_ [1,709,1] ?_
 refine aG (t:=45) rfl (fun rm=>?_) (fun rm=>?_)
 refine g_ [1,709,12] ?_
 refine gH H ?_
 refine aa results167 rfl ?_
 exfalso;obtain ⟨hm,⟨h1,h2,h3⟩|⟨h1,h2,h3⟩⟩:=h<;>simp_all<;>omega
 refine g_ [15] ?_
 refine gH H ?_
 refine aa results167 rfl ?_
 exact ⟨rfl,rfl⟩
 refine g_ [16,709,1] ?_
 refine aG (t:=42) rfl (fun mQ=>?_) (fun mQ=>?_)
 refine g_ [17] ?_
 refine gH H ?_
 refine aa results167 rfl ?_
 exfalso;obtain ⟨hm,⟨h1,h2,h3⟩|⟨h1,h2,h3⟩⟩:=h<;>simp_all<;>omega
 refine g_ [1,709,1] ?_
 refine aG (t:=45) rfl (fun rm=>?_) (fun rm=>?_)
 refine g_ [1,709,12] ?_
 refine gH H ?_
 refine aa results167 rfl ?_
 exfalso;obtain ⟨hm,⟨h1,h2,h3⟩|⟨h1,h2,h3⟩⟩:=h<;>simp_all<;>omega
 refine g_ [15] ?_
 refine gH H ?_
 refine aa results167 rfl ?_
 exact ⟨rfl,rfl⟩
 refine g_ [9,101,1] ?_
 refine jv call168 rfl (zN _ _) ?_
 refine g_ [1] ?_
 refine ag (t:=30) rfl (fun py=>?_) (fun py=>?_)
 refine g_ [100,1,707,2] ?_
 refine ag (t:=35) rfl (fun ou=>?_) (fun ou=>?_)
 refine g_ [102,1,706,8,709,1] ?_
 refine aG (t:=42) rfl (fun mQ=>?_) (fun mQ=>?_)
 refine g_ [17] ?_
 refine gH H ?_
 refine aa results167 rfl ?_
 exfalso;obtain ⟨hm,⟨h1,h2,h3⟩|⟨h1,h2,h3⟩⟩:=h<;>simp_all<;>omega
 refine g_ [1,709,2,709,4] ?_
 refine WC.cond rfl (fun wS=>?_) (fun wS=>?_)
 refine g_ [7] ?_
 refine gH H ?_
 refine aa results167 rfl ?_
 exfalso;obtain ⟨hm,⟨h1,h2,h3⟩|⟨h1,h2,h3⟩⟩:=h<;>simp_all<;>omega
 refine g_ [8] ?_
 refine gH H ?_
 refine aa results167 rfl ?_
 exact ⟨rfl,rfl⟩
 refine g_ [11,709,1] ?_
 refine aG (t:=42) rfl (fun mQ=>?_) (fun mQ=>?_)
 refine g_ [17] ?_
 refine gH H ?_
 refine aa results167 rfl ?_
 exfalso;obtain ⟨hm,⟨h1,h2,h3⟩|⟨h1,h2,h3⟩⟩:=h<;>simp_all<;>omega
 refine g_ [1,709,2,709,12] ?_
 refine gH H ?_
 refine aa results167 rfl ?_
 exfalso;obtain ⟨hm,⟨h1,h2,h3⟩|⟨h1,h2,h3⟩⟩:=h<;>simp_all<;>omega
 refine g_ [16,709,1] ?_
 refine aG (t:=42) rfl (fun mQ=>?_) (fun mQ=>?_)
 refine g_ [17] ?_
 refine gH H ?_
 refine aa results167 rfl ?_
 exfalso;obtain ⟨hm,⟨h1,h2,h3⟩|⟨h1,h2,h3⟩⟩:=h<;>simp_all<;>omega
 refine g_ [1,709,2,709,12] ?_
 refine gH H ?_
 refine aa results167 rfl ?_
 exfalso;obtain ⟨hm,⟨h1,h2,h3⟩|⟨h1,h2,h3⟩⟩:=h<;>simp_all<;>omega
 refine g_ [14,101,1] ?_
 refine jv call168 rfl (zN _ _) ?_
 refine g_ [1] ?_
 refine ag (t:=30) rfl (fun py=>?_) (fun py=>?_)
 refine g_ [100,1,707,2] ?_
 refine ag (t:=35) rfl (fun ou=>?_) (fun ou=>?_)
 refine g_ [102,1,706,8,709,1] ?_
 refine aG (t:=42) rfl (fun mQ=>?_) (fun mQ=>?_)
 refine g_ [17] ?_
 refine gH H ?_
 refine aa results167 rfl ?_
 exfalso;obtain ⟨hm,⟨h1,h2,h3⟩|⟨h1,h2,h3⟩⟩:=h<;>simp_all<;>omega
 refine g_ [1,709,2,709,4] ?_
 refine WC.cond rfl (fun wS=>?_) (fun wS=>?_)
 refine g_ [7] ?_
 refine gH H ?_
 refine aa results167 rfl ?_
 exfalso;obtain ⟨hm,⟨h1,h2,h3⟩|⟨h1,h2,h3⟩⟩:=h<;>simp_all<;>omega
 refine g_ [8] ?_
 refine gH H ?_
 refine aa results167 rfl ?_
 exact ⟨rfl,rfl⟩
 refine g_ [11,709,1] ?_
 refine aG (t:=42) rfl (fun mQ=>?_) (fun mQ=>?_)
 refine g_ [17] ?_
 refine gH H ?_
 refine aa results167 rfl ?_
 exfalso;obtain ⟨hm,⟨h1,h2,h3⟩|⟨h1,h2,h3⟩⟩:=h<;>simp_all<;>omega
 refine g_ [1,709,2,709,12] ?_
 refine gH H ?_
 refine aa results167 rfl ?_
 exfalso;obtain ⟨hm,⟨h1,h2,h3⟩|⟨h1,h2,h3⟩⟩:=h<;>simp_all<;>omega
 refine g_ [16,709,1] ?_
 refine aG (t:=42) rfl (fun mQ=>?_) (fun mQ=>?_)
 refine g_ [17] ?_
 refine gH H ?_
 refine aa results167 rfl ?_
 exfalso;obtain ⟨hm,⟨h1,h2,h3⟩|⟨h1,h2,h3⟩⟩:=h<;>simp_all<;>omega
 refine g_ [1,709,2,709,12] ?_
 refine gH H ?_
 refine aa results167 rfl ?_
 exfalso;obtain ⟨hm,⟨h1,h2,h3⟩|⟨h1,h2,h3⟩⟩:=h<;>simp_all<;>omega
theorem Og (l:Ls) (now:BitVec 64) (iL:Int) (ep:BitVec 32) (H:List Ck):Reads prog 171 [.agg (ry l).toArray,.int .u64 now.toNat,.int .i64 iL,.int .u32 ep.toNat] H (.int .i64 (vh l now iL ep)):=by
 refine gC.enter func171 rfl ntmps171 rfl ?_
 intro w0 R
 refine gY (iV fun b4=>?_)
 refine g_ [7,101,2,702,1] ?_
 refine ag (t:=14) rfl (fun Je=>?_) (fun Je=>?_)
 refine g_ [17] ?_
 refine gH H ?_
 refine aa results171 rfl (⟨?_,rfl⟩)
 congr 1
 unfold vh
 rw[dx (.inl ‹_›)]
 refine g_ [100,2] ?_
 refine jx 14 rfl rfl rfl (bZ _ _ rfl rfl rfl rfl) (g_ [4] ?_)
 refine gK rfl (fun h9=>?_) fun h9=>?_
 refine g_ [8] ?_
 refine gH H ?_
 refine aa results171 rfl (⟨?_,rfl⟩)
 congr 1
 unfold vh
 rw[dx (.inr ‹_›)]
 refine g_ [3,102,1,707,3] ?_
 refine gK rfl (fun pw=>?_) fun pw=>?_
 refine g_ [8] ?_
 refine gH H ?_
 refine aa results171 rfl (⟨?_,rfl⟩)
 congr 1
 unfold vh
 rw[dp (by simp_all),dx gz]
 refine g_ [9] ?_
 refine gH H ?_
 refine aa results171 rfl (⟨?_,rfl⟩)
 congr 1
 unfold vh
 rw[dp (by simp_all),dp gz]
theorem ad7 (l:Ls) (h:EW l) (now guard:BitVec 64) (hg:guard.toNat≤10000) (H:List Ck):Reads prog 170 [.agg (ry l).toArray,.int .u64 now.toNat,.int .u64 guard.toNat] H (.bool (decide (xU l now guard))):=by
 refine gC.enter func170 rfl ntmps170 rfl ?_
 intro w0 R
 refine gY (iV fun b3=>?_)
 refine g_ [6,404] ?_
 refine jv call167 rfl (JZ l h _) ?_
 refine g_ [702,1] ?_
 refine ag (t:=10) rfl (fun abt=>?_) (fun abt=>?_)
 refine g_ [13] ?_
 refine gH H ?_
 refine aa results170 rfl (⟨?_,rfl⟩)
 congr 1
 rw[dM]
 simp only[dz,eB,fS,eW,fR]
 unfold xU
 omega
 refine g_ [1,707,3] ?_
 refine gK rfl (fun sW=>?_) fun sW=>?_
 refine g_ [7] ?_
 refine gH H ?_
 refine aa results170 rfl (⟨?_,rfl⟩)
 congr 1
 rw[dM]
 simp only[dz,eB,fS,eW,fR]
 unfold xU
 omega
 refine g_ [4,101,1,701,1] ?_
 refine ag (t:=17) rfl (fun w8=>?_) (fun w8=>?_)
 refine g_ [17] ?_
 refine gH H ?_
 refine aa results170 rfl (⟨?_,rfl⟩)
 congr 1
 rw[dM]
 simp only[dz,eB,fS,eW,fR]
 unfold xU
 omega
 refine g_ [1,102,1,707,1] ?_
 refine ag (t:=22) rfl (fun zm=>?_) (fun zm=>?_)
 refine g_ [1,102,1] ?_
 refine jx 22 rfl rfl rfl (aL _ _ rfl rfl rfl rfl) (g_ [1,707,6] ?_)
 refine gH H ?_
 refine aa results170 rfl (⟨?_,rfl⟩)
 congr 1
 rw[dM]
 simp only[dz,eB,fS,eW,fR]
 unfold xU
 rw[fx (by rw[gq];omega)];omega
 refine g_ [12] ?_
 refine gH H ?_
 refine aa results170 rfl (⟨?_,rfl⟩)
 congr 1
 rw[dM]
 simp only[dz,eB,fS,eW,fR]
 unfold xU
 omega
theorem ad9 (l:Ls) (h:EW l) (now:BitVec 64) (iL:Int) (len guard:BitVec 64) (hw:iL=1∨iL=2) (hl:1≤len.toNat∧len.toNat≤10000) (hg:guard.toNat≤10000) (hn:now.toNat≤4611686018427387904) (he:l.ep.toNat<4294967295) (H:List Ck):Reads prog 100 [.agg (ry l).toArray,.int .u64 now.toNat,.int .i64 iL,.int .u64 len.toNat,.int .u64 guard.toNat] H (.tuple #[.agg (ry (Ee l now iL len guard).1).toArray,.int .i64 (Ee l now iL len guard).2]):=by
 refine gC.enter func100 rfl ntmps100 rfl ?_
 intro w0 R
 refine gY (iV fun b5=>?_)
 refine iS rG fun pg=>?_
 refine g_ [7,404] ?_
 refine jv call167 rfl (JZ l h _) ?_
 refine g_ [702,1,1016,1] ?_
 refine bV (dj:=16) rfl rfl rfl (iE.func call168 rfl) (zN _ _) fc ?_
 refine g_ [709,2] ?_
 refine af (t:=21) (v:=.bool false) rfl (congrArg Value.bool (by simp[hw])) ?_
 refine g_ [1] ?_
 refine bV (dj:=21) rfl rfl rfl (iE.func call169 rfl) (Vf _ _) fc ?_
 refine g_ [709,2] ?_
 refine af (t:=26) (v:=.bool false) rfl (congrArg Value.bool (by simp[hl])) ?_
 refine g_ [1,707,1028,8,707,1,1034,100,1] ?_
 refine jx 34 rfl rfl rfl (aD _ (4294967295#32) rfl rfl rfl rfl) ?_
 refine j8 37 rfl (fun e=>by rw[e] at he;exact absurd he gB) ?_
 refine g_ [7,404,2] ?_
 refine jv call170 rfl (ad7 l h _ _ hg _) ?_
 refine g_ [709,3] ?_
 refine WC.cond rfl (fun LW=>?_) (fun LW=>?_)
 refine gY (kJ [(0,1),(1,1),(2,1),(3,1)] rG (g_ [304,6] ?_))
 refine au (s:=4) H results100 fa rfl rfl gO gA fc ?_
 unfold Ee
 rw[dp (by simpa using LW)];exact ⟨rfl,rfl⟩
 refine g_ [5,100,1] ?_
 refine ae rfl (Yd.KY _ (1#32) rfl rfl rfl rfl) (g_ [3] ?_)
 refine ae rfl (aY _ _ rfl rfl rfl rfl) (g_ [103,1] ?_)
 refine ae rfl (aj (pl:=[(0,1),(1,1),(2,1),(3,1)]) (zs:=rG) (parts:=[(0,.tmp 49),(1,.tmp 50),(2,.tmp 53),(3,.tmp 55)]) (vs:=[(0,_),(1,_),(2,_),(3,_)]) (cells:=[_,_,_,_]) fa fa rfl rfl) ?_
 refine g_ [304,4] ?_
 refine au (s:=4) H results100 fa rfl rfl gO gA fc ?_
 unfold Ee
 rw[dx (by simpa using LW)];exact ⟨rfl,rfl⟩
theorem aei (l:Ls) (h:EW l) (now:BitVec 64) (iL:Int) (ep:BitVec 32) (len:BitVec 64) (hw:iL=1∨iL=2) (hl:1≤len.toNat∧len.toNat≤10000) (hn:now.toNat≤4611686018427387904) (H:List Ck):Reads prog 101 [.agg (ry l).toArray,.int .u64 now.toNat,.int .i64 iL,.int .u32 ep.toNat,.int .u64 len.toNat] H (.tuple #[.agg (ry (E9 l now iL ep len).1).toArray,.int .i64 (E9 l now iL ep len).2]):=by
 refine gC.enter func101 rfl ntmps101 rfl ?_
 intro w0 R
 refine gY (iV fun b5=>?_)
 refine iS rG fun pg=>?_
 refine g_ [7,404] ?_
 refine jv call167 rfl (JZ l h _) ?_
 refine g_ [702,1,1017,1] ?_
 refine bV (dj:=17) rfl rfl rfl (iE.func call168 rfl) (zN _ _) fc ?_
 refine g_ [709,2] ?_
 refine af (t:=22) (v:=.bool false) rfl (congrArg Value.bool (by simp[hw])) ?_
 refine g_ [1] ?_
 refine bV (dj:=22) rfl rfl rfl (iE.func call169 rfl) (Vf _ _) fc ?_
 refine g_ [709] ?_
 refine af (t:=25) (v:=.bool false) rfl (congrArg Value.bool (by simp[hl])) ?_
 refine g_ [1] ?_
 refine af (t:=26) (v:=.bool false) rfl (congrArg Value.bool (by simp[hl])) ?_
 refine g_ [7,707,1030,10,404,3] ?_
 refine jv call171 rfl (Og _ _ _ _ _) ?_
 refine g_ [6,702,2] ?_
 refine gK rfl (fun pM=>?_) fun pM=>?_
 refine gY (kJ [(0,1),(1,1),(2,1),(3,1)] rG (g_ [1,304,5] ?_))
 refine au (s:=4) H results101 fa rfl rfl gO gA fc ?_
 unfold E9
 rw[dp ‹_›];exact ⟨rfl,rfl⟩
 refine g_ [4,102,3] ?_
 refine ae rfl (aY _ _ rfl rfl rfl rfl) (ae rfl (cF rfl rfl) (g_ [102,5,404,304,4] ?_))
 refine au (s:=4) H results101 fa rfl rfl gO gA fc ?_
 unfold E9
 rw[dx gz];have e9:max (l.iC.toNat:Int) ((now+len).toNat:Int)=((if l.iC.toNat≤(now+len).toNat then now+len else l.iC:BitVec 64).toNat:Int):=by split<;>omega
 rw[e9];exact ⟨rfl,rfl⟩
theorem aem (l:Ls) (h:EW l) (now:BitVec 64) (iL:Int) (ep:BitVec 32) (mode:Int) (hw:iL=1∨iL=2) (hm:mode=1∨mode=2) (H:List Ck):Reads prog 102 [.agg (ry l).toArray,.int .u64 now.toNat,.int .i64 iL,.int .u32 ep.toNat,.int .i64 mode] H (.tuple #[.agg (ry (By l now iL ep mode).1).toArray,.int .i64 (By l now iL ep mode).2]):=by
 refine gC.enter func102 rfl ntmps102 rfl ?_
 intro w0 R
 refine gY (iV fun b5=>?_)
 refine iS rG fun pg=>?_
 refine g_ [6,404] ?_
 refine jv call167 rfl (JZ l h _) ?_
 refine g_ [702,1,1016,1] ?_
 refine bV (dj:=16) rfl rfl rfl (iE.func call168 rfl) (zN _ _) fc ?_
 refine g_ [709,2] ?_
 refine af (t:=21) (v:=.bool false) rfl (congrArg Value.bool (by simp[hw])) ?_
 refine g_ [1,702,1] ?_
 refine ag (t:=24) rfl (fun zn=>?_) (fun zn=>?_)
 refine g_ [1,702,1026,10,404,3] ?_
 refine jv call171 rfl (Og _ _ _ _ _) ?_
 refine g_ [6,702,2] ?_
 refine gK rfl (fun sv=>?_) fun sv=>?_
 refine gY (kJ [(0,1),(1,1),(2,1),(3,1)] rG (g_ [1,304,5] ?_))
 refine au (s:=4) H results102 fa rfl rfl gO gA fc ?_
 unfold By
 rw[dp ‹_›];exact ⟨rfl,rfl⟩
 refine g_ [5,103,5,404,304,4] ?_
 refine au (s:=4) H results102 fa rfl rfl gO gA fc ?_
 unfold By
 rw[dx gz];exact ⟨rfl,rfl⟩
 refine g_ [12,404,3] ?_
 refine jv call171 rfl (Og _ _ _ _ _) ?_
 refine g_ [6,702,2] ?_
 refine gK rfl (fun sv=>?_) fun sv=>?_
 refine gY (kJ [(0,1),(1,1),(2,1),(3,1)] rG (g_ [1,304,5] ?_))
 refine au (s:=4) H results102 fa rfl rfl gO gA fc ?_
 unfold By
 rw[dp ‹_›];exact ⟨rfl,rfl⟩
 refine g_ [5,103,5,404,304,4] ?_
 refine au (s:=4) H results102 fa rfl rfl gO gA fc ?_
 unfold By
 rw[dx gz];exact ⟨rfl,rfl⟩
end Go.Proofs.YtchdmlkiggdhaaaGreat
