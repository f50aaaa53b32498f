/-
  Lemmas and walks that TopOne and TopSolo stands on (part 7); no condition.
-/
import Derived.Test.YtchdmlkiggdhaaaGreatTopB6
set_option linter.unusedVariables false
set_option linter.unusedSimpArgs false
set_option maxHeartbeats 4000000
namespace Go.Proofs.YtchdmlkiggdhaaaGreat
open Go.SL Top Go.Proofs.Tryz
attribute [local irreducible] WL WC DN gZ iX
theorem ad5 (p:Nat) (ps:List (List ia)) (gN:∀q∈ps,jh q) (L:Ld) (hL:l4 ps L) (e:En) (he:tG e) (vk vd:Value) (H:List Ck) (hv:mN p ps L H) (hk:Bs vk e.key H) (hd:Bs vd e.data H):Reads prog 107 [ptr p,.agg (enc e vk vd).toArray] H (.bool (kC ps L e)):=by
  cases ho:jC L e.order with
  |none=>exact ad4 p ps gN L hL e he vk vd H hv hk hd ho
  |some o=>exact ad6 p ps gN L hL e he vk vd H hv hk hd o ho
theorem Dh (p:Nat) (ps:List (List ia)) (gN:∀q∈ps,jh q) (L:Ld) (hL:l4 ps L) (e:En) (he:tG e) (vk vd:Value) (H:List Ck) (hv:mN p ps L H) (hk:Bs vk e.key H) (hd:Bs vd e.data H):Reads prog 67 [ptr p,.agg (enc e vk vd).toArray] H (.int .i64 (lI ps L e)):=by
 refine gC.enter func67 rfl ntmps67 rfl ?_
 intro w0 R
 have nD:=hv
 have hs:=tG.qP he
 obtain ⟨vp,vo,bm,lb,eb,mode,jg,nt,T9,kr,km,hU,rU,s7,hO,hR,hM⟩:=hv
 obtain ⟨ko,kc,rfl,_⟩:=hk.form
 obtain ⟨eo,ec,rfl,_⟩:=hd.form
 have Jn:=hs.gF
 have qs:0<e.gF.toNat:=gp fun q=>Jn (dB q)
 have hl8:(e.gF-1#64).toNat=e.gF.toNat-1:=fx (by rw[gq];show 1≤_;omega)
 have lR:e.gF-1#64=lb↔e.gF.toNat=L.last+1:=by
   rw[←rU,BitVec.toNat_eq,hl8]
   omega
 refine gY (iV fun b3=>?_)
 refine g_ [8] ?_
 refine ae rfl (an underlying110 rfl rfl) (g_ [1007,6,411] ?_)
 refine iG call106 rfl (RM e _ _ he ⟨_,_,rfl⟩ ⟨_,_,rfl⟩ _) (g_ [702,3] ?_)
 refine gK rfl (fun h8=>?_) fun h8=>?_
 refine g_ [8] ?_
 refine gH H ?_
 refine aa results67 rfl (⟨?_,rfl⟩)
 congr 1
 unfold lI
 focus (simp_all;done)
 refine g_ [1,524] ?_
 refine w_ [1001,0,1] ?_
 refine gW 2 [1] rfl (aL _ (1#64) rfl rfl rfl rfl) fa ?_
 refine w_ [3,4,1003,5] ?_
 refine iD 6 [5] rfl (ab (cs:=j0 vp vo bm lb eb mode jg nt) fa rfl (ib hU) gA) ?_
 refine gW 7 [6,2] rfl (bA _ _ rfl rfl rfl rfl) fa ?_
 refine w_ [8] ?_
 refine aW (fun abA=>?_) (fun abA=>?_)
 refine w_ [9,10,11,12,13,14,15,16,17,18,19,20,21,22,23] ?_
 refine gM ?_
 refine g_ [10] ?_
 refine gH H ?_
 refine aa results67 rfl (⟨?_,rfl⟩)
 congr 1
 unfold lI
 focus (simp_all;done)
 refine w_ [1002,9,10,11,12,1004,13] ?_
 refine ki 14 [13,8] 21 rfl rfl rfl (ab (cs:=j0 vp vo bm lb eb mode jg nt) fa rfl (ib hU) gA) ?_
 refine w_ [1005,15,16,17] ?_
 refine aW (fun py=>?_) (fun py=>?_)
 refine w_ [18,19,20,21,22,23] ?_
 refine gM ?_
 refine g_ [10] ?_
 refine gH H ?_
 refine aa results67 rfl (⟨?_,rfl⟩)
 congr 1
 unfold lI
 focus (simp_all;omega)
 refine w_ [18] ?_
 refine ki 19 [17] 30 rfl rfl rfl (aQ (n:=11) fa rfl gO gA) ?_
 refine ny (iw (i:=20) [19,18,17] rfl (aO (aP (dj:=30) rfl rfl) (iE.func call107 rfl) (ad5 p ps gN L hL e he _ _ _ (nD.mono hZ) (hk.mono hZ) (hd.mono hZ)) ax) fa) fa ?_
 refine w_ [1009,21,22,23] ?_
 refine gM ?_
 refine g_ [1] ?_
 refine WC.cond rfl (fun nj=>?_) (fun nj=>?_)
 refine g_ [8] ?_
 refine gH H ?_
 refine aa results67 rfl (⟨?_,rfl⟩)
 congr 1
 unfold lI
 focus (simp_all;done)
 refine g_ [9] ?_
 refine gH H ?_
 refine aa results67 rfl (⟨?_,rfl⟩)
 congr 1
 unfold lI
 focus (simp_all;done)
theorem adR (p:Nat) (ps:List (List ia)) (gN:∀q∈ps,jh q) (L:Ld) (hL:l4 ps L) (e:En) (he:iZ e) (hc:lI ps L e=0) (vk vd:Value) (C:List Ck) (hA:ln 179 185 p ps L C) (H:List Ck) (hk:Bs vk e.key H) (hd:Bs vd e.data H) (ow:e.kind=1):gC prog 70 [ptr p,.agg (enc e vk vd).toArray] (C++H) fun r gr=>∃gP,r=.int .i64 0∧ln 179 185 p ps (nG ps L e) gP∧gr=gP++H:=by
 refine gC.enter func70 rfl ntmps70 rfl ?_
 intro w0 R
 have vR:=hA
 obtain ⟨vp,vo,bm,lb,eb,mode,jg,nt,cells,CO,CM,V,rfl,rU,s7,hO,hV,hM,hR⟩:=hA
 obtain ⟨po,pc,rfl,_⟩:=VS.form hR
 obtain ⟨ko,kc,rfl,_⟩:=hk.form
 obtain ⟨eo,ec,rfl,_⟩:=hd.form
 have hs:=SL.iZ.qP he
 have sE:=hL.many
 have rV:∀q∈ps,q≠[]:=fun q hq e0=>by have:=(gN q hq).len.1;rw[e0] at this;exact absurd this gB
 obtain ⟨vl,vc,rfl,_⟩:=hO.form
 refine gY (iV fun b3=>?_)
 refine g_ [7,411] ?_
 refine iG call67 rfl (Dh p ps gN L hL e (.inl he) _ _ _ (mN.mono (ln.v vR) hZ) (hk.mono hZ) (hd.mono hZ)) ?_
 refine g_ [6,702] ?_
 refine j8 13 rfl (fun q=>q hc) ?_
 refine g_ [9,106] ?_
 refine c_ call117 rfl (FT p (0+6) (j0 (.slice po ps.length pc) (.slice vl L.l.length vc) bm lb eb mode jg nt) 179 jg gA []) ?_
 rintro DH BI ⟨ly,rfl,rfl⟩
 rw[show (j0 (.slice po ps.length pc) (.slice vl L.l.length vc) bm lb eb mode jg nt).set (0+6) (.int .i64 ly)=j0 (.slice po ps.length pc) (.slice vl L.l.length vc) bm lb eb mode ly nt from rfl]
 refine g_ [3,512] ?_
 refine w_ [0,1,1001,2,3,1002,4,5,6,1003,7] ?_
 refine gD 8 ?_
 refine SO.s rfl Wt.none (aq (iT:=j0 (.slice po ps.length pc) (.slice vl L.l.length vc) bm e.gF eb mode ly nt) fa rfl rfl gA ir (by show 0+3<8;decide) rfl ⟨rfl,?_⟩)
 refine iO [0] ?_
 refine w_ [9,1004,10] ?_
 refine gD 11 ?_
 refine SO.s rfl Wt.none (aq (iT:=j0 (.slice po ps.length pc) (.slice vl L.l.length vc) bm e.gF e.ep mode ly nt) fa rfl rfl gA ir (by show 0+4<8;decide) rfl ⟨rfl,?_⟩)
 refine gG ?_
 refine gM ?_
 refine g_ [4,100,6,701,1038,6,701,1070,6,701,1099,6,701,1134,6,701,1142,13] ?_
 refine gH ((row p (j0 (.slice po ps.length pc) (.slice vl L.l.length vc) bm e.gF e.ep mode ly nt) 179::(CO++(CM++V)))++H) ?_
 refine aa results70 rfl (⟨_,rfl,⟨_,_,bm,e.gF,e.ep,mode,ly,nt,cells,CO,CM,V,rfl,rfl,rfl,?_⟩,rfl⟩)
 have hn:(nG ps L e).l=L.l:=by
   unfold nG
   simp only[ow]
   cases jC L e.order<;>simp
 rw[hn]
 exact ⟨hO,hV,hM,hR⟩
theorem adS (p:Nat) (ps:List (List ia)) (gN:∀q∈ps,jh q) (L:Ld) (hL:l4 ps L) (e:En) (he:iZ e) (hc:lI ps L e=0) (vk vd:Value) (C:List Ck) (hA:ln 179 185 p ps L C) (H:List Ck) (hk:Bs vk e.key H) (hd:Bs vd e.data H) (ow:e.kind=3) (o:Lo) (ho:jC L e.order=some o):gC prog 70 [ptr p,.agg (enc e vk vd).toArray] (C++H) fun r gr=>∃gP,r=.int .i64 0∧ln 179 185 p ps (nG ps L e) gP∧gr=gP++H:=by
 refine gC.enter func70 rfl ntmps70 rfl ?_
 intro w0 R
 have vR:=hA
 obtain ⟨vp,vo,bm,lb,eb,mode,jg,nt,cells,CO,CM,V,rfl,rU,s7,hO,hV,hM,hR⟩:=hA
 obtain ⟨po,pc,rfl,_⟩:=VS.form hR
 obtain ⟨ko,kc,rfl,_⟩:=hk.form
 obtain ⟨eo,ec,rfl,_⟩:=hd.form
 have hs:=SL.iZ.qP he
 have sE:=hL.many
 have rV:∀q∈ps,q≠[]:=fun q hq e0=>by have:=(gN q hq).len.1;rw[e0] at this;exact absurd this gB
 obtain ⟨A,B,wk,wd,rfl,SU,jd,kf,mH,mW,zF⟩:=OF hV ho
 obtain ⟨b,vc,extra,rfl,Cd,qm,zd,Cf,rfl⟩:=hO.resolve_left (fun q=>by have:=q.2.1;omega)
 have AQ:A.length=0+(e.order.toNat-1)*11:=by omega
 have Ey:∀j,j<11→((A++(oc e.order.toNat o wk wd++B))++extra)[0+(e.order.toNat-1)*11+j]?=(oc e.order.toNat o wk wd)[j]?:=fun j hj=>Ol AQ rfl hj
 obtain ⟨u2,nv⟩:=RV.of hR rV o.data
 obtain ⟨wo,wc,rfl,_⟩:=jd.form
 obtain ⟨xo,xc,rfl,_⟩:=kf.form
 obtain ⟨qu,oB,_⟩:=hL.one o (qN ho).2.2
 have nq:0+(e.order.toNat-1)*11+11≤((A++(oc e.order.toNat o (.slice wo o.key.length wc) (.slice xo o.data.length xc)++B))++extra).length:=by
   have e9:(oc e.order.toNat o (.slice wo o.key.length wc) (.slice xo o.data.length xc)).length=11:=rfl
   rw[dr,dr,dr,e9];omega
 have lA:kC ps L e=true:=by
   unfold lI at hc
   rw[dp (fK (xN he))] at hc
   by_cases q:e.gF.toNat=L.last+1∧L.ep≤e.ep.toNat∧kC ps L e=true
   · exact q.2.2
   rw[dp q] at hc;cases hc
 have oy:pD o.sg=some (e.step,e.iy,e.tr):=by
   unfold kC at lA
   rw[dp gz,dx ow,ho] at lA
   exact eR lA
 refine gY (iV fun b3=>?_)
 refine g_ [7,411] ?_
 refine iG call67 rfl (Dh p ps gN L hL e (.inl he) _ _ _ (mN.mono (ln.v vR) hZ) (hk.mono hZ) (hd.mono hZ)) ?_
 refine g_ [6,702] ?_
 refine j8 13 rfl (fun q=>q hc) ?_
 refine g_ [9,106] ?_
 refine c_ call117 rfl (FT p (0+6) (j0 (.slice po ps.length pc) (.slice (some ⟨b,0,none⟩) L.l.length vc) bm lb eb mode jg nt) 179 jg gA []) ?_
 rintro DH BI ⟨ly,rfl,rfl⟩
 rw[show (j0 (.slice po ps.length pc) (.slice (some ⟨b,0,none⟩) L.l.length vc) bm lb eb mode jg nt).set (0+6) (.int .i64 ly)=j0 (.slice po ps.length pc) (.slice (some ⟨b,0,none⟩) L.l.length vc) bm lb eb mode ly nt from rfl]
 refine g_ [3,512] ?_
 refine w_ [0,1,1001,2,3,1002,4,5,6,1003,7] ?_
 refine gD 8 ?_
 refine SO.s rfl Wt.none (aq (iT:=j0 (.slice po ps.length pc) (.slice (some ⟨b,0,none⟩) L.l.length vc) bm e.gF eb mode ly nt) fa rfl rfl gA ir (by show 0+3<8;decide) rfl ⟨rfl,?_⟩)
 refine iO [0] ?_
 refine w_ [9,1004,10] ?_
 refine gD 11 ?_
 refine SO.s rfl Wt.none (aq (iT:=j0 (.slice po ps.length pc) (.slice (some ⟨b,0,none⟩) L.l.length vc) bm e.gF e.ep mode ly nt) fa rfl rfl gA ir (by show 0+4<8;decide) rfl ⟨rfl,?_⟩)
 refine gG ?_
 refine gM ?_
 refine g_ [4,100,6,701,1038,6,701] ?_
 refine kl 70 rfl ow (g_ [7,103,1] ?_)
 refine iG call65 rfl (xt p _ b 0 L.l.length vc bm e.gF e.ep mode ly nt _ _ _ _ gO e.order ⟨mH,mW⟩) ?_
 refine g_ [3,524] ?_
 refine w_ [0,1,2,1000,3] ?_
 refine iD 4 [3] rfl (aE (n:=1) (vs:=[_]) fa rfl gO gA gA) ?_
 refine w_ [5,6,1000,7,1002,8] ?_
 refine iD 9 [8] rfl (ab (cs:=((A++(oc e.order.toNat o (.slice wo o.key.length wc) (.slice xo o.data.length xc)++B))++extra)) fa rfl gO (Ey 2 gB)) ?_
 refine jy 10 [9,4] rfl call121 rfl (zO po pc ps o.data u2 _ _ (nv.mono hZ) (kf.mono hZ)) ax ?_
 refine w_ [11,12,1000,13,1003,14] ?_
 refine iD 15 [14] rfl (aE (n:=7) (vs:=mb o.sg) (cs:=((A++(oc e.order.toNat o (.slice wo o.key.length wc) (.slice xo o.data.length xc)++B))++extra)) fa rfl gO rfl (AA Ey 3 7 gB)) ?_
 refine jy 16 [15,10] rfl call120 rfl (afQ _ _ (gN _ (tp qu)) o.sg oB (by rw[oy];rfl) _ (VS.mono nv.pv hZ)) ax ?_
 refine w_ [17,18,19,20,1000,21,1003,22] ?_
 refine gD 23 ?_
 refine SO.s rfl Wt.none (bj (n:=7) (iT:=((A++(oc e.order.toNat {o with sg:=uy (jD ps o.data) o.sg} (.slice wo o.key.length wc) (.slice xo o.data.length xc)++B))++extra)) fa rfl rfl rfl qd ir gz (Vl (c:=oc e.order.toNat o (.slice wo o.key.length wc) (.slice xo o.data.length xc)) AQ (n:=7) (a:=3) rfl (by show 3+7≤11;decide)) ⟨rfl,?_⟩)
 refine gG ?_
 refine gM ?_
 refine g_ [8] ?_
 refine gH ((row p (j0 (.slice po ps.length pc) (.slice (some ⟨b,0,none⟩) L.l.length vc) bm e.gF e.ep mode ly nt) 179::([row b ((A++(oc e.order.toNat {o with sg:=uy (jD ps o.data) o.sg} (.slice wo o.key.length wc) (.slice xo o.data.length xc)++B))++extra) 185]++(CM++V)))++H) ?_
 refine aa results70 rfl ?_
 rotate_left
 all_goals
  obtain ⟨qv,sG⟩:=zF {o with sg:=uy (jD ps o.data) o.sg} rfl rfl
  have hn:(nG ps L e).l=setAt L e.order {o with sg:=uy (jD ps o.data) o.sg}:=by
    unfold nG
    simp only[ow,ho]
    simp
  have ie:(setAt L e.order {o with sg:=uy (jD ps o.data) o.sg}).length=L.l.length:=List.length_set
  refine ⟨_,rfl,⟨_,_,bm,e.gF,e.ep,mode,ly,nt,A++(oc e.order.toNat {o with sg:=uy (jD ps o.data) o.sg} (.slice wo o.key.length wc) (.slice xo o.data.length xc)++B),_,CM,V,rfl,rfl,rfl,?_⟩,rfl⟩
  rw[hn,sG,ie]
  exact ⟨.inr ⟨b,vc,extra,rfl,Cd,qm,by simpa [oc,mb] using zd,Cf,rfl⟩,qv,hM,hR⟩
theorem adQ (p:Nat) (ps:List (List ia)) (gN:∀q∈ps,jh q) (L:Ld) (hL:l4 ps L) (e:En) (he:iZ e) (hc:lI ps L e=0) (vk vd:Value) (C:List Ck) (hA:ln 179 185 p ps L C) (H:List Ck) (hk:Bs vk e.key H) (hd:Bs vd e.data H) (ow:e.kind=4) (o:Lo) (ho:jC L e.order=some o):gC prog 70 [ptr p,.agg (enc e vk vd).toArray] (C++H) fun r gr=>∃gP,r=.int .i64 0∧ln 179 185 p ps (nG ps L e) gP∧gr=gP++H:=by
 refine gC.enter func70 rfl ntmps70 rfl ?_
 intro w0 R
 have vR:=hA
 obtain ⟨vp,vo,bm,lb,eb,mode,jg,nt,cells,CO,CM,V,rfl,rU,s7,hO,hV,hM,hR⟩:=hA
 obtain ⟨po,pc,rfl,_⟩:=VS.form hR
 obtain ⟨ko,kc,rfl,_⟩:=hk.form
 obtain ⟨eo,ec,rfl,_⟩:=hd.form
 have hs:=SL.iZ.qP he
 have sE:=hL.many
 have rV:∀q∈ps,q≠[]:=fun q hq e0=>by have:=(gN q hq).len.1;rw[e0] at this;exact absurd this gB
 obtain ⟨A,B,wk,wd,rfl,SU,jd,kf,mH,mW,zF⟩:=OF hV ho
 obtain ⟨b,vc,extra,rfl,Cd,qm,zd,Cf,rfl⟩:=hO.resolve_left (fun q=>by have:=q.2.1;omega)
 have AQ:A.length=0+(e.order.toNat-1)*11:=by omega
 have Ey:∀j,j<11→((A++(oc e.order.toNat o wk wd++B))++extra)[0+(e.order.toNat-1)*11+j]?=(oc e.order.toNat o wk wd)[j]?:=fun j hj=>Ol AQ rfl hj
 obtain ⟨u2,nv⟩:=RV.of hR rV o.data
 obtain ⟨wo,wc,rfl,_⟩:=jd.form
 obtain ⟨xo,xc,rfl,_⟩:=kf.form
 obtain ⟨qu,oB,_⟩:=hL.one o (qN ho).2.2
 have nq:0+(e.order.toNat-1)*11+11≤((A++(oc e.order.toNat o (.slice wo o.key.length wc) (.slice xo o.data.length xc)++B))++extra).length:=by
   have e9:(oc e.order.toNat o (.slice wo o.key.length wc) (.slice xo o.data.length xc)).length=11:=rfl
   rw[dr,dr,dr,e9];omega
 have lA:kC ps L e=true:=by
   unfold lI at hc
   rw[dp (fK (xN he))] at hc
   by_cases q:e.gF.toNat=L.last+1∧L.ep≤e.ep.toNat∧kC ps L e=true
   · exact q.2.2
   rw[dp q] at hc;cases hc
 have Ez:=hs.k4 ow
 refine gY (iV fun b3=>?_)
 refine g_ [7,411] ?_
 refine iG call67 rfl (Dh p ps gN L hL e (.inl he) _ _ _ (mN.mono (ln.v vR) hZ) (hk.mono hZ) (hd.mono hZ)) ?_
 refine g_ [6,702] ?_
 refine j8 13 rfl (fun q=>q hc) ?_
 refine g_ [9,106] ?_
 refine c_ call117 rfl (FT p (0+6) (j0 (.slice po ps.length pc) (.slice (some ⟨b,0,none⟩) L.l.length vc) bm lb eb mode jg nt) 179 jg gA []) ?_
 rintro DH BI ⟨ly,rfl,rfl⟩
 rw[show (j0 (.slice po ps.length pc) (.slice (some ⟨b,0,none⟩) L.l.length vc) bm lb eb mode jg nt).set (0+6) (.int .i64 ly)=j0 (.slice po ps.length pc) (.slice (some ⟨b,0,none⟩) L.l.length vc) bm lb eb mode ly nt from rfl]
 refine g_ [3,512] ?_
 refine w_ [0,1,1001,2,3,1002,4,5,6,1003,7] ?_
 refine gD 8 ?_
 refine SO.s rfl Wt.none (aq (iT:=j0 (.slice po ps.length pc) (.slice (some ⟨b,0,none⟩) L.l.length vc) bm e.gF eb mode ly nt) fa rfl rfl gA ir (by show 0+3<8;decide) rfl ⟨rfl,?_⟩)
 refine iO [0] ?_
 refine w_ [9,1004,10] ?_
 refine gD 11 ?_
 refine SO.s rfl Wt.none (aq (iT:=j0 (.slice po ps.length pc) (.slice (some ⟨b,0,none⟩) L.l.length vc) bm e.gF e.ep mode ly nt) fa rfl rfl gA ir (by show 0+4<8;decide) rfl ⟨rfl,?_⟩)
 refine gG ?_
 refine gM ?_
 refine g_ [4,100,6,701,1038,6,701,1070,6,701] ?_
 refine kl 99 rfl ow (g_ [7,103,1] ?_)
 refine iG call65 rfl (xt p _ b 0 L.l.length vc bm e.gF e.ep mode ly nt _ _ _ _ gO e.order ⟨mH,mW⟩) ?_
 refine g_ [3,530] ?_
 refine w_ [0,1,2,1000,3] ?_
 refine iD 4 [3] rfl (aE (n:=1) (vs:=[_]) fa rfl gO gA gA) ?_
 refine w_ [5,6,1000,7,1002,8] ?_
 refine iD 9 [8] rfl (ab (cs:=((A++(oc e.order.toNat o (.slice wo o.key.length wc) (.slice xo o.data.length xc)++B))++extra)) fa rfl gO (Ey 2 gB)) ?_
 refine jy 10 [9,4] rfl call121 rfl (zO po pc ps o.data u2 _ _ (nv.mono hZ) (kf.mono hZ)) ax ?_
 refine w_ [11,12,1000,13,1003,14] ?_
 refine iD 15 [14] rfl (aE (n:=7) (vs:=mb o.sg) (cs:=((A++(oc e.order.toNat o (.slice wo o.key.length wc) (.slice xo o.data.length xc)++B))++extra)) fa rfl gO rfl (AA Ey 3 7 gB)) ?_
 refine w_ [1004,16,17,1005,18,19,1007,20,21] ?_
 refine jy 22 [21,19,17,15,10] rfl call122 rfl (agL _ _ (gN _ (tp qu)) o.sg oB e.step e.iy e.code Ez _ (VS.mono nv.pv hZ)) ax ?_
 refine w_ [23,24,25,26,1000,27,1003,28] ?_
 refine gD 29 ?_
 refine SO.s rfl Wt.none (bj (n:=7) (iT:=((A++(oc e.order.toNat {o with sg:=rD (jD ps o.data) o.sg e.step e.iy e.code} (.slice wo o.key.length wc) (.slice xo o.data.length xc)++B))++extra)) fa rfl rfl rfl qd ir gz (Vl (c:=oc e.order.toNat o (.slice wo o.key.length wc) (.slice xo o.data.length xc)) AQ (n:=7) (a:=3) rfl (by show 3+7≤11;decide)) ⟨rfl,?_⟩)
 refine gG ?_
 refine gM ?_
 refine g_ [8] ?_
 refine gH ((row p (j0 (.slice po ps.length pc) (.slice (some ⟨b,0,none⟩) L.l.length vc) bm e.gF e.ep mode ly nt) 179::([row b ((A++(oc e.order.toNat {o with sg:=rD (jD ps o.data) o.sg e.step e.iy e.code} (.slice wo o.key.length wc) (.slice xo o.data.length xc)++B))++extra) 185]++(CM++V)))++H) ?_
 refine aa results70 rfl ?_
 rotate_left
 all_goals
  obtain ⟨qv,sG⟩:=zF {o with sg:=rD (jD ps o.data) o.sg e.step e.iy e.code} rfl rfl
  have hn:(nG ps L e).l=setAt L e.order {o with sg:=rD (jD ps o.data) o.sg e.step e.iy e.code}:=by
    unfold nG
    simp only[ow,ho]
    simp
  have ie:(setAt L e.order {o with sg:=rD (jD ps o.data) o.sg e.step e.iy e.code}).length=L.l.length:=List.length_set
  refine ⟨_,rfl,⟨_,_,bm,e.gF,e.ep,mode,ly,nt,A++(oc e.order.toNat {o with sg:=rD (jD ps o.data) o.sg e.step e.iy e.code} (.slice wo o.key.length wc) (.slice xo o.data.length xc)++B),_,CM,V,rfl,rfl,rfl,?_⟩,rfl⟩
  rw[hn,sG,ie]
  exact ⟨.inr ⟨b,vc,extra,rfl,Cd,qm,by simpa [oc,mb] using zd,Cf,rfl⟩,qv,hM,hR⟩
theorem adP (p:Nat) (ps:List (List ia)) (gN:∀q∈ps,jh q) (L:Ld) (hL:l4 ps L) (e:En) (he:iZ e) (hc:lI ps L e=0) (vk vd:Value) (C:List Ck) (hA:ln 179 185 p ps L C) (H:List Ck) (hk:Bs vk e.key H) (hd:Bs vd e.data H) (ow:e.kind=5) (o:Lo) (ho:jC L e.order=some o):gC prog 70 [ptr p,.agg (enc e vk vd).toArray] (C++H) fun r gr=>∃gP,r=.int .i64 0∧ln 179 185 p ps (nG ps L e) gP∧gr=gP++H:=by
 refine gC.enter func70 rfl ntmps70 rfl ?_
 intro w0 R
 have vR:=hA
 obtain ⟨vp,vo,bm,lb,eb,mode,jg,nt,cells,CO,CM,V,rfl,rU,s7,hO,hV,hM,hR⟩:=hA
 obtain ⟨po,pc,rfl,_⟩:=VS.form hR
 obtain ⟨ko,kc,rfl,_⟩:=hk.form
 obtain ⟨eo,ec,rfl,_⟩:=hd.form
 have hs:=SL.iZ.qP he
 have sE:=hL.many
 have rV:∀q∈ps,q≠[]:=fun q hq e0=>by have:=(gN q hq).len.1;rw[e0] at this;exact absurd this gB
 obtain ⟨A,B,wk,wd,rfl,SU,jd,kf,mH,mW,zF⟩:=OF hV ho
 obtain ⟨b,vc,extra,rfl,Cd,qm,zd,Cf,rfl⟩:=hO.resolve_left (fun q=>by have:=q.2.1;omega)
 have AQ:A.length=0+(e.order.toNat-1)*11:=by omega
 have Ey:∀j,j<11→((A++(oc e.order.toNat o wk wd++B))++extra)[0+(e.order.toNat-1)*11+j]?=(oc e.order.toNat o wk wd)[j]?:=fun j hj=>Ol AQ rfl hj
 obtain ⟨u2,nv⟩:=RV.of hR rV o.data
 obtain ⟨wo,wc,rfl,_⟩:=jd.form
 obtain ⟨xo,xc,rfl,_⟩:=kf.form
 obtain ⟨qu,oB,_⟩:=hL.one o (qN ho).2.2
 have nq:0+(e.order.toNat-1)*11+11≤((A++(oc e.order.toNat o (.slice wo o.key.length wc) (.slice xo o.data.length xc)++B))++extra).length:=by
   have e9:(oc e.order.toNat o (.slice wo o.key.length wc) (.slice xo o.data.length xc)).length=11:=rfl
   rw[dr,dr,dr,e9];omega
 have lA:kC ps L e=true:=by
   unfold lI at hc
   rw[dp (fK (xN he))] at hc
   by_cases q:e.gF.toNat=L.last+1∧L.ep≤e.ep.toNat∧kC ps L e=true
   · exact q.2.2
   rw[dp q] at hc;cases hc
 refine gY (iV fun b3=>?_)
 refine g_ [7,411] ?_
 refine iG call67 rfl (Dh p ps gN L hL e (.inl he) _ _ _ (mN.mono (ln.v vR) hZ) (hk.mono hZ) (hd.mono hZ)) ?_
 refine g_ [6,702] ?_
 refine j8 13 rfl (fun q=>q hc) ?_
 refine g_ [9,106] ?_
 refine c_ call117 rfl (FT p (0+6) (j0 (.slice po ps.length pc) (.slice (some ⟨b,0,none⟩) L.l.length vc) bm lb eb mode jg nt) 179 jg gA []) ?_
 rintro DH BI ⟨ly,rfl,rfl⟩
 rw[show (j0 (.slice po ps.length pc) (.slice (some ⟨b,0,none⟩) L.l.length vc) bm lb eb mode jg nt).set (0+6) (.int .i64 ly)=j0 (.slice po ps.length pc) (.slice (some ⟨b,0,none⟩) L.l.length vc) bm lb eb mode ly nt from rfl]
 refine g_ [3,512] ?_
 refine w_ [0,1,1001,2,3,1002,4,5,6,1003,7] ?_
 refine gD 8 ?_
 refine SO.s rfl Wt.none (aq (iT:=j0 (.slice po ps.length pc) (.slice (some ⟨b,0,none⟩) L.l.length vc) bm e.gF eb mode ly nt) fa rfl rfl gA ir (by show 0+3<8;decide) rfl ⟨rfl,?_⟩)
 refine iO [0] ?_
 refine w_ [9,1004,10] ?_
 refine gD 11 ?_
 refine SO.s rfl Wt.none (aq (iT:=j0 (.slice po ps.length pc) (.slice (some ⟨b,0,none⟩) L.l.length vc) bm e.gF e.ep mode ly nt) fa rfl rfl gA ir (by show 0+4<8;decide) rfl ⟨rfl,?_⟩)
 refine gG ?_
 refine gM ?_
 refine g_ [4,100,6,701,1038,6,701,1070,6,701,1099,6,701] ?_
 refine kl 134 rfl ow (g_ [6,103,1] ?_)
 refine iG call65 rfl (xt p _ b 0 L.l.length vc bm e.gF e.ep mode ly nt _ _ _ _ gO e.order ⟨mH,mW⟩) ?_
 refine g_ [1,110] ?_
 refine WL.s (aq (iT:=((A++(oc e.order.toNat {o with told:=true} (.slice wo o.key.length wc) (.slice xo o.data.length xc)++B))++extra)) fa rfl rfl gA ir gz (aeq (c:=oc e.order.toNat o (.slice wo o.key.length wc) (.slice xo o.data.length xc)) AQ (a:=10) (by show 10<11;decide)) ⟨rfl,?_⟩)
 refine g_ [9] ?_
 refine gH ((row p (j0 (.slice po ps.length pc) (.slice (some ⟨b,0,none⟩) L.l.length vc) bm e.gF e.ep mode ly nt) 179::([row b ((A++(oc e.order.toNat {o with told:=true} (.slice wo o.key.length wc) (.slice xo o.data.length xc)++B))++extra) 185]++(CM++V)))++H) ?_
 refine aa results70 rfl ?_
 rotate_left
 all_goals
  obtain ⟨qv,sG⟩:=zF {o with told:=true} rfl rfl
  have hn:(nG ps L e).l=setAt L e.order {o with told:=true}:=by
    unfold nG
    simp only[ow,ho]
    simp
  have ie:(setAt L e.order {o with told:=true}).length=L.l.length:=List.length_set
  refine ⟨_,rfl,⟨_,_,bm,e.gF,e.ep,mode,ly,nt,A++(oc e.order.toNat {o with told:=true} (.slice wo o.key.length wc) (.slice xo o.data.length xc)++B),_,CM,V,rfl,rfl,rfl,?_⟩,rfl⟩
  rw[hn,sG,ie]
  exact ⟨.inr ⟨b,vc,extra,rfl,Cd,qm,by simpa [oc,mb] using zd,Cf,rfl⟩,qv,hM,hR⟩
theorem adT (p:Nat) (ps:List (List ia)) (gN:∀q∈ps,jh q) (L:Ld) (hL:l4 ps L) (e:En) (he:iZ e) (hc:lI ps L e=0) (vk vd:Value) (C:List Ck) (hA:ln 179 185 p ps L C) (H:List Ck) (hk:Bs vk e.key H) (hd:Bs vd e.data H) (ow:e.kind=2):gC prog 70 [ptr p,.agg (enc e vk vd).toArray] (C++H) fun r gr=>∃gP,r=.int .i64 0∧ln 179 185 p ps (nG ps L e) gP∧gr=gP++H:=by
 refine gC.enter func70 rfl ntmps70 rfl ?_
 intro w0 R
 have vR:=hA
 obtain ⟨vp,vo,bm,lb,eb,mode,jg,nt,cells,CO,CM,V,rfl,rU,s7,hO,hV,hM,hR⟩:=hA
 obtain ⟨po,pc,rfl,_⟩:=VS.form hR
 obtain ⟨ko,kc,rfl,_⟩:=hk.form
 obtain ⟨eo,ec,rfl,_⟩:=hd.form
 have hs:=SL.iZ.qP he
 have sE:=hL.many
 have rV:∀q∈ps,q≠[]:=fun q hq e0=>by have:=(gN q hq).len.1;rw[e0] at this;exact absurd this gB
 obtain ⟨vl,vc,rfl,_⟩:=hO.form
 have ma:=hs.k2 ow
 have lA:kC ps L e=true:=by
   unfold lI at hc
   rw[dp (fK (xN he))] at hc
   by_cases q:e.gF.toNat=L.last+1∧L.ep≤e.ep.toNat∧kC ps L e=true
   · exact q.2.2
   rw[dp q] at hc;cases hc
 unfold kC at lA
 rw[dx ow] at lA
 simp only[eu,dz,fq] at lA
 obtain ⟨CB,AY,hf3,hf4⟩:=lA
 have GY:e.order.toNat=L.l.length+1:=by omega
 have zF:pF (mJ L.l) (str e.key) (.int .u32 e.order.toNat)=mJ (L.l++[⟨e.key,e.data,Sg.start,false⟩]):=by
   unfold pF
   rw[hf3,adH,GY]
   rfl
 refine gY (iV fun b3=>?_)
 refine g_ [7,411] ?_
 refine iG call67 rfl (Dh p ps gN L hL e (.inl he) _ _ _ (mN.mono (ln.v vR) hZ) (hk.mono hZ) (hd.mono hZ)) ?_
 refine g_ [6,702] ?_
 refine j8 13 rfl (fun q=>q hc) ?_
 refine g_ [9,106] ?_
 refine c_ call117 rfl (FT p (0+6) (j0 (.slice po ps.length pc) (.slice vl L.l.length vc) bm lb eb mode jg nt) 179 jg gA []) ?_
 rintro DH BI ⟨ly,rfl,rfl⟩
 rw[show (j0 (.slice po ps.length pc) (.slice vl L.l.length vc) bm lb eb mode jg nt).set (0+6) (.int .i64 ly)=j0 (.slice po ps.length pc) (.slice vl L.l.length vc) bm lb eb mode ly nt from rfl]
 refine g_ [3,512] ?_
 refine w_ [0,1,1001,2,3,1002,4,5,6,1003,7] ?_
 refine gD 8 ?_
 refine SO.s rfl Wt.none (aq (iT:=j0 (.slice po ps.length pc) (.slice vl L.l.length vc) bm e.gF eb mode ly nt) fa rfl rfl gA ir (by show 0+3<8;decide) rfl ⟨rfl,?_⟩)
 refine iO [0] ?_
 refine w_ [9,1004,10] ?_
 refine gD 11 ?_
 refine SO.s rfl Wt.none (aq (iT:=j0 (.slice po ps.length pc) (.slice vl L.l.length vc) bm e.gF e.ep mode ly nt) fa rfl rfl gA ir (by show 0+4<8;decide) rfl ⟨rfl,?_⟩)
 refine gG ?_
 refine gM ?_
 refine g_ [4,100,6,701] ?_
 refine kl 38 rfl ow (g_ [5,510] ?_)
 refine w_ [0,1,1002,2,3,1009,4,5,1003,7,8] ?_
 refine gD 6 ?_
 refine SO.h rfl Wt.none rfl (aM (e:=5) (bs:=e.key) fa fa underlying9 rfl (hk.mono hZ) ⟨_,rfl,?_⟩)
 refine iO [0,0] ?_
 refine gD 9 ?_
 refine SO.s rfl Wt.none (bL (k0:=kU) (KT:=9) (ET:=38) (TD:=.string) (n:=str e.key) fa underlying9 rfl rfl rfl rfl hM (adE hL.keys) fc fun C3 h3=>⟨rfl,?_⟩)
 refine gG ?_
 refine gM ?_
 refine g_ [2,512] ?_
 refine w_ [1003,0,1,1009,2,3,1010,5,6] ?_
 refine pe [(4,[3]),(10,[])] fa (ig ?_ (ig ?_ (jl)))
 refine kP ?_
 refine iI rfl call118 rfl (yR _ e.key H hk gz) ?_
 rintro XD Qn ⟨CK,Er,rfl⟩
 obtain ⟨qo,qc,rfl,_⟩:=Er.form
 refine iO [0,0] ?_
 refine pe [(7,[6]),(10,[])] fa (ig ?_ (ig ?_ (jl)))
 refine kP ?_
 refine iI rfl call118 rfl (yR _ e.data H hd gz) ?_
 rintro KH Ii ⟨CE,AV,rfl⟩
 obtain ⟨ro,rc,rfl,_⟩:=AV.form
 refine iO [0] ?_
 refine jy 8 [] rfl call119 rfl (Ku _) fc ?_
 refine gW 9 [8,1] rfl (aj (pl:=[(0,1),(1,1),(2,1),(3,7)]) (zs:=Ag) (parts:=[(0,.tmp 49),(1,.tmp 52),(2,.tmp 55),(3,.tmp 56)]) (vs:=[(0,_),(1,_),(2,_),(3,_)]) (cells:=[_,_,_,_,_,_,_,_,_,_]) fa fa rfl rfl) fa ?_
 refine gD 10 ?_
 refine nQ Ag fun b6=>?_
 refine gG ?_ (hr:=by exact ig (iw [] rfl (aO Wt.none (iE.func call119 rfl) (Ku _) fc) fa) (ig (iw [0] rfl (aw Wt.none (ab fa rfl gO gA)) fa) jl))
 refine gD 11 ?_
 refine jT 10 ?_
 refine gG ?_
 refine gM ?_
 refine g_ [1,512] ?_
 refine w_ [0,1,2,1001,3,4,2010,5] ?_
 refine gW 6 [5] rfl (aj (pl:=[(0,10),(10,1)]) (zs:=xD) (parts:=[(0,.tmp 63)]) (vs:=[(0,_)]) (cells:=[_,_,_,_,_,_,_,_,_,_,.bool false]) fa fa rfl rfl) fa ?_
 refine gD 7 ?_
 refine SO.h rfl Wt.none rfl (aX (e:=185) (sz:=11) (zs:=xD) (vs:=(oc e.order.toNat ⟨e.key,e.data,Sg.start,false⟩ (.slice qo e.key.length qc) (.slice ro e.data.length rc))) fa fa fa rfl rfl rfl fa fun Lc=>⟨_,rfl,?_⟩)
 refine iO [110,0] ?_
 refine gD 8 ?_
 refine SO.h rfl Wt.none rfl (aT (e:=185) (sz:=11) (bytes:=120) (zs:=xD) fa fa rfl gz rfl rfl (hO) fc gO gA qd (by simp only[maxLen];omega) gz fun v66 Ak wT=>⟨_,rfl,?_⟩)
 refine iO [110] ?_
 obtain ⟨ul,uc,rfl,_⟩:=wT.form
 refine w_ [9,1001,10] ?_
 refine gD 11 ?_
 refine SO.s rfl Wt.none (aq (iT:=j0 (.slice po ps.length pc) (.slice ul (L.l.length+1) uc) bm e.gF e.ep mode ly nt) fa rfl rfl gA ir (by show 0+1<8;decide) rfl ⟨rfl,?_⟩)
 refine gG ?_
 refine gM ?_
 refine g_ [8] ?_
 refine gH ((row p (j0 (.slice po ps.length pc) (.slice ul (L.l.length+1) uc) bm e.gF e.ep mode ly nt) 179::(Ak++(C3++(CK++(CE++V)))))++H) ?_
 refine aa results70 rfl ?_
 rotate_left
 refine kP ?_
 refine nQ Ag fun b6=>?_
 refine iO [0,0] ?_
 refine gD 7 ?_
 refine iI rfl call118 rfl (yR _ e.data H hd gz) ?_
 rintro KH Ii ⟨CE,AV,rfl⟩
 obtain ⟨ro,rc,rfl,_⟩:=AV.form
 refine iO [0] ?_
 refine jy 8 [] rfl call119 rfl (Ku _) fc ?_
 refine gW 9 [8,1] rfl (aj (pl:=[(0,1),(1,1),(2,1),(3,7)]) (zs:=Ag) (parts:=[(0,.tmp 49),(1,.tmp 52),(2,.tmp 55),(3,.tmp 56)]) (vs:=[(0,_),(1,_),(2,_),(3,_)]) (cells:=[_,_,_,_,_,_,_,_,_,_]) fa fa rfl rfl) fa ?_
 refine gD 11 ?_
 refine jT 10 ?_
 refine gG ?_
 refine gM ?_
 refine g_ [1,512] ?_
 refine w_ [0,1,2,1001,3,4,2010,5] ?_
 refine gW 6 [5] rfl (aj (pl:=[(0,10),(10,1)]) (zs:=xD) (parts:=[(0,.tmp 63)]) (vs:=[(0,_)]) (cells:=[_,_,_,_,_,_,_,_,_,_,.bool false]) fa fa rfl rfl) fa ?_
 refine gD 7 ?_
 refine SO.h rfl Wt.none rfl (aX (e:=185) (sz:=11) (zs:=xD) (vs:=(oc e.order.toNat ⟨e.key,e.data,Sg.start,false⟩ (.slice qo e.key.length qc) (.slice ro e.data.length rc))) fa fa fa rfl rfl rfl fa fun Lc=>⟨_,rfl,?_⟩)
 refine iO [110,0] ?_
 refine gD 8 ?_
 refine SO.h rfl Wt.none rfl (aT (e:=185) (sz:=11) (bytes:=120) (zs:=xD) fa fa rfl gz rfl rfl (hO) fc gO gA qd (by simp only[maxLen];omega) gz fun v66 Ak wT=>⟨_,rfl,?_⟩)
 refine iO [110] ?_
 obtain ⟨ul,uc,rfl,_⟩:=wT.form
 refine w_ [9,1001,10] ?_
 refine gD 11 ?_
 refine SO.s rfl Wt.none (aq (iT:=j0 (.slice po ps.length pc) (.slice ul (L.l.length+1) uc) bm e.gF e.ep mode ly nt) fa rfl rfl gA ir (by show 0+1<8;decide) rfl ⟨rfl,?_⟩)
 refine gG ?_
 refine gM ?_
 refine g_ [8] ?_
 refine gH ((row p (j0 (.slice po ps.length pc) (.slice ul (L.l.length+1) uc) bm e.gF e.ep mode ly nt) 179::(Ak++(C3++(CK++(CE++V)))))++H) ?_
 refine aa results70 rfl ?_
 rotate_left
 refine kP ?_
 refine nQ Ag fun b6=>?_
 refine iO [0,0,0] ?_
 refine gD 4 ?_
 refine iI rfl call118 rfl (yR _ e.key H hk gz) ?_
 rintro XD Qn ⟨CK,Er,rfl⟩
 obtain ⟨qo,qc,rfl,_⟩:=Er.form
 refine iO [0,0] ?_
 refine gD 7 ?_
 refine iI rfl call118 rfl (yR _ e.data H hd gz) ?_
 rintro KH Ii ⟨CE,AV,rfl⟩
 obtain ⟨ro,rc,rfl,_⟩:=AV.form
 refine iO [0] ?_
 refine jy 8 [] rfl call119 rfl (Ku _) fc ?_
 refine gW 9 [8,1] rfl (aj (pl:=[(0,1),(1,1),(2,1),(3,7)]) (zs:=Ag) (parts:=[(0,.tmp 49),(1,.tmp 52),(2,.tmp 55),(3,.tmp 56)]) (vs:=[(0,_),(1,_),(2,_),(3,_)]) (cells:=[_,_,_,_,_,_,_,_,_,_]) fa fa rfl rfl) fa ?_
 refine gD 11 ?_
 refine jT 10 ?_
 refine gG ?_
 refine gM ?_
 refine g_ [1,512] ?_
 refine w_ [0,1,2,1001,3,4,2010,5] ?_
 refine gW 6 [5] rfl (aj (pl:=[(0,10),(10,1)]) (zs:=xD) (parts:=[(0,.tmp 63)]) (vs:=[(0,_)]) (cells:=[_,_,_,_,_,_,_,_,_,_,.bool false]) fa fa rfl rfl) fa ?_
 refine gD 7 ?_
 refine SO.h rfl Wt.none rfl (aX (e:=185) (sz:=11) (zs:=xD) (vs:=(oc e.order.toNat ⟨e.key,e.data,Sg.start,false⟩ (.slice qo e.key.length qc) (.slice ro e.data.length rc))) fa fa fa rfl rfl rfl fa fun Lc=>⟨_,rfl,?_⟩)
 refine iO [110,0] ?_
 refine gD 8 ?_
 refine SO.h rfl Wt.none rfl (aT (e:=185) (sz:=11) (bytes:=120) (zs:=xD) fa fa rfl gz rfl rfl (hO) fc gO gA qd (by simp only[maxLen];omega) gz fun v66 Ak wT=>⟨_,rfl,?_⟩)
 refine iO [110] ?_
 obtain ⟨ul,uc,rfl,_⟩:=wT.form
 refine w_ [9,1001,10] ?_
 refine gD 11 ?_
 refine SO.s rfl Wt.none (aq (iT:=j0 (.slice po ps.length pc) (.slice ul (L.l.length+1) uc) bm e.gF e.ep mode ly nt) fa rfl rfl gA ir (by show 0+1<8;decide) rfl ⟨rfl,?_⟩)
 refine gG ?_
 refine gM ?_
 refine g_ [8] ?_
 refine gH ((row p (j0 (.slice po ps.length pc) (.slice ul (L.l.length+1) uc) bm e.gF e.ep mode ly nt) 179::(Ak++(C3++(CK++(CE++V)))))++H) ?_
 refine aa results70 rfl ?_
 rotate_left
 all_goals
  have hn:(nG ps L e).l=L.l++[⟨e.key,e.data,Sg.start,false⟩]:=by
    unfold nG
    simp only[ow]
    simp
  refine ⟨_,rfl,⟨_,_,bm,e.gF,e.ep,mode,ly,nt,cells++(oc e.order.toNat ⟨e.key,e.data,Sg.start,false⟩ (.slice qo e.key.length qc) (.slice ro e.data.length rc)),_,C3,CK++(CE++V),rfl,rfl,rfl,?_⟩,rfl⟩
  have h8:jK (L.l++[⟨e.key,e.data,Sg.start,false⟩])=jK L.l++[(e.order.toNat,⟨e.key,e.data,Sg.start,false⟩)]:=by rw[Vw,GY]
  rw[hn,dr,h8]
  exact ⟨wT,(hV.mono fun c hc=>dq _ (dq _ hc)).append (VL.one (E:=Bo) ⟨_,_,rfl,Er.mono fun c hc=>dw _ hc,AV.mono fun c hc=>dq _ (dw _ hc)⟩),by rw[←zF];exact h3,VS.mono hR fun c hc=>dq _ (dq _ hc)⟩
theorem UW (p:Nat) (ps:List (List ia)) (gN:∀q∈ps,jh q) (L:Ld) (hL:l4 ps L) (e:En) (he:iZ e) (hc:lI ps L e=0) (vk vd:Value) (C:List Ck) (hA:ln 179 185 p ps L C) (H:List Ck) (hk:Bs vk e.key H) (hd:Bs vd e.data H):gC prog 70 [ptr p,.agg (enc e vk vd).toArray] (C++H) fun r gr=>∃gP,r=.int .i64 0∧ln 179 185 p ps (nG ps L e) gP∧gr=gP++H:=by
  have Ni:=(SL.iZ.qP he).kind
  have lA:kC ps L e=true:=by
    have zg:=hc
    unfold lI at zg
    rw[dp (fK (xN he))] at zg
    by_cases q:e.gF.toNat=L.last+1∧L.ep≤e.ep.toNat∧kC ps L e=true
    · exact q.2.2
    rw[dp q] at zg;cases zg
  by_cases k1:e.kind=1
  · exact adR p ps gN L hL e he hc vk vd C hA H hk hd k1
  by_cases k2:e.kind=2
  · exact adT p ps gN L hL e he hc vk vd C hA H hk hd k2
  cases ho:jC L e.order with
  | none=>
    unfold kC at lA
    rw[dp k2,ho] at lA
    by_cases k3:e.kind=3
    · rw[dx k3] at lA;cases lA
    by_cases k4:e.kind=4
    · rw[dp k3,dx k4] at lA;cases lA
    rw[dp k3,dp k4,dx gz] at lA;cases lA
  | some o=>
    by_cases k3:e.kind=3
    · exact adS p ps gN L hL e he hc vk vd C hA H hk hd k3 o ho
    by_cases k4:e.kind=4
    · exact adQ p ps gN L hL e he hc vk vd C hA H hk hd k4 o ho
    exact adP p ps gN L hL e he hc vk vd C hA H hk hd gz o ho
theorem ad2 (p:Nat) (ps:List (List ia)) (gN:∀q∈ps,jh q) (L:Ld) (hL:l4 ps L) (H:List Ck) (hv:mN p ps L H) (k d:List (BitVec 8)) (vk vd:Value) (hk:Bs vk k H) (hd:Bs vd d H) (hn:∀o∈L.l,o.key≠k):Reads prog 38 [ptr p,vk,vd] H (.tuple #[.int .u32 0,.int .i64 4]):=by
 refine gC.enter func38 rfl ntmps38 rfl ?_
 intro w0 R
 have sE:=hL.many
 obtain ⟨vp,vo,bm,lb,eb,mode,jg,nt,T9,kr,km,hU,rU,s7,hO,hR,hM⟩:=hv
 obtain ⟨po,pc,rfl,_⟩:=VS.form hR
 refine gY (ae rfl (Yd.assign (v:=.int .u32 ((0#32).toNat:Int)) rfl) (g_ [7] ?_))
 refine ae rfl (an underlying110 rfl rfl) (g_ [1011,6,512] ?_)
 refine w_ [0,1,1002,2] ?_
 refine iD 3 [2] rfl (ab (cs:=j0 (.slice po ps.length pc) vo bm lb eb mode jg nt) fa rfl (ib hU) gA) ?_
 refine w_ [4] ?_
 refine gD 5 ?_
 refine SO.h rfl Wt.none rfl (aM (e:=5) (bs:=k) fa fa underlying9 rfl (hk.mono hZ) ⟨_,rfl,?_⟩)
 refine gG ?_ (hr:=by exact ig (iw [2] rfl (aw Wt.none (ab (cs:=j0 (.slice po ps.length pc) vo bm lb eb mode jg nt) fa rfl (ib hU) gA)) fa) jl)
 refine gD 6 ?_
 refine SO.h rfl Wt.none rfl (cA (KT:=9) (ET:=38) (TD:=.string) (n:=str k) (m:=mJ L.l) (z:=.int .u32 0) fa underlying9 rfl fa rfl rfl (hM.mono hZ) rfl ⟨_,rfl,?_⟩)
 refine gG ?_
 refine w_ [7,8,9,10,11] ?_
 refine gM ?_
 refine g_ [6,709] ?_
 refine af (t:=24) (v:=.bool true) rfl (congrArg Value.bool (by rw[JO.2 hn];rfl)) ?_
 refine g_ [6] ?_
 refine ae rfl (Yd.assign (v:=.int .u32 ((0#32).toNat:Int)) rfl) (g_ [6] ?_)
 refine gH H ?_
 exact ay results38 rfl rfl (⟨rfl,rfl⟩)
theorem ad3 (p:Nat) (ps:List (List ia)) (gN:∀q∈ps,jh q) (L:Ld) (hL:l4 ps L) (H:List Ck) (hv:mN p ps L H) (k d:List (BitVec 8)) (vk vd:Value) (hk:Bs vk k H) (hd:Bs vd d H) (i:Nat) (hi:i<L.l.length) (hn:L.l[i].key=k):Reads prog 38 [ptr p,vk,vd] H (if L.l[i].data=d then .tuple #[.int .u32 ((i+1:Nat):Int),.int .i64 0] else .tuple #[.int .u32 0,.int .i64 201]):=by
 refine gC.enter func38 rfl ntmps38 rfl ?_
 intro w0 R
 have sE:=hL.many
 obtain ⟨vp,vo,bm,lb,eb,mode,jg,nt,T9,kr,km,hU,rU,s7,hO,hR,hM⟩:=hv
 obtain ⟨po,pc,rfl,_⟩:=VS.form hR
 obtain ⟨n,nM⟩:∃n:BitVec 32,n.toNat=i+1:=⟨BitVec.ofNat 32 (i+1),by rw[fg];omega⟩
 have ho:jC L n=some L.l[i]:=by
   unfold jC
   rw[dp (fun q=>by rw[q] at nM;cases nM),nM]
   exact dK hi
 obtain ⟨b0,o0,ac,kK,T0,nB,nA,wk,wd,rfl,_,kh,jd,kf,j6,mH,mW⟩:=hO.order ho
 obtain ⟨wo,wc,rfl,_⟩:=kf.form
 have hg:=adI hi hn hL.keys
 refine gY (ae rfl (Yd.assign (v:=.int .u32 ((0#32).toNat:Int)) rfl) (g_ [7] ?_))
 refine ae rfl (an underlying110 rfl rfl) (g_ [1011,6,512] ?_)
 refine w_ [0,1,1002,2] ?_
 refine iD 3 [2] rfl (ab (cs:=j0 (.slice po ps.length pc) (.slice (some ⟨b0,o0,none⟩) L.l.length ac) bm lb eb mode jg nt) fa rfl (ib hU) gA) ?_
 refine w_ [4] ?_
 refine gD 5 ?_
 refine SO.h rfl Wt.none rfl (aM (e:=5) (bs:=k) fa fa underlying9 rfl (hk.mono hZ) ⟨_,rfl,?_⟩)
 refine gG ?_ (hr:=by exact ig (iw [2] rfl (aw Wt.none (ab (cs:=j0 (.slice po ps.length pc) (.slice (some ⟨b0,o0,none⟩) L.l.length ac) bm lb eb mode jg nt) fa rfl (ib hU) gA)) fa) jl)
 refine gD 6 ?_
 refine SO.h rfl Wt.none rfl (cA (KT:=9) (ET:=38) (TD:=.string) (n:=str k) (m:=mJ L.l) (z:=.int .u32 0) fa underlying9 rfl fa rfl rfl (hM.mono hZ) rfl ⟨_,rfl,?_⟩)
 refine gG ?_
 refine w_ [7,8] ?_
 refine az (v:=.int .u32 (n.toNat:Int)) (by rw[hg,nM];rfl) ?_
 refine w_ [9,10,11] ?_
 refine gM ?_
 refine g_ [6,709] ?_
 refine af (t:=24) (v:=.bool false) rfl (congrArg Value.bool (by rw[hg];rfl)) ?_
 refine g_ [5,512] ?_
 refine w_ [0,1] ?_
 refine jy 2 [1,0] rfl call65 rfl (xt p _ b0 o0 L.l.length ac bm lb eb mode jg nt T9 kr km _ (ib hU) n ⟨mH,mW⟩) ax ?_
 refine w_ [3,1000,4,1002,5] ?_
 refine iD 6 [5] rfl (ab (cs:=kK) fa rfl (ib kh) (j6 2 gB)) ?_
 refine w_ [8] ?_
 refine pe [(7,[6]),(9,[8])] fa (ig ?_ (ig ?_ (jl)))
 refine kP ?_
 refine SO.h rfl Wt.none rfl (aM (e:=5) (bs:=L.l[i].data) fa fa underlying9 rfl (kf.mono hZ) ⟨_,rfl,?_⟩)
 refine gG ?_ (hr:=by exact ig (iw [1,0] rfl (aO Wt.none (iE.func call65 rfl) (xt p _ b0 o0 L.l.length ac bm lb eb mode jg nt T9 kr km _ (ib hU) n ⟨mH,mW⟩) ax) fa) jl)
 refine gD 9 ?_
 refine SO.h rfl Wt.none rfl (aM (e:=5) (bs:=d) fa fa underlying9 rfl (hd.mono hZ) ⟨_,rfl,?_⟩)
 refine gG ?_ (hr:=by exact ig (iw [1,0] rfl (aO Wt.none (iE.func call65 rfl) (xt p _ b0 o0 L.l.length ac bm lb eb mode jg nt T9 kr km _ (ib hU) n ⟨mH,mW⟩) ax) fa) jl)
 refine gW 10 [] rfl (cG rfl rfl) fa ?_
 refine w_ [11] ?_
 refine gM ?_
 refine g_ [1] ?_
 refine gK rfl (fun mg=>?_) fun mg=>?_
 refine gY (ae rfl (Yd.assign (v:=.int .u32 ((0#32).toNat:Int)) rfl) (g_ [6] ?_))
 refine gH H ?_
 refine ay results38 rfl rfl (⟨?_,rfl⟩)
 rw[dp (fun q=>mg (congrArg str q))]<;>rfl
 refine g_ [11] ?_
 refine gH H ?_
 refine ay results38 rfl rfl (⟨?_,rfl⟩)
 rw[dx (str_inj.1 (Classical.not_not.1 mg)),nM]
 refine kP ?_
 refine SO.h rfl Wt.none rfl (aM (e:=5) (bs:=d) fa fa underlying9 rfl (hd.mono hZ) ⟨_,rfl,?_⟩)
 refine gG ?_ (hr:=by exact ig (iw [5] rfl (aw Wt.none (ab (cs:=kK) fa rfl (ib kh) (j6 2 gB))) fa) (ig (iw [1,0] rfl (aO Wt.none (iE.func call65 rfl) (xt p _ b0 o0 L.l.length ac bm lb eb mode jg nt T9 kr km _ (ib hU) n ⟨mH,mW⟩) ax) fa) jl))
 refine gD 7 ?_
 refine SO.h rfl Wt.none rfl (aM (e:=5) (bs:=L.l[i].data) fa fa underlying9 rfl (kf.mono hZ) ⟨_,rfl,?_⟩)
 refine gG ?_ (hr:=by exact ig (iw [1,0] rfl (aO Wt.none (iE.func call65 rfl) (xt p _ b0 o0 L.l.length ac bm lb eb mode jg nt T9 kr km _ (ib hU) n ⟨mH,mW⟩) ax) fa) jl)
 refine gW 10 [] rfl (cG rfl rfl) fa ?_
 refine w_ [11] ?_
 refine gM ?_
 refine g_ [1] ?_
 refine gK rfl (fun mg=>?_) fun mg=>?_
 refine gY (ae rfl (Yd.assign (v:=.int .u32 ((0#32).toNat:Int)) rfl) (g_ [6] ?_))
 refine gH H ?_
 refine ay results38 rfl rfl (⟨?_,rfl⟩)
 rw[dp (fun q=>mg (congrArg str q))]<;>rfl
 refine g_ [11] ?_
 refine gH H ?_
 refine ay results38 rfl rfl (⟨?_,rfl⟩)
 rw[dx (str_inj.1 (Classical.not_not.1 mg)),nM]
theorem ad8 (p:Nat) (ps:List (List ia)) (gN:∀q∈ps,jh q) (L:Ld) (hL:l4 ps L) (H:List Ck) (hv:mN p ps L H) (n:BitVec 32) (o:Lo) (ho:jC L n=some o):gC prog 76 [ptr p,.int .u32 n.toNat] H fun r gr=>∃(vk vd:Option Addr×Nat×Nat) (C:List Ck),r=.tuple #[.agg (.int .u32 n.toNat::.slice vk.1 vk.2.1 vk.2.2::.slice vd.1 vd.2.1 vd.2.2::mb o.sg).toArray,.bool true]∧gr=C++H:=by
 refine gC.enter func76 rfl ntmps76 rfl ?_
 intro w0 R
 have sE:=hL.many
 obtain ⟨vp,vo,bm,lb,eb,mode,jg,nt,T9,kr,km,hU,rU,s7,hO,hR,hM⟩:=hv
 obtain ⟨po,pc,rfl,_⟩:=VS.form hR
 obtain ⟨b0,o0,ac,kK,T0,nB,nA,wk,wd,rfl,_,kh,jd,kf,j6,mH,mW⟩:=hO.order ho
 obtain ⟨ko,kc,rfl,_⟩:=jd.form
 obtain ⟨wo,wc,rfl,_⟩:=kf.form
 have th:=hL.one o (qN ho).2.2
 refine gY (iS Ag fun b4=>?_)
 refine g_ [7] ?_
 refine iG call65 rfl (xt p _ b0 o0 L.l.length ac bm lb eb mode jg nt T9 kr km _ (ib hU) n ⟨mH,mW⟩) ?_
 refine g_ [7] ?_
 refine ae rfl (an underlying186 rfl rfl) (g_ [1012,9,100] ?_)
 refine WL.h rfl (aJ (n:=10) (vs:=.int .u32 n.toNat::.slice ko o.key.length kc::.slice wo o.data.length wc::mb o.sg) (cs:=kK) fa rfl (ib kh) rfl (AA j6 0 10 gB) ⟨_,rfl,?_⟩)
 refine iS Ag fun b7=>?_
 refine g_ [310,3,510] ?_
 refine w_ [1001,0,1,1002,3,4] ?_
 refine gD 2 ?_
 refine iI rfl call118 rfl (yR _ o.key H jd gz) ?_
 rintro PF FH ⟨CK,Er,rfl⟩
 obtain ⟨qo,qc,rfl,_⟩:=Er.form
 refine iO [0] ?_
 refine w_ [1001,6] ?_
 refine gD 5 ?_
 refine iI rfl call118 rfl (yR _ o.data H kf gz) ?_
 rintro Xz Qi ⟨CE,AV,rfl⟩
 obtain ⟨ro,rc,rfl,_⟩:=AV.form
 refine gG ?_
 refine gD 7 ?_
 refine SO.s rfl Wt.none (bg fa rfl rfl gA ir gA (by (simp only[fC,ff,eV,fG,Nat.reduceAdd];rfl)) ⟨rfl,?_⟩)
 refine gG ?_
 refine w_ [1002,8] ?_
 refine gD 9 ?_
 refine SO.s rfl Wt.none (bg fa rfl rfl gA ir gA (by (simp only[fC,ff,eV,fG,Nat.reduceAdd];rfl)) ⟨rfl,?_⟩)
 refine gG ?_
 refine gM ?_
 refine g_ [3,410,310,4] ?_
 refine au (s:=10) ((CK++CE)++H) results76 fa rfl rfl gO gA fc ?_
 exact ⟨(qo,o.key.length,qc),(ro,o.data.length,rc),_,rfl,rfl⟩
theorem Ve (p:Nat) (ps:List (List ia)) (gN:∀q∈ps,jh q) (L:Ld) (hL:l4 ps L) (H:List Ck) (hv:mN p ps L H) (n:BitVec 32) (o:Lo) (ho:jC L n=some o):gC prog 73 [ptr p,.int .u32 n.toNat] H fun r gr=>∃A,PV r (jD ps o.data) A∧gr=A++H:=by
 refine gC.enter func73 rfl ntmps73 rfl ?_
 intro w0 R
 have sE:=hL.many
 obtain ⟨vp,vo,bm,lb,eb,mode,jg,nt,T9,kr,km,hU,rU,s7,hO,hR,hM⟩:=hv
 obtain ⟨po,pc,rfl,_⟩:=VS.form hR
 obtain ⟨b0,o0,ac,kK,T0,nB,nA,wk,wd,rfl,_,kh,jd,kf,j6,mH,mW⟩:=hO.order ho
 obtain ⟨ko,kc,rfl,_⟩:=jd.form
 obtain ⟨wo,wc,rfl,_⟩:=kf.form
 have th:=hL.one o (qN ho).2.2
 have rV:∀q∈ps,q≠[]:=fun q hq e0=>by have:=(gN q hq).len.1;rw[e0] at this;exact absurd this gB
 have lx:=gN _ (tp th.1)
 have ajj:=lx.len
 obtain ⟨u2,nv⟩:=RV.of hR rV o.data
 refine g_ [9] ?_
 refine iG call65 rfl (xt p _ b0 o0 L.l.length ac bm lb eb mode jg nt T9 kr km _ (ib hU) n ⟨mH,mW⟩) ?_
 refine g_ [7] ?_
 refine ae rfl (an underlying186 rfl rfl) (g_ [1010,6,512] ?_)
 refine w_ [0,1,1000,2] ?_
 refine iD 3 [2] rfl (aE (n:=1) (vs:=[.slice po ps.length pc]) fa rfl (ib hU) rfl gA) ?_
 refine w_ [4,5,1000,6,1002,7] ?_
 refine iD 8 [7] rfl (ab (cs:=kK) fa rfl (ib kh) (j6 2 gB)) ?_
 refine jy 9 [8,3] rfl call121 rfl (zO po pc ps o.data u2 _ _ (nv.mono hZ) (kf.mono hZ)) ax ?_
 refine gD 10 ?_
 refine iI rfl call125 rfl (Vd _ (jD ps o.data) H nv.pv gz (fun x hx=>by have:=(lx.one x hx).len;omega)) ?_
 rintro HV FI ⟨A,hA,rfl⟩
 refine gG ?_ (hr:=by exact ig (iw [7] rfl (aw Wt.none (ab (cs:=kK) fa rfl (ib kh) (j6 2 gB))) fa) (ig (iw [2] rfl (aw Wt.none (aE (n:=1) (vs:=[.slice po ps.length pc]) fa rfl (ib hU) rfl gA)) fa) jl))
 refine gD 11 ?_
 refine jm ?_
 refine gG ?_
 refine gM ?_
 refine g_ [2] ?_
 refine gH (A++H) ?_
 exact aa results73 rfl (⟨A,hA,rfl⟩)
theorem JQ (p:Nat) (ps:List (List ia)) (gN:∀q∈ps,jh q) (L:Ld) (hL:l4 ps L) (H:List Ck) (hv:mN p ps L H):gC prog 72 [ptr p] H fun r gr=>∃C,il r (vG L).length ((vG L).flatMap ph) 194 4 C∧gr=C++H:=by
 refine gC.enter func72 rfl ntmps72 rfl ?_
 intro w0 R
 have sE:=hL.many
 have rV:∀q∈ps,q≠[]:=fun q hq e0=>by have:=(gN q hq).len.1;rw[e0] at this;exact absurd this gB
 obtain ⟨vp,vo,bm,lb,eb,mode,jg,nt,T9,kr,km,hU,rU,s7,hO,hR,hM⟩:=hv
 obtain ⟨po,pc,rfl,_⟩:=VS.form hR
 obtain ⟨ao,ac,rfl,_⟩:=hO.Hx
 refine g_ [9] ?_
 refine ae rfl (an underlying110 rfl rfl) (g_ [1008,15,101] ?_)
 refine WL.h rfl (ak (cs:=j0 (.slice po ps.length pc) (.slice ao L.l.length ac) bm lb eb mode jg nt) fa rfl (ib hU) gA ⟨_,rfl,?_⟩)
 refine g_ [710,185,4] ?_
 refine aC (fun z:Nat×Value×List Ck=>z.1≤L.l.length∧il z.2.1 (((jK L.l).take z.1).filterMap pU).length ((((jK L.l).take z.1).filterMap pU).flatMap ph) 194 4 z.2.2) (fun z:Nat×Value×List Ck=>[(3,z.2.1),(14,.int .i64 (z.1:Int))]) (fun z:Nat×Value×List Ck=>z.2.2++H) (fun z:Nat×Value×List Ck=>L.l.length-z.1) (⟨0,.slice none 0 0,[]⟩) (show 0≤L.l.length∧il (.slice none 0 0) (((jK L.l).take 0).filterMap pU).length ((((jK L.l).take 0).filterMap pU).flatMap ph) 194 4 [] from ⟨dN _,il.nil _ _⟩) (Sx.put rfl (Sx.put rfl (gL))) fc ?_
 rintro ⟨i,u,Ca⟩ hI
 replace hI:i≤L.l.length∧il u (((jK L.l).take i).filterMap pU).length ((((jK L.l).take i).filterMap pU).flatMap ph) 194 4 Ca:=hI
 obtain ⟨hi,hQ⟩:=hI
 change WC _ _ _ _ _ _ ([(3,u),(14,.int .i64 (i:Int))]++_) (Ca++H)
 obtain ⟨uo,uc,rfl,_⟩:=hQ.form
 refine g_ [2,705,3] ?_
 refine gK rfl (fun pt=>?_) fun pt=>?_
 have gQ:i<L.l.length:=by omega
 obtain ⟨b0,o0,nU,kK,T0,nB,nA,wk,wd,ie,l8,kh,jd,kf,ja⟩:=hO.VJ gQ
 simp only[dI,eD] at ie
 obtain ⟨rfl,rfl⟩:=ie
 obtain ⟨ko,kc,rfl,_⟩:=jd.form
 obtain ⟨wo,wc,rfl,_⟩:=kf.form
 have th:=hL.one _ (dG gQ)
 have zl:=Sm (f:=pU) (l:=L.l) i
 have rk:=Sn (f:=pU) gQ
 refine g_ [6,711,185,11] ?_
 refine WL.h rfl (aJ (n:=11) (vs:=(oc (i+1) L.l[i] (.slice ko L.l[i].key.length kc) (.slice wo L.l[i].data.length wc))) fa rfl (ib kh) rfl (by rw[show o0+((i:Int)).toNat*11=o0+i*11 by omega];exact ja) ⟨_,rfl,?_⟩)
 refine iS xD fun b5=>?_
 refine g_ [311,4,100,103] ?_
 refine WL.h rfl (aJ (n:=7) (vs:=mb L.l[i].sg) fa rfl gO rfl gA ⟨_,rfl,?_⟩)
 refine iS tw fun b6=>?_
 refine g_ [307,4,103,3] ?_
 refine WC.cond rfl (fun kS=>?_) (fun kS=>?_)
 have xa:pU (i+1,L.l[i])=some (i+1,L.l[i].sg.step,decide (L.l[i].sg.phase=2),L.l[i].sg.tr):=by unfold pU;rw[dx kS]
 rw[xa] at rk
 refine g_ [2,100,100,1,101,1,100,1,701,102,1] ?_
 refine ae rfl (aj (pl:=[(0,1),(1,1),(2,1)]) (zs:=[.int .i64 0,.bool false,.int .i64 0]) (parts:=[(0,.tmp 28),(1,.tmp 31),(2,.tmp 33)]) (vs:=[(0,_),(1,_),(2,_)]) (cells:=[_,_,_]) fa fa rfl rfl) ?_
 refine ae rfl (aj (pl:=[(0,1),(1,3)]) (zs:=[.int .u32 0,.int .i64 0,.bool false,.int .i64 0]) (parts:=[(0,.tmp 26),(1,.tmp 34)]) (vs:=[(0,_),(1,_)]) (cells:=[_,_,_,_]) fa fa rfl rfl) ?_
 refine WL.h rfl (aX (e:=194) (sz:=4) (zs:=[.int .u32 0,.int .i64 0,.bool false,.int .i64 0]) (vs:=ph (i+1,L.l[i].sg.step,decide (L.l[i].sg.phase=2),L.l[i].sg.tr)) fa fa fa rfl rfl rfl fa fun b36=>⟨_,rfl,?_⟩)
 refine WL.h rfl (aT (e:=194) (sz:=4) (bytes:=32) (zs:=[.int .u32 0,.int .i64 0,.bool false,.int .i64 0]) fa fa rfl gz rfl rfl (hQ) fc gO gA qd (by simp only[maxLen];omega) gz fun v37 P2 xV=>⟨_,rfl,?_⟩)
 refine g_ [5,703,2] ?_
 exact ai (⟨i+1,v37,P2⟩) (show (i+1)≤L.l.length∧il v37 (((jK L.l).take (i+1)).filterMap pU).length ((((jK L.l).take (i+1)).filterMap pU).flatMap ph) 194 4 P2 from ⟨by omega,by rw[rk,dr,List.flatMap_append];exact xV⟩) (show L.l.length-(i+1)<L.l.length-i by omega) (Sx.put rfl (Sx.put rfl (gL))) fc
 have xa:pU (i+1,L.l[i])=none:=by
   unfold pU
   rw[dp (by simp[kS])]
 rw[xa,Option.toList_none,eF] at rk
 have Mo:=hQ
 refine g_ [4,703,2] ?_
 exact ai (⟨i+1,.slice uo (((jK L.l).take i).filterMap pU).length uc,Ca⟩) (show (i+1)≤L.l.length∧il (.slice uo (((jK L.l).take i).filterMap pU).length uc) (((jK L.l).take (i+1)).filterMap pU).length ((((jK L.l).take (i+1)).filterMap pU).flatMap ph) 194 4 Ca from ⟨by omega,by rw[rk];exact Mo⟩) (show L.l.length-(i+1)<L.l.length-i by omega) (Sx.put rfl (Sx.put rfl (gL))) fc
 have lY:i=L.l.length:=by omega
 subst lY
 refine g_ [12] ?_
 refine gH (Ca++H) ?_
 refine aa results72 rfl ?_
 have e9:((jK L.l).take L.l.length).filterMap pU=vG L:=Sk
 refine ⟨_,?_,rfl⟩
 rw[←e9]
 exact hQ
theorem U1 (p:Nat) (ps:List (List ia)) (gN:∀q∈ps,jh q) (L:Ld) (hL:l4 ps L) (H:List Ck) (hv:mN p ps L H):gC prog 75 [ptr p] H fun r gr=>∃C,il r (AG L).length ((AG L).flatMap ph) 194 4 C∧gr=C++H:=by
 refine gC.enter func75 rfl ntmps75 rfl ?_
 intro w0 R
 have sE:=hL.many
 have rV:∀q∈ps,q≠[]:=fun q hq e0=>by have:=(gN q hq).len.1;rw[e0] at this;exact absurd this gB
 obtain ⟨vp,vo,bm,lb,eb,mode,jg,nt,T9,kr,km,hU,rU,s7,hO,hR,hM⟩:=hv
 obtain ⟨po,pc,rfl,_⟩:=VS.form hR
 obtain ⟨ao,ac,rfl,_⟩:=hO.Hx
 refine g_ [9] ?_
 refine ae rfl (an underlying110 rfl rfl) (g_ [1009,15,101] ?_)
 refine WL.h rfl (ak (cs:=j0 (.slice po ps.length pc) (.slice ao L.l.length ac) bm lb eb mode jg nt) fa rfl (ib hU) gA ⟨_,rfl,?_⟩)
 refine g_ [710,185,4] ?_
 refine aC (fun z:Nat×Value×List Ck=>z.1≤L.l.length∧il z.2.1 (((jK L.l).take z.1).filterMap pV).length ((((jK L.l).take z.1).filterMap pV).flatMap ph) 194 4 z.2.2) (fun z:Nat×Value×List Ck=>[(3,z.2.1),(15,.int .i64 (z.1:Int))]) (fun z:Nat×Value×List Ck=>z.2.2++H) (fun z:Nat×Value×List Ck=>L.l.length-z.1) (⟨0,.slice none 0 0,[]⟩) (show 0≤L.l.length∧il (.slice none 0 0) (((jK L.l).take 0).filterMap pV).length ((((jK L.l).take 0).filterMap pV).flatMap ph) 194 4 [] from ⟨dN _,il.nil _ _⟩) (Sx.put rfl (Sx.put rfl (gL))) fc ?_
 rintro ⟨i,u,Ca⟩ hI
 replace hI:i≤L.l.length∧il u (((jK L.l).take i).filterMap pV).length ((((jK L.l).take i).filterMap pV).flatMap ph) 194 4 Ca:=hI
 obtain ⟨hi,hQ⟩:=hI
 change WC _ _ _ _ _ _ ([(3,u),(15,.int .i64 (i:Int))]++_) (Ca++H)
 obtain ⟨uo,uc,rfl,_⟩:=hQ.form
 refine g_ [2,705,3] ?_
 refine gK rfl (fun mr=>?_) fun mr=>?_
 have gQ:i<L.l.length:=by omega
 obtain ⟨b0,o0,nU,kK,T0,nB,nA,wk,wd,ie,l8,kh,jd,kf,ja⟩:=hO.VJ gQ
 simp only[dI,eD] at ie
 obtain ⟨rfl,rfl⟩:=ie
 obtain ⟨ko,kc,rfl,_⟩:=jd.form
 obtain ⟨wo,wc,rfl,_⟩:=kf.form
 have th:=hL.one _ (dG gQ)
 have zl:=Sm (f:=pV) (l:=L.l) i
 have rk:=Sn (f:=pV) gQ
 obtain ⟨u2,nv⟩:=RV.of hR rV L.l[i].data
 obtain ⟨da,db,dc,MN,To⟩:=RF (pD L.l[i].sg)
 refine g_ [6,711,185,11] ?_
 refine WL.h rfl (aJ (n:=11) (vs:=(oc (i+1) L.l[i] (.slice ko L.l[i].key.length kc) (.slice wo L.l[i].data.length wc))) fa rfl (ib kh) rfl (by rw[show o0+((i:Int)).toNat*11=o0+i*11 by omega];exact ja) ⟨_,rfl,?_⟩)
 refine iS xD fun b5=>?_
 refine g_ [311,3,518] ?_
 refine w_ [0,1,1000,2] ?_
 refine iD 3 [2] rfl (aE (n:=1) (vs:=[.slice po ps.length pc]) fa rfl (ib hU) rfl gA) ?_
 refine w_ [1000,4,1002,5,6] ?_
 refine jy 7 [6,3] rfl call121 rfl (zO po pc ps L.l[i].data u2 _ _ (nv.mono hZ) (kf.mono hZ)) ax ?_
 refine w_ [1000,8,1003,9] ?_
 refine iD 10 [9] rfl (aE (n:=7) (vs:=mb L.l[i].sg) fa rfl gO rfl gA) ?_
 refine jy 11 [10,7] rfl call127 rfl (HI _ _ (gN _ (tp th.1)) L.l[i].sg th.2.1 _ (VS.mono nv.pv hZ)) ax ?_
 refine w_ [12,13] ?_
 refine az (v:=.agg #[.int .i64 da,.bool db,.int .i64 dc]) (by (rw[MN];rfl)) ?_
 refine w_ [14] ?_
 refine gD 15 ?_
 refine SO.h rfl Wt.none rfl (Hd.alloc (zs:=[.int .i64 0,.bool false,.int .i64 0]) fa fun b6=>⟨_,rfl,?_⟩)
 refine gG ?_ (hr:=by exact ig (iw [10,7] rfl (aO Wt.none (iE.func call127 rfl) (HI _ _ (gN _ (tp th.1)) L.l[i].sg th.2.1 _ (VS.mono nv.pv hZ)) ax) fa) (ig (iw [9] rfl (aw Wt.none (aE (n:=7) (vs:=mb L.l[i].sg) fa rfl gO rfl gA)) fa) (ig (iw [6,3] rfl (aO Wt.none (iE.func call121 rfl) (zO po pc ps L.l[i].data u2 _ _ (nv.mono hZ) (kf.mono hZ)) ax) fa) (ig (iw [5] rfl (aw Wt.none (ab fa rfl gO gA)) fa) (ig (iw [2] rfl (aw Wt.none (aE (n:=1) (vs:=[.slice po ps.length pc]) fa rfl (ib hU) rfl gA)) fa) jl)))))
 refine gD 16 ?_
 refine jT 3 ?_
 refine gG ?_
 refine w_ [17] ?_
 refine gM ?_
 refine g_ [6] ?_
 refine WC.cond rfl (fun rP=>?_) (fun rP=>?_)
 have xa:pV (i+1,L.l[i])=some (i+1,da,db,dc):=by unfold pV;rw[To rP];rfl
 rw[xa] at rk
 refine g_ [2,100,100,1,403] ?_
 refine ae rfl (aj (pl:=[(0,1),(1,3)]) (zs:=[.int .u32 0,.int .i64 0,.bool false,.int .i64 0]) (parts:=[(0,.tmp 38),(1,.tmp 39)]) (vs:=[(0,_),(1,_)]) (cells:=[_,_,_,_]) fa fa rfl rfl) ?_
 refine WL.h rfl (aX (e:=194) (sz:=4) (zs:=[.int .u32 0,.int .i64 0,.bool false,.int .i64 0]) (vs:=ph (i+1,da,db,dc)) fa fa fa rfl rfl rfl fa fun b41=>⟨_,rfl,?_⟩)
 refine WL.h rfl (aT (e:=194) (sz:=4) (bytes:=32) (zs:=[.int .u32 0,.int .i64 0,.bool false,.int .i64 0]) fa fa rfl gz rfl rfl (hQ) fc gO gA qd (by simp only[maxLen];omega) gz fun Xd P4 pN=>⟨_,rfl,?_⟩)
 refine g_ [5,703,2] ?_
 exact ai (⟨i+1,Xd,P4⟩) (show (i+1)≤L.l.length∧il Xd (((jK L.l).take (i+1)).filterMap pV).length ((((jK L.l).take (i+1)).filterMap pV).flatMap ph) 194 4 P4 from ⟨by omega,by rw[rk,dr,List.flatMap_append];exact pN⟩) (show L.l.length-(i+1)<L.l.length-i by omega) (Sx.put rfl (Sx.put rfl (gL))) fc
 have xa:pV (i+1,L.l[i])=none:=by
   unfold pV
   rw[Option.isSome_eq_false_iff.1 rP|>Option.isNone_iff_eq_none.1]
   rfl
 rw[xa,Option.toList_none,eF] at rk
 have Mo:=hQ
 refine g_ [4,703,2] ?_
 exact ai (⟨i+1,.slice uo (((jK L.l).take i).filterMap pV).length uc,Ca⟩) (show (i+1)≤L.l.length∧il (.slice uo (((jK L.l).take i).filterMap pV).length uc) (((jK L.l).take (i+1)).filterMap pV).length ((((jK L.l).take (i+1)).filterMap pV).flatMap ph) 194 4 Ca from ⟨by omega,by rw[rk];exact Mo⟩) (show L.l.length-(i+1)<L.l.length-i by omega) (Sx.put rfl (Sx.put rfl (gL))) fc
 have lY:i=L.l.length:=by omega
 subst lY
 refine g_ [12] ?_
 refine gH (Ca++H) ?_
 refine aa results75 rfl ?_
 have e9:((jK L.l).take L.l.length).filterMap pV=AG L:=Sk
 refine ⟨_,?_,rfl⟩
 rw[←e9]
 exact hQ
theorem aeb (v:Value) (ps:List (List ia)) (gN:∀q∈ps,jh q) (hl:1≤ps.length∧ps.length≤8) (H:List Ck) (hv:yL v ps H):gC prog 97 [v] H fun r gr=>∃p C,r=.tuple #[ptr p,.int .i64 0]∧ln 179 185 p ps Ld.z C∧gr=C++H:=by
 refine gC.enter func97 rfl ntmps97 rfl ?_
 intro w0 R
 obtain ⟨ao,ac,rfl,_⟩:=VS.form hv
 refine g_ [10,710,161,705,1010,2,710,161,707,1014,8] ?_
 refine WL.h rfl (bW kU fun bm CM hM=>⟨_,rfl,?_⟩)
 refine ae rfl (aj (pl:=[(0,1),(1,1),(2,1),(3,1),(4,1),(5,1),(6,1),(7,1)]) (zs:=[.slice none 0 0,.slice none 0 0,.map none,.int .u64 0,.int .u32 0,.int .i64 0,.int .i64 0,.int .i64 0]) (parts:=[(2,.tmp 16),(5,.const (.int .i64 1))]) (vs:=[(2,_),(5,_)]) (cells:=[.slice none 0 0,.slice none 0 0,_,.int .u64 0,.int .u32 0,_,.int .i64 0,.int .i64 0]) fa fa rfl rfl) ?_
 refine WL.h rfl (Hd.box rfl fun p=>⟨_,rfl,?_⟩)
 refine g_ [7,710,161,4] ?_
 refine aC (fun z:Nat×Value×List Value×List Ck×List Ck=>z.1≤ps.length∧il z.2.1 z.1 z.2.2.1 305 1 z.2.2.2.1∧VL Dv z.2.2.2.2 z.2.2.1 (ps.take z.1)) (fun z:Nat×Value×List Value×List Ck×List Ck=>[(4,ptr p),(21,.int .i64 (z.1:Int))]) (fun z:Nat×Value×List Value×List Ck×List Ck=>row p (j0 z.2.1 (.slice none 0 0) bm 0#64 0#32 1 0 0) 179::(CM++(z.2.2.2.1++(z.2.2.2.2++H)))) (fun z:Nat×Value×List Value×List Ck×List Ck=>ps.length-z.1) (⟨0,.slice none 0 0,[],[],[]⟩) (show 0≤ps.length∧il (.slice none 0 0) 0 [] 305 1 []∧VL Dv [] [] (ps.take 0) from ⟨dN _,il.nil _ _,.nil⟩) (Sx.put rfl (Sx.put rfl (gL))) fc ?_
 rintro ⟨i,vp,cells,Cp,V⟩ hI
 replace hI:i≤ps.length∧il vp i cells 305 1 Cp∧VL Dv V cells (ps.take i):=hI
 obtain ⟨hi,hO,hV⟩:=hI
 change WC _ _ _ _ _ _ ([(4,ptr p),(21,.int .i64 (i:Int))]++_) (row p (j0 vp (.slice none 0 0) bm 0#64 0#32 1 0 0) 179::(CM++(Cp++(V++H))))
 obtain ⟨po,pc,rfl,_⟩:=hO.form
 refine g_ [2,705,3] ?_
 refine gK rfl (fun kS=>?_) fun kS=>?_
 have gQ:i<ps.length:=by omega
 obtain ⟨b0,o0,nU,kK,T0,nB,nA,ie,l8,kh,c0,⟨u,rfl,hu⟩,j6⟩:=VS.cell hv gQ gB
 simp only[dI,eD] at ie
 obtain ⟨rfl,rfl⟩:=ie
 obtain ⟨uo,uc,rfl,_⟩:=VS.form hu
 have NH:=gN _ (dG gQ)
 have lx:=NH.len
 have kE:ps.take (i+1)=ps.take i++[ps[i]]:=dJ gQ
 have qF:=hO.len
 refine g_ [6,711,161,1] ?_
 refine WL.h rfl (ak (cs:=kK) fa rfl (ib kh) (by rw[show o0+((i:Int)).toNat*1=o0+i*1+0 by omega];exact j6 0 gB) ⟨_,rfl,?_⟩)
 refine g_ [7] ?_
 refine iG call166 rfl (VP _ _ NH _ (VS.mono hu hZ)) ?_
 refine g_ [6,702,1028,5,516] ?_
 refine w_ [0,1,2,1000,3,1000,4,5,6] ?_
 refine gD 7 ?_
 refine iI rfl call125 rfl (Vd _ ps[i] H hu gz (fun x hx=>by have:=(NH.one x hx).len;omega)) ?_
 rintro x37 H37 ⟨A,hA,rfl⟩
 obtain ⟨so,sc,rfl,_⟩:=VS.form hA
 refine iO [0] ?_
 refine gW 8 [] rfl (aj (pl:=[(0,1),(1,3),(4,1)]) (zs:=[.slice none 0 0,.int .u32 0,.int .i32 0,.int .u32 0,.string ⟨#[]⟩]) (parts:=[(0,.tmp 37)]) (vs:=[(0,_)]) (cells:=[_,.int .u32 0,.int .i32 0,.int .u32 0,.string ⟨#[]⟩]) fa fa rfl rfl) fa ?_
 refine gD 9 ?_
 refine SO.h rfl Wt.none rfl (Hd.box rfl fun q=>⟨_,rfl,?_⟩)
 refine iO [0] ?_
 refine gD 10 ?_
 refine SO.h rfl Wt.none rfl (bp (e:=305) (z:=.pointer none) fa fa fa rfl gA fun b40=>⟨_,rfl,?_⟩)
 refine iO [0] ?_
 refine gD 11 ?_
 refine SO.h rfl Wt.none rfl (aT (e:=305) (sz:=1) (bytes:=8) (zs:=[.pointer none]) fa fa rfl gz rfl rfl (hO) fc gO gA qd (by simp only[maxLen];omega) gz fun v41 P3 IW=>⟨_,rfl,?_⟩)
 refine gG ?_
 obtain ⟨no,nc,rfl,_⟩:=IW.form
 refine w_ [12,1000,13,1000,14] ?_
 refine gD 15 ?_
 refine SO.s rfl Wt.none (aq (iT:=j0 (.slice no (i+1) nc) (.slice none 0 0) bm 0#64 0#32 1 0 0) fa rfl rfl gA ir (by show 0<8;decide) rfl ⟨rfl,?_⟩)
 refine gG ?_
 refine gM ?_
 refine g_ [3,703,2] ?_
 exact ai (⟨i+1,.slice no (i+1) nc,cells++[ptr q],P3,row q (Fc (.slice so ps[i].length sc)) 316::(A++V)⟩) (show (i+1)≤ps.length∧il (.slice no (i+1) nc) (i+1) (cells++[ptr q]) 305 1 P3∧VL Dv (row q (Fc (.slice so ps[i].length sc)) 316::(A++V)) (cells++[ptr q]) (ps.take (i+1)) from ⟨by omega,IW,by rw[kE];exact (hV.mono fun c hc=>dt _ (dq _ hc)).append (VL.one (E:=Dv) ⟨q,_,_,_,_,rfl,dy,VS.mono hA fun c hc=>dt _ (dw _ hc)⟩)⟩) (show ps.length-(i+1)<ps.length-i by omega) (Sx.put rfl (Sx.put rfl (gL))) fc
 have lY:i=ps.length:=by omega
 subst lY
 rw[eH] at hV
 refine g_ [13] ?_
 refine gH ((row p (j0 (.slice po ps.length pc) (.slice none 0 0) bm 0#64 0#32 1 0 0) 179::([]++(CM++(Cp++V))))++H) ?_
 refine ay results97 rfl rfl (⟨p,_,rfl,⟨_,_,bm,0#64,0#32,1,0,0,[],[],CM,Cp++V,rfl,rfl,rfl,il.nil _ _,.nil,hM,⟨cells,hO.rs.mono fun c hc=>dw _ hc,hV.mono fun c hc=>dq _ hc⟩⟩,rfl⟩)
end Go.Proofs.YtchdmlkiggdhaaaGreat
namespace Go.Proofs.YtchdmlkiggdhaaaGreat
open Go.SL Go.Proofs.Tryz
attribute [local irreducible] WL WC DN gZ iX
theorem aey (k:Int) (H:List Ck):Reads prog 98 [.int .i64 k] H (.string (nw k)):=by
 refine gC.enter func98 rfl ntmps98 rfl ?_
 intro w0 R
 refine g_ [14,701,3] ?_
 refine gK rfl (fun h4=>?_) fun h4=>?_
 refine g_ [8] ?_
 refine aa results98 rfl ?_
 exact ⟨by congr 1;simp[nw,nm, *],rfl⟩
 refine g_ [3,701,3] ?_
 refine gK rfl (fun h6=>?_) fun h6=>?_
 refine g_ [2] ?_
 refine gK rfl (fun h6=>?_) fun h6=>?_
 refine g_ [8] ?_
 refine aa results98 rfl ?_
 exact ⟨by congr 1;simp[nw,nm, *],rfl⟩
 refine g_ [3,701,3] ?_
 refine gK rfl (fun h9=>?_) fun h9=>?_
 refine g_ [2] ?_
 refine gK rfl (fun h9=>?_) fun h9=>?_
 refine g_ [8] ?_
 refine aa results98 rfl ?_
 exfalso;omega
 refine g_ [2,701,3] ?_
 refine gK rfl (fun nj=>?_) fun nj=>?_
 refine g_ [8] ?_
 refine aa results98 rfl ?_
 exfalso;omega
 refine g_ [2,701,3] ?_
 refine gK rfl (fun ql=>?_) fun ql=>?_
 refine g_ [8] ?_
 refine aa results98 rfl ?_
 exfalso;omega
 refine g_ [2,701,3] ?_
 refine gK rfl (fun mr=>?_) fun mr=>?_
 refine g_ [8] ?_
 refine aa results98 rfl ?_
 exfalso;omega
 refine g_ [2,701,3] ?_
 refine gK rfl (fun pX=>?_) fun pX=>?_
 refine g_ [8] ?_
 refine aa results98 rfl ?_
 exfalso;omega
 refine g_ [2,701,3] ?_
 refine gK rfl (fun pw=>?_) fun pw=>?_
 refine g_ [8] ?_
 refine aa results98 rfl ?_
 exfalso;omega
 refine g_ [3,701,3] ?_
 refine gK rfl (fun kS=>?_) fun kS=>?_
 refine g_ [2] ?_
 refine gK rfl (fun kS=>?_) fun kS=>?_
 refine g_ [8] ?_
 refine aa results98 rfl ?_
 exfalso;omega
 refine g_ [2,701,3] ?_
 refine gK rfl (fun mg=>?_) fun mg=>?_
 refine g_ [8] ?_
 refine aa results98 rfl ?_
 exfalso;omega
 refine g_ [9] ?_
 refine aa results98 rfl ?_
 exfalso;omega
 refine g_ [1,701,3] ?_
 refine gK rfl (fun kS=>?_) fun kS=>?_
 refine g_ [8] ?_
 refine aa results98 rfl ?_
 exfalso;omega
 refine g_ [2,701,3] ?_
 refine gK rfl (fun mg=>?_) fun mg=>?_
 refine g_ [8] ?_
 refine aa results98 rfl ?_
 exfalso;omega
 refine g_ [9] ?_
 refine aa results98 rfl ?_
 exfalso;omega
 refine g_ [1,701,3] ?_
 refine gK rfl (fun h9=>?_) fun h9=>?_
 refine g_ [8] ?_
 refine aa results98 rfl ?_
 exfalso;omega
 refine g_ [2,701,3] ?_
 refine gK rfl (fun nj=>?_) fun nj=>?_
 refine g_ [8] ?_
 refine aa results98 rfl ?_
 exfalso;omega
 refine g_ [2,701,3] ?_
 refine gK rfl (fun ql=>?_) fun ql=>?_
 refine g_ [8] ?_
 refine aa results98 rfl ?_
 exfalso;omega
 refine g_ [2,701,3] ?_
 refine gK rfl (fun mr=>?_) fun mr=>?_
 refine g_ [8] ?_
 refine aa results98 rfl ?_
 exfalso;omega
 refine g_ [2,701,3] ?_
 refine gK rfl (fun pX=>?_) fun pX=>?_
 refine g_ [8] ?_
 refine aa results98 rfl ?_
 exfalso;omega
 refine g_ [2,701,3] ?_
 refine gK rfl (fun pw=>?_) fun pw=>?_
 refine g_ [8] ?_
 refine aa results98 rfl ?_
 exfalso;omega
 refine g_ [3,701,3] ?_
 refine gK rfl (fun kS=>?_) fun kS=>?_
 refine g_ [2] ?_
 refine gK rfl (fun kS=>?_) fun kS=>?_
 refine g_ [8] ?_
 refine aa results98 rfl ?_
 exfalso;omega
 refine g_ [2,701,3] ?_
 refine gK rfl (fun mg=>?_) fun mg=>?_
 refine g_ [8] ?_
 refine aa results98 rfl ?_
 exfalso;omega
 refine g_ [9] ?_
 refine aa results98 rfl ?_
 exfalso;omega
 refine g_ [1,701,3] ?_
 refine gK rfl (fun kS=>?_) fun kS=>?_
 refine g_ [8] ?_
 refine aa results98 rfl ?_
 exfalso;omega
 refine g_ [2,701,3] ?_
 refine gK rfl (fun mg=>?_) fun mg=>?_
 refine g_ [8] ?_
 refine aa results98 rfl ?_
 exfalso;omega
 refine g_ [9] ?_
 refine aa results98 rfl ?_
 exfalso;omega
 refine g_ [1,701,3] ?_
 refine gK rfl (fun h6=>?_) fun h6=>?_
 refine g_ [8] ?_
 refine aa results98 rfl ?_
 exact ⟨by congr 1;simp[nw,nm, *],rfl⟩
 refine g_ [3,701,3] ?_
 refine gK rfl (fun h9=>?_) fun h9=>?_
 refine g_ [2] ?_
 refine gK rfl (fun h9=>?_) fun h9=>?_
 refine g_ [8] ?_
 refine aa results98 rfl ?_
 exact ⟨by congr 1;simp[nw,nm, *],rfl⟩
 refine g_ [2,701,3] ?_
 refine gK rfl (fun nj=>?_) fun nj=>?_
 refine g_ [8] ?_
 refine aa results98 rfl ?_
 exfalso;omega
 refine g_ [2,701,3] ?_
 refine gK rfl (fun ql=>?_) fun ql=>?_
 refine g_ [8] ?_
 refine aa results98 rfl ?_
 exfalso;omega
 refine g_ [2,701,3] ?_
 refine gK rfl (fun mr=>?_) fun mr=>?_
 refine g_ [8] ?_
 refine aa results98 rfl ?_
 exfalso;omega
 refine g_ [2,701,3] ?_
 refine gK rfl (fun pX=>?_) fun pX=>?_
 refine g_ [8] ?_
 refine aa results98 rfl ?_
 exfalso;omega
 refine g_ [2,701,3] ?_
 refine gK rfl (fun pw=>?_) fun pw=>?_
 refine g_ [8] ?_
 refine aa results98 rfl ?_
 exfalso;omega
 refine g_ [3,701,3] ?_
 refine gK rfl (fun kS=>?_) fun kS=>?_
 refine g_ [2] ?_
 refine gK rfl (fun kS=>?_) fun kS=>?_
 refine g_ [8] ?_
 refine aa results98 rfl ?_
 exfalso;omega
 refine g_ [2,701,3] ?_
 refine gK rfl (fun mg=>?_) fun mg=>?_
 refine g_ [8] ?_
 refine aa results98 rfl ?_
 exfalso;omega
 refine g_ [9] ?_
 refine aa results98 rfl ?_
 exfalso;omega
 refine g_ [1,701,3] ?_
 refine gK rfl (fun kS=>?_) fun kS=>?_
 refine g_ [8] ?_
 refine aa results98 rfl ?_
 exfalso;omega
 refine g_ [2,701,3] ?_
 refine gK rfl (fun mg=>?_) fun mg=>?_
 refine g_ [8] ?_
 refine aa results98 rfl ?_
 exfalso;omega
 refine g_ [9] ?_
 refine aa results98 rfl ?_
 exfalso;omega
 refine g_ [1,701,3] ?_
 refine gK rfl (fun h9=>?_) fun h9=>?_
 refine g_ [8] ?_
 refine aa results98 rfl ?_
 exact ⟨by congr 1;simp[nw,nm, *],rfl⟩
 refine g_ [2,701,3] ?_
 refine gK rfl (fun nj=>?_) fun nj=>?_
 refine g_ [8] ?_
 refine aa results98 rfl ?_
 exact ⟨by congr 1;simp[nw,nm, *],rfl⟩
 refine g_ [2,701,3] ?_
 refine gK rfl (fun ql=>?_) fun ql=>?_
 refine g_ [8] ?_
 refine aa results98 rfl ?_
 exact ⟨by congr 1;simp[nw,nm, *],rfl⟩
 refine g_ [2,701,3] ?_
 refine gK rfl (fun mr=>?_) fun mr=>?_
 refine g_ [8] ?_
 refine aa results98 rfl ?_
 exact ⟨by congr 1;simp[nw,nm, *],rfl⟩
 refine g_ [2,701,3] ?_
 refine gK rfl (fun pX=>?_) fun pX=>?_
 refine g_ [8] ?_
 refine aa results98 rfl ?_
 exact ⟨by congr 1;simp[nw,nm, *],rfl⟩
 refine g_ [2,701,3] ?_
 refine gK rfl (fun pw=>?_) fun pw=>?_
 refine g_ [8] ?_
 refine aa results98 rfl ?_
 exact ⟨by congr 1;simp[nw,nm, *],rfl⟩
 refine g_ [3,701,3] ?_
 refine gK rfl (fun kS=>?_) fun kS=>?_
 refine g_ [2] ?_
 refine gK rfl (fun kS=>?_) fun kS=>?_
 refine g_ [8] ?_
 refine aa results98 rfl ?_
 exact ⟨by congr 1;simp[nw,nm, *],rfl⟩
 refine g_ [2,701,3] ?_
 refine gK rfl (fun mg=>?_) fun mg=>?_
 refine g_ [8] ?_
 refine aa results98 rfl ?_
 exfalso;omega
 refine g_ [9] ?_
 refine aa results98 rfl ?_
 exfalso;omega
 refine g_ [1,701,3] ?_
 refine gK rfl (fun kS=>?_) fun kS=>?_
 refine g_ [8] ?_
 refine aa results98 rfl ?_
 exact ⟨by congr 1;simp[nw,nm, *],rfl⟩
 refine g_ [2,701,3] ?_
 refine gK rfl (fun mg=>?_) fun mg=>?_
 refine g_ [8] ?_
 refine aa results98 rfl ?_
 exact ⟨by congr 1;simp[nw,nm, *],rfl⟩
 refine g_ [9] ?_
 refine aa results98 rfl ?_
 exact ⟨by congr 1;simp[nw,nm, *],rfl⟩
theorem ahQ (n:Nt) (vk vd:Value) (c:Int) (h1:vk.oneCell'=true) (h2:vd.oneCell'=true) (H:List Ck):Reads prog 99 [.agg (gS n vk vd).toArray,.int .i32 c] H (.agg (gS (wo n c) (sb vk c) (r8 vd c)).toArray):=by
 refine gC.enter func99 rfl ntmps99 rfl ?_
 intro w0 R
 refine gY (iV fun b2=>?_)
 refine iS iP fun b4=>?_
 refine g_ [11,701,3] ?_
 refine gK rfl (fun h6=>?_) fun h6=>?_
 refine g_ [1,101,6,411,311,3] ?_
 refine aB (s:=11) H results99 fa rfl dy gA ((du _ _).trans (du _ _)) ?_
 exact ⟨by simp[wo,sb,r8,gS, *],rfl⟩
 refine g_ [2,701,3] ?_
 refine gK rfl (fun h9=>?_) fun h9=>?_
 refine g_ [1,102,6,411,311,3] ?_
 refine aB (s:=11) H results99 fa rfl dy gA ((du _ _).trans (du _ _)) ?_
 exact ⟨by simp[wo,sb,r8,gS, *],rfl⟩
 refine g_ [2,701,3] ?_
 refine gK rfl (fun nj=>?_) fun nj=>?_
 refine g_ [1,103,6,411,311,3] ?_
 refine aB (s:=11) H results99 fa rfl dy gA ((du _ _).trans (du _ _)) ?_
 exact ⟨by simp[wo,sb,r8,gS, *],rfl⟩
 refine g_ [2,701,3] ?_
 refine gK rfl (fun pt=>?_) fun pt=>?_
 refine g_ [1,104,6,411,311,3] ?_
 refine aB (s:=11) H results99 fa rfl dy gA ((du _ _).trans (du _ _)) ?_
 exact ⟨by simp[wo,sb,r8,gS, *],rfl⟩
 refine g_ [2,701,3] ?_
 refine gK rfl (fun pX=>?_) fun pX=>?_
 refine g_ [1,105,6,411,311,3] ?_
 refine aB (s:=11) H results99 fa rfl dy gA ((du _ _).trans (du _ _)) ?_
 exact ⟨by simp[wo,sb,r8,gS, *],rfl⟩
 refine g_ [2,701,3] ?_
 refine gK rfl (fun nK=>?_) fun nK=>?_
 refine g_ [1,106,6,411,311,3] ?_
 refine aB (s:=11) H results99 fa rfl dy gA ((du _ _).trans (du _ _)) ?_
 exact ⟨by simp[wo,sb,r8,gS, *],rfl⟩
 refine g_ [2,701,3] ?_
 refine gK rfl (fun uE=>?_) fun uE=>?_
 refine g_ [1,107,6,411,311,3] ?_
 refine aB (s:=11) H results99 fa rfl dy gA ((du _ _).trans (du _ _)) ?_
 exact ⟨by simp[wo,sb,r8,gS, *],rfl⟩
 refine g_ [2,701,3] ?_
 refine gK rfl (fun lz=>?_) fun lz=>?_
 refine g_ [1,108,6,411,311,3] ?_
 refine aB (s:=11) H results99 fa rfl dy gA ((du _ _).trans (du _ _)) ?_
 exact ⟨by simp[wo,sb,r8,gS, *],rfl⟩
 refine g_ [2,701,3] ?_
 refine gK rfl (fun sX=>?_) fun sX=>?_
 refine g_ [1,109,6,411,311,3] ?_
 refine aB (s:=11) H results99 fa rfl dy gA ((du _ _).trans (du _ _)) ?_
 exact ⟨by simp[wo,sb,r8,gS, *],rfl⟩
 refine g_ [2,701,3] ?_
 refine gK rfl (fun h33=>?_) fun h33=>?_
 refine g_ [1,110,6,411,311,3] ?_
 refine aB (s:=11) H results99 fa rfl dy gA ((du _ _).trans (du _ _)) ?_
 exact ⟨by simp[wo,sb,r8,gS, *],rfl⟩
 refine g_ [5,411,311,3] ?_
 refine aB (s:=11) H results99 fa rfl dy gA ((du _ _).trans (du _ _)) ?_
 exact ⟨by simp[wo,sb,r8,gS, *],rfl⟩
theorem AB (n:Nt) (vk vd:Value) (hk:mm vk n.key.length) (hd:mm vd n.data.length) (H:List Ck):Reads prog 59 [.agg (gS n vk vd).toArray] H (.int .i64 (if mS n then 50 else 0)):=by
 refine gC.enter func59 rfl ntmps59 rfl ?_
 intro w0 R
 obtain ⟨ko,kc,rfl⟩:=hk
 obtain ⟨eo,ec,rfl⟩:=hd
 refine gY (iV fun b1=>?_)
 refine g_ [5,100,1] ?_
 refine iG call98 rfl (aey n.kind _) (g_ [5,411] ?_)
 refine iS iP fun b4=>?_
 refine g_ [311,6] ?_
 refine WL.h rfl (Hd.Wd fa rfl fun DU=>⟨_,rfl,?_⟩)
 refine g_ [3] ?_
 refine WC.Of (fun z:Nat×Value×Value=>z.1≤(nm n.kind).length∧mm z.2.1 (oG n z.1).key.length∧mm z.2.2 (oG n z.1).data.length) (fun z:Nat×Value×Value=>[]) (fun z:Nat×Value×Value=>row b4 (gS (oG n z.1) z.2.1 z.2.2) 104::⟨DU,.stringIter (nw n.kind) z.1,true⟩::row b1 (gS n (.slice ko n.key.length kc) (.slice eo n.data.length ec)) 104::H) (fun z:Nat×Value×Value=>(nm n.kind).length-z.1) ((0,.slice ko n.key.length kc,.slice eo n.data.length ec)) (⟨dN _,⟨_,_,rfl⟩,⟨_,_,rfl⟩⟩) (gL) (Sp.all fc) ?_
 rintro ⟨i,vk,vd⟩ ⟨hi,qv,sG⟩
 simp only at hi qv sG
 obtain ⟨mo,mc,rfl⟩:=qv
 obtain ⟨oo,oc,rfl⟩:=sG
 refine gY (WL.h rfl (Hd.oD rfl ir (fun gQ=>⟨aeH n.kind i gQ,⟨_,rfl,?_⟩⟩) (fun nC=>⟨_,rfl,?_⟩)))
 rw[Vp _ _ gQ]
 rw[J4] at gQ
 refine g_ [15,411,1] ?_
 refine iG call99 rfl (ahQ (oG n i) (.slice mo _ mc) (.slice oo _ oc) _ rfl rfl _) (WL.s (aH (n:=11) fa rfl rfl gA (aeK (mm.sb (v:=.slice mo (oG n i).key.length mc) (n:=oG n i) ⟨_,_,rfl⟩ _).one (mm.r8 (v:=.slice oo (oG n i).data.length oc) (n:=oG n i) ⟨_,_,rfl⟩ _).one) ir gA ⟨rfl,?_⟩))
 refine g_ [2] ?_
 have en:=afw n i gQ
 have kL:=mm.sb (v:=.slice mo (oG n i).key.length mc) (n:=oG n i) ⟨_,_,rfl⟩ ((nm n.kind).getD i 0:Nat)
 have tU:=mm.r8 (v:=.slice oo (oG n i).data.length oc) (n:=oG n i) ⟨_,_,rfl⟩ ((nm n.kind).getD i 0:Nat)
 rw[←en] at kL tU ⊢
 exact cS ((i+1,_,_)) (⟨by show i+1≤(nm n.kind).length;omega,kL,tU⟩) (show (nm n.kind).length-(i+1)<(nm n.kind).length-i by omega) (gL) (Sp.all fc)
 rw[J4] at nC
 obtain rfl:i=(nm n.kind).length:=by omega
 rw[show oG n (nm n.kind).length=rest n from rfl]
 refine g_ [10] ?_
 refine aI (fun z:Bool=>z=qx (rest n)) (fun z:Bool=>[(7,.bool z)]) (fun z:Bool=>row b4 (gS (rest n) (.slice mo (rest n).key.length mc) (.slice oo (rest n).data.length oc)) 104::⟨DU,.stringIter (nw n.kind) (nm n.kind).length,true⟩::row b1 (gS n (.slice ko n.key.length kc) (.slice eo n.data.length ec)) 104::H) ?_ ?_
 refine g_ [1,101,1,707,1] ?_
 refine ag (t:=24) rfl (fun zn=>?_) (fun zn=>?_)
 refine g_ [47] ?_
 exact ah (_) (by rw[dM];simp only[qx,eP,dz,eW];omega) (Sx.put rfl (gL)) (Sp.all fc)
 refine g_ [102,1,707,2] ?_
 refine ag (t:=29) rfl (fun zo=>?_) (fun zo=>?_)
 refine g_ [42] ?_
 exact ah (_) (by rw[dM];simp only[qx,eP,dz,eW];omega) (Sx.put rfl (gL)) (Sp.all fc)
 refine g_ [103,1,707,2] ?_
 refine ag (t:=34) rfl (fun s8=>?_) (fun s8=>?_)
 refine g_ [37] ?_
 exact ah (_) (by rw[dM];simp only[qx,eP,dz,eW];omega) (Sx.put rfl (gL)) (Sp.all fc)
 refine g_ [104,1,707,2] ?_
 refine ag (t:=39) rfl (fun qp=>?_) (fun qp=>?_)
 refine g_ [32] ?_
 exact ah (_) (by rw[dM];simp only[qx,eP,dz,eW];omega) (Sx.put rfl (gL)) (Sp.all fc)
 refine g_ [105,1,707,2] ?_
 refine ag (t:=44) rfl (fun abD=>?_) (fun abD=>?_)
 refine g_ [27] ?_
 exact ah (_) (by rw[dM];simp only[qx,eP,dz,eW];omega) (Sx.put rfl (gL)) (Sp.all fc)
 refine g_ [106,1,702,2] ?_
 refine ag (t:=49) rfl (fun abE=>?_) (fun abE=>?_)
 refine g_ [22] ?_
 exact ah (_) (by rw[dM];simp only[qx,eP,dz,eW];omega) (Sx.put rfl (gL)) (Sp.all fc)
 refine g_ [107,3] ?_
 refine aG (t:=53) rfl (fun zq=>?_) (fun zq=>?_)
 refine g_ [18] ?_
 exact ah (_) (by rw[dM];simp only[qx,eP,dz,eW];(simp[*];done)) (Sx.put rfl (gL)) (Sp.all fc)
 refine g_ [108,1,702,2] ?_
 refine ag (t:=58) rfl (fun abF=>?_) (fun abF=>?_)
 refine g_ [13] ?_
 exact ah (_) (by rw[dM];simp only[qx,eP,dz,eW];omega) (Sx.put rfl (gL)) (Sp.all fc)
 refine g_ [109,1,710,5,707,2] ?_
 refine ag (t:=64) rfl (fun M8=>?_) (fun M8=>?_)
 refine g_ [7] ?_
 exact ah (_) (by rw[dM];simp only[qx,eP,dz,eW];omega) (Sx.put rfl (gL)) (Sp.all fc)
 refine g_ [110,1,710,5,707,3] ?_
 exact ah (_) (by rw[dM];simp only[qx,eP,dz,eW];(simp[*];omega)) (Sx.put rfl (gL)) (Sp.all fc)
 intro z7 UC
 refine aI (fun z:Bool=>z=qE n) (fun z:Bool=>[(8,.bool z)]) (fun z:Bool=>row b4 (gS (rest n) (.slice mo (rest n).key.length mc) (.slice oo (rest n).data.length oc)) 104::⟨DU,.stringIter (nw n.kind) (nm n.kind).length,true⟩::row b1 (gS n (.slice ko n.key.length kc) (.slice eo n.data.length ec)) 104::H) ?_ ?_
 refine g_ [1,106,1,705,1] ?_
 refine ag (t:=73) rfl (fun qq=>?_) (fun qq=>?_)
 refine g_ [28] ?_
 exact ah (_) (by rw[dM];simp only[qE,eP,dz,eW];omega) (Sx.put rfl (gL)) (Sp.all fc)
 refine g_ [106,1,708,2] ?_
 refine ag (t:=78) rfl (fun abI=>?_) (fun abI=>?_)
 refine g_ [23] ?_
 exact ah (_) (by rw[dM];simp only[qE,eP,dz,eW];omega) (Sx.put rfl (gL)) (Sp.all fc)
 refine g_ [108,1,705,2] ?_
 refine ag (t:=83) rfl (fun abJ=>?_) (fun abJ=>?_)
 refine g_ [18] ?_
 exact ah (_) (by rw[dM];simp only[qE,eP,dz,eW];omega) (Sx.put rfl (gL)) (Sp.all fc)
 refine g_ [108,1,707,2] ?_
 refine ag (t:=88) rfl (fun abL=>?_) (fun abL=>?_)
 refine g_ [13] ?_
 exact ah (_) (by rw[dM];simp only[qE,eP,dz,eW];omega) (Sx.put rfl (gL)) (Sp.all fc)
 refine g_ [109,1,710,5,707,2] ?_
 refine ag (t:=94) rfl (fun abM=>?_) (fun abM=>?_)
 refine g_ [7] ?_
 exact ah (_) (by rw[dM];simp only[qE,eP,dz,eW];omega) (Sx.put rfl (gL)) (Sp.all fc)
 refine g_ [110,1,710,5,707,3] ?_
 exact ah (_) (by rw[dM];simp only[qE,eP,dz,eW];omega) (Sx.put rfl (gL)) (Sp.all fc)
 intro z8 UD
 refine g_ [4] ?_
 refine ae rfl (bN rfl rfl) (g_ [1] ?_)
 refine ag (t:=102) rfl (fun MX=>?_) (fun MX=>?_)
 refine g_ [31] ?_
 refine gH H ?_
 refine aa results59 rfl ?_
 rotate_left
 refine g_ [3] ?_
 refine aG (t:=105) rfl (fun MY=>?_) (fun MY=>?_)
 refine g_ [28] ?_
 refine gH H ?_
 refine aa results59 rfl ?_
 rotate_left
 refine g_ [3] ?_
 refine aG (t:=108) rfl (fun GH=>?_) (fun GH=>?_)
 refine g_ [25] ?_
 refine gH H ?_
 refine aa results59 rfl ?_
 rotate_left
 refine g_ [100,1,708,1] ?_
 refine ag (t:=112) rfl (fun Ty=>?_) (fun Ty=>?_)
 refine g_ [100,1,706,2] ?_
 refine ag (t:=117) rfl (fun TF=>?_) (fun TF=>?_)
 refine g_ [109,1,710,5,701,4] ?_
 refine gK rfl (fun SM=>?_) fun SM=>?_
 refine g_ [7] ?_
 refine gH H ?_
 refine aa results59 rfl ?_
 rotate_left
 refine g_ [8] ?_
 refine gH H ?_
 refine aa results59 rfl ?_
 rotate_left
 refine g_ [17] ?_
 refine gH H ?_
 refine aa results59 rfl ?_
 rotate_left
 refine g_ [22] ?_
 refine gH H ?_
 refine aa results59 rfl ?_
 rotate_left
 all_goals
  first
    | (have e:mS n=true:=by
        simp only[mS,eP,eu,dz,←UC,←UD,←Vq]
        first|exact .inl MX|exact .inr (.inl MY)|exact .inr (.inr (.inl GH))|exact .inr (.inr (.inr ⟨Ty,TF,SM⟩))
       exact ⟨by rw[e];rfl,rfl⟩)
    | (have e:mS n=false:=by
        rw[gx]
        intro h
        simp only[mS,eP,eu,dz,←UC,←UD,←Vq] at h
        rcases h with h|h|h|⟨h1,h2,h3⟩
        · exact MX h
        · rw[MY] at h;cases h
        · rw[GH] at h;cases h
        omega
       exact ⟨by rw[e];rfl,rfl⟩)
end Go.Proofs.YtchdmlkiggdhaaaGreat
namespace Go.Proofs.YtchdmlkiggdhaaaGreat
open Go.SL Top Go.Proofs.Tryz
attribute [local irreducible] WL WC DN gZ iX
theorem af0 (mode:Int) (safe iU:BitVec 64) (H:List Ck):Reads prog 123 [.int .i64 mode,.int .u64 safe.toNat,.int .u64 iU.toNat] H (.int .u64 (yS mode safe iU).toNat):=by
 refine gC.enter func123 rfl ntmps123 rfl ?_
 intro w0 R
 refine gY (ae rfl (Yd.assign (v:=.int .u64 ((0#64).toNat:Int)) rfl) (g_ [11,701,3] ?_))
 refine gK rfl (fun h8=>?_) fun h8=>?_
 refine g_ [9] ?_
 refine gH H ?_
 refine aa results123 rfl (⟨?_,rfl⟩)
 unfold yS
 rw[dx h8]
 refine g_ [2,701,3] ?_
 refine gK rfl (fun oN=>?_) fun oN=>?_
 refine g_ [4] ?_
 refine ae rfl (cg rfl rfl) (af (t:=15) (v:=.int .u64 ((n4 safe iU).toNat:Int)) rfl (congrArg (Value.int .u64) (J1 _ _)) (g_ [6] ?_))
 refine gH H ?_
 refine aa results123 rfl (⟨?_,rfl⟩)
 unfold yS
 rw[dp h8,dx oN]
 refine g_ [5] ?_
 refine ae rfl (Yd.assign (v:=.int .u64 ((0#64).toNat:Int)) rfl) (g_ [3] ?_)
 refine gH H ?_
 refine aa results123 rfl (⟨?_,rfl⟩)
 unfold yS
 rw[dp h8,dp oN]<;>rfl
theorem WN (next:BitVec 64) (n:Nt) (vk vd:Value) (h1:vk.oneCell'=true) (h2:vd.oneCell'=true) (hn:n.gF.toNat<18446744073709551615) (H:List Ck):Reads prog 88 [.int .u64 next.toNat,.agg (gS n vk vd).toArray] H (.int .u64 (oD next n).toNat):=by
 refine gC.enter func88 rfl ntmps88 rfl ?_
 intro w0 R
 refine gY (iV fun b3=>?_)
 refine ae rfl (Yd.assign (v:=.int .u64 ((0#64).toNat:Int)) rfl) (g_ [4,103,8,705,2009,5] ?_)
 refine ae rfl (aY _ (1#64) rfl rfl rfl rfl) (g_ [6,100,6,701,3] ?_)
 refine gK rfl (fun ql=>?_) fun ql=>?_
 refine g_ [4] ?_
 refine ae rfl (cF rfl rfl) (af (t:=18) (v:=.int .u64 ((mL next (n.gF+1#64)).toNat:Int)) rfl (congrArg (Value.int .u64) (J0 _ _)) (g_ [6] ?_))
 refine gH H ?_
 refine aa results88 rfl (⟨?_,rfl⟩)
 unfold oD
 rw[dx ql]
 refine g_ [2,701,3] ?_
 refine gK rfl (fun mT=>?_) fun mT=>?_
 refine g_ [4] ?_
 refine ae rfl (cg rfl rfl) (af (t:=23) (v:=.int .u64 ((n4 next (n.gF+1#64)).toNat:Int)) rfl (congrArg (Value.int .u64) (J1 _ _)) (g_ [6] ?_))
 refine gH H ?_
 refine aa results88 rfl (⟨?_,rfl⟩)
 unfold oD
 rw[dp ql,dx mT]
 refine g_ [10] ?_
 refine gH H ?_
 refine aa results88 rfl (⟨?_,rfl⟩)
 unfold oD
 rw[dp ql,dp mT]
theorem tu (v:Value) (l:List En) (hl:l.length≤1000) (H:List Ck) (hv:EV v l H):Reads prog 144 [v] H (.int .u64 (vO l).toNat):=by
 refine gC.enter func144 rfl ntmps144 rfl ?_
 intro w0 R
 obtain ⟨ao,ac,rfl,_⟩:=hv.form
 refine gY (ae rfl (Yd.assign (v:=.int .u64 ((0#64).toNat:Int)) rfl) (g_ [6,710,77,701,2] ?_))
 refine gK rfl (fun h5=>?_) fun h5=>?_
 refine gY (ae rfl (Yd.assign (v:=.int .u64 ((1#64).toNat:Int)) rfl) (g_ [4] ?_))
 refine gH H ?_
 refine aa results144 rfl ?_
 obtain rfl:l=[]:=dU gz
 exact ⟨rfl,rfl⟩
 have qH:0<l.length:=by omega
 obtain ⟨b0,o0,nU,kK,T0,nB,nA,ie,l8,hU,c0,⟨vk,vd,rfl,_,_⟩,j6⟩:=hv.cell qH gB
 simp only[dI,eD] at ie
 obtain ⟨rfl,rfl⟩:=ie
 refine g_ [5,711,77,11,101] ?_
 refine WL.h rfl (ak fa rfl hU (j6 1 gB) ⟨_,rfl,?_⟩)
 refine g_ [4] ?_
 refine gH H ?_
 refine aa results144 rfl (⟨?_,rfl⟩)
 unfold vO
 rw[List.head?_eq_getElem?,dK qH]
theorem HH (v:Value) (l:List En) (hl:l.length≤1000) (H:List Ck) (hv:EV v l H):Reads prog 145 [v] H (.int .u64 (zM l).toNat):=by
 refine gC.enter func145 rfl ntmps145 rfl ?_
 intro w0 R
 obtain ⟨ao,ac,rfl,_⟩:=hv.form
 refine gY (ae rfl (Yd.assign (v:=.int .u64 ((0#64).toNat:Int)) rfl) (g_ [6,710,77,701,2] ?_))
 refine gK rfl (fun h5=>?_) fun h5=>?_
 refine gY (ae rfl (Yd.assign (v:=.int .u64 ((0#64).toNat:Int)) rfl) (g_ [4] ?_))
 refine gH H ?_
 refine aa results145 rfl ?_
 obtain rfl:l=[]:=dU gz
 exact ⟨rfl,rfl⟩
 have qH:l.length-1<l.length:=by omega
 obtain ⟨b0,o0,nU,kK,T0,nB,nA,ie,l8,hU,c0,⟨vk,vd,rfl,_,_⟩,j6⟩:=hv.cell qH gB
 simp only[dI,eD] at ie
 obtain ⟨rfl,rfl⟩:=ie
 refine g_ [6,710,77,704] ?_
 refine af (t:=9) (v:=.int .i64 ((l.length-1:Nat):Int)) rfl (congrArg (Value.int .i64) gz) ?_
 refine g_ [711,77,11,101] ?_
 refine WL.h rfl (ak fa rfl hU (j6 1 gB) ⟨_,rfl,?_⟩)
 refine g_ [4] ?_
 refine gH H ?_
 refine aa results145 rfl (⟨?_,rfl⟩)
 unfold zM
 rw[fE,dK qH]
theorem Kj (v:Value) (l:List En) (hl:l.length≤1000) (n:BitVec 64) (hf:vO l=1#64) (hn:n.toNat≤l.length) (H:List Ck) (hv:EV v l H):Reads prog 146 [v,.int .u64 n.toNat] H (.int .u32 (ke l n.toNat).toNat):=by
 refine gC.enter func146 rfl ntmps146 rfl ?_
 intro w0 R
 obtain ⟨ao,ac,rfl,_⟩:=hv.form
 refine gY (ae rfl (Yd.assign (v:=.int .u32 ((0#32).toNat:Int)) rfl) (g_ [6] ?_))
 refine ae rfl (cc _ (0#64) rfl rfl rfl rfl) (qb (gK rfl (fun h6=>?_) fun h6=>?_))
 refine gY (ae rfl (Yd.assign (v:=.int .u32 ((0#32).toNat:Int)) rfl) (g_ [4] ?_))
 refine gH H ?_
 refine aa results146 rfl ?_
 subst h6
 exact ⟨rfl,rfl⟩
 have h0:n.toNat≠0:=fun e=>h6 (dB e)
 have IB:(n-1#64).toNat=n.toNat-1:=fx (by rw[gq];show 1≤_;omega)
 have qH:n.toNat-1<l.length:=by omega
 obtain ⟨b0,o0,nU,kK,T0,nB,nA,ie,l8,hU,c0,⟨vk,vd,rfl,_,_⟩,j6⟩:=hv.cell qH gB
 simp only[dI,eD] at ie
 obtain ⟨rfl,rfl⟩:=ie
 refine g_ [7] ?_
 refine jv call144 rfl (tu _ l hl _ hv) ?_
 refine af (t:=10) (v:=.int .u64 ((1#64).toNat:Int)) rfl (by rw[hf]) ?_
 refine ae rfl (aL _ _ rfl rfl rfl rfl) (af (t:=11) (v:=.int .u64 ((n.toNat-1:Nat):Int)) rfl (by rw[IB]) ?_)
 refine g_ [711,77,11,102] ?_
 refine WL.h rfl (ak fa rfl hU (j6 2 gB) ⟨_,rfl,?_⟩)
 refine g_ [4] ?_
 refine gH H ?_
 refine aa results146 rfl (⟨?_,rfl⟩)
 unfold ke
 rw[dp h0,dK qH]
 rfl
theorem Du (br:Nat) (u:Value) (x:BitVec 8) (b:List (BitVec 8)) (C:List Ck) (hu:Bs u (x::b) C) (hl:(x::b).length≤1000000):gC prog 156 [.pointer (some ⟨br,0,none⟩)] (row br [u,.bool false] 365::C) fun r gr=>∃jn,r=.int .u8 x.toNat∧Bs jn b C∧gr=row br [jn,.bool false] 365::C:=
  (Wc br u _ false C hu hl).mono fun v gr ⟨jn,h1,h2,h3⟩=>by
    obtain ⟨e1,e2⟩:=jQ.ahz x b
    exact ⟨jn,h1.trans (congrArg (fun q:BitVec 8=>Value.int .u8 q.toNat) e1),Eq.mp (congrArg (fun q=>Bs jn q C) (congrArg jQ.bs e2)) h2,h3.trans (congrArg (fun q=>row br [jn,.bool q] 365::C) (congrArg jQ.sh e2))⟩
theorem HA (br:Nat) (u:Value) (x:BitVec 32) (b:List (BitVec 8)) (C:List Ck) (hu:Bs u (iu (x.setWidth 64) 4++b) C) (hl:(iu (x.setWidth 64) 4++b).length≤1000000):gC prog 157 [.pointer (some ⟨br,0,none⟩)] (row br [u,.bool false] 365::C) fun r gr=>∃jn,r=.int .u32 x.toNat∧Bs jn b C∧gr=row br [jn,.bool false] 365::C:=
  (OV br u _ false C hu hl).mono fun v gr ⟨jn,h1,h2,h3⟩=>by
    obtain ⟨e1,e2⟩:=jQ.ahw x b
    exact ⟨jn,h1.trans (congrArg (fun q:BitVec 32=>Value.int .u32 q.toNat) e1),Eq.mp (congrArg (fun q=>Bs jn q C) (congrArg jQ.bs e2)) h2,h3.trans (congrArg (fun q=>row br [jn,.bool q] 365::C) (congrArg jQ.sh e2))⟩
theorem Wb (br:Nat) (u:Value) (x:BitVec 64) (b:List (BitVec 8)) (C:List Ck) (hu:Bs u (iu x 8++b) C) (hl:(iu x 8++b).length≤1000000):gC prog 158 [.pointer (some ⟨br,0,none⟩)] (row br [u,.bool false] 365::C) fun r gr=>∃jn,r=.int .u64 x.toNat∧Bs jn b C∧gr=row br [jn,.bool false] 365::C:=
  (afp br u _ false C hu hl).mono fun v gr ⟨jn,h1,h2,h3⟩=>by
    obtain ⟨e1,e2⟩:=jQ.ahy x b
    exact ⟨jn,h1.trans (congrArg (fun q:BitVec 64=>Value.int .u64 q.toNat) e1),Eq.mp (congrArg (fun q=>Bs jn q C) (congrArg jQ.bs e2)) h2,h3.trans (congrArg (fun q=>row br [jn,.bool q] 365::C) (congrArg jQ.sh e2))⟩
theorem V7 (br:Nat) (u:Value) (s:List (BitVec 8)) (hs:s.length≤255) (b:List (BitVec 8)) (C:List Ck) (hu:Bs u (tb s++b) C) (hl:(tb s++b).length≤1000000):gC prog 187 [.pointer (some ⟨br,0,none⟩)] (row br [u,.bool false] 365::C) fun r gr=>∃jn A,Ob 5 r s A∧Bs jn b C∧gr=A++(row br [jn,.bool false] 365::C):=
  (V8 br u _ false C hu hl).mono fun v gr ⟨jn,A,h1,h2,h3⟩=>by
    obtain ⟨e1,e2⟩:=jQ.ahd hs b
    exact ⟨jn,A,by rw[←e1];exact h1,Eq.mp (congrArg (fun q=>Bs jn q C) (congrArg jQ.bs e2)) h2,h3.trans (congrArg (fun q=>A++(row br [jn,.bool q] 365::C)) (congrArg jQ.sh e2))⟩
theorem D3 (e:En) (he:iZ e) (vk vd:Value) (H:List Ck) (hk:Bs vk e.key H) (hd:Bs vd e.data H):gC prog 108 [.agg (enc e vk vd).toArray] H fun r gr=>∃x A,r=.tuple #[x,.int .i64 0]∧Ob 5 x (iB e) A∧gr=A++H:=by
 refine gC.enter func108 rfl ntmps108 rfl ?_
 intro w0 R
 have hs:=SL.iZ.qP he
 obtain ⟨ko,kc,rfl,_⟩:=hk.form
 obtain ⟨vo,vc,rfl,_⟩:=hd.form
 refine gY (iV fun b1=>?_)
 refine g_ [7] ?_
 refine WL.h rfl (aF (n:=11) (cs:=(enc e (.slice ko e.key.length kc) (.slice vo e.data.length vc))) fa rfl gO rfl ⟨_,rfl,?_⟩)
 refine iG call106 rfl (BS e _ _ he ⟨_,_,rfl⟩ ⟨_,_,rfl⟩ _) (g_ [6,702,1009,6,512] ?_)
 refine w_ [1000,1,2] ?_
 refine gW 3 [2] rfl (bT (b8 e.kind) fa fa rfl rfl) fa ?_
 refine w_ [1001,5,6,1002,8,9] ?_
 refine gD 0 ?_
 refine iI rfl call174 rfl (E0) ?_
 rintro x0 H0 ⟨bw,rfl,rfl⟩
 refine iO [0,0,0] ?_
 refine gD 4 ?_
 refine iI rfl call175 rfl (wC bw (.slice none 0 0) [] [] (b8 e.kind) (Ob.nil _) (by simp)) ?_
 rintro x1 H1 ⟨rfl,v1,C1,oS,rfl⟩
 refine iO [0,0,0] ?_
 refine gD 7 ?_
 refine iI rfl call176 rfl (Xm bw v1 ([]++[b8 e.kind]) C1 e.gF oS (by simp only[dr,dF,dR,ju,tb];omega)) ?_
 rintro x2 H2 ⟨rfl,v2,C2,pC,rfl⟩
 refine iO [0,0] ?_
 refine gD 10 ?_
 refine iI rfl call177 rfl (BC bw v2 (([]++[b8 e.kind])++iu e.gF 8) C2 e.ep pC (by simp only[dr,dF,dR,ju,tb];omega)) ?_
 rintro x3 H3 ⟨rfl,v3,C3,xb,rfl⟩
 refine iO [0] ?_
 refine w_ [11] ?_
 refine gM ?_
 refine g_ [1] ?_
 refine aI (fun z:Value×List Ck=>Ob 5 z.1 (iB e) z.2) (fun z:Value×List Ck=>[(5,.pointer (some ⟨bw,0,none⟩))]) (fun z:Value×List Ck=>row bw [z.1,.bool false] 372::(z.2++H)) ?_ ?_
 refine g_ [2,100,6,701,3] ?_
 refine gK rfl (fun uE=>?_) fun uE=>?_
 have ma:=hs.k2 uE
 refine g_ [510] ?_
 refine w_ [0,1003,1,2,1009,4,5,1010,7,8] ?_
 refine gD 3 ?_
 refine iI rfl call177 rfl (BC bw v3 ((([]++[b8 e.kind])++iu e.gF 8)++iu (e.ep.setWidth 64) 4) C3 (e.order) xb (by simp only[dr,dF,dR,ju,tb];omega)) ?_
 rintro x4 H4 ⟨rfl,v4,C4,vV,rfl⟩
 refine iO [0,0] ?_
 refine gD 6 ?_
 refine iI rfl call178 rfl (KC bw v4 (((([]++[b8 e.kind])++iu e.gF 8)++iu (e.ep.setWidth 64) 4)++iu (e.order.setWidth 64) 4) C4 H (.slice ko e.key.length kc) e.key hk gz vV (by simp only[dr,dF,dR,ju,tb];omega)) ?_
 rintro x5 H5 ⟨rfl,v5,C5,vW,rfl⟩
 refine iO [0] ?_
 refine gD 9 ?_
 refine iI rfl call178 rfl (KC bw v5 ((((([]++[b8 e.kind])++iu e.gF 8)++iu (e.ep.setWidth 64) 4)++iu (e.order.setWidth 64) 4)++tb e.key) C5 H (.slice vo e.data.length vc) e.data hd gz vW (by simp only[dr,dF,dR,ju,tb];omega)) ?_
 rintro x6 H6 ⟨rfl,v6,C6,xd,rfl⟩
 refine gG ?_
 refine gM ?_
 refine g_ [1] ?_
 exact aV ((v6,C6)) (by rw[RO uE];exact xd) (Sx.put rfl (gL)) fc
 refine g_ [2,701,3] ?_
 refine gK rfl (fun sv=>?_) fun sv=>?_
 refine g_ [516] ?_
 refine w_ [0,1003,1,2,1004,4,5] ?_
 refine gW 6 [5] rfl (bT _ fa fa rfl rfl) fa ?_
 refine w_ [1005,8,9,1006,12,13] ?_
 refine gW 14 [13] rfl (bT _ fa fa rfl rfl) fa ?_
 refine gD 3 ?_
 refine iI rfl call177 rfl (BC bw v3 ((([]++[b8 e.kind])++iu e.gF 8)++iu (e.ep.setWidth 64) 4) C3 (e.order) xb (by simp only[dr,dF,dR,ju,tb];omega)) ?_
 rintro x4 H4 ⟨rfl,v4,C4,vV,rfl⟩
 refine iO [0,0,0] ?_
 refine gD 7 ?_
 refine iI rfl call175 rfl (wC bw v4 (((([]++[b8 e.kind])++iu e.gF 8)++iu (e.ep.setWidth 64) 4)++iu (e.order.setWidth 64) 4) C4 (b8 e.step) vV (by simp only[dr,dF,dR,ju,tb];omega)) ?_
 rintro x5 H5 ⟨rfl,v5,C5,vW,rfl⟩
 refine iO [0,0,0] ?_
 refine jy 10 [9] rfl call179 rfl (RI _ _) ax ?_
 refine gD 11 ?_
 refine iI rfl call175 rfl (wC bw v5 ((((([]++[b8 e.kind])++iu e.gF 8)++iu (e.ep.setWidth 64) 4)++iu (e.order.setWidth 64) 4)++[b8 e.step]) C5 (qW e.iy) vW (by simp only[dr,dF,dR,ju,tb];omega)) ?_
 rintro x6 H6 ⟨rfl,v6,C6,xd,rfl⟩
 refine iO [0,0,0] ?_
 refine gD 15 ?_
 refine iI rfl call175 rfl (wC bw v6 (((((([]++[b8 e.kind])++iu e.gF 8)++iu (e.ep.setWidth 64) 4)++iu (e.order.setWidth 64) 4)++[b8 e.step])++[qW e.iy]) C6 (b8 e.tr) xd (by simp only[dr,dF,dR,ju,tb];omega)) ?_
 rintro x7 H7 ⟨rfl,v7,C7,zx,rfl⟩
 refine iO [0,0,0] ?_
 refine gM ?_
 refine g_ [1] ?_
 exact aV ((v7,C7)) (by rw[RP sv];exact zx) (Sx.put rfl (gL)) fc
 refine g_ [2,701,3] ?_
 refine gK rfl (fun Ei=>?_) fun Ei=>?_
 refine g_ [520] ?_
 refine w_ [0,1003,1,2,1004,4,5] ?_
 refine gW 6 [5] rfl (bT _ fa fa rfl rfl) fa ?_
 refine w_ [1005,8,9,1006,12,13] ?_
 refine gW 14 [13] rfl (bT _ fa fa rfl rfl) fa ?_
 refine w_ [1007,16,17] ?_
 refine gW 18 [17] rfl (bT _ fa fa rfl rfl) fa ?_
 refine gD 3 ?_
 refine iI rfl call177 rfl (BC bw v3 ((([]++[b8 e.kind])++iu e.gF 8)++iu (e.ep.setWidth 64) 4) C3 (e.order) xb (by simp only[dr,dF,dR,ju,tb];omega)) ?_
 rintro x4 H4 ⟨rfl,v4,C4,vV,rfl⟩
 refine iO [0,0,0,0] ?_
 refine gD 7 ?_
 refine iI rfl call175 rfl (wC bw v4 (((([]++[b8 e.kind])++iu e.gF 8)++iu (e.ep.setWidth 64) 4)++iu (e.order.setWidth 64) 4) C4 (b8 e.step) vV (by simp only[dr,dF,dR,ju,tb];omega)) ?_
 rintro x5 H5 ⟨rfl,v5,C5,vW,rfl⟩
 refine iO [0,0,0,0] ?_
 refine jy 10 [9] rfl call179 rfl (RI _ _) ax ?_
 refine gD 11 ?_
 refine iI rfl call175 rfl (wC bw v5 ((((([]++[b8 e.kind])++iu e.gF 8)++iu (e.ep.setWidth 64) 4)++iu (e.order.setWidth 64) 4)++[b8 e.step]) C5 (qW e.iy) vW (by simp only[dr,dF,dR,ju,tb];omega)) ?_
 rintro x6 H6 ⟨rfl,v6,C6,xd,rfl⟩
 refine iO [0,0,0,0] ?_
 refine gD 15 ?_
 refine iI rfl call175 rfl (wC bw v6 (((((([]++[b8 e.kind])++iu e.gF 8)++iu (e.ep.setWidth 64) 4)++iu (e.order.setWidth 64) 4)++[b8 e.step])++[qW e.iy]) C6 (b8 e.tr) xd (by simp only[dr,dF,dR,ju,tb];omega)) ?_
 rintro x7 H7 ⟨rfl,v7,C7,zx,rfl⟩
 refine iO [0,0,0,0] ?_
 refine gD 19 ?_
 refine iI rfl call175 rfl (wC bw v7 ((((((([]++[b8 e.kind])++iu e.gF 8)++iu (e.ep.setWidth 64) 4)++iu (e.order.setWidth 64) 4)++[b8 e.step])++[qW e.iy])++[b8 e.tr]) C7 (b8 e.code) zx (by simp only[dr,dF,dR,ju,tb];omega)) ?_
 rintro x8 H8 ⟨rfl,v8,C8,ho8,rfl⟩
 refine iO [0,0,0,0] ?_
 refine gM ?_
 refine g_ [1] ?_
 exact aV ((v8,C8)) (by rw[RR Ei];exact ho8) (Sx.put rfl (gL)) fc
 refine g_ [2,701,3] ?_
 refine gK rfl (fun B4=>?_) fun B4=>?_
 refine g_ [508] ?_
 refine w_ [0,1003,1,2,1007,4,5] ?_
 refine gW 6 [5] rfl (bT _ fa fa rfl rfl) fa ?_
 refine gD 3 ?_
 refine iI rfl call177 rfl (BC bw v3 ((([]++[b8 e.kind])++iu e.gF 8)++iu (e.ep.setWidth 64) 4) C3 (e.order) xb (by simp only[dr,dF,dR,ju,tb];omega)) ?_
 rintro x4 H4 ⟨rfl,v4,C4,vV,rfl⟩
 refine iO [0] ?_
 refine gD 7 ?_
 refine iI rfl call175 rfl (wC bw v4 (((([]++[b8 e.kind])++iu e.gF 8)++iu (e.ep.setWidth 64) 4)++iu (e.order.setWidth 64) 4) C4 (b8 e.code) vV (by simp only[dr,dF,dR,ju,tb];omega)) ?_
 rintro x5 H5 ⟨rfl,v5,C5,vW,rfl⟩
 refine iO [0] ?_
 refine gM ?_
 refine g_ [1] ?_
 exact aV ((v5,C5)) (by rw[RS B4];exact vW) (Sx.put rfl (gL)) fc
 refine g_ [2,701] ?_
 refine j8 87 rfl (by have:=hs.kind;omega) ?_
 refine g_ [6,701] ?_
 refine j8 94 rfl (by have:=hs.kind;omega) ?_
 refine g_ [6] ?_
 exact aV ((v3,C3)) (by rw[RN (by have:=hs.kind;omega)];exact xb) (Sx.put rfl (gL)) fc
 rintro ⟨v9,C9⟩ Jr
 dsimp only at Jr ⊢
 have nq:=(BU he).2
 refine g_ [3] ?_
 refine c_ call180 rfl (Fu bw v9 (iB e) C9 Jr gz) ?_
 rintro x9 H9 ⟨vz,Cz,rfl,hoz,S0⟩
 rw[S0]
 clear S0 H9
 refine g_ [7] ?_
 refine gH (Cz++H) ?_
 exact ay results108 rfl rfl (⟨vz,Cz,rfl,hoz,rfl⟩)
theorem Lx (e:En) (he:iZ e) (v:Value) (H:List Ck) (hv:Bs v (iB e) H):gC prog 115 [v] H fun r gr=>∃vk vd A,r=.tuple #[.agg (enc e vk vd).toArray,.int .i64 0]∧Bs vk e.key A∧Bs vd e.data A∧gr=A++H:=by
 refine gC.enter func115 rfl ntmps115 rfl ?_
 intro w0 R
 have sH:(yy e).length≤1:=by unfold yy;split<;>simp
 have hs:=SL.iZ.qP he
 have Ni:=hs.kind
 have Ez:=hs.k4
 have tQ:=hs.k5
 have TW:=hs.k3
 have nq:=(BU he).2
 have Jz:(qe e).length≤255:=by unfold iB at nq;simp only[dF,dr] at nq;omega
 refine gY (iS lh fun b2=>?_)
 refine g_ [6] ?_
 refine c_ call155 rfl (J3 _ (iB e) H hv gz) ?_
 rintro x0 H0 ⟨br,u0,CR,rfl,G9,rfl⟩
 refine g_ [6] ?_
 refine c_ call156 rfl (Du br u0 (b8 e.kind) (iu e.gF 8++(iu (e.ep.setWidth 64) 4++qe e)) CR G9 (by simp only[dr,dF,dR,ju,tb];omega)) ?_
 rintro x1 H1 ⟨u1,rfl,Ha,rfl⟩
 refine ae rfl (cj _ fa fa rfl rfl) ?_
 refine af (t:=11) (v:=.int .i64 e.kind) rfl (congrArg (Value.int .i64) (BP gz gz)) ?_
 refine g_ [1] ?_
 refine c_ call158 rfl (Wb br u1 e.gF (iu (e.ep.setWidth 64) 4++qe e) CR Ha (by simp only[dr,dF,dR,ju,tb];omega)) ?_
 rintro x2 H2 ⟨u2,rfl,nv,rfl⟩
 refine ae rfl (aj (pl:=kz) (zs:=lh) (parts:=[(0,.tmp 11),(1,.tmp 13)]) (vs:=[(0,_),(1,_)]) (cells:=[_,_,.int .u32 0,.int .u32 0,.int .i64 0,.bool false,.int .i64 0,.int .i64 0,.int .u64 0,.slice none 0 0,.slice none 0 0]) fa fa rfl rfl) ?_
 refine iS lh fun b5=>?_
 refine g_ [311,5] ?_
 refine c_ call157 rfl (HA br u2 e.ep (qe e) CR nv (by simp only[dr,dF,dR,ju,tb];omega)) ?_
 rintro x3 H3 ⟨u3,rfl,vY,rfl⟩
 refine g_ [102,5] ?_
 refine ae rfl (Yd.assign (v:=.int .u8 ((0#8).toNat:Int)) rfl) (g_ [5,100,6,701,3] ?_)
 refine gK rfl (fun pw=>?_) fun pw=>?_
 have ma:=hs.k2 pw
 rw[show qe e=iu (e.order.setWidth 64) 4++(tb e.key++tb e.data) by unfold qe;rw[dx pw]] at vY
 refine g_ [3] ?_
 refine c_ call157 rfl (HA br u3 e.order (tb e.key++tb e.data) CR vY (by simp only[dr,dF,dR,ju,tb];omega)) ?_
 rintro x4 H4 ⟨u4,rfl,Hb,rfl⟩
 refine g_ [103,6] ?_
 refine c_ call187 rfl (V7 br u4 e.key gz (tb e.data) CR Hb (by simp only[dr,dF,dR,ju,tb];omega)) ?_
 rintro x5 H5 ⟨u5,A5,B7,Hc,rfl⟩
 rw[←eF (tb e.data)] at Hc
 obtain ⟨o5,c5,rfl,_⟩:=B7.form
 refine g_ [109,5] ?_
 refine c_ call187 rfl (V7 br u5 e.data gz [] CR Hc (by simp only[dr,dF,dR,ju,tb];omega)) ?_
 rintro x6 H6 ⟨u6,A6,SS,Uu,rfl⟩
 obtain ⟨o6,c6,rfl,_⟩:=SS.form
 refine g_ [110,8] ?_
 refine jv call159 rfl (Bu br _ [] false CR ‹Bs _ [] CR›) ?_
 refine g_ [702,1079,2,707] ?_
 refine j8 82 rfl gB ?_
 refine g_ [2] ?_
 refine aS (dj:=84) rfl rfl rfl (aF (n:=11) fa rfl gO gA ⟨_,rfl,?_⟩)
 refine af (t:=85) (v:=.agg (enc e _ _).toArray) rfl (congrArg (fun q=>Value.agg (List.toArray q)) (xS rfl rfl rfl gA (by exact (hs.s2 gz gz).1.symm) (by exact (hs.s2 gz gz).2.1.symm) (by exact (hs.s2 gz gz).2.2.symm) (by exact (hs.s3 gz gz).symm) (by rw[hs.s4];rfl))) ?_
 refine bq (dj:=84) rfl rfl rfl (iE.func call106 rfl) (BS e _ _ he (by exact ⟨_,_,rfl⟩) (by exact ⟨_,_,rfl⟩) _) ?_
 refine g_ [702,1087,8,411] ?_
 refine af (t:=90) (v:=.agg (enc e _ _).toArray) rfl (congrArg (fun q=>Value.agg (List.toArray q)) (xS rfl rfl rfl gA (by exact (hs.s2 gz gz).1.symm) (by exact (hs.s2 gz gz).2.1.symm) (by exact (hs.s2 gz gz).2.2.symm) (by exact (hs.s3 gz gz).symm) (by rw[hs.s4];rfl))) ?_
 refine g_ [311,4] ?_
 refine au (s:=11) (A6++(A5++H)) results115 fa rfl rfl gO gA fc ?_
 exact ⟨_,_,A6++A5,rfl,B7.bs.mono fun c hc=>dq _ hc,SS.bs.mono fun c hc=>dw _ hc,by rw[dD]⟩
 refine aI (fun z:Bool=>z=decide (e.kind=3∨e.kind=4)) (fun z:Bool=>[(31,.bool z)]) (fun z:Bool=>row b5 [.int .i64 e.kind,.int .u64 e.gF.toNat,.int .u32 e.ep.toNat,.int .u32 0,.int .i64 0,.bool false,.int .i64 0,.int .i64 0,.int .u64 0,.slice none 0 0,.slice none 0 0] 77::(row br [u3,.bool false] 365::(CR++(row b2 [.int .i64 0,.int .u64 0,.int .u32 0,.int .u32 0,.int .i64 0,.bool false,.int .i64 0,.int .i64 0,.int .u64 0,.slice none 0 0,.slice none 0 0] 77::H)))) ?_ ?_
 refine g_ [2,701,3] ?_
 refine WC.cond rfl (fun mU=>?_) (fun mU=>?_)
 try (replace hz:e.kind=3∨e.kind=4:=eR (hz.symm.trans mU);rw[Wi hz] at vY)
 refine g_ [1] ?_
 exact ah (_) (by simp at mU;simp[mU]) (Sx.put rfl (gL)) (Sp.all fc)
 try (replace hz:¬(e.kind=3∨e.kind=4):=fV (hz.symm.trans mU))
 refine g_ [1,701,2] ?_
 exact ah (_) (by simp at mU;simp[mU]) (Sx.put rfl (gL)) (Sp.all fc)
 intro z hz
 refine WC.cond rfl (fun mU=>?_) (fun mU=>?_)
 try (replace hz:e.kind=3∨e.kind=4:=eR (hz.symm.trans mU);rw[Wi hz] at vY)
 refine g_ [3] ?_
 refine c_ call157 rfl (HA br u3 e.order (b8 e.step::(qW e.iy::(b8 e.tr::yy e))) CR vY (by simp only[dr,dF,dR,ju,tb];omega)) ?_
 rintro x4 H4 ⟨u4,rfl,Hb,rfl⟩
 refine g_ [103,6] ?_
 refine c_ call156 rfl (Du br u4 (b8 e.step) (qW e.iy::(b8 e.tr::yy e)) CR Hb (by simp only[dr,dF,dR,ju,tb];omega)) ?_
 rintro x5 H5 ⟨u5,rfl,Hc,rfl⟩
 refine ae rfl (cj _ fa fa rfl rfl) ?_
 refine af (t:=39) (v:=.int .i64 e.step) rfl (congrArg (Value.int .i64) (BP gz gz)) ?_
 refine g_ [104,6] ?_
 refine c_ call156 rfl (Du br u5 (qW e.iy) (b8 e.tr::yy e) CR Hc (by simp only[dr,dF,dR,ju,tb];omega)) ?_
 rintro x6 H6 ⟨u6,rfl,Uu,rfl⟩
 refine g_ [6] ?_
 refine ae rfl (Yd.R0 _ (1#8) rfl rfl rfl rfl) (af (t:=44) (v:=.bool e.iy) rfl (congrArg Value.bool (YU _)) (g_ [105,6] ?_))
 refine c_ call156 rfl (Du br u6 (b8 e.tr) (yy e) CR Uu (by simp only[dr,dF,dR,ju,tb];omega)) ?_
 rintro x7 H7 ⟨u7,rfl,NR,rfl⟩
 refine ae rfl (cj _ fa fa rfl rfl) ?_
 refine af (t:=48) (v:=.int .i64 e.tr) rfl (congrArg (Value.int .i64) (BP gz gz)) ?_
 refine g_ [106,5,100,1,701,2] ?_
 refine gK rfl (fun y8=>?_) fun y8=>?_
 rw[show yy e=[b8 e.code] from dx y8] at NR
 refine g_ [2] ?_
 refine c_ call156 rfl (Du br u7 (b8 e.code) [] CR NR (by simp only[dr,dF,dR,ju,tb];omega)) ?_
 rintro x8 H8 ⟨u8,rfl,hu8,rfl⟩
 refine ae rfl (cj _ fa fa rfl rfl) ?_
 refine af (t:=55) (v:=.int .i64 e.code) rfl (congrArg (Value.int .i64) (BP gz gz)) ?_
 refine g_ [107,8] ?_
 refine jv call159 rfl (Bu br _ [] false CR ‹Bs _ [] CR›) ?_
 refine g_ [702,1079,2,707] ?_
 refine j8 82 rfl (by exact Q9 _) ?_
 refine g_ [2] ?_
 refine aS (dj:=84) rfl rfl rfl (aF (n:=11) fa rfl gO gA ⟨_,rfl,?_⟩)
 refine af (t:=85) (v:=.agg (enc e _ _).toArray) rfl (congrArg (fun q=>Value.agg (List.toArray q)) (xS rfl rfl rfl gA gA gA gA gA (by rw[hs.s4];rfl))) ?_
 refine bq (dj:=84) rfl rfl rfl (iE.func call106 rfl) (BS e _ _ he (by (rw[(hs.s5 gz).1];exact ⟨_,_,rfl⟩)) (by (rw[(hs.s5 gz).2];exact ⟨_,_,rfl⟩)) _) ?_
 refine g_ [702,1087,8,411] ?_
 refine af (t:=90) (v:=.agg (enc e _ _).toArray) rfl (congrArg (fun q=>Value.agg (List.toArray q)) (xS rfl rfl rfl gA gA gA gA gA (by rw[hs.s4];rfl))) ?_
 refine g_ [311,4] ?_
 refine au (s:=11) (H) results115 fa rfl rfl gO gA fc ?_
 exact ⟨_,_,[],rfl,by rw[(hs.s5 gz).1];exact .inl ⟨_,_,rfl,rfl,rfl⟩,by rw[(hs.s5 gz).2];exact .inl ⟨_,_,rfl,rfl,rfl⟩,rfl⟩
 rw[show yy e=[] from dp y8] at NR
 refine g_ [7] ?_
 refine jv call159 rfl (Bu br _ [] false CR ‹Bs _ [] CR›) ?_
 refine g_ [702,1079,2,707] ?_
 refine j8 82 rfl (by exact Q9 _) ?_
 refine g_ [2] ?_
 refine aS (dj:=84) rfl rfl rfl (aF (n:=11) fa rfl gO gA ⟨_,rfl,?_⟩)
 refine af (t:=85) (v:=.agg (enc e _ _).toArray) rfl (congrArg (fun q=>Value.agg (List.toArray q)) (xS rfl rfl rfl gA gA gA gA (by exact (hs.s3 gz gz).symm) (by rw[hs.s4];rfl))) ?_
 refine bq (dj:=84) rfl rfl rfl (iE.func call106 rfl) (BS e _ _ he (by (rw[(hs.s5 gz).1];exact ⟨_,_,rfl⟩)) (by (rw[(hs.s5 gz).2];exact ⟨_,_,rfl⟩)) _) ?_
 refine g_ [702,1087,8,411] ?_
 refine af (t:=90) (v:=.agg (enc e _ _).toArray) rfl (congrArg (fun q=>Value.agg (List.toArray q)) (xS rfl rfl rfl gA gA gA gA (by exact (hs.s3 gz gz).symm) (by rw[hs.s4];rfl))) ?_
 refine g_ [311,4] ?_
 refine au (s:=11) (H) results115 fa rfl rfl gO gA fc ?_
 exact ⟨_,_,[],rfl,by rw[(hs.s5 gz).1];exact .inl ⟨_,_,rfl,rfl,rfl⟩,by rw[(hs.s5 gz).2];exact .inl ⟨_,_,rfl,rfl,rfl⟩,rfl⟩
 try (replace hz:¬(e.kind=3∨e.kind=4):=fV (hz.symm.trans mU))
 refine g_ [2,701,3] ?_
 refine gK rfl (fun za=>?_) fun za=>?_
 have tQ:=hs.k5 za
 rw[show qe e=iu (e.order.setWidth 64) 4++[b8 e.code] by unfold qe;rw[dp gz,dp gz,dp gz,dx za]] at vY
 refine g_ [3] ?_
 refine c_ call157 rfl (HA br u3 e.order [b8 e.code] CR vY (by simp only[dr,dF,dR,ju,tb];omega)) ?_
 rintro x4 H4 ⟨u4,rfl,Hb,rfl⟩
 refine g_ [103,5] ?_
 refine c_ call156 rfl (Du br u4 (b8 e.code) [] CR Hb (by simp only[dr,dF,dR,ju,tb];omega)) ?_
 rintro x5 H5 ⟨u5,rfl,Hc,rfl⟩
 refine ae rfl (cj _ fa fa rfl rfl) ?_
 refine af (t:=64) (v:=.int .i64 e.code) rfl (congrArg (Value.int .i64) (BP gz gz)) ?_
 refine g_ [107,8] ?_
 refine jv call159 rfl (Bu br _ [] false CR ‹Bs _ [] CR›) ?_
 refine g_ [702,1079,2,707] ?_
 refine j8 82 rfl gB ?_
 refine g_ [2] ?_
 refine aS (dj:=84) rfl rfl rfl (aF (n:=11) fa rfl gO gA ⟨_,rfl,?_⟩)
 refine af (t:=85) (v:=.agg (enc e _ _).toArray) rfl (congrArg (fun q=>Value.agg (List.toArray q)) (xS rfl rfl rfl gA (by exact (hs.s2 gz gz).1.symm) (by exact (hs.s2 gz gz).2.1.symm) (by exact (hs.s2 gz gz).2.2.symm) gA (by rw[hs.s4];rfl))) ?_
 refine bq (dj:=84) rfl rfl rfl (iE.func call106 rfl) (BS e _ _ he (by (rw[(hs.s5 gz).1];exact ⟨_,_,rfl⟩)) (by (rw[(hs.s5 gz).2];exact ⟨_,_,rfl⟩)) _) ?_
 refine g_ [702,1087,8,411] ?_
 refine af (t:=90) (v:=.agg (enc e _ _).toArray) rfl (congrArg (fun q=>Value.agg (List.toArray q)) (xS rfl rfl rfl gA (by exact (hs.s2 gz gz).1.symm) (by exact (hs.s2 gz gz).2.1.symm) (by exact (hs.s2 gz gz).2.2.symm) gA (by rw[hs.s4];rfl))) ?_
 refine g_ [311,4] ?_
 refine au (s:=11) (H) results115 fa rfl rfl gO gA fc ?_
 exact ⟨_,_,[],rfl,by rw[(hs.s5 gz).1];exact .inl ⟨_,_,rfl,rfl,rfl⟩,by rw[(hs.s5 gz).2];exact .inl ⟨_,_,rfl,rfl,rfl⟩,rfl⟩
 rw[show qe e=[] by unfold qe;rw[dp gz,dp gz,dp gz,dp gz]] at vY
 refine g_ [2,701,1067,6,701,1073,11] ?_
 refine jv call159 rfl (Bu br _ [] false CR ‹Bs _ [] CR›) ?_
 refine g_ [702,1079,2,707] ?_
 refine j8 82 rfl gB ?_
 refine g_ [2] ?_
 refine aS (dj:=84) rfl rfl rfl (aF (n:=11) fa rfl gO gA ⟨_,rfl,?_⟩)
 refine af (t:=85) (v:=.agg (enc e _ _).toArray) rfl (congrArg (fun q=>Value.agg (List.toArray q)) (xS rfl rfl rfl (by (rw[hs.s1 gz];rfl)) (by exact (hs.s2 gz gz).1.symm) (by exact (hs.s2 gz gz).2.1.symm) (by exact (hs.s2 gz gz).2.2.symm) (by exact (hs.s3 gz gz).symm) (by rw[hs.s4];rfl))) ?_
 refine bq (dj:=84) rfl rfl rfl (iE.func call106 rfl) (BS e _ _ he (by (rw[(hs.s5 gz).1];exact ⟨_,_,rfl⟩)) (by (rw[(hs.s5 gz).2];exact ⟨_,_,rfl⟩)) _) ?_
 refine g_ [702,1087,8,411] ?_
 refine af (t:=90) (v:=.agg (enc e _ _).toArray) rfl (congrArg (fun q=>Value.agg (List.toArray q)) (xS rfl rfl rfl (by (rw[hs.s1 gz];rfl)) (by exact (hs.s2 gz gz).1.symm) (by exact (hs.s2 gz gz).2.1.symm) (by exact (hs.s2 gz gz).2.2.symm) (by exact (hs.s3 gz gz).symm) (by rw[hs.s4];rfl))) ?_
 refine g_ [311,4] ?_
 refine au (s:=11) (H) results115 fa rfl rfl gO gA fc ?_
 exact ⟨_,_,[],rfl,by rw[(hs.s5 gz).1];exact .inl ⟨_,_,rfl,rfl,rfl⟩,by rw[(hs.s5 gz).2];exact .inl ⟨_,_,rfl,rfl,rfl⟩,rfl⟩
theorem R3 (v:Value) (l:List En) (hl:l.length≤1000) (hc:mE l) (H:List Ck) (hv:EV v l H):Reads prog 181 [v] H (.tuple #[.int .i64 (l.length:Int),.int .i64 0]):=by
 refine gC.enter func181 rfl ntmps181 rfl ?_
 intro w0 R
 obtain ⟨ao,ac,rfl,_⟩:=hv.form
 refine g_ [10,710,77,4] ?_
 refine aC (fun z:Nat=>z≤l.length) (fun z:Nat=>[(10,.int .i64 (z:Int))]) (fun z:Nat=>H) (fun z:Nat=>l.length-z) (0) (show 0≤l.length from dN _) (Sx.put rfl (gL)) fc ?_
 rintro i hI
 replace hI:i≤l.length:=hI
 obtain hi:=hI
 change WC _ _ _ _ _ _ ([(10,.int .i64 (i:Int))]++_) (H)
 refine g_ [2,705,3] ?_
 refine gK rfl (fun oN=>?_) fun oN=>?_
 have gQ:i<l.length:=by omega
 have qH:i<l.length:=by omega
 obtain ⟨b0,o0,nU,kK,T0,nB,nA,ie,l8,hU,c0,⟨vk,vd,rfl,jd,kf⟩,ja⟩:=hv.rowAt qH gB
 simp only[dI,eD] at ie
 obtain ⟨rfl,rfl⟩:=ie
 obtain ⟨ko,kc,rfl,_⟩:=jd.form
 obtain ⟨vo,vc,rfl,_⟩:=kf.form
 refine g_ [7,711,77,11] ?_
 refine WL.h rfl (aJ (n:=11) (vs:=enc l[i] (.slice ko l[i].key.length kc) (.slice vo l[i].data.length vc)) fa rfl (ib hU) rfl (by rw[show o0+((i:Int)).toNat*11=o0+i*11 by omega];exact ja) ⟨_,rfl,?_⟩)
 refine iS lh fun b5=>?_
 refine g_ [1,311,5,411] ?_
 refine iG call106 rfl (BS _ _ _ (hc.ok _ (dG _)) ⟨_,_,rfl⟩ ⟨_,_,rfl⟩ _) (g_ [702,1017,9,701,2] ?_)
 refine gK rfl (fun pw=>?_) fun pw=>?_
 refine g_ [5,703,2] ?_
 exact ai (i+1) (by show i+1≤l.length;omega) (by show l.length-(i+1)<l.length-i;omega) (Sx.put rfl (gL)) fc
 obtain ⟨j,rfl⟩:∃j,i=j+1:=⟨i-1,by omega⟩
 obtain ⟨b1,o1,si,lV,T1,ra,qY,ie,zi,ab4,c1,⟨vk1,vd1,rfl,np,nL⟩,zC⟩:=hv.rowAt (i:=j) gz gB
 simp only[dI,ew,Addr.mk.injEq,eD,and_true] at ie
 obtain ⟨⟨rfl,rfl⟩,rfl⟩:=ie
 obtain ⟨kW,kV,rfl,_⟩:=np.form
 obtain ⟨vo1,vc1,rfl,_⟩:=nL.form
 obtain ⟨tJ,AT⟩:=hc.nx j gQ
 refine g_ [6,704] ?_
 refine af (t:=23) (v:=.int .i64 (j:Int)) rfl (congrArg (Value.int .i64) gz) ?_
 refine g_ [711,77,11] ?_
 refine WL.h rfl (aJ (n:=11) (vs:=enc l[j] (.slice kW l[j].key.length kV) (.slice vo1 l[j].data.length vc1)) fa rfl (ib ab4) rfl (by rw[show o0+((j:Int)).toNat*11=o0+j*11 by omega];exact zC) ⟨_,rfl,?_⟩)
 refine iS lh fun b6=>?_
 refine g_ [311,4,100,1,701,1] ?_
 refine ag (t:=29) rfl (fun zo=>?_) (fun zo=>?_)
 refine g_ [102,1,102,1,707,6,101,1] ?_
 refine ae rfl (aL _ (1#64) rfl rfl rfl rfl) (g_ [101,1] ?_)
 refine ae rfl (bA _ _ rfl rfl rfl rfl) (j8 41 rfl (fun h=>h (QA tJ)) ?_)
 refine g_ [1,102,1,102,1] ?_
 refine jx 42 rfl rfl rfl (bZ _ _ rfl rfl rfl rfl) (g_ [1] ?_)
 refine ag (t:=48) rfl (fun GL=>?_) (fun GL=>?_)
 refine g_ [1,709,1] ?_
 refine af (t:=51) (v:=.bool false) rfl (congrArg Value.bool (by rcases AT with q|⟨q1,q2⟩<;>first|exact absurd q GL|(simp;omega))) ?_
 refine g_ [8,703,2] ?_
 exact ai (j+1+1) (by show j+1+1≤l.length;omega) (by show l.length-(j+1+1)<l.length-(j+1);omega) (Sx.put rfl (gL)) fc
 refine g_ [3] ?_
 refine af (t:=51) (v:=.bool false) rfl (congrArg Value.bool (by rcases AT with q|⟨q1,q2⟩<;>rfl)) ?_
 refine g_ [8,703,2] ?_
 exact ai (j+1+1) (by show j+1+1≤l.length;omega) (by show l.length-(j+1+1)<l.length-(j+1);omega) (Sx.put rfl (gL)) fc
 refine g_ [11,101,1] ?_
 refine ae rfl (aL _ (1#64) rfl rfl rfl rfl) (g_ [101,1] ?_)
 refine ae rfl (bA _ _ rfl rfl rfl rfl) (j8 41 rfl (fun h=>h (QA tJ)) ?_)
 refine g_ [1,102,1,102,1] ?_
 refine jx 42 rfl rfl rfl (bZ _ _ rfl rfl rfl rfl) (g_ [1] ?_)
 refine ag (t:=48) rfl (fun GL=>?_) (fun GL=>?_)
 refine g_ [1,709,1] ?_
 refine af (t:=51) (v:=.bool false) rfl (congrArg Value.bool (by rcases AT with q|⟨q1,q2⟩<;>first|exact absurd q GL|exact absurd q1 zo)) ?_
 refine g_ [8,703,2] ?_
 exact ai (j+1+1) (by show j+1+1≤l.length;omega) (by show l.length-(j+1+1)<l.length-(j+1);omega) (Sx.put rfl (gL)) fc
 refine g_ [3] ?_
 refine af (t:=51) (v:=.bool false) rfl (congrArg Value.bool (by rcases AT with q|⟨q1,q2⟩<;>rfl)) ?_
 refine g_ [8,703,2] ?_
 exact ai (j+1+1) (by show j+1+1≤l.length;omega) (by show l.length-(j+1+1)<l.length-(j+1);omega) (Sx.put rfl (gL)) fc
 refine g_ [8,710,77,5] ?_
 refine gH H ?_
 exact ay results181 rfl rfl (⟨rfl,rfl⟩)
theorem Fm (v:Value) (l:List En) (hl:l.length≤1000) (hc:mE l) (H:List Ck) (hv:EV v l H):Reads prog 143 [v] H (.bool true):=by
 refine gC.enter func143 rfl ntmps143 rfl ?_
 intro w0 R
 refine g_ [8] ?_
 refine iG call181 rfl (R3 v l hl hc _ (hv.mono hZ)) ?_
 refine g_ [10,701,2011,4] ?_
 refine gH H ?_
 exact aa results143 rfl (⟨rfl,rfl⟩)
theorem Dx (v:Value) (l:List En) (hl:l.length≤1000) (hn:∀e∈l,e.key.length≤1000∧e.data.length≤1000) (H:List Ck) (hv:EV v l H):gC prog 148 [v] H fun r gr=>∃A,EO 77 r l A∧gr=A++H:=by
 refine gC.enter func148 rfl ntmps148 rfl ?_
 intro w0 R
 obtain ⟨ao,ac,rfl,_⟩:=hv.form
 refine g_ [14,710,77,4] ?_
 refine aC (fun z:Nat×Value×List Value×List Ck×List Ck=>z.1≤l.length∧il z.2.1 z.1 z.2.2.1 77 11 z.2.2.2.1∧VL nh z.2.2.2.2 z.2.2.1 (l.take z.1)) (fun z:Nat×Value×List Value×List Ck×List Ck=>[(3,z.2.1),(8,.int .i64 (z.1:Int))]) (fun z:Nat×Value×List Value×List Ck×List Ck=>z.2.2.2.1++(z.2.2.2.2++H)) (fun z:Nat×Value×List Value×List Ck×List Ck=>l.length-z.1) (⟨0,.slice none 0 0,[],[],[]⟩) (show 0≤l.length∧il (.slice none 0 0) 0 [] 77 11 []∧VL nh [] [] (l.take 0) from ⟨dN _,il.nil _ _,.nil⟩) (Sx.put rfl (Sx.put rfl (gL))) fc ?_
 rintro ⟨i,u,cells,Ca,Cb⟩ hI
 replace hI:i≤l.length∧il u i cells 77 11 Ca∧VL nh Cb cells (l.take i):=hI
 obtain ⟨hi,hO,hV⟩:=hI
 change WC _ _ _ _ _ _ ([(3,u),(8,.int .i64 (i:Int))]++_) (Ca++(Cb++H))
 obtain ⟨uo,uc,rfl,_⟩:=hO.form
 refine g_ [2,705,3] ?_
 refine gK rfl (fun h9=>?_) fun h9=>?_
 have gQ:i<l.length:=by omega
 obtain ⟨b0,o0,nU,kK,T0,nB,nA,ie,l8,hU,c0,⟨vk,vd,rfl,jd,kf⟩,ja⟩:=hv.rowAt gQ gB
 simp only[dI,eD] at ie
 obtain ⟨rfl,rfl⟩:=ie
 obtain ⟨ko,kc,rfl,_⟩:=jd.form
 obtain ⟨eo,ec,rfl,_⟩:=kf.form
 have mR:=hn _ (dG gQ)
 have kE:l.take (i+1)=l.take i++[l[i]]:=dJ gQ
 have qF:=hO.len
 refine g_ [6,711,77,11] ?_
 refine WL.h rfl (aJ (n:=11) (vs:=enc l[i] (.slice ko l[i].key.length kc) (.slice eo l[i].data.length ec)) fa rfl (ib hU) rfl (by rw[show o0+((i:Int)).toNat*11=o0+i*11 by omega];exact ja) ⟨_,rfl,?_⟩)
 refine iS lh fun b5=>?_
 refine WL.s (aH (n:=11) fa rfl rfl gA (sV rfl rfl) ir gA ⟨rfl,?_⟩)
 refine g_ [4,109,1] ?_
 refine c_ call118 rfl (yR _ l[i].key H jd gz) ?_
 rintro Xy Qh ⟨PQ,SN,rfl⟩
 obtain ⟨wo,wc,rfl,_⟩:=SN.form
 refine g_ [109,5,110,1] ?_
 refine c_ call118 rfl (yR _ l[i].data H kf gz) ?_
 rintro x18 XV ⟨PR,SQ,rfl⟩
 obtain ⟨xo,xc,rfl,_⟩:=SQ.form
 refine g_ [110,5] ?_
 refine WL.h rfl (aF (n:=11) (cs:=enc l[i] (.slice wo l[i].key.length wc) (.slice xo l[i].data.length xc)) fa rfl gO rfl ⟨_,rfl,?_⟩)
 refine WL.h rfl (aX (e:=77) (sz:=11) (zs:=lh) (vs:=enc l[i] (.slice wo l[i].key.length wc) (.slice xo l[i].data.length xc)) fa fa fa rfl rfl rfl fa fun b22=>⟨_,rfl,?_⟩)
 refine WL.h rfl (aT (e:=77) (sz:=11) (bytes:=112) (zs:=lh) fa fa rfl gz rfl rfl (hO) fc gO gA qd (by simp only[maxLen];omega) gz fun v23 PY vP=>⟨_,rfl,?_⟩)
 refine g_ [5,703,2] ?_
 exact ai (⟨i+1,v23,cells++enc l[i] (.slice wo l[i].key.length wc) (.slice xo l[i].data.length xc),PY,Cb++(PQ++PR)⟩) (show (i+1)≤l.length∧il v23 (i+1) (cells++enc l[i] (.slice wo l[i].key.length wc) (.slice xo l[i].data.length xc)) 77 11 PY∧VL nh (Cb++(PQ++PR)) (cells++enc l[i] (.slice wo l[i].key.length wc) (.slice xo l[i].data.length xc)) (l.take (i+1)) from ⟨by omega,vP,by rw[kE];exact (hV.mono fun c hc=>dw _ hc).append (VL.one (E:=nh) ⟨_,_,rfl,SN.mono fun c hc=>dq _ (dw _ hc),SQ.mono fun c hc=>dq _ (dq _ hc)⟩)⟩) (show l.length-(i+1)<l.length-i by omega) (Sx.put rfl (Sx.put rfl (gL))) fc
 have lY:i=l.length:=by omega
 subst lY
 rw[eH] at hV
 refine g_ [12] ?_
 refine gH ((Ca++Cb)++H) ?_
 exact aa results148 rfl (⟨_,⟨cells,Ca,Cb,hO,hV,rfl⟩,rfl⟩)
theorem ags (e:En) (he:iZ e) (vk vd:Value) (n:Nt) (wk wd:Value) (x:List (BitVec 8)) (H:List Ck) (hk:Bs vk e.key H) (hd:Bs vd e.data H) (nF:wk.oneCell'=true) (zH:Bs wd x H):gC prog 150 [.agg (enc e vk vd).toArray,.agg (gS n wk wd).toArray] H fun r gr=>r=.bool (decide (iB e=x))∧∃A,gr=A++H:=by
 refine gC.enter func150 rfl ntmps150 rfl ?_
 intro w0 R
 obtain ⟨ko,kc,rfl,_⟩:=hk.form
 obtain ⟨eo,ec,rfl,_⟩:=hd.form
 obtain ⟨xo,xc,rfl,_⟩:=zH.form
 refine gY (iV fun b2=>?_)
 refine iV fun b3=>?_
 refine g_ [5,411] ?_
 refine c_ call108 rfl (D3 e he _ _ H hk hd) ?_
 rintro x9 H9 ⟨v9,A9,rfl,vR,rfl⟩
 obtain ⟨uo,uc,rfl,_⟩:=vR.form
 refine g_ [10] ?_
 refine WL.h rfl (aM (e:=5) (bs:=iB e) fa fa underlying9 rfl (vR.bs.mono hZ) ⟨_,rfl,?_⟩)
 refine g_ [110,1] ?_
 refine WL.h rfl (aM (e:=5) (bs:=x) fa fa underlying9 rfl (zH.mono hZ) ⟨_,rfl,?_⟩)
 refine ae rfl (bN rfl rfl) (g_ [4] ?_)
 refine gH (A9++H) ?_
 refine aa results150 rfl (⟨?_,A9,rfl⟩)
 congr 1
 rw[dM,dz,dz]
 exact str_inj
theorem afX (e:En) (vk vd:Value) (q:Nat) (n:Nt) (wk wd:Value) (T:TypeId) (fr:Nat×Nat) (ex:Bool) (h1:vk.oneCell'=true) (h2:vd.oneCell'=true) (H:List Ck) (hU:(⟨q,.cells (gS n wk wd).toArray T fr,ex⟩:Ck)∈H):Reads prog 209 [.agg (enc e vk vd).toArray,ptr q] H (.bool (decide (n.gT.toNat<e.ep.toNat))):=by
 refine gC.enter func209 rfl ntmps209 rfl ?_
 intro w0 R
 refine gY (iV fun b2=>?_)
 refine g_ [5,102,1,102] ?_
 refine WL.h rfl (ak (cs:=gS n wk wd) fa rfl (ib hU) gA ⟨_,rfl,?_⟩)
 refine g_ [707,4] ?_
 refine gH H ?_
 refine aa results209 rfl (⟨?_,rfl⟩)
 congr 1
 rw[dM,dz,dz]
 omega
theorem VA {m:Nat} (h:m≤1000):((1#64-1#64+BitVec.ofInt 64 (m:Int)).toNat:Int)=(m:Int):=by
  rw[show 1#64-1#64=0#64 from rfl,BitVec.zero_add,dX]
  omega
theorem WO (gE gT:BitVec 32) (gF:BitVec 64) (e:En) (he:iZ e) (h0:gE≠0#32) (ho:gT=0#32↔gF=0#64) (hl:e.gF-1#64=gF) (kZ:e.ep.toNat≤gE.toNat) (hold:gT.toNat≤e.ep.toNat) (kd:Option Addr×Nat) (vd:Value) (H:List Ck) (hd:Bs vd (iB e) H):gC prog 147 [.agg (gS (j4 gE gT gF e) (.slice kd.1 0 kd.2) vd).toArray] H fun r gr=>∃uk ud A,r=.tuple #[.agg (enc e uk ud).toArray,.bool true]∧Bs uk e.key A∧Bs ud e.data A∧gr=A++H:=by
 refine gC.enter func147 rfl ntmps147 rfl ?_
 intro w0 R
 obtain ⟨eo,ec,rfl,_⟩:=hd.form
 have ek:(j4 gE gT gF e).kind=1:=rfl
 have ee:(j4 gE gT gF e).gE=gE:=rfl
 have eo9:(j4 gE gT gF e).gT=gT:=rfl
 have el:(j4 gE gT gF e).gF=gF:=rfl
 refine gY (iV fun b1=>?_)
 refine iS lh fun b2=>?_
 refine g_ [6,100,1,702] ?_
 refine j8 8 rfl (fun h=>h rfl) ?_
 refine g_ [1] ?_
 refine aS (dj:=9) rfl rfl rfl (aF (n:=11) fa rfl gO gA ⟨_,rfl,?_⟩)
 refine bq (dj:=9) rfl rfl rfl (iE.func call59 rfl) (AB (j4 gE gT gF e) _ _ ⟨_,_,rfl⟩ ⟨_,_,rfl⟩ _) (g_ [702] ?_)
 refine af (t:=12) (v:=.bool false) rfl (congrArg Value.bool (by rw[Pg he];rfl)) ?_
 refine g_ [2,101,1] ?_
 refine jx 14 rfl rfl rfl (aD _ (0#32) rfl rfl rfl rfl) (j8 17 rfl h0 (g_ [2,102,1] ?_))
 refine jx 19 rfl rfl rfl (aD _ (0#32) rfl rfl rfl rfl) (g_ [103,1] ?_)
 refine jx 19 rfl rfl rfl (cc _ (0#64) rfl rfl rfl rfl) (jx 19 rfl rfl rfl (Yd.Vo underlying4 rfl rfl) ?_)
 refine af (t:=26) (v:=.bool false) rfl (congrArg Value.bool (by show (!(decide (gT=0#32)==decide (gF=0#64)))=false;simp[ho])) ?_
 refine g_ [8,110,1] ?_
 refine c_ call115 rfl (Lx e he _ H hd) ?_
 rintro x32 XX ⟨uk,ud,A,rfl,vQ,sw,rfl⟩
 obtain ⟨ko,kc,rfl,_⟩:=vQ.form
 obtain ⟨wo,wc,rfl,_⟩:=sw.form
 refine g_ [3] ?_
 refine iS lh fun b4=>?_
 refine g_ [311,4,527] ?_
 refine w_ [2011,0,1,1001,2,9002,3,1001,4,5] ?_
 refine jP 6 [5,3] 38 rfl rfl (aL _ (1#64) rfl rfl rfl rfl) fa ?_
 refine w_ [1003,7,8] ?_
 refine jP 9 [8,6,3] 38 rfl rfl (cc _ _ rfl rfl rfl rfl) fa ?_
 refine qf hl (w_ [10,11,1002,12,13,1001,14,15,1006,16] ?_)
 refine qf (show (e.ep.toNat:Int)≤(gE.toNat:Int) by omega) ?_
 refine w_ [17,18,1002,19,20,1002,21,22,1008,23] ?_
 refine qf (show (gT.toNat:Int)≤(e.ep.toNat:Int) by omega) ?_
 refine w_ [24] ?_
 refine gD 25 ?_
 refine SO.s rfl Wt.none (aH (n:=11) fa rfl rfl gA (sV rfl rfl) ir gA ⟨rfl,?_⟩)
 refine iO [0,0,0,0,0,0] ?_
 refine gD 26 ?_
 refine jm ?_
 refine gG ?_
 refine gM ?_
 refine g_ [2] ?_
 refine au (s:=11) (A++H) results147 fa rfl rfl gO gA fc ?_
 exact ⟨_,_,A,rfl,vQ,sw,rfl⟩
theorem agf (v:Value) (l:List En) (hl:l.length≤1000) (q:Nat) (n:Nt) (wk wd:Value) (T:TypeId) (fr:Nat×Nat) (ex:Bool) (H:List Ck) (hU:(⟨q,.cells (gS n wk wd).toArray T fr,ex⟩:Ck)∈H) (hv:EV v l H):Reads prog 208 [v,.func (.func 209) #[] #[ptr q]] H (.int .i64 (match l.findIdx? (fun e=>decide (n.gT.toNat<e.ep.toNat)) with|some i=>(i:Int)|none=>-1)):=by
 refine gC.enter func208 rfl ntmps208 rfl ?_
 intro w0 R
 obtain ⟨ao,ac,rfl,_⟩:=hv.form
 refine g_ [9,710,77,4] ?_
 refine aC (fun z:Nat=>z≤l.length∧∀j (h:j<l.length),j<z→¬n.gT.toNat<l[j].ep.toNat) (fun z:Nat=>[(8,.int .i64 (z:Int))]) (fun z:Nat=>H) (fun z:Nat=>l.length-z) (0) (show 0≤l.length∧∀j (h:j<l.length),j<0→¬n.gT.toNat<l[j].ep.toNat from ⟨dN _,fun j _ h=>absurd h (gl _)⟩) (Sx.put rfl (gL)) fc ?_
 rintro i hI
 replace hI:i≤l.length∧∀j (h:j<l.length),j<i→¬n.gT.toNat<l[j].ep.toNat:=hI
 obtain ⟨hi,jf⟩:=hI
 change WC _ _ _ _ _ _ ([(8,.int .i64 (i:Int))]++_) (H)
 refine g_ [2,705,3] ?_
 refine gK rfl (fun h9=>?_) fun h9=>?_
 have gQ:i<l.length:=by omega
 obtain ⟨b0,o0,nU,kK,T0,nB,nA,ie,l8,kh,c0,⟨vk,vd,rfl,jd,kf⟩,ja⟩:=hv.rowAt gQ gB
 simp only[dI,eD] at ie
 obtain ⟨rfl,rfl⟩:=ie
 obtain ⟨ko,kc,rfl,_⟩:=jd.form
 obtain ⟨eo,ec,rfl,_⟩:=kf.form
 refine g_ [15,711,77,11] ?_
 refine WL.h rfl (aJ (n:=11) (vs:=enc l[i] (.slice ko l[i].key.length kc) (.slice eo l[i].data.length ec)) fa rfl (ib kh) rfl (by rw[show o0+((i:Int)).toNat*11=o0+i*11 by omega];exact ja) ⟨_,rfl,?_⟩)
 refine WL.r rfl (iE.Ro call209 rfl rfl) (afX l[i] (.slice ko l[i].key.length kc) (.slice eo l[i].data.length ec) q n wk wd T fr ex rfl rfl _ (ib hU)) ?_
 refine qb (WC.cond rfl (fun mr=>?_) (fun mr=>?_))
 refine g_ [12] ?_
 refine gH H ?_
 refine aa results208 rfl ?_
 have e9:l.findIdx? (fun e=>decide (n.gT.toNat<e.ep.toNat))=some i:=by
   rw[List.findIdx?_eq_some_iff_getElem]
   exact ⟨gQ,mr,fun j hj=>by simpa using jf j gz hj⟩
 rw[e9]
 exact ⟨rfl,rfl⟩
 refine g_ [4,703,2] ?_
 exact ai (i+1) (show (i+1)≤l.length∧∀j (h:j<l.length),j<(i+1)→¬n.gT.toNat<l[j].ep.toNat from ⟨by omega,fun j hj hji=>by
   by_cases e9:j=i
   · subst e9;simpa using mr
   exact jf j hj gz⟩) (show l.length-(i+1)<l.length-i by omega) (Sx.put rfl (gL)) fc
 refine g_ [11] ?_
 refine gH H ?_
 refine aa results208 rfl ?_
 have e9:l.findIdx? (fun e=>decide (n.gT.toNat<e.ep.toNat))=none:=by
   rw[List.findIdx?_eq_none_iff]
   intro x hx
   obtain ⟨j,hj,rfl⟩:=fu hx
   simpa using jf j hj gz
 rw[e9]
 exact ⟨rfl,rfl⟩
theorem Wv (v:Value) (l:List En) (hl:l.length≤1000) (hf:vO l=1#64) (n:Nt) (hn:1≤n.gF.toNat∧n.gF.toNat≤l.length) (wk wd:Value) (h1:wk.oneCell'=true) (h2:wd.oneCell'=true) (H:List Ck) (hv:EV v l H):Reads prog 149 [v,.agg (gS n wk wd).toArray] H (.int .u64 ((vJ l n.gT (n.gF.toNat-1):Nat):Int)):=by
 refine gC.enter func149 rfl ntmps149 rfl ?_
 intro w0 R
 obtain ⟨ao,ac,rfl,Ct⟩:=hv.form
 have IB:(n.gF-1#64).toNat=n.gF.toNat-1:=fx (by rw[gq];show 1≤_;omega)
 obtain ⟨k,hk⟩:∃k,k=n.gF.toNat-1:=⟨_,rfl⟩
 have sH:(l.take k).length=k:=by rw[dE];omega
 refine gY (iV fun b3=>?_)
 refine ae rfl (Yd.assign (v:=.int .u64 ((0#64).toNat:Int)) rfl) (g_ [3,507] ?_)
 refine w_ [1003,0,1,2] ?_
 refine jy 3 [2] rfl call144 rfl (tu _ l hl _ hv) fc ?_
 refine az (v:=.int .u64 ((1#64).toNat:Int)) (by rw[hf]) ?_
 refine gW 4 [3,1] rfl (aL _ _ rfl rfl rfl rfl) fa ?_
 refine gW 5 [4] rfl (bQ fa fa rfl gz gz) fa ?_
 refine az (v:=.int .i64 (k:Int)) (congrArg (Value.int .i64) gz) ?_
 refine w_ [6] ?_
 refine gM ?_
 refine g_ [5] ?_
 refine ae rfl (bJ (e:=77) (s:=11) (j:=k) fa fa rfl rfl rfl gz) ?_
 refine ae rfl (cX rfl) (iG call208 rfl (agf (.slice ao k ac) (l.take k) gz b3 n wk wd _ _ _ _ gO (VS.upto (hv.mono hZ) gz)) ?_)
 refine g_ [7,705,2] ?_
 refine gK rfl (fun mT=>?_) fun mT=>?_
 refine g_ [8] ?_
 refine jv call144 rfl (tu _ l hl _ hv) ?_
 refine af (t:=22) (v:=.int .u64 ((1#64).toNat:Int)) rfl (by rw[hf]) ?_
 refine ae rfl (aL _ (1#64) rfl rfl rfl rfl) (g_ [1] ?_)
 refine ae rfl (bM _ fa fa rfl rfl) ?_
 refine ae rfl (aY _ _ rfl rfl rfl rfl) (g_ [4] ?_)
 refine gH H ?_
 refine aa results149 rfl (⟨?_,rfl⟩)
 congr 1
 unfold vJ
 rw[←hk]
 cases zk:(l.take k).findIdx? (fun e=>decide (n.gT.toNat<e.ep.toNat)) with
 |none=>exact VA gz
 |some i=>rw[zk] at mT;simp only at mT;omega
 refine g_ [5] ?_
 refine jv call144 rfl (tu _ l hl _ hv) ?_
 refine af (t:=22) (v:=.int .u64 ((1#64).toNat:Int)) rfl (by rw[hf]) ?_
 refine ae rfl (aL _ (1#64) rfl rfl rfl rfl) (g_ [1] ?_)
 refine ae rfl (bM _ fa fa rfl rfl) ?_
 refine ae rfl (aY _ _ rfl rfl rfl rfl) (g_ [4] ?_)
 refine gH H ?_
 refine aa results149 rfl (⟨?_,rfl⟩)
 congr 1
 unfold vJ
 rw[←hk]
 cases zk:(l.take k).findIdx? (fun e=>decide (n.gT.toNat<e.ep.toNat)) with
 |none=>rw[zk] at mT;simp only at mT;omega
 | some i=>
   have hik:i<k:=by
     obtain ⟨h1,_⟩:=List.findIdx?_eq_some_iff_getElem.1 zk
     omega
   exact VA (m:=i) gz
end Go.Proofs.YtchdmlkiggdhaaaGreat
