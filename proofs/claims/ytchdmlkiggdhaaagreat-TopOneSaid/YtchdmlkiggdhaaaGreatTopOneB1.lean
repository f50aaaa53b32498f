/-
  Lemmas and walks that TopOne stands on (its own part); no condition.
-/
import Derived.Test.YtchdmlkiggdhaaaGreatTopB13
set_option linter.unusedVariables false
set_option linter.unusedSimpArgs false
set_option maxHeartbeats 4000000
namespace Go.Proofs.YtchdmlkiggdhaaaGreat
open Go.SL Top Go.Proofs.Tryz
attribute [local irreducible] WL WC DN gZ iX
theorem vF {cs:List Value} {l:List jt} {o i j:Nat} (h:(cs.drop o).take (l.flatMap jY).length=l.flatMap jY) (hi:i<l.length) (hj:j<4):cs[o+i*4+j]?=(jY l[i])[j]?:=by
  have h1:=Ip l i hi
  have h2:(jY l[i])[j]?=(l.flatMap jY)[i*4+j]?:=by
    rw[←h1,fF,dx hj,ft]
  have hl:=K3 l
  rw[h2]
  conv=>rhs;rw[←h]
  rw[fF,dx gz,ft,Nat.add_assoc]
theorem adZ (v9:Value) (l:List Mv) (H:List Ck) (hv:Rs v9 l.length (Bn l) H) (hl:l.length≤9223372036854775807):Reads prog 3 [v9] H (.bool true):=by
 refine gC.enter func3 rfl ntmps3 rfl ?_
 intro w0 R
 obtain ⟨ao,ac,rfl,Ct⟩:=hv.form
 refine g_ [7] ?_
 refine c_ call5 rfl (Xn []) ?_
 rintro HU FG ⟨w,C0,D0,rfl,Mx,rfl⟩
 refine g_ [7] ?_
 refine ae rfl (an underlying23 rfl rfl) (g_ [1013,12] ?_)
 refine aC (fun z:Nat×Gs×List En×List jt×List jt×List Ck×List Ck=>z.1≤l.length∧z.1≤120∧WA w false z.2.1 z.2.2.2.1 z.2.2.2.2.1 z.2.2.2.2.2.1∧iR kF z.2.1 z.2.2.1 z.1 z.1∧lU z.2.2.1 z.2.2.2.1 z.2.2.2.2.1 (12*z.1)) (fun z:Nat×Gs×List En×List jt×List jt×List Ck×List Ck=>[(4,.int .i64 (z.1:Int))]) (fun z:Nat×Gs×List En×List jt×List jt×List Ck×List Ck=>z.2.2.2.2.2.1++(z.2.2.2.2.2.2++H)) (fun z:Nat×Gs×List En×List jt×List jt×List Ck×List Ck=>l.length-z.1) (⟨0,y4,[],[],[],C0,D0⟩) (show 0≤l.length∧0≤120∧WA w false y4 [] [] C0∧iR kF y4 [] 0 0∧lU [] [] [] (12*0) from ⟨dN _,dN _,Mx,Su,Tr⟩) (Sx.put rfl (gL)) fc ?_
 rintro ⟨i,g,G,t2,e2,C,D⟩ hI
 replace hI:i≤l.length∧i≤120∧WA w false g t2 e2 C∧iR kF g G i i∧lU G t2 e2 (12*i):=hI
 obtain ⟨hi,qH,hW,v,hh⟩:=hI
 change WC _ _ _ _ _ _ ([(4,.int .i64 (i:Int))]++_) (C++(D++H))
 obtain ⟨pa,pc,Df,Sf,vt,ve,ja,Jy,EH,EG⟩:=hW.row
 obtain ⟨to,tc,rfl,_⟩:=EH.form
 obtain ⟨eo,ec,rfl,_⟩:=EG.form
 have sH:=hh.tl
 have uK:=hh.el
 refine g_ [5,710,27,705,1] ?_
 refine ag (t:=18) rfl (fun uN=>?_) (fun uN=>?_)
 refine g_ [1,705,3] ?_
 refine gK rfl (fun nK=>?_) fun nK=>?_
 have gQ:i<l.length:=by omega
 obtain ⟨a1,a2,a3,a4,a5,Mz⟩:=Vn l i gQ
 refine g_ [9] ?_
 refine cf (e:=27) (s:=5) fa fa fa rfl rfl (rfl) (hv.mono hZ) (Mz) gA gz (gQ) rfl rfl ?_
 intro p27
 refine c_ call6 rfl (Xt w g t2 e2 C hW G i i v gz gz a1 a2 a3 a4 a5 (12*i) gz hh []) ?_
 rintro x9 H9 ⟨gU,lH,t3,e3,C2,D2,j3,v2,lB,rfl⟩
 obtain ⟨pa3,pc3,XM,Ye,Aa,DA,acn,ajo,_,_⟩:=j3.row
 have sD:=v2.len false
 have ox:=v2.len true
 refine g_ [7,110] ?_
 refine WL.h rfl (ak (v:=.bool false) (cs:=ik pa3 pc3 XM Ye Aa DA) fa rfl (aA (C:=C2) fc acn) gA ⟨_,rfl,?_⟩)
 refine g_ [1033,8] ?_
 refine jv call7 rfl (Px w false gU t3 e3 C2 j3 false gz []) ?_
 refine g_ [6] ?_
 refine jv call7 rfl (Px w false gU t3 e3 C2 j3 true gz []) ?_
 refine g_ [7] ?_
 refine aG (t:=39) rfl (fun qp=>?_) (fun qp=>?_)
 refine g_ [2] ?_
 refine af (t:=41) (v:=.bool false) rfl (by exact congrArg Value.bool (by cases hq:lj (gU.R true) gU.a.now with|false=>rfl|true=>exact absurd ⟨qp,hq⟩ (aaL v2))) ?_
 refine g_ [1041,8,703,2] ?_
 exact ai (⟨i+1,gU,lH,t3,e3,C2,D2++D⟩) (show (i+1)≤l.length∧(i+1)≤120∧WA w false gU t3 e3 C2∧iR kF gU lH (i+1) (i+1)∧lU lH t3 e3 (12*(i+1)) from ⟨by omega,by omega,j3,v2,lB.mono (fB _) gz⟩) (show l.length-(i+1)<l.length-i by omega) (Sx.put rfl (gL)) fc
 refine g_ [2] ?_
 refine af (t:=41) (v:=.bool false) rfl gA ?_
 refine g_ [1041,8,703,2] ?_
 exact ai (⟨i+1,gU,lH,t3,e3,C2,D2++D⟩) (show (i+1)≤l.length∧(i+1)≤120∧WA w false gU t3 e3 C2∧iR kF gU lH (i+1) (i+1)∧lU lH t3 e3 (12*(i+1)) from ⟨by omega,by omega,j3,v2,lB.mono (fB _) gz⟩) (show l.length-(i+1)<l.length-i by omega) (Sx.put rfl (gL)) fc
 refine g_ [12] ?_
 refine aC (fun z:Nat=>z≤t2.length) (fun z:Nat=>[(7,.int .i64 (z:Int))]) (fun z:Nat=>C++(D++H)) (fun z:Nat=>t2.length-z) (0) (show 0≤t2.length from dN _) (Sx.put rfl (gL)) fc ?_
 rintro i2 hI
 replace hI:i2≤t2.length:=hI
 obtain jV:=hI
 change WC _ _ _ _ _ _ ([(7,.int .i64 (i2:Int))]++_) (C++(D++H))
 refine g_ [6,108] ?_
 refine WL.h rfl (ak (v:=(.slice to t2.length tc)) (cs:=ik pa pc Df Sf (.slice to t2.length tc) (.slice eo e2.length ec)) fa rfl (aA (C:=C) fc ja) gA ⟨_,rfl,?_⟩)
 refine g_ [710,40,705,2] ?_
 refine gK rfl (fun LZ=>?_) fun LZ=>?_
 refine g_ [10] ?_
 refine aC (fun z:Nat=>z≤i2) (fun z:Nat=>[(8,.int .i64 (z:Int))]) (fun z:Nat=>C++(D++H)) (fun z:Nat=>i2-z) (0) (show 0≤i2 from dN _) (Sx.put rfl (gL)) fc ?_
 rintro k2 hI
 replace hI:k2≤i2:=hI
 obtain ma:=hI
 change WC _ _ _ _ _ _ ([(8,.int .i64 (k2:Int))]++_) (C++(D++H))
 refine g_ [5,705,2] ?_
 refine gK rfl (fun tH=>?_) fun tH=>?_
 obtain ⟨vb,vf,vcs,vT,HQ,HP,rfl,_,qL,kT⟩:=EH.Bj gz
 refine g_ [5,536] ?_
 refine w_ [0,1,1008,2] ?_
 refine iD 3 [2] rfl (ab (v:=(.slice (some ⟨vb,vf,none⟩) t2.length tc)) (cs:=ik pa pc Df Sf (.slice (some ⟨vb,vf,none⟩) t2.length tc) (.slice eo e2.length ec)) fa rfl (aA (C:=C) fc ja) gA) ?_
 refine w_ [4] ?_
 refine gW 5 [4,3] rfl (Yd.indexAddr (e:=40) (s:=4) fa fa rfl rfl gz gz) fa ?_
 refine w_ [1000,6] ?_
 refine iD 7 [6] rfl (ab (cs:=vcs) fa rfl (aA (C:=C) fc qL) (vF (l:=t2) (i:=i2) (j:=0) kT gz gB)) ?_
 refine w_ [8,9,1008,10] ?_
 refine iD 11 [10] rfl (ab (v:=(.slice (some ⟨vb,vf,none⟩) t2.length tc)) (cs:=ik pa pc Df Sf (.slice (some ⟨vb,vf,none⟩) t2.length tc) (.slice eo e2.length ec)) fa rfl (aA (C:=C) fc ja) gA) ?_
 refine w_ [12] ?_
 refine gW 13 [12,11] rfl (Yd.indexAddr (e:=40) (s:=4) fa fa rfl rfl gz gz) fa ?_
 refine w_ [1000,14] ?_
 refine iD 15 [14] rfl (ab (cs:=vcs) fa rfl (aA (C:=C) fc qL) (vF (l:=t2) (i:=k2) (j:=0) kT gz gB)) ?_
 refine gW 16 [15,7] rfl (aD _ _ rfl rfl rfl rfl) fa ?_
 refine lL (KA mY v hh (i:=i2) (j:=k2) gz gz).1 ?_
 refine w_ [17,18,19,1008,20] ?_
 refine ki 21 [20,17] 73 rfl rfl rfl (ab (v:=(.slice (some ⟨vb,vf,none⟩) t2.length tc)) (cs:=ik pa pc Df Sf (.slice (some ⟨vb,vf,none⟩) t2.length tc) (.slice eo e2.length ec)) fa rfl (aA (C:=C) fc ja) gA) ?_
 refine w_ [22] ?_
 refine jP 23 [22,21,17] 73 rfl rfl (Yd.indexAddr (e:=40) (s:=4) fa fa rfl rfl gz gz) fa ?_
 refine w_ [1001,24] ?_
 refine ki 25 [24,17] 73 rfl rfl rfl (ab (cs:=vcs) fa rfl (aA (C:=C) fc qL) (vF (l:=t2) (i:=i2) (j:=1) kT gz gB)) ?_
 refine w_ [26,27,1008,28] ?_
 refine ki 29 [28,17] 73 rfl rfl rfl (ab (v:=(.slice (some ⟨vb,vf,none⟩) t2.length tc)) (cs:=ik pa pc Df Sf (.slice (some ⟨vb,vf,none⟩) t2.length tc) (.slice eo e2.length ec)) fa rfl (aA (C:=C) fc ja) gA) ?_
 refine w_ [30] ?_
 refine jP 31 [30,29,17] 73 rfl rfl (Yd.indexAddr (e:=40) (s:=4) fa fa rfl rfl gz gz) fa ?_
 refine w_ [1001,32] ?_
 refine ki 33 [32,17] 73 rfl rfl rfl (ab (cs:=vcs) fa rfl (aA (C:=C) fc qL) (vF (l:=t2) (i:=k2) (j:=1) kT gz gB)) ?_
 refine jP 34 [33,25,17] 73 rfl rfl (bN rfl rfl) fa ?_
 refine lL (fun q=>(KA mY v hh (i:=i2) (j:=k2) gz gz).2 (str_inj.1 q)) ?_
 refine w_ [35] ?_
 refine gM ?_
 refine g_ [7,703,2] ?_
 exact ai (k2+1) (show (k2+1)≤i2 from gz) (show i2-(k2+1)<i2-k2 by omega) (Sx.put rfl (gL)) fc
 refine g_ [8,703,2] ?_
 exact ai (i2+1) (show (i2+1)≤t2.length from gz) (show t2.length-(i2+1)<t2.length-i2 by omega) (Sx.put rfl (gL)) fc
 refine g_ [12] ?_
 refine aC (fun z:Nat=>z≤e2.length) (fun z:Nat=>[(9,.int .i64 (z:Int))]) (fun z:Nat=>C++(D++H)) (fun z:Nat=>e2.length-z) (0) (show 0≤e2.length from dN _) (Sx.put rfl (gL)) fc ?_
 rintro i2 hI
 replace hI:i2≤e2.length:=hI
 obtain jV:=hI
 change WC _ _ _ _ _ _ ([(9,.int .i64 (i2:Int))]++_) (C++(D++H))
 refine g_ [6,109] ?_
 refine WL.h rfl (ak (v:=(.slice eo e2.length ec)) (cs:=ik pa pc Df Sf (.slice to t2.length tc) (.slice eo e2.length ec)) fa rfl (aA (C:=C) fc ja) gA ⟨_,rfl,?_⟩)
 refine g_ [710,40,705,2] ?_
 refine gK rfl (fun L7=>?_) fun L7=>?_
 refine g_ [10] ?_
 refine aC (fun z:Nat=>z≤i2) (fun z:Nat=>[(10,.int .i64 (z:Int))]) (fun z:Nat=>C++(D++H)) (fun z:Nat=>i2-z) (0) (show 0≤i2 from dN _) (Sx.put rfl (gL)) fc ?_
 rintro k2 hI
 replace hI:k2≤i2:=hI
 obtain ma:=hI
 change WC _ _ _ _ _ _ ([(10,.int .i64 (k2:Int))]++_) (C++(D++H))
 refine g_ [5,705,2] ?_
 refine gK rfl (fun LQ=>?_) fun LQ=>?_
 obtain ⟨vb,vf,vcs,vT,HQ,HP,rfl,_,qL,kT⟩:=EG.Bj gz
 refine g_ [5,517] ?_
 refine w_ [0,1,1009,2] ?_
 refine iD 3 [2] rfl (ab (v:=(.slice (some ⟨vb,vf,none⟩) e2.length ec)) (cs:=ik pa pc Df Sf (.slice to t2.length tc) (.slice (some ⟨vb,vf,none⟩) e2.length ec)) fa rfl (aA (C:=C) fc ja) gA) ?_
 refine w_ [4] ?_
 refine gW 5 [4,3] rfl (Yd.indexAddr (e:=40) (s:=4) fa fa rfl rfl gz gz) fa ?_
 refine w_ [1000,6] ?_
 refine iD 7 [6] rfl (ab (cs:=vcs) fa rfl (aA (C:=C) fc qL) (vF (l:=e2) (i:=i2) (j:=0) kT gz gB)) ?_
 refine w_ [8,9,1009,10] ?_
 refine iD 11 [10] rfl (ab (v:=(.slice (some ⟨vb,vf,none⟩) e2.length ec)) (cs:=ik pa pc Df Sf (.slice to t2.length tc) (.slice (some ⟨vb,vf,none⟩) e2.length ec)) fa rfl (aA (C:=C) fc ja) gA) ?_
 refine w_ [12] ?_
 refine gW 13 [12,11] rfl (Yd.indexAddr (e:=40) (s:=4) fa fa rfl rfl gz gz) fa ?_
 refine w_ [1000,14] ?_
 refine iD 15 [14] rfl (ab (cs:=vcs) fa rfl (aA (C:=C) fc qL) (vF (l:=e2) (i:=k2) (j:=0) kT gz gB)) ?_
 refine gW 16 [15,7] rfl (aD _ _ rfl rfl rfl rfl) fa ?_
 refine lL (RX mY v hh (i:=i2) (j:=k2) gz gz) ?_
 refine gM ?_
 refine g_ [7,703,2] ?_
 exact ai (k2+1) (show (k2+1)≤i2 from gz) (show i2-(k2+1)<i2-k2 by omega) (Sx.put rfl (gL)) fc
 refine g_ [8,703,2] ?_
 exact ai (i2+1) (show (i2+1)≤e2.length from gz) (show e2.length-(i2+1)<e2.length-i2 by omega) (Sx.put rfl (gL)) fc
 refine g_ [11] ?_
 refine aR H (by (repeat (first|exact List.Sublist.refl _|apply List.sublist_append_of_sublist_right))) ?_
 exact aa results3 rfl (⟨rfl,rfl⟩)
 refine g_ [18] ?_
 refine aC (fun z:Nat=>z≤t2.length) (fun z:Nat=>[(7,.int .i64 (z:Int))]) (fun z:Nat=>C++(D++H)) (fun z:Nat=>t2.length-z) (0) (show 0≤t2.length from dN _) (Sx.put rfl (gL)) fc ?_
 rintro i2 hI
 replace hI:i2≤t2.length:=hI
 obtain jV:=hI
 change WC _ _ _ _ _ _ ([(7,.int .i64 (i2:Int))]++_) (C++(D++H))
 refine g_ [6,108] ?_
 refine WL.h rfl (ak (v:=(.slice to t2.length tc)) (cs:=ik pa pc Df Sf (.slice to t2.length tc) (.slice eo e2.length ec)) fa rfl (aA (C:=C) fc ja) gA ⟨_,rfl,?_⟩)
 refine g_ [710,40,705,2] ?_
 refine gK rfl (fun LZ=>?_) fun LZ=>?_
 refine g_ [10] ?_
 refine aC (fun z:Nat=>z≤i2) (fun z:Nat=>[(8,.int .i64 (z:Int))]) (fun z:Nat=>C++(D++H)) (fun z:Nat=>i2-z) (0) (show 0≤i2 from dN _) (Sx.put rfl (gL)) fc ?_
 rintro k2 hI
 replace hI:k2≤i2:=hI
 obtain ma:=hI
 change WC _ _ _ _ _ _ ([(8,.int .i64 (k2:Int))]++_) (C++(D++H))
 refine g_ [5,705,2] ?_
 refine gK rfl (fun tH=>?_) fun tH=>?_
 obtain ⟨vb,vf,vcs,vT,HQ,HP,rfl,_,qL,kT⟩:=EH.Bj gz
 refine g_ [5,536] ?_
 refine w_ [0,1,1008,2] ?_
 refine iD 3 [2] rfl (ab (v:=(.slice (some ⟨vb,vf,none⟩) t2.length tc)) (cs:=ik pa pc Df Sf (.slice (some ⟨vb,vf,none⟩) t2.length tc) (.slice eo e2.length ec)) fa rfl (aA (C:=C) fc ja) gA) ?_
 refine w_ [4] ?_
 refine gW 5 [4,3] rfl (Yd.indexAddr (e:=40) (s:=4) fa fa rfl rfl gz gz) fa ?_
 refine w_ [1000,6] ?_
 refine iD 7 [6] rfl (ab (cs:=vcs) fa rfl (aA (C:=C) fc qL) (vF (l:=t2) (i:=i2) (j:=0) kT gz gB)) ?_
 refine w_ [8,9,1008,10] ?_
 refine iD 11 [10] rfl (ab (v:=(.slice (some ⟨vb,vf,none⟩) t2.length tc)) (cs:=ik pa pc Df Sf (.slice (some ⟨vb,vf,none⟩) t2.length tc) (.slice eo e2.length ec)) fa rfl (aA (C:=C) fc ja) gA) ?_
 refine w_ [12] ?_
 refine gW 13 [12,11] rfl (Yd.indexAddr (e:=40) (s:=4) fa fa rfl rfl gz gz) fa ?_
 refine w_ [1000,14] ?_
 refine iD 15 [14] rfl (ab (cs:=vcs) fa rfl (aA (C:=C) fc qL) (vF (l:=t2) (i:=k2) (j:=0) kT gz gB)) ?_
 refine gW 16 [15,7] rfl (aD _ _ rfl rfl rfl rfl) fa ?_
 refine lL (KA mY v hh (i:=i2) (j:=k2) gz gz).1 ?_
 refine w_ [17,18,19,1008,20] ?_
 refine ki 21 [20,17] 73 rfl rfl rfl (ab (v:=(.slice (some ⟨vb,vf,none⟩) t2.length tc)) (cs:=ik pa pc Df Sf (.slice (some ⟨vb,vf,none⟩) t2.length tc) (.slice eo e2.length ec)) fa rfl (aA (C:=C) fc ja) gA) ?_
 refine w_ [22] ?_
 refine jP 23 [22,21,17] 73 rfl rfl (Yd.indexAddr (e:=40) (s:=4) fa fa rfl rfl gz gz) fa ?_
 refine w_ [1001,24] ?_
 refine ki 25 [24,17] 73 rfl rfl rfl (ab (cs:=vcs) fa rfl (aA (C:=C) fc qL) (vF (l:=t2) (i:=i2) (j:=1) kT gz gB)) ?_
 refine w_ [26,27,1008,28] ?_
 refine ki 29 [28,17] 73 rfl rfl rfl (ab (v:=(.slice (some ⟨vb,vf,none⟩) t2.length tc)) (cs:=ik pa pc Df Sf (.slice (some ⟨vb,vf,none⟩) t2.length tc) (.slice eo e2.length ec)) fa rfl (aA (C:=C) fc ja) gA) ?_
 refine w_ [30] ?_
 refine jP 31 [30,29,17] 73 rfl rfl (Yd.indexAddr (e:=40) (s:=4) fa fa rfl rfl gz gz) fa ?_
 refine w_ [1001,32] ?_
 refine ki 33 [32,17] 73 rfl rfl rfl (ab (cs:=vcs) fa rfl (aA (C:=C) fc qL) (vF (l:=t2) (i:=k2) (j:=1) kT gz gB)) ?_
 refine jP 34 [33,25,17] 73 rfl rfl (bN rfl rfl) fa ?_
 refine lL (fun q=>(KA mY v hh (i:=i2) (j:=k2) gz gz).2 (str_inj.1 q)) ?_
 refine w_ [35] ?_
 refine gM ?_
 refine g_ [7,703,2] ?_
 exact ai (k2+1) (show (k2+1)≤i2 from gz) (show i2-(k2+1)<i2-k2 by omega) (Sx.put rfl (gL)) fc
 refine g_ [8,703,2] ?_
 exact ai (i2+1) (show (i2+1)≤t2.length from gz) (show t2.length-(i2+1)<t2.length-i2 by omega) (Sx.put rfl (gL)) fc
 refine g_ [12] ?_
 refine aC (fun z:Nat=>z≤e2.length) (fun z:Nat=>[(9,.int .i64 (z:Int))]) (fun z:Nat=>C++(D++H)) (fun z:Nat=>e2.length-z) (0) (show 0≤e2.length from dN _) (Sx.put rfl (gL)) fc ?_
 rintro i2 hI
 replace hI:i2≤e2.length:=hI
 obtain jV:=hI
 change WC _ _ _ _ _ _ ([(9,.int .i64 (i2:Int))]++_) (C++(D++H))
 refine g_ [6,109] ?_
 refine WL.h rfl (ak (v:=(.slice eo e2.length ec)) (cs:=ik pa pc Df Sf (.slice to t2.length tc) (.slice eo e2.length ec)) fa rfl (aA (C:=C) fc ja) gA ⟨_,rfl,?_⟩)
 refine g_ [710,40,705,2] ?_
 refine gK rfl (fun L7=>?_) fun L7=>?_
 refine g_ [10] ?_
 refine aC (fun z:Nat=>z≤i2) (fun z:Nat=>[(10,.int .i64 (z:Int))]) (fun z:Nat=>C++(D++H)) (fun z:Nat=>i2-z) (0) (show 0≤i2 from dN _) (Sx.put rfl (gL)) fc ?_
 rintro k2 hI
 replace hI:k2≤i2:=hI
 obtain ma:=hI
 change WC _ _ _ _ _ _ ([(10,.int .i64 (k2:Int))]++_) (C++(D++H))
 refine g_ [5,705,2] ?_
 refine gK rfl (fun LQ=>?_) fun LQ=>?_
 obtain ⟨vb,vf,vcs,vT,HQ,HP,rfl,_,qL,kT⟩:=EG.Bj gz
 refine g_ [5,517] ?_
 refine w_ [0,1,1009,2] ?_
 refine iD 3 [2] rfl (ab (v:=(.slice (some ⟨vb,vf,none⟩) e2.length ec)) (cs:=ik pa pc Df Sf (.slice to t2.length tc) (.slice (some ⟨vb,vf,none⟩) e2.length ec)) fa rfl (aA (C:=C) fc ja) gA) ?_
 refine w_ [4] ?_
 refine gW 5 [4,3] rfl (Yd.indexAddr (e:=40) (s:=4) fa fa rfl rfl gz gz) fa ?_
 refine w_ [1000,6] ?_
 refine iD 7 [6] rfl (ab (cs:=vcs) fa rfl (aA (C:=C) fc qL) (vF (l:=e2) (i:=i2) (j:=0) kT gz gB)) ?_
 refine w_ [8,9,1009,10] ?_
 refine iD 11 [10] rfl (ab (v:=(.slice (some ⟨vb,vf,none⟩) e2.length ec)) (cs:=ik pa pc Df Sf (.slice to t2.length tc) (.slice (some ⟨vb,vf,none⟩) e2.length ec)) fa rfl (aA (C:=C) fc ja) gA) ?_
 refine w_ [12] ?_
 refine gW 13 [12,11] rfl (Yd.indexAddr (e:=40) (s:=4) fa fa rfl rfl gz gz) fa ?_
 refine w_ [1000,14] ?_
 refine iD 15 [14] rfl (ab (cs:=vcs) fa rfl (aA (C:=C) fc qL) (vF (l:=e2) (i:=k2) (j:=0) kT gz gB)) ?_
 refine gW 16 [15,7] rfl (aD _ _ rfl rfl rfl rfl) fa ?_
 refine lL (RX mY v hh (i:=i2) (j:=k2) gz gz) ?_
 refine gM ?_
 refine g_ [7,703,2] ?_
 exact ai (k2+1) (show (k2+1)≤i2 from gz) (show i2-(k2+1)<i2-k2 by omega) (Sx.put rfl (gL)) fc
 refine g_ [8,703,2] ?_
 exact ai (i2+1) (show (i2+1)≤e2.length from gz) (show e2.length-(i2+1)<e2.length-i2 by omega) (Sx.put rfl (gL)) fc
 refine g_ [11] ?_
 refine aR H (by (repeat (first|exact List.Sublist.refl _|apply List.sublist_append_of_sublist_right))) ?_
 exact aa results3 rfl (⟨rfl,rfl⟩)
end Go.Proofs.YtchdmlkiggdhaaaGreat
