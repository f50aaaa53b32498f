/-
  Lemmas and walks that TopSolo stands on (its own part); no condition.
-/
import Derived.Test.YtchdmlkiggdhaaaGreatTopB13
set_option linter.unusedVariables false
set_option linter.unusedSimpArgs false
set_option maxHeartbeats 4000000
namespace Go.Proofs.YtchdmlkiggdhaaaGreat
open Go.SL Top Go.Proofs.Tryz
attribute [local irreducible] WL WC DN gZ iX
def nI (e:En) (a:jt):Prop:=(a.code=0∧e.kind=2∧e.order=a.order∧e.key=a.key∧e.data=a.data)∨(0<a.code∧e.kind=5∧e.order=a.order∧e.code=a.code)
theorem ahP (w:Nat) (k:Bool) (g:Gs) (told ends:List jt) (C:List Ck) (hW:WA w k g told ends C) (hb:(g.J k).length≤125) (a:jt) (H:List Ck):gC prog 9 [ptr w,.int .i64 (kI k),.agg (jY a).toArray] (C++H) fun r0 gr=>∃z D,r0=.bool z∧((∃e∈g.J k,nI e a)→z=true)∧gr=C++(D++H):=by
 refine gC.enter func9 rfl ntmps9 rfl ?_
 intro w0 R
 obtain ⟨pa,pc,p,pd,vt,ve,CC,S1,S2,CT,CE,rfl,hC,hS,mu,hT,hE⟩:=hW
 refine gY (iV fun b5=>?_)
 refine g_ [8,105] ?_
 refine ae rfl (aN (e:=32) (s:=1) fa fa rfl rfl (qa k) (p8 k)) ?_
 refine WL.h rfl (ak (v:=ptr (p k)) (cs:=(ik pa pc (fun b9=>ptr (pd b9)) (fun b9=>ptr (p b9)) vt ve)) fa rfl iz (by cases k<;>rfl) ⟨_,rfl,?_⟩)
 refine c_ call27 rfl (WZ mY (hS.v fun c hc=>hc) hb) ?_
 rintro KF Ig ⟨A3,uH,rfl⟩
 obtain ⟨eo,ec,rfl,_⟩:=VS.form (EO.ev uH)
 refine g_ [10] ?_
 refine aC (fun z:Nat×List Ck=>z.1≤(g.J k).length∧∀x∈(g.J k).take z.1,¬nI x a) (fun z:Nat×List Ck=>[(8,.int .i64 (z.1:Int))]) (fun z:Nat×List Ck=>(row w (ik pa pc (fun b9=>ptr (pd b9)) (fun b9=>ptr (p b9)) vt ve) 36::(row pa (jr g.a) 73::(CC++(S1++(S2++(CT++CE))))))++(([row b5 (jY a) 40]++(A3++z.2))++H)) (fun z:Nat×List Ck=>(g.J k).length-z.1) (⟨0,[]⟩) (show 0≤(g.J k).length∧∀x∈(g.J k).take 0,¬nI x a from ⟨dN _,fun x hx=>absurd hx ej⟩) (Sx.put rfl (gL)) fc ?_
 rintro ⟨i,D⟩ hI
 replace hI:i≤(g.J k).length∧∀x∈(g.J k).take i,¬nI x a:=hI
 obtain ⟨hi,jf⟩:=hI
 change WC _ _ _ _ _ _ ([(8,.int .i64 (i:Int))]++_) ((row w (ik pa pc (fun b9=>ptr (pd b9)) (fun b9=>ptr (p b9)) vt ve) 36::(row pa (jr g.a) 73::(CC++(S1++(S2++(CT++CE))))))++(([row b5 (jY a) 40]++(A3++D))++H))
 refine g_ [5,710,77,705,2] ?_
 refine gK rfl (fun pw=>?_) fun pw=>?_
 have gQ:i<(g.J k).length:=by omega
 obtain ⟨b1,o1,si,lV,T1,ra,qY,kL,zi,kM,c1,⟨DG,DF,rfl,np,nL⟩,rY⟩:=VS.rowAt (EO.ev uH) (i:=i) gQ gB
 simp only[dI,eD] at kL
 obtain ⟨rfl,rfl⟩:=kL
 obtain ⟨kW,kV,rfl,_⟩:=np.form
 obtain ⟨lq,lp,rfl,_⟩:=nL.form
 have oU:(g.J k).take (i+1)=(g.J k).take i++[(g.J k)[i]]:=dJ gQ
 refine g_ [8,711,77,11] ?_
 refine WL.h rfl (aJ (n:=11) (vs:=enc (g.J k)[i] (.slice kW (g.J k)[i].key.length kV) (.slice lq (g.J k)[i].data.length lp)) (cs:=lV) fa rfl (aA (C:=A3) fc kM) rfl (by rw[show o1+((i:Int)).toNat*11=o1+i*11 by omega];exact rY) ⟨_,rfl,?_⟩)
 refine iS lh fun b9=>?_
 refine g_ [311,5,103,1,701,1] ?_
 refine ag (t:=30) rfl (fun py=>?_) (fun py=>?_)
 refine g_ [100,1,701,2] ?_
 refine ag (t:=35) rfl (fun ou=>?_) (fun ou=>?_)
 refine g_ [103,1,100,1] ?_
 refine jx 35 rfl rfl rfl (aD _ _ rfl rfl rfl rfl) (g_ [2] ?_)
 refine ag (t:=42) rfl (fun mQ=>?_) (fun mQ=>?_)
 refine g_ [109,1] ?_
 refine aS (dj:=42) rfl rfl rfl (aM (e:=5) (bs:=(g.J k)[i].key) fa fa underlying9 rfl (np.mono (Sp.sub fc)) ⟨_,rfl,?_⟩)
 refine g_ [101,1] ?_
 refine jx 42 rfl rfl rfl (bN rfl rfl) (g_ [2] ?_)
 refine ag (t:=50) rfl (fun ye=>?_) (fun ye=>?_)
 refine g_ [110,1] ?_
 refine aS (dj:=50) rfl rfl rfl (aM (e:=5) (bs:=(g.J k)[i].data) fa fa underlying9 rfl (nL.mono (Sp.sub fc)) ⟨_,rfl,?_⟩)
 refine g_ [102,1] ?_
 refine jx 50 rfl rfl rfl (bN rfl rfl) (g_ [3] ?_)
 refine gK rfl (fun za=>?_) fun za=>?_
 refine g_ [12] ?_
 refine gH ((row w (ik pa pc (fun b9=>ptr (pd b9)) (fun b9=>ptr (p b9)) vt ve) 36::(row pa (jr g.a) 73::(CC++(S1++(S2++(CT++CE))))))++(([row b5 (jY a) 40]++(A3++([row b9 (enc (g.J k)[i] (.slice kW (g.J k)[i].key.length kV) (.slice lq (g.J k)[i].data.length lp)) 77]++D)))++H)) ?_
 exact aa results9 rfl (⟨true,_,rfl,fun _=>rfl,rfl⟩)
 refine g_ [4,103,1,707,1] ?_
 refine ag (t:=61) rfl (fun tO=>?_) (fun tO=>?_)
 refine g_ [100,1,701,2] ?_
 refine ag (t:=66) rfl (fun tP=>?_) (fun tP=>?_)
 refine g_ [103,1,100,1] ?_
 refine jx 66 rfl rfl rfl (aD _ _ rfl rfl rfl rfl) (g_ [2] ?_)
 refine ag (t:=73) rfl (fun qq=>?_) (fun qq=>?_)
 refine g_ [107,1,103,1,701,3] ?_
 refine gK rfl (fun ri=>?_) fun ri=>?_
 refine g_ [11] ?_
 refine gH ((row w (ik pa pc (fun b9=>ptr (pd b9)) (fun b9=>ptr (p b9)) vt ve) 36::(row pa (jr g.a) 73::(CC++(S1++(S2++(CT++CE))))))++(([row b5 (jY a) 40]++(A3++([row b9 (enc (g.J k)[i] (.slice kW (g.J k)[i].key.length kV) (.slice lq (g.J k)[i].data.length lp)) 77]++D)))++H)) ?_
 exact aa results9 rfl (⟨true,_,rfl,fun _=>rfl,rfl⟩)
 refine g_ [5,703,2] ?_
 exact ai (⟨i+1,[row b9 (enc (g.J k)[i] (.slice kW (g.J k)[i].key.length kV) (.slice lq (g.J k)[i].data.length lp)) 77]++D⟩) (show (i+1)≤(g.J k).length∧∀x∈(g.J k).take (i+1),¬nI x a from ⟨by omega,fun x hx ji=>by
   rw[oU] at hx
   rcases dT.1 hx with hx|hx
   · exact jf x hx ji
   rw[dH.1 hx] at ji
   rcases ji with ⟨c0,k2,ho,pA,px⟩|⟨cp,k5,ho,mC⟩
   · exact za (by rw[px])
   exact ri mC⟩) (show (g.J k).length-(i+1)<(g.J k).length-i by omega) (Sx.put rfl (gL)) fc
 refine g_ [14,703,2] ?_
 exact ai (⟨i+1,[row b9 (enc (g.J k)[i] (.slice kW (g.J k)[i].key.length kV) (.slice lq (g.J k)[i].data.length lp)) 77]++D⟩) (show (i+1)≤(g.J k).length∧∀x∈(g.J k).take (i+1),¬nI x a from ⟨by omega,fun x hx ji=>by
   rw[oU] at hx
   rcases dT.1 hx with hx|hx
   · exact jf x hx ji
   rw[dH.1 hx] at ji
   rcases ji with ⟨c0,k2,ho,pA,px⟩|⟨cp,k5,ho,mC⟩
   · exact za (by rw[px])
   exact qq ho⟩) (show (g.J k).length-(i+1)<(g.J k).length-i by omega) (Sx.put rfl (gL)) fc
 refine g_ [21,703,2] ?_
 exact ai (⟨i+1,[row b9 (enc (g.J k)[i] (.slice kW (g.J k)[i].key.length kV) (.slice lq (g.J k)[i].data.length lp)) 77]++D⟩) (show (i+1)≤(g.J k).length∧∀x∈(g.J k).take (i+1),¬nI x a from ⟨by omega,fun x hx ji=>by
   rw[oU] at hx
   rcases dT.1 hx with hx|hx
   · exact jf x hx ji
   rw[dH.1 hx] at ji
   rcases ji with ⟨c0,k2,ho,pA,px⟩|⟨cp,k5,ho,mC⟩
   · exact za (by rw[px])
   exact tP k5⟩) (show (g.J k).length-(i+1)<(g.J k).length-i by omega) (Sx.put rfl (gL)) fc
 refine g_ [26,703,2] ?_
 exact ai (⟨i+1,[row b9 (enc (g.J k)[i] (.slice kW (g.J k)[i].key.length kV) (.slice lq (g.J k)[i].data.length lp)) 77]++D⟩) (show (i+1)≤(g.J k).length∧∀x∈(g.J k).take (i+1),¬nI x a from ⟨by omega,fun x hx ji=>by
   rw[oU] at hx
   rcases dT.1 hx with hx|hx
   · exact jf x hx ji
   rw[dH.1 hx] at ji
   rcases ji with ⟨c0,k2,ho,pA,px⟩|⟨cp,k5,ho,mC⟩
   · exact za (by rw[px])
   exact tO cp⟩) (show (g.J k).length-(i+1)<(g.J k).length-i by omega) (Sx.put rfl (gL)) fc
 refine g_ [14,103,1,707,1] ?_
 refine ag (t:=61) rfl (fun tO=>?_) (fun tO=>?_)
 refine g_ [100,1,701,2] ?_
 refine ag (t:=66) rfl (fun tP=>?_) (fun tP=>?_)
 refine g_ [103,1,100,1] ?_
 refine jx 66 rfl rfl rfl (aD _ _ rfl rfl rfl rfl) (g_ [2] ?_)
 refine ag (t:=73) rfl (fun qq=>?_) (fun qq=>?_)
 refine g_ [107,1,103,1,701,3] ?_
 refine gK rfl (fun ri=>?_) fun ri=>?_
 refine g_ [11] ?_
 refine gH ((row w (ik pa pc (fun b9=>ptr (pd b9)) (fun b9=>ptr (p b9)) vt ve) 36::(row pa (jr g.a) 73::(CC++(S1++(S2++(CT++CE))))))++(([row b5 (jY a) 40]++(A3++([row b9 (enc (g.J k)[i] (.slice kW (g.J k)[i].key.length kV) (.slice lq (g.J k)[i].data.length lp)) 77]++D)))++H)) ?_
 exact aa results9 rfl (⟨true,_,rfl,fun _=>rfl,rfl⟩)
 refine g_ [5,703,2] ?_
 exact ai (⟨i+1,[row b9 (enc (g.J k)[i] (.slice kW (g.J k)[i].key.length kV) (.slice lq (g.J k)[i].data.length lp)) 77]++D⟩) (show (i+1)≤(g.J k).length∧∀x∈(g.J k).take (i+1),¬nI x a from ⟨by omega,fun x hx ji=>by
   rw[oU] at hx
   rcases dT.1 hx with hx|hx
   · exact jf x hx ji
   rw[dH.1 hx] at ji
   rcases ji with ⟨c0,k2,ho,pA,px⟩|⟨cp,k5,ho,mC⟩
   · exact ye (by rw[pA])
   exact ri mC⟩) (show (g.J k).length-(i+1)<(g.J k).length-i by omega) (Sx.put rfl (gL)) fc
 refine g_ [14,703,2] ?_
 exact ai (⟨i+1,[row b9 (enc (g.J k)[i] (.slice kW (g.J k)[i].key.length kV) (.slice lq (g.J k)[i].data.length lp)) 77]++D⟩) (show (i+1)≤(g.J k).length∧∀x∈(g.J k).take (i+1),¬nI x a from ⟨by omega,fun x hx ji=>by
   rw[oU] at hx
   rcases dT.1 hx with hx|hx
   · exact jf x hx ji
   rw[dH.1 hx] at ji
   rcases ji with ⟨c0,k2,ho,pA,px⟩|⟨cp,k5,ho,mC⟩
   · exact ye (by rw[pA])
   exact qq ho⟩) (show (g.J k).length-(i+1)<(g.J k).length-i by omega) (Sx.put rfl (gL)) fc
 refine g_ [21,703,2] ?_
 exact ai (⟨i+1,[row b9 (enc (g.J k)[i] (.slice kW (g.J k)[i].key.length kV) (.slice lq (g.J k)[i].data.length lp)) 77]++D⟩) (show (i+1)≤(g.J k).length∧∀x∈(g.J k).take (i+1),¬nI x a from ⟨by omega,fun x hx ji=>by
   rw[oU] at hx
   rcases dT.1 hx with hx|hx
   · exact jf x hx ji
   rw[dH.1 hx] at ji
   rcases ji with ⟨c0,k2,ho,pA,px⟩|⟨cp,k5,ho,mC⟩
   · exact ye (by rw[pA])
   exact tP k5⟩) (show (g.J k).length-(i+1)<(g.J k).length-i by omega) (Sx.put rfl (gL)) fc
 refine g_ [26,703,2] ?_
 exact ai (⟨i+1,[row b9 (enc (g.J k)[i] (.slice kW (g.J k)[i].key.length kV) (.slice lq (g.J k)[i].data.length lp)) 77]++D⟩) (show (i+1)≤(g.J k).length∧∀x∈(g.J k).take (i+1),¬nI x a from ⟨by omega,fun x hx ji=>by
   rw[oU] at hx
   rcases dT.1 hx with hx|hx
   · exact jf x hx ji
   rw[dH.1 hx] at ji
   rcases ji with ⟨c0,k2,ho,pA,px⟩|⟨cp,k5,ho,mC⟩
   · exact ye (by rw[pA])
   exact tO cp⟩) (show (g.J k).length-(i+1)<(g.J k).length-i by omega) (Sx.put rfl (gL)) fc
 refine g_ [22,103,1,707,1] ?_
 refine ag (t:=61) rfl (fun tO=>?_) (fun tO=>?_)
 refine g_ [100,1,701,2] ?_
 refine ag (t:=66) rfl (fun tP=>?_) (fun tP=>?_)
 refine g_ [103,1,100,1] ?_
 refine jx 66 rfl rfl rfl (aD _ _ rfl rfl rfl rfl) (g_ [2] ?_)
 refine ag (t:=73) rfl (fun qq=>?_) (fun qq=>?_)
 refine g_ [107,1,103,1,701,3] ?_
 refine gK rfl (fun ri=>?_) fun ri=>?_
 refine g_ [11] ?_
 refine gH ((row w (ik pa pc (fun b9=>ptr (pd b9)) (fun b9=>ptr (p b9)) vt ve) 36::(row pa (jr g.a) 73::(CC++(S1++(S2++(CT++CE))))))++(([row b5 (jY a) 40]++(A3++([row b9 (enc (g.J k)[i] (.slice kW (g.J k)[i].key.length kV) (.slice lq (g.J k)[i].data.length lp)) 77]++D)))++H)) ?_
 exact aa results9 rfl (⟨true,_,rfl,fun _=>rfl,rfl⟩)
 refine g_ [5,703,2] ?_
 exact ai (⟨i+1,[row b9 (enc (g.J k)[i] (.slice kW (g.J k)[i].key.length kV) (.slice lq (g.J k)[i].data.length lp)) 77]++D⟩) (show (i+1)≤(g.J k).length∧∀x∈(g.J k).take (i+1),¬nI x a from ⟨by omega,fun x hx ji=>by
   rw[oU] at hx
   rcases dT.1 hx with hx|hx
   · exact jf x hx ji
   rw[dH.1 hx] at ji
   rcases ji with ⟨c0,k2,ho,pA,px⟩|⟨cp,k5,ho,mC⟩
   · exact mQ ho
   exact ri mC⟩) (show (g.J k).length-(i+1)<(g.J k).length-i by omega) (Sx.put rfl (gL)) fc
 refine g_ [14,703,2] ?_
 exact ai (⟨i+1,[row b9 (enc (g.J k)[i] (.slice kW (g.J k)[i].key.length kV) (.slice lq (g.J k)[i].data.length lp)) 77]++D⟩) (show (i+1)≤(g.J k).length∧∀x∈(g.J k).take (i+1),¬nI x a from ⟨by omega,fun x hx ji=>by
   rw[oU] at hx
   rcases dT.1 hx with hx|hx
   · exact jf x hx ji
   rw[dH.1 hx] at ji
   rcases ji with ⟨c0,k2,ho,pA,px⟩|⟨cp,k5,ho,mC⟩
   · exact mQ ho
   exact qq ho⟩) (show (g.J k).length-(i+1)<(g.J k).length-i by omega) (Sx.put rfl (gL)) fc
 refine g_ [21,703,2] ?_
 exact ai (⟨i+1,[row b9 (enc (g.J k)[i] (.slice kW (g.J k)[i].key.length kV) (.slice lq (g.J k)[i].data.length lp)) 77]++D⟩) (show (i+1)≤(g.J k).length∧∀x∈(g.J k).take (i+1),¬nI x a from ⟨by omega,fun x hx ji=>by
   rw[oU] at hx
   rcases dT.1 hx with hx|hx
   · exact jf x hx ji
   rw[dH.1 hx] at ji
   rcases ji with ⟨c0,k2,ho,pA,px⟩|⟨cp,k5,ho,mC⟩
   · exact mQ ho
   exact tP k5⟩) (show (g.J k).length-(i+1)<(g.J k).length-i by omega) (Sx.put rfl (gL)) fc
 refine g_ [26,703,2] ?_
 exact ai (⟨i+1,[row b9 (enc (g.J k)[i] (.slice kW (g.J k)[i].key.length kV) (.slice lq (g.J k)[i].data.length lp)) 77]++D⟩) (show (i+1)≤(g.J k).length∧∀x∈(g.J k).take (i+1),¬nI x a from ⟨by omega,fun x hx ji=>by
   rw[oU] at hx
   rcases dT.1 hx with hx|hx
   · exact jf x hx ji
   rw[dH.1 hx] at ji
   rcases ji with ⟨c0,k2,ho,pA,px⟩|⟨cp,k5,ho,mC⟩
   · exact mQ ho
   exact tO cp⟩) (show (g.J k).length-(i+1)<(g.J k).length-i by omega) (Sx.put rfl (gL)) fc
 refine g_ [29,103,1,707,1] ?_
 refine ag (t:=61) rfl (fun tO=>?_) (fun tO=>?_)
 refine g_ [100,1,701,2] ?_
 refine ag (t:=66) rfl (fun tP=>?_) (fun tP=>?_)
 refine g_ [103,1,100,1] ?_
 refine jx 66 rfl rfl rfl (aD _ _ rfl rfl rfl rfl) (g_ [2] ?_)
 refine ag (t:=73) rfl (fun qq=>?_) (fun qq=>?_)
 refine g_ [107,1,103,1,701,3] ?_
 refine gK rfl (fun ri=>?_) fun ri=>?_
 refine g_ [11] ?_
 refine gH ((row w (ik pa pc (fun b9=>ptr (pd b9)) (fun b9=>ptr (p b9)) vt ve) 36::(row pa (jr g.a) 73::(CC++(S1++(S2++(CT++CE))))))++(([row b5 (jY a) 40]++(A3++([row b9 (enc (g.J k)[i] (.slice kW (g.J k)[i].key.length kV) (.slice lq (g.J k)[i].data.length lp)) 77]++D)))++H)) ?_
 exact aa results9 rfl (⟨true,_,rfl,fun _=>rfl,rfl⟩)
 refine g_ [5,703,2] ?_
 exact ai (⟨i+1,[row b9 (enc (g.J k)[i] (.slice kW (g.J k)[i].key.length kV) (.slice lq (g.J k)[i].data.length lp)) 77]++D⟩) (show (i+1)≤(g.J k).length∧∀x∈(g.J k).take (i+1),¬nI x a from ⟨by omega,fun x hx ji=>by
   rw[oU] at hx
   rcases dT.1 hx with hx|hx
   · exact jf x hx ji
   rw[dH.1 hx] at ji
   rcases ji with ⟨c0,k2,ho,pA,px⟩|⟨cp,k5,ho,mC⟩
   · exact ou k2
   exact ri mC⟩) (show (g.J k).length-(i+1)<(g.J k).length-i by omega) (Sx.put rfl (gL)) fc
 refine g_ [14,703,2] ?_
 exact ai (⟨i+1,[row b9 (enc (g.J k)[i] (.slice kW (g.J k)[i].key.length kV) (.slice lq (g.J k)[i].data.length lp)) 77]++D⟩) (show (i+1)≤(g.J k).length∧∀x∈(g.J k).take (i+1),¬nI x a from ⟨by omega,fun x hx ji=>by
   rw[oU] at hx
   rcases dT.1 hx with hx|hx
   · exact jf x hx ji
   rw[dH.1 hx] at ji
   rcases ji with ⟨c0,k2,ho,pA,px⟩|⟨cp,k5,ho,mC⟩
   · exact ou k2
   exact qq ho⟩) (show (g.J k).length-(i+1)<(g.J k).length-i by omega) (Sx.put rfl (gL)) fc
 refine g_ [21,703,2] ?_
 exact ai (⟨i+1,[row b9 (enc (g.J k)[i] (.slice kW (g.J k)[i].key.length kV) (.slice lq (g.J k)[i].data.length lp)) 77]++D⟩) (show (i+1)≤(g.J k).length∧∀x∈(g.J k).take (i+1),¬nI x a from ⟨by omega,fun x hx ji=>by
   rw[oU] at hx
   rcases dT.1 hx with hx|hx
   · exact jf x hx ji
   rw[dH.1 hx] at ji
   rcases ji with ⟨c0,k2,ho,pA,px⟩|⟨cp,k5,ho,mC⟩
   · exact ou k2
   exact tP k5⟩) (show (g.J k).length-(i+1)<(g.J k).length-i by omega) (Sx.put rfl (gL)) fc
 refine g_ [26,703,2] ?_
 exact ai (⟨i+1,[row b9 (enc (g.J k)[i] (.slice kW (g.J k)[i].key.length kV) (.slice lq (g.J k)[i].data.length lp)) 77]++D⟩) (show (i+1)≤(g.J k).length∧∀x∈(g.J k).take (i+1),¬nI x a from ⟨by omega,fun x hx ji=>by
   rw[oU] at hx
   rcases dT.1 hx with hx|hx
   · exact jf x hx ji
   rw[dH.1 hx] at ji
   rcases ji with ⟨c0,k2,ho,pA,px⟩|⟨cp,k5,ho,mC⟩
   · exact ou k2
   exact tO cp⟩) (show (g.J k).length-(i+1)<(g.J k).length-i by omega) (Sx.put rfl (gL)) fc
 refine g_ [34,103,1,707,1] ?_
 refine ag (t:=61) rfl (fun tO=>?_) (fun tO=>?_)
 refine g_ [100,1,701,2] ?_
 refine ag (t:=66) rfl (fun tP=>?_) (fun tP=>?_)
 refine g_ [103,1,100,1] ?_
 refine jx 66 rfl rfl rfl (aD _ _ rfl rfl rfl rfl) (g_ [2] ?_)
 refine ag (t:=73) rfl (fun qq=>?_) (fun qq=>?_)
 refine g_ [107,1,103,1,701,3] ?_
 refine gK rfl (fun ri=>?_) fun ri=>?_
 refine g_ [11] ?_
 refine gH ((row w (ik pa pc (fun b9=>ptr (pd b9)) (fun b9=>ptr (p b9)) vt ve) 36::(row pa (jr g.a) 73::(CC++(S1++(S2++(CT++CE))))))++(([row b5 (jY a) 40]++(A3++([row b9 (enc (g.J k)[i] (.slice kW (g.J k)[i].key.length kV) (.slice lq (g.J k)[i].data.length lp)) 77]++D)))++H)) ?_
 exact aa results9 rfl (⟨true,_,rfl,fun _=>rfl,rfl⟩)
 refine g_ [5,703,2] ?_
 exact ai (⟨i+1,[row b9 (enc (g.J k)[i] (.slice kW (g.J k)[i].key.length kV) (.slice lq (g.J k)[i].data.length lp)) 77]++D⟩) (show (i+1)≤(g.J k).length∧∀x∈(g.J k).take (i+1),¬nI x a from ⟨by omega,fun x hx ji=>by
   rw[oU] at hx
   rcases dT.1 hx with hx|hx
   · exact jf x hx ji
   rw[dH.1 hx] at ji
   rcases ji with ⟨c0,k2,ho,pA,px⟩|⟨cp,k5,ho,mC⟩
   · exact py c0
   exact ri mC⟩) (show (g.J k).length-(i+1)<(g.J k).length-i by omega) (Sx.put rfl (gL)) fc
 refine g_ [14,703,2] ?_
 exact ai (⟨i+1,[row b9 (enc (g.J k)[i] (.slice kW (g.J k)[i].key.length kV) (.slice lq (g.J k)[i].data.length lp)) 77]++D⟩) (show (i+1)≤(g.J k).length∧∀x∈(g.J k).take (i+1),¬nI x a from ⟨by omega,fun x hx ji=>by
   rw[oU] at hx
   rcases dT.1 hx with hx|hx
   · exact jf x hx ji
   rw[dH.1 hx] at ji
   rcases ji with ⟨c0,k2,ho,pA,px⟩|⟨cp,k5,ho,mC⟩
   · exact py c0
   exact qq ho⟩) (show (g.J k).length-(i+1)<(g.J k).length-i by omega) (Sx.put rfl (gL)) fc
 refine g_ [21,703,2] ?_
 exact ai (⟨i+1,[row b9 (enc (g.J k)[i] (.slice kW (g.J k)[i].key.length kV) (.slice lq (g.J k)[i].data.length lp)) 77]++D⟩) (show (i+1)≤(g.J k).length∧∀x∈(g.J k).take (i+1),¬nI x a from ⟨by omega,fun x hx ji=>by
   rw[oU] at hx
   rcases dT.1 hx with hx|hx
   · exact jf x hx ji
   rw[dH.1 hx] at ji
   rcases ji with ⟨c0,k2,ho,pA,px⟩|⟨cp,k5,ho,mC⟩
   · exact py c0
   exact tP k5⟩) (show (g.J k).length-(i+1)<(g.J k).length-i by omega) (Sx.put rfl (gL)) fc
 refine g_ [26,703,2] ?_
 exact ai (⟨i+1,[row b9 (enc (g.J k)[i] (.slice kW (g.J k)[i].key.length kV) (.slice lq (g.J k)[i].data.length lp)) 77]++D⟩) (show (i+1)≤(g.J k).length∧∀x∈(g.J k).take (i+1),¬nI x a from ⟨by omega,fun x hx ji=>by
   rw[oU] at hx
   rcases dT.1 hx with hx|hx
   · exact jf x hx ji
   rw[dH.1 hx] at ji
   rcases ji with ⟨c0,k2,ho,pA,px⟩|⟨cp,k5,ho,mC⟩
   · exact py c0
   exact tO cp⟩) (show (g.J k).length-(i+1)<(g.J k).length-i by omega) (Sx.put rfl (gL)) fc
 have lY:i=(g.J k).length:=by omega
 subst lY
 rw[eH] at jf
 refine g_ [11] ?_
 refine gH ((row w (ik pa pc (fun b9=>ptr (pd b9)) (fun b9=>ptr (p b9)) vt ve) 36::(row pa (jr g.a) 73::(CC++(S1++(S2++(CT++CE))))))++(([row b5 (jY a) 40]++(A3++D))++H)) ?_
 exact aa results9 rfl (⟨false,_,rfl,fun ⟨e,he,ji⟩=>absurd ji (jf e he),rfl⟩)
theorem Xp (w:Nat) (g:Gs) (told ends:List jt) (C:List Ck) (hW:WA w false g told ends C) (j:Bool) (hb:(g.J j).length≤125) (a:jt) (H:List Ck):gC prog 9 [ptr w,.int .i64 (kI j),.agg (jY a).toArray] (C++H) fun r0 gr=>∃z D,r0=.bool z∧((∃e∈g.J j,nI e a)→z=true)∧gr=C++(D++H):=by
  obtain ⟨C2,hp,j3⟩:=hW.yz j
  refine z6 (Pm (ahP w j g told ends C2 j3 hb a H) (hp.append_right H)) ?_
  rintro r0 gr ⟨z,D,h1,h2,rfl⟩
  exact ⟨C++(D++H),hp.symm.append_right _,z,D,h1,h2,rfl⟩
theorem ahh {g:Gs} {G:List En} {m mc:Nat} (v:iR kF g G m mc) {told ends:List jt} {n:Nat} (h:lU G told ends n) {i:Nat} (hi:i<told.length):∃e∈g.J (ws g G).h,nI e told[i]:=by
  obtain ⟨h1,e,he,h2,h3,h4,h5⟩:=h.t2 _ (dG hi)
  exact ⟨e,LN v e he,.inl ⟨h1,h2,h3.symm,h4.symm,h5.symm⟩⟩
theorem aah {g:Gs} {G:List En} {m mc:Nat} (v:iR kF g G m mc) {told ends:List jt} {n:Nat} (h:lU G told ends n) {i:Nat} (hi:i<ends.length):∃e∈g.J (ws g G).h,nI e ends[i]:=by
  obtain ⟨_,_,e,he,h2,h3,h4⟩:=h.e2 _ (dG hi)
  refine ⟨e,LN v e he,.inr ⟨?_,h2,h3.symm,h4.symm⟩⟩
  have hf:=(ER mY (v.fold (ws g G).h)).ok e (LN v e he)
  rcases hf.2.2 with q|⟨q,_⟩|⟨q,_⟩|⟨q,_⟩|⟨q,_,q2,_⟩
  · have:=congrArg En.kind q;rw[h2] at this;cases this
  · have:=congrArg En.kind q;rw[h2] at this;cases this
  · have:=congrArg En.kind q;rw[h2] at this;cases this
  · have:=congrArg En.kind q;rw[h2] at this;cases this
  rw[h4];omega
theorem QL {cs:List Value} {l:List jt} {o i:Nat} (h:(cs.drop o).take (l.flatMap jY).length=l.flatMap jY) (hi:i<l.length):(cs.drop (o+i*4)).take 4=jY l[i]:=by
  have h1:=Ip l i hi
  have hl:=K3 l
  rw[←h1,←h,List.drop_take,gv,gd,eE gz]
theorem ad0 (v9:Value) (l:List Mv) (H:List Ck) (hv:Rs v9 l.length (Bn l) H) (hl:l.length≤9223372036854775807):Reads prog 4 [v9] H (.bool true):=by
 refine gC.enter func4 rfl ntmps4 rfl ?_
 intro w0 R
 obtain ⟨ao,ac,rfl,Ct⟩:=hv.form
 refine g_ [7] ?_
 refine c_ call5 rfl (Xn []) ?_
 rintro x8 H8 ⟨w,C0,D0,rfl,Mx,rfl⟩
 refine g_ [7] ?_
 refine ae rfl (an underlying23 rfl rfl) (g_ [1010,12] ?_)
 refine aC (fun z:Nat×Gs×List En×List jt×List jt×List Ck×List Ck=>z.1≤l.length∧z.1≤120∧WA w false z.2.1 z.2.2.2.1 z.2.2.2.2.1 z.2.2.2.2.2.1∧iR kF z.2.1 z.2.2.1 z.1 z.1∧lU z.2.2.1 z.2.2.2.1 z.2.2.2.2.1 (12*z.1)) (fun z:Nat×Gs×List En×List jt×List jt×List Ck×List Ck=>[(4,.int .i64 (z.1:Int))]) (fun z:Nat×Gs×List En×List jt×List jt×List Ck×List Ck=>z.2.2.2.2.2.1++(z.2.2.2.2.2.2++H)) (fun z:Nat×Gs×List En×List jt×List jt×List Ck×List Ck=>l.length-z.1) (⟨0,y4,[],[],[],C0,D0⟩) (show 0≤l.length∧0≤120∧WA w false y4 [] [] C0∧iR kF y4 [] 0 0∧lU [] [] [] (12*0) from ⟨dN _,dN _,Mx,Su,Tr⟩) (Sx.put rfl (gL)) fc ?_
 rintro ⟨i,g,G,t2,e2,C,D⟩ hI
 replace hI:i≤l.length∧i≤120∧WA w false g t2 e2 C∧iR kF g G i i∧lU G t2 e2 (12*i):=hI
 obtain ⟨hi,qH,hW,v,hh⟩:=hI
 change WC _ _ _ _ _ _ ([(4,.int .i64 (i:Int))]++_) (C++(D++H))
 refine g_ [5,710,27,705,1] ?_
 refine ag (t:=15) rfl (fun rS=>?_) (fun rS=>?_)
 refine g_ [1,705,3] ?_
 refine gK rfl (fun pX=>?_) fun pX=>?_
 have gQ:i<l.length:=by omega
 obtain ⟨a1,a2,a3,a4,a5,Mz⟩:=Vn l i gQ
 refine g_ [9] ?_
 refine cf (e:=27) (s:=5) fa fa fa rfl rfl (rfl) (hv.mono hZ) (Mz) gA gz (gQ) rfl rfl ?_
 intro p24
 refine c_ call6 rfl (Xt w g t2 e2 C hW G i i v gz gz a1 a2 a3 a4 a5 (12*i) gz hh []) ?_
 rintro x9 H9 ⟨gU,lH,t3,e3,C2,D2,j3,v2,lB,rfl⟩
 obtain ⟨pa,pc,Df,Sf,vt,ve,ja,Jy,EH,EG⟩:=j3.row
 obtain ⟨to,tc,rfl,_⟩:=EH.form
 obtain ⟨eo,ec,rfl,_⟩:=EG.form
 have sD:=v2.len false
 have ox:=v2.len true
 refine g_ [7,110] ?_
 refine WL.h rfl (ak (v:=.bool false) (cs:=ik pa pc Df Sf (.slice to t3.length tc) (.slice eo e3.length ec)) fa rfl (aA (C:=C2) fc ja) gA ⟨_,rfl,?_⟩)
 refine g_ [1030,9,100] ?_
 refine WL.h rfl (ak (v:=ptr pa) (cs:=ik pa pc Df Sf (.slice to t3.length tc) (.slice eo e3.length ec)) fa rfl (aA (C:=C2) fc ja) gA ⟨_,rfl,?_⟩)
 refine iG call8 rfl (Yi (a:=gU.a) (aA (C:=C2) fc Jy)) ?_
 refine iS rG fun b5=>?_
 refine g_ [304,5,103,1,702,2] ?_
 refine gK rfl (fun pM=>?_) fun pM=>?_
 refine g_ [6,703,2] ?_
 exact ai (⟨i+1,gU,lH,t3,e3,C2,[row b5 (ry gU.a.l) 44]++(D2++D)⟩) (show (i+1)≤l.length∧(i+1)≤120∧WA w false gU t3 e3 C2∧iR kF gU lH (i+1) (i+1)∧lU lH t3 e3 (12*(i+1)) from ⟨by omega,by omega,j3,v2,lB.mono (fB _) gz⟩) (show l.length-(i+1)<l.length-i by omega) (Sx.put rfl (gL)) fc
 obtain ⟨Ji,mv⟩:=aaK v2 gz
 obtain ⟨q,hq⟩:∃q,q=(ws gU lH).h:=⟨_,rfl⟩
 rw[←hq] at Ji mv
 have hqq:=zK q
 have sH:=lB.tl
 have uK:=lB.el
 refine g_ [6,101,1,704] ?_
 refine af (t:=42) (v:=.int .i64 (kI (!q))) rfl (by rw[Ji];cases q<;>rfl) ?_
 refine jv call7 rfl (Px w false gU t3 e3 C2 j3 (!q) (by have:=v2.len (!q);omega) []) ?_
 refine af (t:=43) (v:=.bool false) rfl (congrArg Value.bool mv) (g_ [1043,12] ?_)
 refine aC (fun z:Nat×List Ck=>z.1≤t3.length) (fun z:Nat×List Ck=>[(6,.int .i64 (z.1:Int))]) (fun z:Nat×List Ck=>C2++(([row b5 (ry gU.a.l) 44]++z.2)++(D2++(D++H)))) (fun z:Nat×List Ck=>t3.length-z.1) (⟨0,[]⟩) (show 0≤t3.length from dN _) (Sx.put rfl (gL)) fc ?_
 rintro ⟨j,E⟩ hI
 replace hI:j≤t3.length:=hI
 obtain hj:=hI
 change WC _ _ _ _ _ _ ([(6,.int .i64 (j:Int))]++_) (C2++(([row b5 (ry gU.a.l) 44]++E)++(D2++(D++H))))
 refine g_ [6,108] ?_
 refine WL.h rfl (ak (v:=(.slice to t3.length tc)) (cs:=ik pa pc Df Sf (.slice to t3.length tc) (.slice eo e3.length ec)) fa rfl (aA (C:=C2) fc ja) gA ⟨_,rfl,?_⟩)
 refine g_ [710,40,705,2] ?_
 refine gK rfl (fun Eh=>?_) fun Eh=>?_
 obtain ⟨vb,vf,vcs,vT,HQ,HP,rfl,_,qL,kT⟩:=EH.Bj gz
 refine g_ [5,512] ?_
 refine w_ [0,1001,1,2] ?_
 refine az (v:=.int .i64 (kI q)) (congrArg (Value.int .i64) Ji) (w_ [3,4,1008,5] ?_)
 refine iD 6 [5] rfl (ab (v:=(.slice (some ⟨vb,vf,none⟩) t3.length tc)) (cs:=ik pa pc Df Sf (.slice (some ⟨vb,vf,none⟩) t3.length tc) (.slice eo e3.length ec)) fa rfl (aA (C:=C2) fc ja) gA) ?_
 refine w_ [7] ?_
 refine gW 8 [7,6] rfl (Yd.indexAddr (e:=40) (s:=4) fa fa rfl rfl gz gz) fa ?_
 refine iD 9 [8] rfl (aE (n:=4) (vs:=jY t3[j]) (cs:=vcs) fa rfl (aA (C:=C2) fc qL) rfl (by rw[show vf+((j:Int)).toNat*4=vf+j*4 by omega];exact QL (l:=t3) kT gz)) ?_
 refine gD 10 ?_
 refine iI rfl call9 rfl (Xp w gU t3 e3 C2 j3 q (by have:=v2.len q;omega) t3[j] []) ?_
 rintro x63 H63 ⟨z,E2,rfl,hz,rfl⟩
 obtain rfl:z=true:=hz (by rw[hq];exact ahh v2 lB gz)
 refine gG ?_ (hr:=by exact ig (iw [5] rfl (aw Wt.none (ab (v:=(.slice (some ⟨vb,vf,none⟩) t3.length tc)) (cs:=ik pa pc Df Sf (.slice (some ⟨vb,vf,none⟩) t3.length tc) (.slice eo e3.length ec)) fa rfl (aA (C:=C2) fc ja) gA)) fa) jl)
 refine w_ [1009,11,9001] ?_
 refine gM ?_
 refine g_ [7,703,2] ?_
 exact ai (⟨j+1,E2++E⟩) (show (j+1)≤t3.length from gz) (show t3.length-(j+1)<t3.length-j by omega) (Sx.put rfl (gL)) fc
 refine g_ [11] ?_
 refine aC (fun z:Nat×List Ck=>z.1≤e3.length) (fun z:Nat×List Ck=>[(7,.int .i64 (z.1:Int))]) (fun z:Nat×List Ck=>C2++(([row b5 (ry gU.a.l) 44]++z.2)++(D2++(D++H)))) (fun z:Nat×List Ck=>e3.length-z.1) (⟨0,E⟩) (show 0≤e3.length from dN _) (Sx.put rfl (gL)) fc ?_
 rintro ⟨j,E⟩ hI
 replace hI:j≤e3.length:=hI
 obtain hj:=hI
 change WC _ _ _ _ _ _ ([(7,.int .i64 (j:Int))]++_) (C2++(([row b5 (ry gU.a.l) 44]++E)++(D2++(D++H))))
 refine g_ [6,109] ?_
 refine WL.h rfl (ak (v:=(.slice eo e3.length ec)) (cs:=ik pa pc Df Sf (.slice to t3.length tc) (.slice eo e3.length ec)) fa rfl (aA (C:=C2) fc ja) gA ⟨_,rfl,?_⟩)
 refine g_ [710,40,705,2] ?_
 refine gK rfl (fun h71=>?_) fun h71=>?_
 obtain ⟨vb,vf,vcs,vT,HQ,HP,rfl,_,qL,kT⟩:=EG.Bj gz
 refine g_ [5,512] ?_
 refine w_ [0,1001,1,2] ?_
 refine az (v:=.int .i64 (kI q)) (congrArg (Value.int .i64) Ji) (w_ [3,4,1009,5] ?_)
 refine iD 6 [5] rfl (ab (v:=(.slice (some ⟨vb,vf,none⟩) e3.length ec)) (cs:=ik pa pc Df Sf (.slice to t3.length tc) (.slice (some ⟨vb,vf,none⟩) e3.length ec)) fa rfl (aA (C:=C2) fc ja) gA) ?_
 refine w_ [7] ?_
 refine gW 8 [7,6] rfl (Yd.indexAddr (e:=40) (s:=4) fa fa rfl rfl gz gz) fa ?_
 refine iD 9 [8] rfl (aE (n:=4) (vs:=jY e3[j]) (cs:=vcs) fa rfl (aA (C:=C2) fc qL) rfl (by rw[show vf+((j:Int)).toNat*4=vf+j*4 by omega];exact QL (l:=e3) kT gz)) ?_
 refine gD 10 ?_
 refine iI rfl call9 rfl (Xp w gU t3 e3 C2 j3 q (by have:=v2.len q;omega) e3[j] []) ?_
 rintro x84 X5 ⟨z,E2,rfl,hz,rfl⟩
 obtain rfl:z=true:=hz (by rw[hq];exact aah v2 lB gz)
 refine gG ?_ (hr:=by exact ig (iw [5] rfl (aw Wt.none (ab (v:=(.slice (some ⟨vb,vf,none⟩) e3.length ec)) (cs:=ik pa pc Df Sf (.slice to t3.length tc) (.slice (some ⟨vb,vf,none⟩) e3.length ec)) fa rfl (aA (C:=C2) fc ja) gA)) fa) jl)
 refine w_ [1009,11,9001] ?_
 refine gM ?_
 refine g_ [7,703,2] ?_
 exact ai (⟨j+1,E2++E⟩) (show (j+1)≤e3.length from gz) (show e3.length-(j+1)<e3.length-j by omega) (Sx.put rfl (gL)) fc
 refine g_ [8,703,2] ?_
 exact ai (⟨i+1,gU,lH,t3,e3,C2,([row b5 (ry gU.a.l) 44]++E)++(D2++D)⟩) (show (i+1)≤l.length∧(i+1)≤120∧WA w false gU t3 e3 C2∧iR kF gU lH (i+1) (i+1)∧lU lH t3 e3 (12*(i+1)) from ⟨by omega,by omega,j3,v2,lB.mono (fB _) gz⟩) (show l.length-(i+1)<l.length-i by omega) (Sx.put rfl (gL)) fc
 refine g_ [11] ?_
 refine aR H (by (repeat (first|exact List.Sublist.refl _|apply List.sublist_append_of_sublist_right))) ?_
 exact aa results4 rfl (⟨rfl,rfl⟩)
 refine g_ [17] ?_
 refine aR H (by (repeat (first|exact List.Sublist.refl _|apply List.sublist_append_of_sublist_right))) ?_
 exact aa results4 rfl (⟨rfl,rfl⟩)
end Go.Proofs.YtchdmlkiggdhaaaGreat
