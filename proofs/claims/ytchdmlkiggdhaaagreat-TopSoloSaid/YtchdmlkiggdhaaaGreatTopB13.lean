/-
  Lemmas and walks that TopOne and TopSolo stands on (part 13); no condition.
-/
import Derived.Ground.SlsfProg
import Derived.Shelf.Small.Strs
import Derived.Test.YtchdmlkiggdhaaaGreatTopB12
set_option linter.unusedVariables false
set_option linter.unusedSimpArgs false
set_option maxHeartbeats 4000000
namespace Go.Proofs.YtchdmlkiggdhaaaGreat
open Go.SL Go.Proofs.Tryz
attribute [local irreducible] WL WC DN gZ iX
theorem aeJ {n:Nt} (h:decide ((if mS n then (50:Int) else 0)≠0)=true):mS n=true:=by
  cases e:mS n with
  |true=>rfl
  |false=>rw[e] at h;exact absurd h gB
theorem K9 (e:BitVec 32) (v:Value) (ks:List Kp) (H:List Ck) (hv:KV v ks H) (hl:ks.length≤9223372036854775807) (n:Nt) (vk vd:Value) (tj:Bs vk n.key H) (p7:Bs vd n.data H):gC prog 77 [.agg #[.int .u32 e.toNat,v],.agg (gS n vk vd).toArray] H fun r gr=>∃wa wr A B,r=.tuple #[.int .i64 (ix e ks n).1,.agg (kc (ix e ks n).2.1 wa wr).toArray,.int .i64 (ix e ks n).2.2]∧Ob 5 wa (ix e ks n).2.1.asked A∧Ob 5 wr (ix e ks n).2.1.iq B∧gr=A++(B++H):=by
 refine gC.enter func77 rfl ntmps77 rfl ?_
 intro w0 R
 obtain ⟨ao,c,rfl,hc⟩:=hv.form
 obtain ⟨ko,JK,rfl,T4⟩:=tj.form
 obtain ⟨jR,dc,rfl,MM⟩:=p7.form
 refine gY (iV fun b2=>?_)
 refine iV fun b3=>?_
 refine g_ [1] ?_
 refine iS lG fun b5=>?_
 refine g_ [7,402] ?_
 refine iG call128 rfl (Ln e _ ks _ (hv.mono hZ) hl) ?_
 refine g_ [702,1] ?_
 refine ag (t:=15) rfl (fun rS=>?_) (fun rS=>?_)
 refine g_ [25] ?_
 refine kJ pE lG (g_ [1,306,6] ?_)
 refine bd (s:=6) (H) results77 fa rfl rfl rfl gO gA fc ?_
 have hb:mF ks n:=by
   unfold mF
   exact .inl (fun h=>by simp only[dx h] at rS;exact rS rfl)
 rw[Av hb]
 exact ⟨_,_,[],[],rfl,Ob.nil _,Ob.nil _,rfl⟩
 refine g_ [100,1,702,2] ?_
 refine aG (t:=20) rfl (fun rl=>?_) (fun rl=>?_)
 refine g_ [20] ?_
 refine kJ pE lG (g_ [1,306,6] ?_)
 refine bd (s:=6) (H) results77 fa rfl rfl rfl gO gA fc ?_
 have hb:mF ks n:=by
   unfold mF
   exact .inr (.inl (by simpa using rl))
 rw[Av hb]
 exact ⟨_,_,[],[],rfl,Ob.nil _,Ob.nil _,rfl⟩
 refine aS (dj:=20) rfl rfl rfl (aF (n:=11) fa rfl gO gA ⟨_,rfl,?_⟩)
 refine bq (dj:=20) rfl rfl rfl (iE.func call59 rfl) (AB n (.slice ko _ JK) (.slice jR _ dc) ⟨_,_,rfl⟩ ⟨_,_,rfl⟩ _) (g_ [702,2] ?_)
 refine aG (t:=25) rfl (fun AZ=>?_) (fun AZ=>?_)
 refine g_ [15] ?_
 refine kJ pE lG (g_ [1,306,6] ?_)
 refine bd (s:=6) (H) results77 fa rfl rfl rfl gO gA fc ?_
 have hb:mF ks n:=by
   unfold mF
   exact .inr (.inr (.inl (aeJ AZ)))
 rw[Av hb]
 exact ⟨_,_,[],[],rfl,Ob.nil _,Ob.nil _,rfl⟩
 refine g_ [101,1] ?_
 refine jx 25 rfl rfl rfl (aD _ (0#32) rfl rfl rfl rfl) (g_ [2] ?_)
 refine aG (t:=30) rfl (fun py=>?_) (fun py=>?_)
 refine g_ [10] ?_
 refine kJ pE lG (g_ [1,306,6] ?_)
 refine bd (s:=6) (H) results77 fa rfl rfl rfl gO gA fc ?_
 have hb:mF ks n:=by
   unfold mF
   exact .inr (.inr (.inr (.inl (by simpa using py))))
 rw[Av hb]
 exact ⟨_,_,[],[],rfl,Ob.nil _,Ob.nil _,rfl⟩
 refine g_ [105,1] ?_
 refine jx 30 rfl rfl rfl (aD _ (0#32) rfl rfl rfl rfl) (g_ [4] ?_)
 refine WC.cond rfl (fun oN=>?_) (fun oN=>?_)
 refine gY (kJ pE lG (g_ [1,306,6] ?_))
 refine bd (s:=6) (H) results77 fa rfl rfl rfl gO gA fc ?_
 have hb:mF ks n:=by
   unfold mF
   exact .inr (.inr (.inr (.inr (by simpa using oN))))
 rw[Av hb]
 exact ⟨_,_,[],[],rfl,Ob.nil _,Ob.nil _,rfl⟩
 refine gY ?_
 have ov:¬mF ks n:=by
   rintro (h|h|h|h|h)
   · simp only[dp h] at rS;revert rS;decide
   · simp[h] at rl
   · simp[h] at AZ
   · simp[h] at py
   simp[h] at oN
 have nr:lP ks:=dW fun h=>ov (.inl h)
 have jB:=Ow (n:=n) (by
   cases e9:mS n
   · rfl
   exact absurd (.inr (.inr (.inl e9))) ov)
 refine g_ [101,1,100,1,705,3] ?_
 refine gK rfl (fun sv=>?_) fun sv=>?_
 refine gY (kJ pE lG (g_ [1,306,6] ?_))
 refine bd (s:=6) (H) results77 fa rfl rfl rfl gO gA fc ?_
 rw[K7 ov gz]
 exact ⟨_,_,[],[],rfl,Ob.nil _,Ob.nil _,rfl⟩
 refine g_ [6,402,105,1,106,1,107,1] ?_
 refine c_ call129 rfl (R6 e _ ks H hv hl n.order n.step n.iy) ?_
 rintro x H1 ⟨wa,wr,A,B,rfl,hA,hB,rfl⟩
 obtain ⟨fk,uM⟩:∃q,q=findF ks n.order n.step n.iy:=⟨_,rfl⟩
 rw[←uM] at hA hB ⊢
 rw[LF nr jB.1 jB.2.1] at uM
 obtain ⟨oa,ca,rfl,_⟩:=hA.form
 obtain ⟨or,cr,rfl,_⟩:=hB.form
 refine g_ [3] ?_
 refine iS lG fun b7=>?_
 refine WL.s (aH (n:=6) fa rfl rfl gA (xp rfl rfl) ir gA ⟨rfl,?_⟩)
 refine g_ [8] ?_
 refine WC.cond rfl (fun Ei=>?_) (fun Ei=>?_)
 obtain ⟨k1,rfl⟩:=fP.1 Ei
 refine g_ [3,103,1] ?_
 refine WL.h rfl (aM (e:=5) (bs:=((some k1).getD Kp.z).asked) fa fa underlying9 rfl (hA.bs.mono hZ) ⟨_,rfl,?_⟩)
 refine g_ [110,1] ?_
 refine WL.h rfl (aM (e:=5) (bs:=n.data) fa fa underlying9 rfl (p7.mono hZ) ⟨_,rfl,?_⟩)
 refine ae rfl (cG rfl rfl) (qb (gK rfl (fun B1=>?_) fun B1=>?_))
 refine gY (kJ pE lG (g_ [1,306,6] ?_))
 refine bd (s:=6) (H) results77 fa rfl rfl rfl gO gA fc ?_
 rw[QO ov gz uM.symm (fun h=>B1 (congrArg str h))]
 exact ⟨_,_,[],[],rfl,Ob.nil _,Ob.nil _,rfl⟩
 refine g_ [3,504] ?_
 refine w_ [2006,0] ?_
 refine gD 1 ?_
 refine jm ?_
 refine iO [106] ?_
 refine gD 2 ?_
 refine SO.s rfl Wt.none (aH (n:=6) fa rfl rfl gA (xp rfl rfl) ir gA ⟨rfl,?_⟩)
 refine gG ?_
 refine gD 3 ?_
 refine jm ?_
 refine gG ?_
 refine gM ?_
 refine g_ [3] ?_
 refine bd (s:=6) (A++(B++H)) results77 fa rfl rfl rfl gO gA fc ?_
 rw[QN ov gz uM.symm (dW fun h=>B1 fun h9=>h (str_inj.1 h9))]
 exact ⟨_,_,A,B,rfl,hA,hB,rfl⟩
 obtain rfl:fk=none:=by simpa using Ei
 refine g_ [4,402,105,1,106,1,107,1,709] ?_
 refine c_ call129 rfl (R6 e _ ks H hv hl n.order n.step (!n.iy)) ?_
 rintro x H1 ⟨wa2,wr2,A2,B2,rfl,sw,Mb,rfl⟩
 obtain ⟨gk,uO⟩:∃q,q=findF ks n.order n.step (!n.iy):=⟨_,rfl⟩
 rw[←uO] at sw Mb ⊢
 rw[LF nr jB.1 jB.2.1] at uO
 obtain ⟨oa2,ca2,rfl,_⟩:=sw.form
 obtain ⟨or2,cr2,rfl,_⟩:=Mb.form
 refine g_ [3] ?_
 refine iS lG fun b9=>?_
 refine WL.s (aH (n:=6) fa rfl rfl gA (xp rfl rfl) ir gA ⟨rfl,?_⟩)
 refine g_ [7,107,1,709,1] ?_
 refine aG (t:=80) rfl (fun Jg=>?_) (fun Jg=>?_)
 refine g_ [5] ?_
 refine WC.cond rfl (fun B4=>?_) (fun B4=>?_)
 refine gY (kJ pE lG (g_ [1,306,6] ?_))
 refine bd (s:=6) (H) results77 fa rfl rfl rfl gO gA fc ?_
 have e9:ix e ks n=(3,Kp.z,0):=by rw[yO ov gz uM.symm uO];exact dx ⟨by simpa using Jg,B4⟩
 rw[e9]
 exact ⟨_,_,[],[],rfl,Ob.nil _,Ob.nil _,rfl⟩
 refine g_ [2,107,2] ?_
 refine aG (t:=87) rfl (fun ta=>?_) (fun ta=>?_)
 refine g_ [1,709,1] ?_
 refine aG (t:=90) rfl (fun zt=>?_) (fun zt=>?_)
 refine g_ [11] ?_
 refine kJ pE lG (g_ [1,306,6] ?_)
 refine bd (s:=6) (H) results77 fa rfl rfl rfl gO gA fc ?_
 have e9:ix e ks n=(4,Kp.z,0):=by
   rw[yO ov gz uM.symm uO,dp (by rintro ⟨h5,h6⟩;rw[ta] at h5;cases h5)]
   exact dx ⟨ta,.inl (by simpa using zt)⟩
 rw[e9]
 exact ⟨_,_,[],[],rfl,Ob.nil _,Ob.nil _,rfl⟩
 refine g_ [104,1,701,5] ?_
 refine WC.cond rfl (fun B6=>?_) (fun B6=>?_)
 refine gY (kJ pE lG (g_ [1,306,6] ?_))
 refine bd (s:=6) (H) results77 fa rfl rfl rfl gO gA fc ?_
 have e9:ix e ks n=(4,Kp.z,0):=by
   rw[yO ov gz uM.symm uO,dp (by rintro ⟨h5,h6⟩;rw[ta] at h5;cases h5)]
   exact dx ⟨ta,.inr (by simpa using B6)⟩
 rw[e9]
 exact ⟨_,_,[],[],rfl,Ob.nil _,Ob.nil _,rfl⟩
 refine g_ [5] ?_
 refine kJ pE lG (g_ [1,306,4] ?_)
 refine bd (s:=6) (H) results77 fa rfl rfl rfl gO gA fc ?_
 have e9:ix e ks n=(1,Kp.z,0):=by
   rw[yO ov gz uM.symm uO]
   rw[dp (by rintro ⟨h5,h6⟩;rw[ta] at h5;cases h5),dp (by
     rintro ⟨h5,h6⟩
     exact h6.elim (fun h6=>by rw[h6] at zt;exact absurd zt gB) (fun h6=>absurd h6 (by simpa using B6)))]
 rw[e9]
 exact ⟨_,_,[],[],rfl,Ob.nil _,Ob.nil _,rfl⟩
 refine g_ [17] ?_
 refine kJ pE lG (g_ [1,306,4] ?_)
 refine bd (s:=6) (H) results77 fa rfl rfl rfl gO gA fc ?_
 have e9:ix e ks n=(1,Kp.z,0):=by
   rw[yO ov gz uM.symm uO]
   rw[dp (by
     rintro ⟨h5,h6⟩
     rw[h6] at B4;exact absurd B4 gB),dp (by rintro ⟨h5,h6⟩;rw[ta] at h5;cases h5)]
 rw[e9]
 exact ⟨_,_,[],[],rfl,Ob.nil _,Ob.nil _,rfl⟩
 refine g_ [8,107,2] ?_
 refine aG (t:=87) rfl (fun ta=>?_) (fun ta=>?_)
 refine g_ [1,709,1] ?_
 refine aG (t:=90) rfl (fun zt=>?_) (fun zt=>?_)
 refine g_ [11] ?_
 refine kJ pE lG (g_ [1,306,6] ?_)
 refine bd (s:=6) (H) results77 fa rfl rfl rfl gO gA fc ?_
 have e9:ix e ks n=(4,Kp.z,0):=by
   rw[yO ov gz uM.symm uO,dp (by rintro ⟨h5,h6⟩;rw[ta] at h5;cases h5)]
   exact dx ⟨ta,.inl (by simpa using zt)⟩
 rw[e9]
 exact ⟨_,_,[],[],rfl,Ob.nil _,Ob.nil _,rfl⟩
 refine g_ [104,1,701,5] ?_
 refine WC.cond rfl (fun B6=>?_) (fun B6=>?_)
 refine gY (kJ pE lG (g_ [1,306,6] ?_))
 refine bd (s:=6) (H) results77 fa rfl rfl rfl gO gA fc ?_
 have e9:ix e ks n=(4,Kp.z,0):=by
   rw[yO ov gz uM.symm uO,dp (by rintro ⟨h5,h6⟩;rw[ta] at h5;cases h5)]
   exact dx ⟨ta,.inr (by simpa using B6)⟩
 rw[e9]
 exact ⟨_,_,[],[],rfl,Ob.nil _,Ob.nil _,rfl⟩
 refine g_ [5] ?_
 refine kJ pE lG (g_ [1,306,4] ?_)
 refine bd (s:=6) (H) results77 fa rfl rfl rfl gO gA fc ?_
 have e9:ix e ks n=(1,Kp.z,0):=by
   rw[yO ov gz uM.symm uO]
   rw[dp (by rintro ⟨h5,h6⟩;rw[ta] at h5;cases h5),dp (by
     rintro ⟨h5,h6⟩
     exact h6.elim (fun h6=>by rw[h6] at zt;exact absurd zt gB) (fun h6=>absurd h6 (by simpa using B6)))]
 rw[e9]
 exact ⟨_,_,[],[],rfl,Ob.nil _,Ob.nil _,rfl⟩
 refine g_ [17] ?_
 refine kJ pE lG (g_ [1,306,4] ?_)
 refine bd (s:=6) (H) results77 fa rfl rfl rfl gO gA fc ?_
 have e9:ix e ks n=(1,Kp.z,0):=by
   rw[yO ov gz uM.symm uO]
   rw[dp (by
     rintro ⟨h5,h6⟩
     rw[h5] at Jg;exact absurd Jg gB),dp (by rintro ⟨h5,h6⟩;rw[ta] at h5;cases h5)]
 rw[e9]
 exact ⟨_,_,[],[],rfl,Ob.nil _,Ob.nil _,rfl⟩
section
variable {act er code:Int} {kk:Kp} {n:Nt} {iq:List (BitVec 8)}
theorem JM (pN:(!decide (mZ (lF n code iq)))=false):tn (act,kk,er) (lF n code iq)↔(act=3∧code≠2)∨(act=4∧code≠1):=by
  have h:mZ (lF n code iq):=by simpa using pN
  unfold tn
  exact ⟨fun h9=>h9.elim (fun h9=>absurd h h9) id,.inr⟩
theorem adv (pN:(!decide (mZ (lF n code iq)))=true):(true=true↔tn (act,kk,er) (lF n code iq)):=⟨fun _=>.inl (by simpa using pN),fun _=>rfl⟩
theorem adw (pN:(!decide (mZ (lF n code iq)))=false) (oO:decide (act=3)=true) (Eh:decide (code≠2)=true):(true=true↔tn (act,kk,er) (lF n code iq)):=by
  rw[JM pN]
  exact ⟨fun _=>.inl ⟨eR oO,eR Eh⟩,fun _=>rfl⟩
theorem adx (pN:(!decide (mZ (lF n code iq)))=false) (oO:decide (act=3)=true) (Eh:decide (code≠2)=false) (tH:decide (act=4)=true):(decide (code≠1)=true↔tn (act,kk,er) (lF n code iq)):=by
  have h1:=eR oO
  have h2:=eR tH
  omega
theorem ady (pN:(!decide (mZ (lF n code iq)))=false) (oO:decide (act=3)=true) (Eh:decide (code≠2)=false) (tH:decide (act=4)=false):(false=true↔tn (act,kk,er) (lF n code iq)):=by
  rw[JM pN]
  have h1:=eR oO
  have h2:=fV Eh
  exact ⟨fun h=>absurd h gB,fun h=>by omega⟩
theorem adz (pN:(!decide (mZ (lF n code iq)))=false) (oO:decide (act=3)=false) (tH:decide (act=4)=true):(decide (code≠1)=true↔tn (act,kk,er) (lF n code iq)):=by
  rw[JM pN,dz]
  have h1:=fV oO
  have h2:=eR tH
  omega
theorem adA (pN:(!decide (mZ (lF n code iq)))=false) (oO:decide (act=3)=false) (tH:decide (act=4)=false):(false=true↔tn (act,kk,er) (lF n code iq)):=by
  rw[JM pN]
  have h1:=fV oO
  have h2:=fV tH
  exact ⟨fun h=>absurd h gB,fun h=>by omega⟩
end
theorem adu (e:BitVec 32) (v:Value) (ks:List Kp) (H:List Ck) (hv:KV v ks H) (hl:ks.length≤9223372036854775807) (n:Nt) (vk vd:Value) (tj:Bs vk n.key H) (p7:Bs vd n.data H) (code:Int) (vr:Value) (iq:List (BitVec 8)) (nE:Bs vr iq H):gC prog 81 [.agg #[.int .u32 e.toNat,v],.agg (gS n vk vd).toArray,.int .i64 code,vr] H fun r gr=>∃w D,r=.tuple #[.agg #[.int .u32 (rZ e ks n code iq).1.toNat,w],.int .i64 (rZ e ks n code iq).2.2]∧rI 5 200 w (rZ e ks n code iq).2.1 D∧gr=D++H:=by
 refine gC.enter func81 rfl ntmps81 rfl ?_
 intro w0 R
 obtain ⟨ao,c,rfl,hc⟩:=hv.form
 obtain ⟨ko,JK,rfl,T4⟩:=tj.form
 obtain ⟨jR,dc,rfl,MM⟩:=p7.form
 obtain ⟨ro,rc,rfl,Ui⟩:=nE.form
 refine gY (iV fun b4=>?_)
 refine iV fun b5=>?_
 refine WL.h rfl (Hd.alloc (zs:=[.int .u32 0,.slice none 0 0]) fa fun b8=>⟨_,rfl,?_⟩)
 refine g_ [5,402,411] ?_
 refine c_ call77 rfl (K9 e _ ks H hv hl n _ _ tj p7) ?_
 rintro x H1 ⟨wa,wr,A,B,rfl,hA,hB,rfl⟩
 obtain ⟨q,hq⟩:∃q,q=ix e ks n:=⟨_,rfl⟩
 rw[←hq] at hA hB ⊢
 obtain ⟨act,kk,er⟩:=q
 dsimp only at hA hB ⊢
 obtain ⟨oa,ca,rfl,_⟩:=hA.form
 obtain ⟨E3,cr,rfl,_⟩:=hB.form
 refine g_ [4] ?_
 refine iS lG fun sR=>?_
 refine g_ [1] ?_
 refine WL.s (aH (n:=6) fa rfl rfl gA (xp rfl rfl) ir gA ⟨rfl,?_⟩)
 refine g_ [7,702,2] ?_
 refine gK rfl (fun uE=>?_) fun uE=>?_
 refine gY (kJ [(0,1),(1,1)] [.int .u32 0,.slice none 0 0] (g_ [1,302,5] ?_))
 refine au (s:=2) (H) results81 fa rfl rfl gO gA fc ?_
 rw[adr (by rw[←hq];exact uE),←hq]
 exact ⟨_,[],rfl,rI.nil _ _,rfl⟩
 refine g_ [4] ?_
 have Nd:=FW (show (ix e ks n).2.2=0 by rw[←hq];exact dW uE)
 have nr:=aaR Nd.1
 refine g_ [105,1,106,1,107,1,110,3] ?_
 refine ae rfl (aj (pl:=pE) (zs:=lG) (parts:=[(0,.tmp 28),(1,.tmp 30),(2,.tmp 32),(3,.tmp 34),(4,.tmp 35),(5,.tmp 36)]) (vs:=[(0,_),(1,_),(2,_),(3,_),(4,_),(5,_)]) (cells:=[_,_,_,_,_,_]) fa fa rfl rfl) ?_
 refine iS lG fun se=>?_
 refine g_ [306,4] ?_
 refine aI (fun z:Bool=>z=true↔tn (act,kk,er) (lF n code iq)) (fun z:Bool=>[(38,.bool z)]) (fun z:Bool=>row se (kc (lF n code iq) (.slice jR n.data.length dc) (.slice ro iq.length rc)) 200::row sR (kc kk (.slice oa kk.asked.length ca) (.slice E3 kk.iq.length cr)) 200::(A++(B++(row b4 [.int .u32 e.toNat,.slice ao ks.length c] 89::row b5 (gS n (.slice ko n.key.length JK) (.slice jR n.data.length dc)) 104::row b8 [.int .u32 0,.slice none 0 0] 89::H)))) ?_ ?_
 refine g_ [1,406] ?_
 refine iG call138 rfl (Wj (lF n code iq) (.slice jR n.data.length dc) (.slice ro iq.length rc) ⟨_,_,rfl⟩ ⟨_,_,rfl⟩ _) (g_ [709,1] ?_)
 refine aG (t:=42) rfl (fun mQ=>?_) (fun mQ=>?_)
 refine g_ [17] ?_
 exact ah (_) (by exact adv mQ) (Sx.put rfl (gL)) (Sp.all fc)
 refine g_ [1,701,1] ?_
 refine aG (t:=45) rfl (fun rm=>?_) (fun rm=>?_)
 refine g_ [1,702,3] ?_
 refine aG (t:=50) rfl (fun ye=>?_) (fun ye=>?_)
 refine g_ [9] ?_
 exact ah (_) (by exact adw mQ rm ye) (Sx.put rfl (gL)) (Sp.all fc)
 refine g_ [1,701,1] ?_
 refine aG (t:=53) rfl (fun zq=>?_) (fun zq=>?_)
 refine g_ [1,702,4] ?_
 exact ah (_) (by exact adx mQ rm ye zq) (Sx.put rfl (gL)) (Sp.all fc)
 refine g_ [6] ?_
 exact ah (_) (by exact ady mQ rm ye zq) (Sx.put rfl (gL)) (Sp.all fc)
 refine g_ [6,701,1] ?_
 refine aG (t:=53) rfl (fun zq=>?_) (fun zq=>?_)
 refine g_ [1,702,4] ?_
 exact ah (_) (by exact adz mQ rm zq) (Sx.put rfl (gL)) (Sp.all fc)
 refine g_ [6] ?_
 exact ah (_) (by exact adA mQ rm zq) (Sx.put rfl (gL)) (Sp.all fc)
 intro z38 Hk
 refine WC.cond rfl (fun pM=>?_) (fun pM=>?_)
 refine gY (kJ [(0,1),(1,1)] [.int .u32 0,.slice none 0 0] (g_ [302,6] ?_))
 refine au (s:=2) (H) results81 fa rfl rfl gO gA fc ?_
 rw[adq (by rw[←hq];exact uE) (by rw[←hq];exact Hk.1 pM)]
 exact ⟨_,[],rfl,rI.nil _ _,rfl⟩
 refine g_ [3,701,3] ?_
 refine gK rfl (fun IX=>?_) fun IX=>?_
 refine gY (kJ [(0,1),(1,1)] [.int .u32 0,.slice none 0 0] (g_ [302,6] ?_))
 refine au (s:=2) (H) results81 fa rfl rfl gO gA fc ?_
 rw[adt (by rw[←hq];exact uE) (by rw[←hq];exact fun h=>by rw[Hk.2 h] at pM;cases pM) (by rw[←hq];exact IX)]
 exact ⟨_,[],rfl,rI.nil _ _,rfl⟩
 refine g_ [2,101,1,710,200,708,3] ?_
 refine gK rfl (fun Gj=>?_) fun Gj=>?_
 refine gY (kJ [(0,1),(1,1)] [.int .u32 0,.slice none 0 0] (g_ [302,6] ?_))
 refine au (s:=2) (H) results81 fa rfl rfl gO gA fc ?_
 rw[ads (by rw[←hq];exact uE) (by rw[←hq];exact fun h=>by rw[Hk.2 h] at pM;cases pM) (by rw[←hq];exact IX) gz]
 exact ⟨_,[],rfl,rI.nil _ _,rfl⟩
 refine g_ [4,509] ?_
 have rv:mZ (lF n code iq):=dW fun h=>by rw[Hk.2 (.inl h)] at pM;cases pM
 have LU:=nr.1
 refine w_ [2002,0,2006,1] ?_
 refine jy 2 [1] rfl call140 rfl (IN (lF n code iq) (.slice jR n.data.length dc) (.slice ro iq.length rc) rfl rfl _) ax ?_
 refine jy 3 [2,0] rfl call139 rfl (Sc e _ ks _ (hv.mono hZ) nr n.order n.step n.iy rv.2.1 rv.2.2.1) ax ?_
 refine w_ [4,5,6,7,8] ?_
 refine gM ?_
 refine g_ [3,402] ?_
 refine c_ call130 rfl (QI e _ ks H hv nr) ?_
 rintro r2 H1 ⟨w,D,rfl,hF,rfl⟩
 obtain ⟨tF,C2,D2,qm,S5,rfl⟩:=hF
 obtain ⟨wo,wc,rfl,JB⟩:=qm.form
 refine g_ [302,4,101,1,100,4,509] ?_
 refine w_ [1001,0,1,2,2006,3] ?_
 refine gD 4 ?_
 refine iI rfl call142 rfl (OJ (lF n code iq) (.slice jR n.data.length dc) (.slice ro iq.length rc) H p7 nE (by have:=rv.2.2.2.1;omega) (by have:=rv.2.2.2.2.1;omega)) ?_
 rintro x5 H5 ⟨wa5,wr5,A5,B5,rfl,B7,SX,rfl⟩
 obtain ⟨o5,c5,rfl,hc5⟩:=B7.form
 obtain ⟨o6,c6,rfl,hc6⟩:=SX.form
 refine iO [0] ?_
 refine gD 5 ?_
 refine SO.h rfl Wt.none rfl (aX (e:=200) (sz:=6) (zs:=lG) fa fa fa rfl rfl gA fa fun Iu=>⟨_,rfl,?_⟩)
 refine iO [0] ?_
 refine gD 6 ?_
 refine iI rfl call141 rfl (acI _ ks.length tF C2 qm S5.one gz (pos ks (lF n code iq).num) (Dt _ _) Iu (kc (lF n code iq) (.slice o5 _ c5) (.slice o6 _ c6)) rfl (xp rfl rfl)) ?_
 intro r7 H7 Ta
 obtain ⟨D7,hK7,hp7⟩:=S5.ins (Dt ks (lF n code iq).num) B7 SX
 obtain ⟨io,UE,rfl,aja⟩:=Ta.form
 refine gG ?_
 refine w_ [1001,7] ?_
 refine gD 8 ?_
 refine SO.s rfl Wt.none (bg fa rfl rfl gA ir gA (by (simp only[fC,ff,eV,fG,Nat.reduceAdd];rfl)) ⟨rfl,?_⟩)
 refine gG ?_
 refine gM ?_
 refine g_ [3,402,302,4] ?_
 refine gH (row b8 [.int .u32 n.gE.toNat,.slice io (ks.length+1) UE] 89::(H7++((D2++(A5++B5))++H))) ?_
 refine cy (row b8 [.int .u32 n.gE.toNat,.slice io (ks.length+1) UE] 89::(H7++(D7++H))) (List.Perm.cons _ (gf _ (hp7.symm.append_right _))) (au (s:=2) (H7++(D7++H)) results81 fa rfl rfl gO gA fc ?_)
 rw[US (by rw[←hq];exact uE) (by rw[←hq];exact fun h=>by rw[Hk.2 h] at pM;cases pM) (by rw[←hq];exact IX) gz]
 exact ⟨_,H7++D7,rfl,⟨_,H7,D7,by rw[Hn _ (Dt _ _)];exact Ta,hK7,rfl⟩,by rw[dD]⟩
theorem WD (p:Nat) (s:Cw) (C:List Ck) (h:xG 137 144 150 3 5 200 209 68 93 p s C) {g0:List Gd} {u0:List Au} {r0:List Int} (inv:uq g0 u0 r0 s) (n:Nt) (vk vd:Value) (H:List Ck) (tj:Bs vk n.key H) (p7:Bs vd n.data H):gC prog 42 [.pointer (some ⟨p,0,none⟩),.agg (gS n vk vd).toArray] (C++H) fun r gr=>∃gP w A,r=.agg (gS (oY s n) (.slice none 0 0) w).toArray∧xG 137 144 150 3 5 200 209 68 93 p (oH s n) gP∧Ob 5 w (oY s n).data A∧gr=gP++(A++H):=by
 refine gC.enter func42 rfl ntmps42 rfl ?_
 intro w0 R
 have Ma:=h
 have nr:=inv.ck
 have LU:=nr.1
 have ai3:=inv.ef
 have ajh:=inv.no
 obtain ⟨pd,ps,pp,vL,vE,vN,CS,CP,CD,CF,CE,cn,CN,DO,rfl,hS,hP,hD,hF,hE,hN,hO⟩:=h
 obtain ⟨lo,lc,rfl⟩:=hF.form
 obtain ⟨eo,ec,rfl,GD⟩:=hE.form
 obtain ⟨no,nc,rfl,yj⟩:=hN.form
 obtain ⟨ko,N4,rfl,T4⟩:=tj.form
 obtain ⟨jR,dc,rfl,MM⟩:=p7.form
 obtain ⟨q,hq⟩:∃q,q=ix s.e s.ks n:=⟨_,rfl⟩
 have Jm:q.2.1.iq.length≤255:=by rw[hq];exact Yx nr
 obtain ⟨act,kk,er⟩:=q
 have Jm:kk.iq.length≤255:=Jm
 have rX:(ix s.e s.ks n).1=act:=by rw[←hq]
 have yn:(ix s.e s.ks n).2.1=kk:=by rw[←hq]
 have ru:(ix s.e s.ks n).2.2=er:=by rw[←hq]
 refine gY (iV fun b3=>?_)
 refine iS iP fun b4=>?_
 refine g_ [6] ?_
 refine ae rfl (an underlying29 rfl rfl) (g_ [1011,5] ?_)
 refine aI (fun z:Nat×(Option Addr×Nat)×(Option Addr×Nat)×List Ck×List Ck=>Ob 5 (.slice z.2.1.1 kk.asked.length z.2.1.2) kk.asked z.2.2.2.1∧Ob 5 (.slice z.2.2.1.1 kk.iq.length z.2.2.1.2) kk.iq z.2.2.2.2) (fun z:Nat×(Option Addr×Nat)×(Option Addr×Nat)×List Ck×List Ck=>[(5,.int .i64 act),(6,.pointer (some ⟨z.1,0,none⟩)),(7,.int .i64 er)]) (fun z:Nat×(Option Addr×Nat)×(Option Addr×Nat)×List Ck×List Ck=>row z.1 (kc kk (.slice z.2.1.1 kk.asked.length z.2.1.2) (.slice z.2.2.1.1 kk.iq.length z.2.2.1.2)) 200::(z.2.2.2.1++(z.2.2.2.2++((row p [.pointer (some ⟨pd,0,none⟩),.pointer (some ⟨ps,0,none⟩),.pointer (some ⟨pp,0,none⟩),.int .u32 s.e.toNat,.slice lo s.ks.length lc,.slice eo s.ef.length ec,.slice no s.no.length nc] 93::(CS++(CP++(CD++(CF++(CE++(CN++DO)))))))++(row b4 [.int .i64 0,.int .u32 0,.int .u32 0,.int .u64 0,.int .u64 0,.int .u32 0,.int .i64 0,.bool false,.int .i64 0,.slice none 0 0,.slice none 0 0] 104::(row b3 (gS n (.slice ko n.key.length N4) (.slice jR n.data.length dc)) 104::H)))))) ?_ ?_
 refine g_ [514] ?_
 refine w_ [0,1,1003,2] ?_
 refine iD 3 [2] rfl (aE (n:=2) (vs:=[_,_]) fa rfl gO gA gA) ?_
 refine w_ [2011,4] ?_
 refine pe [(5,[4,3]),(10,[])] fa (ig ?_ (ig ?_ (jl)))
 refine kP ?_
 refine iI rfl call77 rfl (K9 s.e _ s.ks (CF++H) (hF.kv.mono hZ) gz n _ _ (tj.mono hZ) (p7.mono hZ)) ?_
 rintro x H9 ⟨wa,wr,A,B,rfl,hA,hB,rfl⟩
 rw[←hq] at hA hB ⊢
 dsimp only at hA hB ⊢
 obtain ⟨oa,ca,rfl,_⟩:=hA.form
 obtain ⟨E3,cr,rfl,_⟩:=hB.form
 refine gG ?_
 refine w_ [6,7,8,9] ?_
 refine gD 10 ?_
 refine nQ lG fun b6=>?_
 refine gG ?_
 refine w_ [11] ?_
 refine gD 12 ?_
 refine SO.s rfl Wt.none (aH (n:=6) fa rfl rfl gA (xp rfl rfl) ir gA ⟨rfl,?_⟩)
 refine gG ?_
 refine w_ [13] ?_
 refine gM ?_
 exact ah ((b6,(oa,ca),(E3,cr),A,B)) (⟨hA,hB⟩) (Sx.put rfl (Sx.put rfl (Sx.put rfl (gL)))) (Sp.all fc)
 refine kP ?_
 refine nQ lG fun b6=>?_
 refine gG ?_ (hr:=by exact ig (iw [] rfl (aw Wt.none (aQ (n:=11) fa rfl gO gA)) fa) (ig (iw [2] rfl (aw Wt.none (aE (n:=2) (vs:=[_,_]) fa rfl gO gA gA)) fa) jl))
 refine gD 5 ?_
 refine iI rfl call77 rfl (K9 s.e _ s.ks (CF++H) (hF.kv.mono hZ) gz n _ _ (tj.mono hZ) (p7.mono hZ)) ?_
 rintro x H9 ⟨wa,wr,A,B,rfl,hA,hB,rfl⟩
 rw[←hq] at hA hB ⊢
 dsimp only at hA hB ⊢
 obtain ⟨oa,ca,rfl,_⟩:=hA.form
 obtain ⟨E3,cr,rfl,_⟩:=hB.form
 refine gG ?_
 refine w_ [6,7,8,9,11] ?_
 refine gD 12 ?_
 refine SO.s rfl Wt.none (aH (n:=6) fa rfl rfl gA (xp rfl rfl) ir gA ⟨rfl,?_⟩)
 refine gG ?_
 refine w_ [13] ?_
 refine gM ?_
 exact ah ((b6,(oa,ca),(E3,cr),A,B)) (⟨hA,hB⟩) (Sx.put rfl (Sx.put rfl (Sx.put rfl (gL)))) (Sp.all fc)
 rintro ⟨b6,⟨oa,ca⟩,⟨E3,cr⟩,A,B⟩ ⟨hA,hB⟩
 dsimp only at hA hB ⊢
 refine g_ [5,701,3] ?_
 refine gK rfl (fun vP=>?_) fun vP=>?_
 have e72:=ru.trans vP
 refine g_ [1,513] ?_
 refine w_ [0,1,1003,2,1000,3,4,1005,5,6,1006,7,8,1007,9,10] ?_
 refine gW 11 [10,8,6,4] rfl (aj (pl:=kz) (zs:=iP) (parts:=[(0,.const (.int .i64 9)),(1,.tmp 30),(5,.tmp 32),(6,.tmp 34),(7,.tmp 36)]) (vs:=[(0,_),(1,_),(5,_),(6,_),(7,_)]) (cells:=[_,_,.int .u32 0,.int .u64 0,.int .u64 0,_,_,_,.int .i64 0,.slice none 0 0,.slice none 0 0]) fa fa rfl rfl) fa ?_
 refine gD 12 ?_
 refine jT 11 ?_
 refine gG ?_
 refine gM ?_
 refine g_ [4] ?_
 refine bH (s:=11) ((row p [.pointer (some ⟨pd,0,none⟩),.pointer (some ⟨ps,0,none⟩),.pointer (some ⟨pp,0,none⟩),.int .u32 s.e.toNat,.slice lo s.ks.length lc,.slice eo s.ef.length ec,.slice no s.no.length nc] 93::(CS++(CP++(CD++(CF++(CE++(CN++DO)))))))++H) results42 fa rfl gO gA fc ?_
 rw[(O7 (ru.trans vP)).1,(O7 (ru.trans vP)).2]
 exact ⟨_,_,[],rfl,⟨pd,ps,pp,_,_,_,_,_,_,_,_,_,_,_,rfl,hS,hP,hD,hF,hE,hN,hO⟩,Ob.nil _,rfl⟩
 refine g_ [3,701,3] ?_
 refine gK rfl (fun pM=>?_) fun pM=>?_
 refine g_ [4,103,100,1] ?_
 refine ae rfl (aj (pl:=kz) (zs:=iP) (parts:=[(0,.const (.int .i64 6)),(1,.tmp 45),(8,.const (.int .i64 2))]) (vs:=[(0,_),(1,_),(8,_)]) (cells:=[_,_,.int .u32 0,.int .u64 0,.int .u64 0,.int .u32 0,.int .i64 0,.bool false,_,.slice none 0 0,.slice none 0 0]) fa fa rfl rfl) ?_
 refine g_ [311,5] ?_
 refine bH (s:=11) ((row p [.pointer (some ⟨pd,0,none⟩),.pointer (some ⟨ps,0,none⟩),.pointer (some ⟨pp,0,none⟩),.int .u32 s.e.toNat,.slice lo s.ks.length lc,.slice eo s.ef.length ec,.slice no s.no.length nc] 93::(CS++(CP++(CD++(CF++(CE++(CN++DO)))))))++H) results42 fa rfl gO gA fc ?_
 rw[(O8 (fun e=>vP (ru.symm.trans e)) (ru.trans pM)).1,(O8 (fun e=>vP (ru.symm.trans e)) (ru.trans pM)).2]
 exact ⟨_,_,[],rfl,⟨pd,ps,pp,_,_,_,_,_,_,_,_,_,_,_,rfl,hS,hP,hD,hF,hE,hN,hO⟩,Ob.nil _,rfl⟩
 refine g_ [3,702,3] ?_
 refine gK rfl (fun lN=>?_) fun lN=>?_
 refine g_ [4,103,100,1] ?_
 refine ae rfl (aj (pl:=kz) (zs:=iP) (parts:=[(0,.const (.int .i64 6)),(1,.tmp 54),(8,.const (.int .i64 1))]) (vs:=[(0,_),(1,_),(8,_)]) (cells:=[_,_,.int .u32 0,.int .u64 0,.int .u64 0,.int .u32 0,.int .i64 0,.bool false,_,.slice none 0 0,.slice none 0 0]) fa fa rfl rfl) ?_
 refine g_ [311,5] ?_
 refine bH (s:=11) ((row p [.pointer (some ⟨pd,0,none⟩),.pointer (some ⟨ps,0,none⟩),.pointer (some ⟨pp,0,none⟩),.int .u32 s.e.toNat,.slice lo s.ks.length lc,.slice eo s.ef.length ec,.slice no s.no.length nc] 93::(CS++(CP++(CD++(CF++(CE++(CN++DO)))))))++H) results42 fa rfl gO gA fc ?_
 rw[(Pb (fun e=>vP (ru.symm.trans e)) (fun e=>pM (ru.symm.trans e)) (by rw[ru];exact lN)).1,(Pb (fun e=>vP (ru.symm.trans e)) (fun e=>pM (ru.symm.trans e)) (by rw[ru];exact lN)).2]
 exact ⟨_,_,[],rfl,⟨pd,ps,pp,_,_,_,_,_,_,_,_,_,_,_,rfl,hS,hP,hD,hF,hE,hN,hO⟩,Ob.nil _,rfl⟩
 have MU:(ix s.e s.ks n).2.2=0:=ru.trans (dW lN)
 have Nd:=FW MU
 have sB:n.data.length≤1000:=by
   have h9:mS n=false:=by
     cases e9:mS n
     · rfl
     exact absurd (.inr (.inr (.inl e9))) Nd.1
   have:=(Ow h9).2.2
   omega
 refine g_ [3,701,3] ?_
 refine gK rfl (fun Gi=>?_) fun Gi=>?_
 refine g_ [1,514] ?_
 refine w_ [0,1,2,1003,3] ?_
 refine iD 4 [3] rfl (aE (n:=2) (vs:=[_,_]) fa rfl gO gA gA) ?_
 refine w_ [1001,5,6] ?_
 refine gD 7 ?_
 refine iI rfl call78 rfl (af5 s.e _ s.ks CF hF.kv gz n.gE) ?_
 rintro x H9 ⟨ws,DS,rfl,Tb,rfl⟩
 obtain ⟨so,sc,rfl⟩:=Tb.form
 refine gG ?_
 refine w_ [8,9,10,11,1003,12] ?_
 refine gD 13 ?_
 refine SO.s rfl Wt.none (bj (n:=2) fa rfl rfl gA qd ir (by show 0+3+2≤7;decide) gA ⟨rfl,?_⟩)
 refine gG ?_
 refine gM ?_
 refine g_ [3,411,104,1,105,1] ?_
 refine c_ call79 rfl (RG n _ _ ⟨_,_,rfl⟩ ⟨_,_,rfl⟩ kk.code _ kk.iq B hB.bs gz) ?_
 rintro x H9 ⟨wd,AD,rfl,Gp,rfl⟩
 obtain ⟨od,cd,rfl,_⟩:=Gp.form
 refine g_ [311,5] ?_
 refine bH (s:=11) ((row p [.pointer (some ⟨pd,0,none⟩),.pointer (some ⟨ps,0,none⟩),.pointer (some ⟨pp,0,none⟩),.int .u32 (rB s.e s.ks n.gE).1.toNat,.slice so (rB s.e s.ks n.gE).2.1.length sc,.slice eo s.ef.length ec,.slice no s.no.length nc] 93::(CS++(CP++(CD++(DS++(CE++(CN++DO)))))))++(AD++H)) results42 fa rfl gO gA fc ?_
 have g:=O9 (s:=s) (n:=n) (by rw[ru];exact lN) (rX.trans Gi)
 rw[yn] at g
 rw[g.1,g.2]
 exact ⟨_,_,AD,rfl,⟨pd,ps,pp,_,_,_,CS,CP,CD,DS,CE,cn,CN,DO,rfl,hS,hP,hD,Tb,hE,hN,hO⟩,Gp,rfl⟩
 refine g_ [4,103,101,1,710,200,708,3] ?_
 refine gK rfl (fun h78=>?_) fun h78=>?_
 refine g_ [4,103,100,1] ?_
 refine ae rfl (aj (pl:=kz) (zs:=iP) (parts:=[(0,.const (.int .i64 6)),(1,.tmp 90),(8,.const (.int .i64 3))]) (vs:=[(0,_),(1,_),(8,_)]) (cells:=[_,_,.int .u32 0,.int .u64 0,.int .u64 0,.int .u32 0,.int .i64 0,.bool false,_,.slice none 0 0,.slice none 0 0]) fa fa rfl rfl) ?_
 refine g_ [311,5] ?_
 refine bH (s:=11) ((row p [.pointer (some ⟨pd,0,none⟩),.pointer (some ⟨ps,0,none⟩),.pointer (some ⟨pp,0,none⟩),.int .u32 s.e.toNat,.slice lo s.ks.length lc,.slice eo s.ef.length ec,.slice no s.no.length nc] 93::(CS++(CP++(CD++(CF++(CE++(CN++DO)))))))++H) results42 fa rfl gO gA fc ?_
 rw[(Km (by rw[ru];exact lN) (by rw[rX];exact Gi) gz).1,(Km (by rw[ru];exact lN) (by rw[rX];exact Gi) gz).2]
 exact ⟨_,_,[],rfl,⟨pd,ps,pp,_,_,_,_,_,_,_,_,_,_,_,rfl,hS,hP,hD,hF,hE,hN,hO⟩,Ob.nil _,rfl⟩
 refine g_ [9] ?_
 refine aI (fun z:Int×List (BitVec 8)×List Ck×(Option Addr×Nat)×List Ck=>z.1=qj s n act∧z.2.1=qy s n act∧xG 137 144 150 3 5 200 209 68 93 p (sj s n act) z.2.2.1∧Ob 5 (.slice z.2.2.2.1.1 z.2.1.length z.2.2.2.1.2) z.2.1 z.2.2.2.2) (fun z:Int×List (BitVec 8)×List Ck×(Option Addr×Nat)×List Ck=>[(8,.int .i64 z.1),(9,.slice z.2.2.2.1.1 z.2.1.length z.2.2.2.1.2)]) (fun z:Int×List (BitVec 8)×List Ck×(Option Addr×Nat)×List Ck=>z.2.2.1++(z.2.2.2.2++(row b4 [.int .i64 0,.int .u32 0,.int .u32 0,.int .u64 0,.int .u64 0,.int .u32 0,.int .i64 0,.bool false,.int .i64 0,.slice none 0 0,.slice none 0 0] 104::(row b3 (gS n (.slice ko n.key.length N4) (.slice jR n.data.length dc)) 104::H)))) ?_ ?_
 refine g_ [8,701,3] ?_
 refine gK rfl (fun AP=>?_) fun AP=>?_
 refine g_ [4] ?_
 exact aV ((1,[],row p [.pointer (some ⟨pd,0,none⟩),.pointer (some ⟨ps,0,none⟩),.pointer (some ⟨pp,0,none⟩),.int .u32 s.e.toNat,.slice lo s.ks.length lc,.slice eo s.ef.length ec,.slice no s.no.length nc] 93::(CS++(CP++(CD++(CF++(CE++(CN++DO)))))),(none,0),[])) (by have g:=RD (s:=s) (n:=n) AP;exact ⟨g.1.symm,g.2.1.symm,by rw[g.2.2];exact ⟨pd,ps,pp,_,_,_,_,_,_,_,_,_,_,_,rfl,hS,hP,hD,hF,hE,hN,hO⟩,Ob.nil _⟩) (Sx.put rfl (Sx.put rfl (gL))) fc
 refine g_ [2,701,3] ?_
 refine gK rfl (fun I0=>?_) fun I0=>?_
 refine g_ [3,411] ?_
 refine c_ call80 rfl (ZT p s _ Ma inv.st inv.pu inv.dk gz n _ _ H ⟨_,_,rfl⟩ p7 sB) ?_
 rintro x H9 ⟨C9,xr,AR,rfl,h9,B9,rfl⟩
 obtain ⟨ro,rc,rfl,_⟩:=B9.form
 refine g_ [10,701,2] ?_
 refine gK rfl (fun LR=>?_) fun LR=>?_
 have hF9:(lr s n).ef.length=s.ef.length:=by rw[BR.2.2]
 refine g_ [517] ?_
 refine w_ [0,1,2,1005,3] ?_
 obtain ⟨pd,ps,pp,vL,vE,vN,CS,CP,CD,CF,CE,cn,CN,DO,rfl,hS,hP,hD,hF,hE,hN,hO⟩:=h9
 obtain ⟨lo,lc,rfl⟩:=hF.form
 obtain ⟨eo,ec,rfl,GD⟩:=hE.form
 obtain ⟨no,nc,rfl,yj⟩:=hN.form
 refine w_ [4,1005,5,6,1006,7,8,1007,9,10] ?_
 refine gW 11 [10,8,6] rfl (aj (pl:=[(0,1),(1,1),(2,1)]) (zs:=[.int .u32 0,.int .i64 0,.bool false]) (parts:=[(0,.tmp 111),(1,.tmp 113),(2,.tmp 115)]) (vs:=[(0,_),(1,_),(2,_)]) (cells:=[_,_,_]) fa fa rfl rfl) fa ?_
 refine gD 12 ?_
 refine SO.h rfl Wt.none rfl (aX (e:=209) (sz:=3) (zs:=[.int .u32 0,.int .i64 0,.bool false]) fa fa fa rfl rfl gA fa fun aiD=>⟨_,rfl,?_⟩)
 refine iO [0,0,0,0] ?_
 refine gD 13 ?_
 refine SO.h rfl Wt.none rfl (aT (e:=209) (sz:=3) (bytes:=24) (zs:=[.int .u32 0,.int .i64 0,.bool false]) fa fa rfl gz rfl rfl (hE) fc gO gA (Z5 (⟨n.order,n.step,n.iy⟩:Ef)) (by simp only[maxLen];omega) gz fun v2 C2 h2=>⟨_,rfl,?_⟩)
 refine iO [0,0,0] ?_
 obtain ⟨yZ,yV,rfl,_⟩:=h2.form
 refine w_ [14,1005,15] ?_
 refine gD 16 ?_
 refine SO.s rfl Wt.none (bg fa rfl rfl gA ir gA (by (simp only[fC,ff,eV,fG,Nat.reduceAdd];rfl)) ⟨rfl,?_⟩)
 refine gG ?_
 refine gM ?_
 refine g_ [1] ?_
 exact aV ((mA s n,om s n,row p [.pointer (some ⟨pd,0,none⟩),.pointer (some ⟨ps,0,none⟩),.pointer (some ⟨pp,0,none⟩),.int .u32 (lr s n).e.toNat,.slice lo (lr s n).ks.length lc,.slice yZ ((lr s n).ef.length+1) yV,.slice no (lr s n).no.length nc] 93::(CS++(CP++(CD++(CF++(C2++(CN++DO)))))),(ro,rc),AR)) (by have g:=Lv (s:=s) (n:=n) AP I0;exact ⟨g.1.symm,g.2.1.symm,by rw[g.2.2,dx LR];exact ⟨pd,ps,pp,_,_,_,_,_,_,_,_,_,_,_,rfl,hS,hP,hD,hF,by show il _ ((lr s n).ef++[_]).length (((lr s n).ef++[_]).flatMap ID) _ 3 _;rw[dr,List.flatMap_append];exact h2,hN,hO⟩,B9⟩) (Sx.put rfl (Sx.put rfl (gL))) fc
 refine g_ [2] ?_
 exact aV ((mA s n,om s n,C9,(ro,rc),AR)) (by have g:=Lv (s:=s) (n:=n) AP I0;exact ⟨g.1.symm,g.2.1.symm,by rw[g.2.2,dp LR];exact h9,B9⟩) (Sx.put rfl (Sx.put rfl (gL))) fc
 refine g_ [2] ?_
 exact aV ((2,[],row p [.pointer (some ⟨pd,0,none⟩),.pointer (some ⟨ps,0,none⟩),.pointer (some ⟨pp,0,none⟩),.int .u32 s.e.toNat,.slice lo s.ks.length lc,.slice eo s.ef.length ec,.slice no s.no.length nc] 93::(CS++(CP++(CD++(CF++(CE++(CN++DO)))))),(none,0),[])) (by have g:=RC (s:=s) (n:=n) AP I0;exact ⟨g.1.symm,g.2.1.symm,by rw[g.2.2];exact ⟨pd,ps,pp,_,_,_,_,_,_,_,_,_,_,_,rfl,hS,hP,hD,hF,hE,hN,hO⟩,Ob.nil _⟩) (Sx.put rfl (Sx.put rfl (gL))) fc
 clear hS hP hD hF hE hN hO GD yj
 rintro ⟨Iy,rp,C9,⟨ro,rc⟩,AR⟩ ⟨mC,NK,h9,B9⟩
 dsimp only at mC NK h9 B9 ⊢
 have tN:=Lw (s:=s) (n:=n) (act:=act)
 obtain ⟨d,yc⟩:∃d,d=sj s n act:=⟨_,rfl⟩
 rw[←yc] at h9 tN
 have ai2:d.ks.length=s.ks.length:=by rw[tN.2]
 obtain ⟨pd,ps,pp,vL,vE,vN,CS,CP,CD,CF,CE,cn,CN,DO,rfl,hS,hP,hD,hF,hE,hN,hO⟩:=h9
 obtain ⟨lo,lc,rfl⟩:=hF.form
 obtain ⟨eo,ec,rfl,GD⟩:=hE.form
 obtain ⟨no,nc,rfl,yj⟩:=hN.form
 refine g_ [1,515] ?_
 refine w_ [0,1,2,1003,3] ?_
 refine iD 4 [3] rfl (aE (n:=2) (vs:=[_,_]) fa rfl gO gA gA) ?_
 refine w_ [2011,5,6,7] ?_
 refine gD 8 ?_
 refine iI rfl call81 rfl (adu d.e _ d.ks (CF++(AR++H)) (hF.kv.mono hZ) (by rw[tN.2];omega) n _ _ (tj.mono hZ) (p7.mono hZ) Iy _ rp (B9.bs.mono hZ)) ?_
 rintro x H9 ⟨wk,DK,rfl,S6,rfl⟩
 obtain ⟨we,wb,rfl⟩:=S6.form
 refine gG ?_
 refine w_ [9,10,11,12,1003,13] ?_
 refine gD 14 ?_
 refine SO.s rfl Wt.none (bj (n:=2) fa rfl rfl gA qd ir (by show 0+3+2≤7;decide) gA ⟨rfl,?_⟩)
 refine gG ?_
 refine gM ?_
 refine g_ [3,411,2] ?_
 refine c_ call79 rfl (RG n _ _ ⟨_,_,rfl⟩ ⟨_,_,rfl⟩ Iy _ rp AR B9.bs (by rw[NK];have:=Kh (s:=s) (n:=n) (act:=act);omega)) ?_
 rintro x H9 ⟨wd,AD,rfl,Gp,rfl⟩
 obtain ⟨od,cd,rfl,_⟩:=Gp.form
 refine g_ [311,3] ?_
 refine bH (s:=11) ((row p [.pointer (some ⟨pd,0,none⟩),.pointer (some ⟨ps,0,none⟩),.pointer (some ⟨pp,0,none⟩),.int .u32 (rZ d.e d.ks n Iy rp).1.toNat,.slice we (rZ d.e d.ks n Iy rp).2.1.length wb,.slice eo d.ef.length ec,.slice no d.no.length nc] 93::(CS++(CP++(CD++(DK++(CE++(CN++DO)))))))++(AD++H)) results42 fa rfl gO gA fc ?_
 have g:=Pa (s:=s) (n:=n) (by rw[ru];exact lN) (by rw[rX];exact Gi) gz
 rw[rX,←yc,←mC,←NK] at g
 rw[g.1,g.2]
 exact ⟨_,_,AD,rfl,⟨pd,ps,pp,_,_,_,CS,CP,CD,DK,CE,cn,CN,DO,rfl,hS,hP,hD,S6,hE,hN,hO⟩,Gp,rfl⟩
end Go.Proofs.YtchdmlkiggdhaaaGreat
namespace Go.Proofs.YtchdmlkiggdhaaaGreat
open Go.SL Top Go.Proofs.Tryz
attribute [local irreducible] WL WC DN gZ iX
theorem OY {P:Program} {f:FuncId} {args:List Value} {H H2:List Ck} {v:Value} (h:Reads P f args H2 v) (p:H.Perm H2):Reads P f args H v:=z6 (Pm h p) fun _ _ ⟨a,b⟩=>⟨H,by rw[b];exact p.symm,a,rfl⟩
theorem Vk {c:Ck} {H:List Ck} (h:c∈H):∃D,H.Perm (c::D):=by
  obtain ⟨s,t,rfl⟩:=List.mem_iff_append.1 h
  exact ⟨s++t,List.perm_middle⟩
theorem FV {p:Nat} {a:Ar} {H:List Ck} (h:row p (jr a) 73∈H):Reads prog 19 [ptr p] H (.int .u64 a.now.toNat):=by
  obtain ⟨D,hp⟩:=Vk h
  exact OY (Yq p a D) hp
theorem Yi {p:Nat} {a:Ar} {H:List Ck} (h:row p (jr a) 73∈H):Reads prog 8 [ptr p] H (.agg (ry a.l).toArray):=by
  obtain ⟨D,hp⟩:=Vk h
  exact OY (Yj p a D) hp
theorem qa (k:Bool):0≤kI k:=by cases k<;>decide
theorem p8 (k:Bool):kI k<(3:Nat):=by cases k<;>decide
theorem OO:1≤kF.length∧kF.length≤8:=by decide
def ik (pa pc:Nat) (D S:Bool→Value) (vt ve:Value):List Value:=[ptr pa,ptr pc,.pointer none,D false,D true,.pointer none,S false,S true,vt,ve,.bool false]
def WA (w:Nat) (k:Bool) (g:Gs) (told ends:List jt) (C:List Ck):Prop:=
  ∃ (pa pc:Nat) (p pd:Bool→Nat) (vt ve:Value) (CC S1 S2 CT CE:List Ck),C=row w (ik pa pc (fun b9=>ptr (pd b9)) (fun b9=>ptr (p b9)) vt ve) 36::(row pa (jr g.a) 73::(CC++(S1++(S2++(CT++CE)))))∧xG 137 144 150 3 5 200 209 68 93 pc g.c CC∧SA (p k) (pd k) kF (g.J k) (g.seen k) (g.R k) S1∧SA (p (!k)) (pd (!k)) kF (g.J (!k)) (g.seen (!k)) (g.R (!k)) S2∧
    il vt told.length (told.flatMap jY) 40 4 CT∧il ve ends.length (ends.flatMap jY) 40 4 CE
theorem WA.other {w:Nat} {k:Bool} {g:Gs} {told ends:List jt} {C:List Ck} (h:WA w k g told ends C):∃C2,C.Perm C2∧WA w (!k) g told ends C2:=by
  obtain ⟨pa,pc,p,pd,vt,ve,CC,S1,S2,CT,CE,rfl,hC,hS,mu,hT,hE⟩:=h
  refine ⟨_,?_,pa,pc,p,pd,vt,ve,CC,S2,S1,CT,CE,rfl,hC,mu,by rw[Bool.not_not];exact hS,hT,hE⟩
  exact List.Perm.cons _ (List.Perm.cons _ (gf _ (List.perm_append_comm_assoc _ _ _)))
theorem WA.yz {w:Nat} {k:Bool} {g:Gs} {told ends:List jt} {C:List Ck} (h:WA w k g told ends C) (j:Bool):∃C2,C.Perm C2∧WA w j g told ends C2:=by
  rcases two (k:=k) (j:=j) with e|e
  · rw[e];exact ⟨C,fb _,h⟩
  rw[e];exact h.other
theorem ahU (w:Nat) (k:Bool) (g:Gs) (told ends:List jt) (C:List Ck) (hW:WA w k g told ends C) (hb:(g.J k).length≤125) (H:List Ck):Reads prog 7 [ptr w,.int .i64 (kI k)] (C++H) (.bool (lj (g.R k) g.a.now)):=by
 refine gC.enter func7 rfl ntmps7 rfl ?_
 intro w0 R
 obtain ⟨pa,pc,p,pd,vt,ve,CC,S1,S2,CT,CE,rfl,hC,hS,mu,hT,hE⟩:=hW
 refine g_ [6,513] ?_
 refine w_ [0,1,2,1005,3] ?_
 refine gW 4 [3,1] rfl (aN (e:=32) (s:=1) fa fa rfl rfl (qa k) (p8 k)) fa ?_
 refine iD 5 [4] rfl (ab (v:=ptr (p k)) (cs:=(ik pa pc (fun b9=>ptr (pd b9)) (fun b9=>ptr (p b9)) vt ve)) fa rfl iz (by cases k<;>rfl)) ?_
 refine w_ [6,7,1000,8] ?_
 refine iD 9 [8] rfl (ab (v:=ptr pa) (cs:=(ik pa pc (fun b9=>ptr (pd b9)) (fun b9=>ptr (p b9)) vt ve)) fa rfl iz gA) ?_
 refine jy 10 [9] rfl call19 rfl (FV iz) ax ?_
 refine jy 11 [10,5] rfl call26 rfl (ahg mY (hS.v (Sp.sub fc)) hb g.a.now) ax ?_
 refine gD 12 ?_
 refine jm ?_
 refine gG ?_
 refine gM ?_
 refine g_ [2] ?_
 refine gH ((row w (ik pa pc (fun b9=>ptr (pd b9)) (fun b9=>ptr (p b9)) vt ve) 36::(row pa (jr g.a) 73::(CC++(S1++(S2++(CT++CE))))))++H) ?_
 exact aa results7 rfl (⟨rfl,rfl⟩)
theorem Px (w:Nat) (k:Bool) (g:Gs) (told ends:List jt) (C:List Ck) (hW:WA w k g told ends C) (j:Bool) (hb:(g.J j).length≤125) (H:List Ck):Reads prog 7 [ptr w,.int .i64 (kI j)] (C++H) (.bool (lj (g.R j) g.a.now)):=by
  obtain ⟨C2,hp,j3⟩:=hW.yz j
  exact OY (ahU w j g told ends C2 j3 hb H) (hp.append_right H)
theorem QK {p:Nat} {a b:Ar} {H:List Ck} (e:b.now=a.now) (h:row p (jr b) 73∈H):Reads prog 19 [ptr p] H (.int .u64 a.now.toNat):=by
  rw[←e];exact FV h
theorem aak {R:Option Rl} (h:nV R≠0#32):∃r,R=some r∧nV R=r.ep:=by
  cases R with
  |none=>exact absurd rfl h
  |some r=>exact ⟨r,rfl,rfl⟩
theorem yC {w:Nat} {k:Bool} {g gU:Gs} {told ends:List jt} {pa pc:Nat} {p pd:Bool→Nat} {vt ve:Value} {CC S1 S2 CT CE:List Ck} (hc:gU.c=g.c) (ho:sO k g gU) (hC:xG 137 144 150 3 5 200 209 68 93 pc g.c CC) (hS:SA (p k) (pd k) kF (gU.J k) (gU.seen k) (gU.R k) S1)
    (mu:SA (p (!k)) (pd (!k)) kF (g.J (!k)) (g.seen (!k)) (g.R (!k)) S2) (hT:il vt told.length (told.flatMap jY) 40 4 CT) (hE:il ve ends.length (ends.flatMap jY) 40 4 CE):
    WA w k gU told ends (row w (ik pa pc (fun b9=>ptr (pd b9)) (fun b9=>ptr (p b9)) vt ve) 36::(row pa (jr gU.a) 73::(CC++(S1++(S2++(CT++CE)))))):=
  ⟨pa,pc,p,pd,vt,ve,CC,S1,S2,CT,CE,rfl,by rw[hc];exact hC,hS,by rw[ho.1,ho.2.1,ho.2.2];exact mu,hT,hE⟩
theorem Xs (w:Nat) (k:Bool) (g:Gs) (told ends:List jt) (C:List Ck) (hW:WA w k g told ends C) (G:List En) (m mc:Nat) (v:iR kF g G m mc) (hm:m≤119) (qt:mc≤119) (on:Bool) (H:List Ck):gC prog 16 [ptr w,.int .i64 (kI k),.bool on] (C++H) fun r0 gr=>∃gU gP D,WA w k gU told ends gP∧iR kF gU G (m+1) mc∧gr=gP++(D++H):=by
 refine gC.enter func16 rfl ntmps16 rfl ?_
 intro w0 R
 obtain ⟨pa,pc,p,pd,vt,ve,CC,S1,S2,CT,CE,rfl,hC,hS,mu,hT,hE⟩:=hW
 have hlen:=v.len k
 refine g_ [5,105] ?_
 refine ae rfl (aN (e:=32) (s:=1) fa fa rfl rfl (qa k) (p8 k)) ?_
 refine WL.h rfl (ak (v:=ptr (p k)) (cs:=(ik pa pc (fun b9=>ptr (pd b9)) (fun b9=>ptr (p b9)) vt ve)) fa rfl iz (by cases k<;>rfl) ⟨_,rfl,?_⟩)
 refine c_ call34 rfl (aht mY (hS.v (Sp.sub fc)) gz) ?_
 rintro x15 KS ⟨rfl,pt⟩
 obtain rfl:S1=KS:=pt.symm
 refine iS iP fun b6=>?_
 refine g_ [311,2] ?_
 refine aI (fun ep:BitVec 32=>ep=0#32∨ep=nV (g.R k)) (fun ep:BitVec 32=>[]) (fun ep:BitVec 32=>(row w (ik pa pc (fun b9=>ptr (pd b9)) (fun b9=>ptr (p b9)) vt ve) 36::(row pa (jr g.a) 73::(CC++(S1++(S2++(CT++CE))))))++([row b6 (gS (nR ep 0) (.slice none 0 0) (.slice none 0 0)) 104]++H)) ?_ ?_
 refine WC.seq ?_
 cases on
 refine g_ [2,709,2017,4,101] ?_
 refine WL.s (aq (iT:=gS (nR 0#32 0) (.slice none 0 0) (.slice none 0 0)) fa rfl rfl gA ir (by show 0+1<11;decide) rfl ⟨rfl,?_⟩)
 exact WL.nil (ah (0#32) (.inl rfl) (gL) (Sp.all fc))
 refine g_ [2,709,1017,4] ?_
 exact ah (nV (g.R k)) (.inr rfl) (gL) (Sp.all fc)
 intro ep Tv
 refine aI (fun z:Ar×Nt×Nat=>HF g.a (kI k) (nR ep 0) z.1 z.2.1) (fun z:Ar×Nt×Nat=>[(7,.pointer (some ⟨z.2.2,0,none⟩))]) (fun z:Ar×Nt×Nat=>(row w (ik pa pc (fun b9=>ptr (pd b9)) (fun b9=>ptr (p b9)) vt ve) 36::(row pa (jr z.1) 73::(CC++(S1++(S2++(CT++CE))))))++([row b6 (gS (nR ep 0) (.slice none 0 0) (.slice none 0 0)) 104,row z.2.2 (gS z.2.1 (.slice none 0 0) (.slice none 0 0)) 104]++H)) ?_ ?_
 refine g_ [509] ?_
 refine w_ [0,1,1000,2] ?_
 refine iD 3 [2] rfl (ab (v:=ptr pa) (cs:=(ik pa pc (fun b9=>ptr (pd b9)) (fun b9=>ptr (p b9)) vt ve)) fa rfl iz gA) ?_
 refine w_ [4,2011,5] ?_
 refine pe [(6,[5,4,3]),(7,[])] fa (ig ?_ (ig ?_ (jl)))
 refine kP ?_
 refine iI rfl call35 rfl (Iq pa g.a v.ar (kI k) (zK k) (nR ep 0) (.slice none 0 0) (.slice none 0 0) ⟨_,_,rfl⟩ ⟨_,_,rfl⟩ ⟨rfl,by simp[mS,nR,jF,nm,rest,oG,wo,qx,qE]⟩ (.inl rfl) (fun _=>rfl) []) ?_
 rintro PG KU ⟨gX,ob,pR,rfl,rfl⟩
 refine gG ?_
 refine gD 7 ?_
 refine nQ iP fun b7=>?_
 refine gG ?_
 refine gD 8 ?_
 refine jT 11 ?_
 refine gG ?_
 refine gM ?_
 exact ah ((gX,ob,b7)) (pR) (Sx.put rfl (gL)) (Sp.all fc)
 refine kP ?_
 refine nQ iP fun b7=>?_
 refine gG ?_ (hr:=by exact ig (iw [] rfl (aw Wt.none (aQ (n:=11) fa rfl iz gA)) fa) (ig (iw [2] rfl (aw Wt.none (ab (v:=ptr pa) (cs:=(ik pa pc (fun b9=>ptr (pd b9)) (fun b9=>ptr (p b9)) vt ve)) fa rfl iz gA)) fa) jl))
 refine gD 6 ?_
 refine iI rfl call35 rfl (Iq pa g.a v.ar (kI k) (zK k) (nR ep 0) (.slice none 0 0) (.slice none 0 0) ⟨_,_,rfl⟩ ⟨_,_,rfl⟩ ⟨rfl,by simp[mS,nR,jF,nm,rest,oG,wo,qx,qE]⟩ (.inl rfl) (fun _=>rfl) []) ?_
 rintro PG KU ⟨gX,ob,pR,rfl,rfl⟩
 refine gG ?_
 refine gD 8 ?_
 refine jT 11 ?_
 refine gG ?_
 refine gM ?_
 exact ah ((gX,ob,b7)) (pR) (Sx.put rfl (gL)) (Sp.all fc)
 rintro ⟨gX,ob,b7⟩ pR
 replace pR:HF g.a (kI k) (nR ep 0) gX ob:=pR
 change WC _ _ _ _ _ _ ([(7,.pointer (some ⟨b7,0,none⟩))]++_) ((row w (ik pa pc (fun b9=>ptr (pd b9)) (fun b9=>ptr (p b9)) vt ve) 36::(row pa (jr gX) 73::(CC++(S1++(S2++(CT++CE))))))++([row b6 (gS (nR ep 0) (.slice none 0 0) (.slice none 0 0)) 104,row b7 (gS ob (.slice none 0 0) (.slice none 0 0)) 104]++H))
 refine g_ [3,100,1,702,2] ?_
 refine gK rfl (fun su=>?_) fun su=>?_
 obtain ⟨rfl,c9,rfl⟩:=pR.resolve_right (fun q=>su (by rw[q.2.2.2];rfl))
 refine g_ [2] ?_
 refine gH ((row w (ik pa pc (fun b9=>ptr (pd b9)) (fun b9=>ptr (p b9)) vt ve) 36::(row pa (jr g.a) 73::(CC++(S1++(S2++(CT++CE))))))++([row b6 (gS (nR ep 0) (.slice none 0 0) (.slice none 0 0)) 104,row b7 (gS (Ov g.a c9) (.slice none 0 0) (.slice none 0 0)) 104]++H)) ?_
 exact DN.O0 results16 (⟨g,_,_,⟨pa,pc,p,pd,vt,ve,CC,S1,S2,CT,CE,rfl,hC,hS,mu,hT,hE⟩,v.le (eh _) (dA _),rfl⟩)
 obtain ⟨Ew,Ex,ha,sF⟩:=pR.resolve_left (fun q=>by
   obtain ⟨_,c9,q2⟩:=q
   rw[q2] at su
   exact su (show (6:Int)≠5 by decide))
 obtain rfl:ob=EU gX.l g.a.now:=by rw[sF,ha]
 have lR:=W0 mY v hm hS OO (nR ep 0) gX Ew Ex ha (fun q=>by
   rcases Tv with rfl|rfl
   · exact absurd rfl q
   obtain ⟨r,hr,he⟩:=aak q
   exact ⟨r,hr,he,.inl rfl,fun q2=>(by cases q2)⟩) []
 refine g_ [3,514] ?_
 refine w_ [0,1,2,1005,3] ?_
 refine gW 4 [3,1] rfl (aN (e:=32) (s:=1) fa fa rfl rfl (qa k) (p8 k)) fa ?_
 refine iD 5 [4] rfl (ab (v:=ptr (p k)) (cs:=(ik pa pc (fun b9=>ptr (pd b9)) (fun b9=>ptr (p b9)) vt ve)) fa rfl iz (by cases k<;>rfl)) ?_
 refine w_ [6,7,1000,8] ?_
 refine iD 9 [8] rfl (ab (v:=ptr pa) (cs:=(ik pa pc (fun b9=>ptr (pd b9)) (fun b9=>ptr (p b9)) vt ve)) fa rfl iz gA) ?_
 refine jy 10 [9] rfl call19 rfl (QK (a:=g.a) (b:=gX) (by rw[ha]) iz) ax ?_
 refine w_ [2011,11] ?_
 refine gD 12 ?_
 refine iI rfl call36 rfl (lR) ?_
 rintro x41 X0 ⟨rfl,gU,kR,D,jX,lH,rfl,w3,nY,rfl⟩
 refine gG ?_ (hr:=by exact ig (iw [8] rfl (aw Wt.none (ab (v:=ptr pa) (cs:=(ik pa pc (fun b9=>ptr (pd b9)) (fun b9=>ptr (p b9)) vt ve)) fa rfl iz gA)) fa) jl)
 refine w_ [13] ?_
 refine gM ?_
 refine g_ [5,110] ?_
 refine WL.h rfl (ak (v:=.bool false) (cs:=(ik pa pc (fun b9=>ptr (pd b9)) (fun b9=>ptr (p b9)) vt ve)) fa rfl iz gA ⟨_,rfl,?_⟩)
 refine g_ [1,1047,1,702,1049,6,702,1056,6,110] ?_
 refine WL.s (aq (iT:=ik pa pc (fun b9=>ptr (pd b9)) (fun b9=>ptr (p b9)) vt ve) fa rfl rfl gA ir (by show 0+10<11;decide) rfl ⟨rfl,?_⟩)
 refine WL.nil (gH ((row w (ik pa pc (fun b9=>ptr (pd b9)) (fun b9=>ptr (p b9)) vt ve) 36::(row pa (jr gU.a) 73::(CC++(kR++(S2++(CT++CE))))))++(([row b6 (gS (nR ep 0) (.slice none 0 0) (.slice none 0 0)) 104,row b7 (gS (EU gU.a.l g.a.now) (.slice none 0 0) (.slice none 0 0)) 104]++D)++H)) ?_)
 exact bl results16 (⟨gU,_,_,yC w3 nY hC jX mu hT hE,lH,rfl⟩)
theorem Xw (w:Nat) (k:Bool) (g:Gs) (told ends:List jt) (C:List Ck) (hW:WA w k g told ends C) (G:List En) (m mc:Nat) (v:iR kF g G m mc) (hm:m≤119) (qt:mc≤119) (mode:Int) (zv:mode=1∨mode=2) (H:List Ck):gC prog 24 [ptr w,.int .i64 (kI k),.int .i64 mode] (C++H) fun r0 gr=>∃gU gP D,WA w k gU told ends gP∧iR kF gU G (m+1) mc∧gr=gP++(D++H):=by
 refine gC.enter func24 rfl ntmps24 rfl ?_
 intro w0 R
 obtain ⟨pa,pc,p,pd,vt,ve,CC,S1,S2,CT,CE,rfl,hC,hS,mu,hT,hE⟩:=hW
 have hlen:=v.len k
 refine g_ [5,105] ?_
 refine ae rfl (aN (e:=32) (s:=1) fa fa rfl rfl (qa k) (p8 k)) ?_
 refine WL.h rfl (ak (v:=ptr (p k)) (cs:=(ik pa pc (fun b9=>ptr (pd b9)) (fun b9=>ptr (p b9)) vt ve)) fa rfl iz (by cases k<;>rfl) ⟨_,rfl,?_⟩)
 refine g_ [1] ?_
 refine c_ call48 rfl (ahq mY v hm hS mode zv []) ?_
 rintro x17 XU ⟨g1,S3,xZ,G1,tJ,lX,oS,rfl,n1,e1,rfl,mH⟩
 refine g_ [3] ?_
 refine iS iP fun b6=>?_
 refine g_ [311,7,702,2] ?_
 refine gK rfl (fun nK=>?_) fun nK=>?_
 obtain rfl:=mH.resolve_right (fun q=>nK q.1)
 refine g_ [2] ?_
 refine gH ((row w (ik pa pc (fun b9=>ptr (pd b9)) (fun b9=>ptr (p b9)) vt ve) 36::(row pa (jr g.a) 73::(CC++(S3++(S2++(CT++CE))))))++([row b6 (gS n1 (.slice none 0 0) (.slice none 0 0)) 104]++H)) ?_
 refine DN.O0 results24 ?_
 rw[←tJ]
 exact ⟨g1,_,_,yC lX oS hC xZ mu hT hE,G1.le (eh _) (dA _),rfl⟩
 obtain ⟨rfl,r,Jx,ti,Uh,hr4,rfl⟩:=mH.resolve_left (fun q=>by omega)
 refine g_ [2] ?_
 refine aI (fun z:Ar×Nt×Nat=>HF g.a (kI k) (nR r.ep mode) z.1 z.2.1) (fun z:Ar×Nt×Nat=>[(8,.pointer (some ⟨z.2.2,0,none⟩))]) (fun z:Ar×Nt×Nat=>(row w (ik pa pc (fun b9=>ptr (pd b9)) (fun b9=>ptr (p b9)) vt ve) 36::(row pa (jr z.1) 73::(CC++(S3++(S2++(CT++CE))))))++([row b6 (gS (nR r.ep mode) (.slice none 0 0) (.slice none 0 0)) 104,row z.2.2 (gS z.2.1 (.slice none 0 0) (.slice none 0 0)) 104]++H)) ?_ ?_
 refine g_ [509] ?_
 refine w_ [0,1,1000,2] ?_
 refine iD 3 [2] rfl (ab (v:=ptr pa) (cs:=(ik pa pc (fun b9=>ptr (pd b9)) (fun b9=>ptr (p b9)) vt ve)) fa rfl iz gA) ?_
 refine w_ [4,2011,5] ?_
 refine pe [(6,[5,4,3]),(7,[])] fa (ig ?_ (ig ?_ (jl)))
 refine kP ?_
 refine iI rfl call35 rfl (Iq pa g.a v.ar (kI k) (zK k) (nR r.ep mode) (.slice none 0 0) (.slice none 0 0) ⟨_,_,rfl⟩ ⟨_,_,rfl⟩ ⟨rfl,by rcases zv with rfl|rfl<;>simp[mS,nR,jF,nm,rest,oG,wo,qx,qE]⟩ (.inr zv) (fun q=>absurd q ti) []) ?_
 rintro XB Qk ⟨gX,ob,pR,rfl,rfl⟩
 refine gG ?_
 refine gD 7 ?_
 refine nQ iP fun b8=>?_
 refine gG ?_
 refine gD 8 ?_
 refine jT 11 ?_
 refine gG ?_
 refine gM ?_
 exact ah ((gX,ob,b8)) (pR) (Sx.put rfl (gL)) (Sp.all fc)
 refine kP ?_
 refine nQ iP fun b8=>?_
 refine gG ?_ (hr:=by exact ig (iw [] rfl (aw Wt.none (aQ (n:=11) fa rfl iz gA)) fa) (ig (iw [2] rfl (aw Wt.none (ab (v:=ptr pa) (cs:=(ik pa pc (fun b9=>ptr (pd b9)) (fun b9=>ptr (p b9)) vt ve)) fa rfl iz gA)) fa) jl))
 refine gD 6 ?_
 refine iI rfl call35 rfl (Iq pa g.a v.ar (kI k) (zK k) (nR r.ep mode) (.slice none 0 0) (.slice none 0 0) ⟨_,_,rfl⟩ ⟨_,_,rfl⟩ ⟨rfl,by rcases zv with rfl|rfl<;>simp[mS,nR,jF,nm,rest,oG,wo,qx,qE]⟩ (.inr zv) (fun q=>absurd q ti) []) ?_
 rintro XB Qk ⟨gX,ob,pR,rfl,rfl⟩
 refine gG ?_
 refine gD 8 ?_
 refine jT 11 ?_
 refine gG ?_
 refine gM ?_
 exact ah ((gX,ob,b8)) (pR) (Sx.put rfl (gL)) (Sp.all fc)
 rintro ⟨gX,ob,b8⟩ pR
 replace pR:HF g.a (kI k) (nR r.ep mode) gX ob:=pR
 change WC _ _ _ _ _ _ ([(8,.pointer (some ⟨b8,0,none⟩))]++_) ((row w (ik pa pc (fun b9=>ptr (pd b9)) (fun b9=>ptr (p b9)) vt ve) 36::(row pa (jr gX) 73::(CC++(S3++(S2++(CT++CE))))))++([row b6 (gS (nR r.ep mode) (.slice none 0 0) (.slice none 0 0)) 104,row b8 (gS ob (.slice none 0 0) (.slice none 0 0)) 104]++H))
 refine g_ [2,100,1,701,2] ?_
 refine gK rfl (fun mU=>?_) fun mU=>?_
 obtain ⟨Ew,Ex,ha,sF⟩:=pR.resolve_left (fun q=>by
   obtain ⟨_,c9,q2⟩:=q
   rw[q2] at mU
   exact absurd mU (show ¬(6:Int)=5 by decide))
 obtain rfl:ob=EU gX.l g.a.now:=by rw[sF,ha]
 have lR:=W0 mY G1 hm xZ OO (nR r.ep mode) gX (by rw[tJ];exact Ew) (by rw[tJ];exact Ex) (by rw[tJ];exact ha) (fun q=>⟨r,Jx,rfl,.inr ⟨zv,Uh⟩,fun q2=>hr4 q2⟩) []
 rw[tJ] at lR
 refine g_ [524] ?_
 refine w_ [0,1,2,1010,3] ?_
 refine iD 4 [3] rfl (ab (v:=.bool false) (cs:=(ik pa pc (fun b9=>ptr (pd b9)) (fun b9=>ptr (p b9)) vt ve)) fa rfl iz gA) ?_
 refine w_ [5,9001,6,7,8,1005,9] ?_
 refine jP 10 [9,7,5] 37 rfl rfl (aN (e:=32) (s:=1) fa fa rfl rfl (qa k) (p8 k)) fa ?_
 refine ki 11 [10,5] 37 rfl rfl rfl (ab (v:=ptr (p k)) (cs:=(ik pa pc (fun b9=>ptr (pd b9)) (fun b9=>ptr (p b9)) vt ve)) fa rfl iz (by cases k<;>rfl)) ?_
 refine w_ [12,13,1000,14] ?_
 refine ki 15 [14,5] 37 rfl rfl rfl (ab (v:=ptr pa) (cs:=(ik pa pc (fun b9=>ptr (pd b9)) (fun b9=>ptr (p b9)) vt ve)) fa rfl iz gA) ?_
 refine ny (iw (i:=16) [15,5] rfl (aO (aP (dj:=37) rfl rfl) (iE.func call19 rfl) (QK (a:=g.a) (b:=gX) (by rw[ha]) iz) ax) fa) fa ?_
 refine ki 17 [5] 37 rfl rfl rfl (aQ (n:=11) fa rfl iz gA) ?_
 refine gD 18 ?_
 refine SO.c rfl (aP (dj:=37) rfl rfl) rfl (iE.func call36 rfl) (lR) (Sp.p fc) ?_
 rintro x50 X1 ⟨rfl,gU,kR,D,jX,lH,rfl,w3,nY,rfl⟩
 refine gG ?_ (hr:=by exact ig (iw [14] rfl (aw (aP (dj:=37) rfl rfl) (ab (v:=ptr pa) (cs:=(ik pa pc (fun b9=>ptr (pd b9)) (fun b9=>ptr (p b9)) vt ve)) fa rfl iz gA)) fa) (ig (iw [3] rfl (aw Wt.none (ab (v:=.bool false) (cs:=(ik pa pc (fun b9=>ptr (pd b9)) (fun b9=>ptr (p b9)) vt ve)) fa rfl iz gA)) fa) jl))
 refine w_ [1002,19,9001,20,21,1010,22] ?_
 refine gD 23 ?_
 refine SO.s rfl Wt.none (aq (iT:=ik pa pc (fun b9=>ptr (pd b9)) (fun b9=>ptr (p b9)) vt ve) fa rfl rfl gA ir (by show 0+10<11;decide) rfl ⟨rfl,?_⟩)
 refine gG ?_
 refine gM ?_
 refine gH ((row w (ik pa pc (fun b9=>ptr (pd b9)) (fun b9=>ptr (p b9)) vt ve) 36::(row pa (jr gU.a) 73::(CC++(kR++(S2++(CT++CE))))))++(([row b6 (gS (nR r.ep mode) (.slice none 0 0) (.slice none 0 0)) 104,row b8 (gS (EU gU.a.l g.a.now) (.slice none 0 0) (.slice none 0 0)) 104]++D)++H)) ?_
 exact bl results24 (⟨gU,_,_,yC (w3.trans lX) (oS.trans nY) hC jX mu hT hE,lH,rfl⟩)
 obtain ⟨rfl,c9,rfl⟩:=pR.resolve_right (fun q=>mU (by rw[q.2.2.2];rfl))
 refine g_ [1] ?_
 refine gH ((row w (ik pa pc (fun b9=>ptr (pd b9)) (fun b9=>ptr (p b9)) vt ve) 36::(row pa (jr g.a) 73::(CC++(S3++(S2++(CT++CE))))))++([row b6 (gS (nR r.ep mode) (.slice none 0 0) (.slice none 0 0)) 104,row b8 (gS (Ov g.a c9) (.slice none 0 0) (.slice none 0 0)) 104]++H)) ?_
 refine bl results24 ?_
 rw[←tJ]
 exact ⟨g1,_,_,yC lX oS hC xZ mu hT hE,G1.le (eh _) (dA _),rfl⟩
theorem PE (w:Nat) (k:Bool) (g:Gs) (told ends:List jt) (C:List Ck) (hW:WA w k g told ends C) (G:List En) (m mc:Nat) (v:iR kF g G m mc) (hm:m≤119) (qt:mc≤119) (H:List Ck):gC prog 21 [ptr w,.int .i64 (kI k)] (C++H) fun r0 gr=>∃gU lH gP D,G<+:lH∧WA w k gU told ends gP∧iR kF gU lH (m+1) (mc+1)∧gr=gP++(D++H):=by
 refine gC.enter func21 rfl ntmps21 rfl ?_
 intro w0 R
 obtain ⟨pa,pc,p,pd,vt,ve,CC,S1,S2,CT,CE,rfl,hC,hS,mu,hT,hE⟩:=hW
 have hlen:=v.len k
 refine g_ [9,100] ?_
 refine WL.h rfl (ak (v:=ptr pa) (cs:=(ik pa pc (fun b9=>ptr (pd b9)) (fun b9=>ptr (p b9)) vt ve)) fa rfl iz gA ⟨_,rfl,?_⟩)
 refine iG call19 rfl (FV iz) (g_ [8,105] ?_)
 refine ae rfl (aN (e:=32) (s:=1) fa fa rfl rfl (qa k) (p8 k)) ?_
 refine WL.h rfl (ak (v:=ptr (p k)) (cs:=(ik pa pc (fun b9=>ptr (pd b9)) (fun b9=>ptr (p b9)) vt ve)) fa rfl iz (by cases k<;>rfl) ⟨_,rfl,?_⟩)
 refine g_ [1] ?_
 refine c_ call41 rfl (aho mY v hm hS []) ?_
 rintro Xz Qi ⟨n,jR,dn,dc,err,g1,S3,D,rfl,xZ,tJ,lX,oS,rfl,mH⟩
 refine g_ [3] ?_
 refine iS iP fun b6=>?_
 refine g_ [311,7,702,2] ?_
 refine gK rfl (fun lz=>?_) fun lz=>?_
 obtain ⟨rfl,MU,G1⟩:=mH.resolve_right (fun q=>lz q.1)
 refine g_ [5,110] ?_
 refine WL.h rfl (ak (v:=.bool false) (cs:=(ik pa pc (fun b9=>ptr (pd b9)) (fun b9=>ptr (p b9)) vt ve)) fa rfl iz gA ⟨_,rfl,?_⟩)
 refine g_ [1,1033,1,702,1] ?_
 refine ag (t:=36) rfl (fun Jf=>?_) (fun Jf=>?_)
 refine g_ [1,702,2] ?_
 refine af (t:=40) (v:=.bool false) rfl (by (rw[decide_eq_false (show ¬(err≠210) by omega)])) ?_
 refine g_ [1,110,10] ?_
 refine gH ((row w (ik pa pc (fun b9=>ptr (pd b9)) (fun b9=>ptr (p b9)) vt ve) 36::(row pa (jr g.a) 73::(CC++(S3++(S2++(CT++CE))))))++(([row b6 (gS jF (.slice none 0 0) (.slice jR dn dc)) 104]++D)++H)) ?_
 refine aa results21 rfl ?_
 rw[←tJ]
 exact ⟨g1,G,_,_,fB _,yC lX oS hC xZ mu hT hE,G1.le gz gz,rfl⟩
 refine g_ [4] ?_
 refine af (t:=40) (v:=.bool false) rfl gA ?_
 refine g_ [1,110,10] ?_
 refine gH ((row w (ik pa pc (fun b9=>ptr (pd b9)) (fun b9=>ptr (p b9)) vt ve) 36::(row pa (jr g.a) 73::(CC++(S3++(S2++(CT++CE))))))++(([row b6 (gS jF (.slice none 0 0) (.slice jR dn dc)) 104]++D)++H)) ?_
 refine aa results21 rfl ?_
 rw[←tJ]
 exact ⟨g1,G,_,_,fB _,yC lX oS hC xZ mu hT hE,G1.le gz gz,rfl⟩
 refine g_ [5,100,1,701,2] ?_
 refine gK rfl (fun oO=>?_) fun oO=>?_
 obtain ⟨rfl,TZ,G1,r,i,hq,yb⟩:=mH.resolve_left (fun q=>by
   rw[q.1] at oO
   exact absurd oO (show ¬(0:Int)=7 by decide))
 obtain ⟨g0,u0,r0,zh⟩:=G1.qk.inv
 obtain ⟨ow,code,iq,g2,pR,mC,Jz,G2,zA,tK,AT,rQ,sG,Mr,yn⟩:=hq.qk mY G1 hm gz
 have yd:=fun vk vd tj p7=>aha mY G2 hm (k:=k) (p:=p k) (pd:=pd k) (S:=S3) (by rw[rQ,sG,Mr];exact xZ) yn mC Jz vk vd tj p7
 rw[AT,tJ] at yd
 refine g_ [1,508] ?_
 refine w_ [0,1,1001,2] ?_
 refine iD 3 [2] rfl (ab (v:=ptr pc) (cs:=(ik pa pc (fun b9=>ptr (pd b9)) (fun b9=>ptr (p b9)) vt ve)) fa rfl iz gA) ?_
 refine w_ [2011,4] ?_
 refine pe [(5,[4,3]),(6,[])] fa (ig ?_ (ig ?_ (jl)))
 refine kP ?_
 refine iI rfl call42 rfl (WD pc g1.c CC (by rw[lX];exact hC) zh n (.slice none 0 0) _ D (by rw[ow];exact .inl ⟨_,_,rfl,rfl,rfl⟩) yb) ?_
 rintro HX FK ⟨FB,w9,A9,rfl,wU,hO,rfl⟩
 rw[pR] at hO ⊢
 obtain ⟨wo,HR,rfl,_⟩:=hO.form
 refine gG ?_
 refine gD 6 ?_
 refine nQ iP fun b8=>?_
 refine gG ?_
 refine gD 7 ?_
 refine jT 11 ?_
 refine gG ?_
 refine gM ?_
 refine g_ [2,510] ?_
 refine w_ [0,1,2,1005,3] ?_
 refine gW 4 [3,1] rfl (aN (e:=32) (s:=1) fa fa rfl rfl (qa k) (p8 k)) fa ?_
 refine iD 5 [4] rfl (ab (v:=ptr (p k)) (cs:=(ik pa pc (fun b9=>ptr (pd b9)) (fun b9=>ptr (p b9)) vt ve)) fa rfl iz (by cases k<;>rfl)) ?_
 refine w_ [6,2011,7] ?_
 refine gD 8 ?_
 refine iI rfl call43 rfl (yd (.slice none 0 0) _ ⟨_,_,rfl⟩ ⟨_,_,rfl⟩ []) ?_
 rintro PK FL ⟨rfl,gU,kR,pf,jX,lH,ze,w3,nY,rfl⟩
 refine gG ?_
 refine w_ [9] ?_
 refine gM ?_
 refine g_ [6,110] ?_
 refine WL.h rfl (ak (v:=.bool false) (cs:=(ik pa pc (fun b9=>ptr (pd b9)) (fun b9=>ptr (p b9)) vt ve)) fa rfl iz gA ⟨_,rfl,?_⟩)
 refine g_ [1,1066,1,702,1068,2,100,1,701] ?_
 refine j8 73 rfl (show ¬(8:Int)=6 by decide) ?_
 refine g_ [2,110,5,100,1,701,5] ?_
 refine gH ((row w (ik pa pc (fun b9=>ptr (pd b9)) (fun b9=>ptr (p b9)) vt ve) 36::(row pa (jr g.a) 73::(FB++(kR++(S2++(CT++CE))))))++(([row b6 (gS n (.slice none 0 0) (.slice jR dn dc)) 104,row b8 (gS (qD n code iq) (.slice none 0 0) (.slice wo iq.length HR)) 104]++(D++(A9++pf)))++H)) ?_
 refine aa results21 rfl ?_
 rw[←ze]
 exact ⟨gU,_,_,_,zA,yC (g:=g2) w3 nY (by rw[tK];exact wU) jX (by rw[rQ,sG,Mr,oS.1,oS.2.1,oS.2.2];exact mu) hT hE,lH,rfl⟩
 refine kP ?_
 refine nQ iP fun b8=>?_
 refine gG ?_ (hr:=by exact ig (iw [] rfl (aw Wt.none (aQ (n:=11) fa rfl iz gA)) fa) (ig (iw [2] rfl (aw Wt.none (ab (v:=ptr pc) (cs:=(ik pa pc (fun b9=>ptr (pd b9)) (fun b9=>ptr (p b9)) vt ve)) fa rfl iz gA)) fa) jl))
 refine gD 5 ?_
 refine iI rfl call42 rfl (WD pc g1.c CC (by rw[lX];exact hC) zh n (.slice none 0 0) _ D (by rw[ow];exact .inl ⟨_,_,rfl,rfl,rfl⟩) yb) ?_
 rintro HX FK ⟨FB,w9,A9,rfl,wU,hO,rfl⟩
 rw[pR] at hO ⊢
 obtain ⟨wo,HR,rfl,_⟩:=hO.form
 refine gG ?_
 refine gD 7 ?_
 refine jT 11 ?_
 refine gG ?_
 refine gM ?_
 refine g_ [2,510] ?_
 refine w_ [0,1,2,1005,3] ?_
 refine gW 4 [3,1] rfl (aN (e:=32) (s:=1) fa fa rfl rfl (qa k) (p8 k)) fa ?_
 refine iD 5 [4] rfl (ab (v:=ptr (p k)) (cs:=(ik pa pc (fun b9=>ptr (pd b9)) (fun b9=>ptr (p b9)) vt ve)) fa rfl iz (by cases k<;>rfl)) ?_
 refine w_ [6,2011,7] ?_
 refine gD 8 ?_
 refine iI rfl call43 rfl (yd (.slice none 0 0) _ ⟨_,_,rfl⟩ ⟨_,_,rfl⟩ []) ?_
 rintro PK FL ⟨rfl,gU,kR,pf,jX,lH,ze,w3,nY,rfl⟩
 refine gG ?_
 refine w_ [9] ?_
 refine gM ?_
 refine g_ [6,110] ?_
 refine WL.h rfl (ak (v:=.bool false) (cs:=(ik pa pc (fun b9=>ptr (pd b9)) (fun b9=>ptr (p b9)) vt ve)) fa rfl iz gA ⟨_,rfl,?_⟩)
 refine g_ [1,1066,1,702,1068,2,100,1,701] ?_
 refine j8 73 rfl (show ¬(8:Int)=6 by decide) ?_
 refine g_ [2,110,5,100,1,701,5] ?_
 refine gH ((row w (ik pa pc (fun b9=>ptr (pd b9)) (fun b9=>ptr (p b9)) vt ve) 36::(row pa (jr g.a) 73::(FB++(kR++(S2++(CT++CE))))))++(([row b6 (gS n (.slice none 0 0) (.slice jR dn dc)) 104,row b8 (gS (qD n code iq) (.slice none 0 0) (.slice wo iq.length HR)) 104]++(D++(A9++pf)))++H)) ?_
 refine aa results21 rfl ?_
 rw[←ze]
 exact ⟨gU,_,_,_,zA,yC (g:=g2) w3 nY (by rw[tK];exact wU) jX (by rw[rQ,sG,Mr,oS.1,oS.2.1,oS.2.2];exact mu) hT hE,lH,rfl⟩
 obtain ⟨rfl,MU,G1⟩:=mH.resolve_right (fun q=>oO q.2.1)
 refine g_ [8] ?_
 refine gH ((row w (ik pa pc (fun b9=>ptr (pd b9)) (fun b9=>ptr (p b9)) vt ve) 36::(row pa (jr g.a) 73::(CC++(S3++(S2++(CT++CE))))))++(([row b6 (gS jF (.slice none 0 0) (.slice jR dn dc)) 104]++D)++H)) ?_
 refine aa results21 rfl ?_
 rw[←tJ]
 exact ⟨g1,G,_,_,fB _,yC lX oS hC xZ mu hT hE,G1.le gz gz,rfl⟩
theorem SA.j {p pd:Nat} {ps:List (List ia)} {l:List En} {seen:BitVec 32} {r:Option Rl} {C:List Ck} (h:SA p pd ps l seen r C):∃ss,iM ss∧gh ss=l:=by
  obtain ⟨ss,gI,L,CS,CD,rfl,h1,h2,h3,h4,h5,h6⟩:=h
  exact ⟨ss,h5,h6⟩
theorem PD (w:Nat) (k:Bool) (g:Gs) (told ends:List jt) (C:List Ck) (hW:WA w k g told ends C) (G:List En) (m mc:Nat) (v:iR kF g G m mc) (hm:m≤119) (qt:mc≤119) (H:List Ck):gC prog 22 [ptr w,.int .i64 (kI k)] (C++H) fun r0 gr=>∃gU gP D,WA w k gU told ends gP∧iR kF gU G m mc∧gr=gP++(D++H):=by
 refine gC.enter func22 rfl ntmps22 rfl ?_
 intro w0 R
 obtain ⟨pa,pc,p,pd,vt,ve,CC,S1,S2,CT,CE,rfl,hC,hS,mu,hT,hE⟩:=hW
 have hlen:=v.len k
 have GR:=zK k
 refine g_ [10,105] ?_
 refine ae rfl (aN (e:=32) (s:=1) fa fa rfl rfl (qa k) (p8 k)) ?_
 refine WL.h rfl (ak (v:=ptr (p k)) (cs:=(ik pa pc (fun b9=>ptr (pd b9)) (fun b9=>ptr (p b9)) vt ve)) fa rfl iz (by cases k<;>rfl) ⟨_,rfl,?_⟩)
 refine c_ call44 rfl (ahm mY (hS.v fun c hc=>hc) gz (v.fold k) (fun r hr=>v.role k r hr)) ?_
 rintro KF Ig ⟨n,vd,b,A,rfl,rfl,yb,hb⟩
 obtain ⟨jR,dc,rfl,_⟩:=yb.form
 refine g_ [3] ?_
 refine iS iP fun b5=>?_
 refine g_ [311,7,709] ?_
 refine af (t:=20) (v:=.bool (decide (b=false))) rfl (by cases b<;>rfl) ?_
 refine qb (gK rfl (fun pw=>?_) fun pw=>?_)
 refine g_ [7] ?_
 refine gH ((row w (ik pa pc (fun b9=>ptr (pd b9)) (fun b9=>ptr (p b9)) vt ve) 36::(row pa (jr g.a) 73::(CC++(S1++(S2++(CT++CE))))))++(([row b5 (gS n (.slice none 0 0) (.slice jR n.data.length dc)) 104]++A)++H)) ?_
 exact aa results22 rfl (⟨g,_,_,⟨pa,pc,p,pd,vt,ve,CC,S1,S2,CT,CE,rfl,hC,hS,mu,hT,hE⟩,v,rfl⟩)
 have oQ:b=true:=by cases b<;>simp_all
 obtain ⟨r,i,hi,hr,oy,hn⟩:=hb oQ
 refine g_ [3,515] ?_
 refine w_ [0,1,1004,2] ?_
 refine az (v:=.int .i64 (kI (!k))) (by cases k<;>rfl) ?_
 refine w_ [3,1005,4] ?_
 refine gW 5 [4,2] rfl (aN (e:=32) (s:=1) fa fa rfl rfl (qa (!k)) (p8 (!k))) fa ?_
 refine iD 6 [5] rfl (ab (v:=ptr (p (!k))) (cs:=(ik pa pc (fun b9=>ptr (pd b9)) (fun b9=>ptr (p b9)) vt ve)) fa rfl iz (by cases k<;>rfl)) ?_
 refine w_ [2011,7] ?_
 refine pe [(8,[7,6]),(12,[])] fa (ig ?_ (ig ?_ (jl)))
 refine kP ?_
 refine iI rfl call45 rfl (W6 mY v hm mu hr hi oy hS.j hn _ A yb) ?_
 rintro KG Ih ⟨back,gU,S3,D,rfl,nq,Gw,lH,ze,w3,Gt,oT,Mq,rfl⟩
 refine gG ?_
 refine w_ [9,10,11] ?_
 refine gD 12 ?_
 refine nQ iP fun b7=>?_
 refine gG ?_
 refine gD 13 ?_
 refine jT 11 ?_
 refine gG ?_
 refine w_ [14] ?_
 refine gM ?_
 refine g_ [6,110] ?_
 refine WL.h rfl (ak (v:=.bool false) (cs:=(ik pa pc (fun b9=>ptr (pd b9)) (fun b9=>ptr (p b9)) vt ve)) fa rfl iz gA ⟨_,rfl,?_⟩)
 refine g_ [1,1038,1,702,1040,2,110,4,508] ?_
 refine w_ [0,1,2,1005,3] ?_
 refine gW 4 [3,1] rfl (aN (e:=32) (s:=1) fa fa rfl rfl (qa k) (p8 k)) fa ?_
 refine iD 5 [4] rfl (ab (v:=ptr (p k)) (cs:=(ik pa pc (fun b9=>ptr (pd b9)) (fun b9=>ptr (p b9)) vt ve)) fa rfl iz (by cases k<;>rfl)) ?_
 refine w_ [2011,6] ?_
 refine gD 7 ?_
 refine iI rfl call46 rfl (W5 mY (r:=r) (S:=S1) (by rw[←hr];exact hS) gz back nq []) ?_
 rintro HX FK ⟨S4,D2,Ms,rfl⟩
 refine gG ?_
 refine gM ?_
 refine g_ [7] ?_
 refine gH ((row w (ik pa pc (fun b9=>ptr (pd b9)) (fun b9=>ptr (p b9)) vt ve) 36::(row pa (jr g.a) 73::(CC++(S4++(S3++(CT++CE))))))++(([row b5 (gS n (.slice none 0 0) (.slice jR n.data.length dc)) 104,row b7 (gS back (.slice none 0 0) (.slice none 0 0)) 104]++(A++(D++D2)))++H)) ?_
 refine aa results22 rfl ?_
 rw[←ze]
 exact ⟨gU,_,_,⟨pa,pc,p,pd,vt,ve,CC,S4,S3,CT,CE,rfl,by rw[w3];exact hC,by rw[Gt,oT,Mq];exact Ms,Gw,hT,hE⟩,lH,rfl⟩
 refine kP ?_
 refine nQ iP fun b7=>?_
 refine gG ?_ (hr:=by exact ig (iw [] rfl (aw Wt.none (aQ (n:=11) fa rfl iz gA)) fa) (ig (iw [5] rfl (aw Wt.none (ab (v:=ptr (p (!k))) (cs:=(ik pa pc (fun b9=>ptr (pd b9)) (fun b9=>ptr (p b9)) vt ve)) fa rfl iz (by cases k<;>rfl))) fa) jl))
 refine gD 8 ?_
 refine iI rfl call45 rfl (W6 mY v hm mu hr hi oy hS.j hn _ A yb) ?_
 rintro KG Ih ⟨back,gU,S3,D,rfl,nq,Gw,lH,ze,w3,Gt,oT,Mq,rfl⟩
 refine gG ?_
 refine w_ [9,10,11] ?_
 refine gD 13 ?_
 refine jT 11 ?_
 refine gG ?_
 refine w_ [14] ?_
 refine gM ?_
 refine g_ [6,110] ?_
 refine WL.h rfl (ak (v:=.bool false) (cs:=(ik pa pc (fun b9=>ptr (pd b9)) (fun b9=>ptr (p b9)) vt ve)) fa rfl iz gA ⟨_,rfl,?_⟩)
 refine g_ [1,1038,1,702,1040,2,110,4,508] ?_
 refine w_ [0,1,2,1005,3] ?_
 refine gW 4 [3,1] rfl (aN (e:=32) (s:=1) fa fa rfl rfl (qa k) (p8 k)) fa ?_
 refine iD 5 [4] rfl (ab (v:=ptr (p k)) (cs:=(ik pa pc (fun b9=>ptr (pd b9)) (fun b9=>ptr (p b9)) vt ve)) fa rfl iz (by cases k<;>rfl)) ?_
 refine w_ [2011,6] ?_
 refine gD 7 ?_
 refine iI rfl call46 rfl (W5 mY (r:=r) (S:=S1) (by rw[←hr];exact hS) gz back nq []) ?_
 rintro HX FK ⟨S4,D2,Ms,rfl⟩
 refine gG ?_
 refine gM ?_
 refine g_ [7] ?_
 refine gH ((row w (ik pa pc (fun b9=>ptr (pd b9)) (fun b9=>ptr (p b9)) vt ve) 36::(row pa (jr g.a) 73::(CC++(S4++(S3++(CT++CE))))))++(([row b5 (gS n (.slice none 0 0) (.slice jR n.data.length dc)) 104,row b7 (gS back (.slice none 0 0) (.slice none 0 0)) 104]++(A++(D++D2)))++H)) ?_
 refine aa results22 rfl ?_
 rw[←ze]
 exact ⟨gU,_,_,⟨pa,pc,p,pd,vt,ve,CC,S4,S3,CT,CE,rfl,by rw[w3];exact hC,by rw[Gt,oT,Mq];exact Ms,Gw,hT,hE⟩,lH,rfl⟩
theorem ahM (w:Nat) (k:Bool) (g:Gs) (told ends:List jt) (C:List Ck) (hW:WA w k g told ends C) (G:List En) (m mc:Nat) (v:iR kF g G m mc) (hm:m≤120) (qt:mc≤120) (n0 n1:Nat) (tf:n0≤5000) (mH:n1=n0+12) (hh:lU G told ends n0) (H:List Ck):gC prog 25 [ptr w,.int .i64 (kI k)] (C++H) fun r0 gr=>∃lH t2 e2 gP D,WA w k g t2 e2 gP∧iR kF g lH m mc∧lU lH t2 e2 n1∧gr=gP++(D++H):=by
 refine gC.enter func25 rfl ntmps25 rfl ?_
 intro w0 R
 obtain ⟨pa,pc,p,pd,vt,ve,CC,S1,S2,CT,CE,rfl,hC,hS,mu,hT,hE⟩:=hW
 have hlen:=v.len k
 obtain ⟨G2,v2,oB,Tm⟩:∃G2,iR kF g G2 m mc∧G<+:G2∧(lj (g.R k) g.a.now=true→(g.J k).take (ng (g.R k) (g.J k)).toNat<+:G2):=by
   cases hl:lj (g.R k) g.a.now with
   |false=>exact ⟨G,v,fB _,fun q=>by cases q⟩
   | true=>
     obtain ⟨G2,a1,a2,_,a4⟩:=Sz v gz hl
     exact ⟨G2,a1,a2,fun _=>a4⟩
 have lB:=hh.mono oB (dA _)
 refine g_ [4,100] ?_
 refine WL.h rfl (ak (v:=ptr pa) (cs:=(ik pa pc (fun b9=>ptr (pd b9)) (fun b9=>ptr (p b9)) vt ve)) fa rfl iz gA ⟨_,rfl,?_⟩)
 refine iG call19 rfl (FV iz) (g_ [9] ?_)
 refine aC (fun z:Nat×List jt×List jt×Value×Value×List Ck×List Ck×List Ck=>z.1≤6∧lU G2 z.2.1 z.2.2.1 (n0+2*z.1)∧il z.2.2.2.1 z.2.1.length (z.2.1.flatMap jY) 40 4 z.2.2.2.2.2.1∧il z.2.2.2.2.1 z.2.2.1.length (z.2.2.1.flatMap jY) 40 4 z.2.2.2.2.2.2.1) (fun z:Nat×List jt×List jt×Value×Value×List Ck×List Ck×List Ck=>[(5,.int .i64 (z.1:Int))]) (fun z:Nat×List jt×List jt×Value×Value×List Ck×List Ck×List Ck=>(row w (ik pa pc (fun b9=>ptr (pd b9)) (fun b9=>ptr (p b9)) z.2.2.2.1 z.2.2.2.2.1) 36::(row pa (jr g.a) 73::(CC++(S1++(S2++(z.2.2.2.2.2.1++z.2.2.2.2.2.2.1))))))++(z.2.2.2.2.2.2.2++H)) (fun z:Nat×List jt×List jt×Value×Value×List Ck×List Ck×List Ck=>6-z.1) (⟨0,told,ends,vt,ve,CT,CE,[]⟩) (show 0≤6∧lU G2 told ends (n0+2*0)∧il vt told.length (told.flatMap jY) 40 4 CT∧il ve ends.length (ends.flatMap jY) 40 4 CE from ⟨dN _,lB,hT,hE⟩) (Sx.put rfl (gL)) fc ?_
 rintro ⟨i,t2,e2,o4,mM,ur,sM,D⟩ hI
 replace hI:i≤6∧lU G2 t2 e2 (n0+2*i)∧il o4 t2.length (t2.flatMap jY) 40 4 ur∧il mM e2.length (e2.flatMap jY) 40 4 sM:=hI
 obtain ⟨hi,GN,ya,Cc⟩:=hI
 change WC _ _ _ _ _ _ ([(5,.int .i64 (i:Int))]++_) ((row w (ik pa pc (fun b9=>ptr (pd b9)) (fun b9=>ptr (p b9)) o4 mM) 36::(row pa (jr g.a) 73::(CC++(S1++(S2++(ur++sM))))))++(D++H))
 have sH:=GN.tl
 have uK:=GN.el
 refine g_ [4,705,2] ?_
 refine gK rfl (fun wQ=>?_) fun wQ=>?_
 refine g_ [4] ?_
 refine aI (fun z:Nt×Option Addr×Nat×List Ck×List Ck×Bool×Nat=>Bs (.slice z.2.1 z.1.key.length z.2.2.1) z.1.key z.2.2.2.2.1∧(z.2.2.2.2.2.1=true→lj (g.R k) g.a.now=true∧z.1.key=Bh (i:Int)∧∃e∈(g.J k).take (ng (g.R k) (g.J k)).toNat,e.kind=2∧e.key=Bh (i:Int)∧e.order=z.1.order∧(z.1.code=0∨∃e1∈(g.J k).take (ng (g.R k) (g.J k)).toNat,e1.kind=5∧e1.order=z.1.order∧e1.code=z.1.code))) (fun z:Nt×Option Addr×Nat×List Ck×List Ck×Bool×Nat=>[(7,.bool z.2.2.2.2.2.1),(6,.pointer (some ⟨z.2.2.2.2.2.2,0,none⟩))]) (fun z:Nt×Option Addr×Nat×List Ck×List Ck×Bool×Nat=>(row w (ik pa pc (fun b9=>ptr (pd b9)) (fun b9=>ptr (p b9)) o4 mM) 36::(row pa (jr g.a) 73::(CC++(S1++(S2++(ur++sM))))))++(([row z.2.2.2.2.2.2 (gS z.1 (.slice z.2.1 z.1.key.length z.2.2.1) (.slice none 0 0)) 104]++(z.2.2.2.2.1++z.2.2.2.1))++(D++H))) ?_ ?_
 refine g_ [516] ?_
 refine w_ [0,1,2,1005,3] ?_
 refine gW 4 [3,1] rfl (aN (e:=32) (s:=1) fa fa rfl rfl (qa k) (p8 k)) fa ?_
 refine iD 5 [4] rfl (ab (v:=ptr (p k)) (cs:=(ik pa pc (fun b9=>ptr (pd b9)) (fun b9=>ptr (p b9)) o4 mM)) fa rfl iz (by cases k<;>rfl)) ?_
 refine w_ [6,7] ?_
 refine pe [(8,[7]),(13,[])] fa (ig ?_ (ig ?_ (jl)))
 refine kP ?_
 refine iI rfl call20 rfl (Po (i:Int) []) ?_
 rintro x29 XW ⟨A1,qI,rfl⟩
 obtain ⟨qo,qc,rfl,_⟩:=qI.form
 refine gG ?_ (hr:=by exact ig (iw [4] rfl (aw Wt.none (ab (v:=ptr (p k)) (cs:=(ik pa pc (fun b9=>ptr (pd b9)) (fun b9=>ptr (p b9)) o4 mM)) fa rfl iz (by cases k<;>rfl))) fa) jl)
 refine pe [(9,[6,5]),(13,[])] fa (ig ?_ (ig ?_ (jl)))
 refine kP ?_
 refine iI rfl call49 rfl (Pq mY (H:=S1++A1) (hS.v fun c hc=>dw _ hc) gz g.a.now _ _ (qI.mono fun c hc=>dq _ hc)) ?_
 rintro KG Ih ⟨n9,Xh,A2,b,rfl,rfl,jd,oQ⟩
 obtain ⟨ko,kc,rfl,_⟩:=jd.form
 refine gG ?_
 refine w_ [10,11,12] ?_
 refine gD 13 ?_
 refine nQ iP fun b6=>?_
 refine gG ?_
 refine gD 14 ?_
 refine jT 11 ?_
 refine gG ?_
 refine w_ [15] ?_
 refine gM ?_
 exact ah ((n9,ko,kc,A1,A2,b,b6)) (⟨jd,oQ⟩) (Sx.put rfl (Sx.put rfl (gL))) (Sp.all fc)
 refine kP ?_
 refine nQ iP fun b6=>?_
 refine gG ?_ (hr:=by exact ig (iw [4] rfl (aw Wt.none (ab (v:=ptr (p k)) (cs:=(ik pa pc (fun b9=>ptr (pd b9)) (fun b9=>ptr (p b9)) o4 mM)) fa rfl iz (by cases k<;>rfl))) fa) jl)
 refine gD 9 ?_
 refine iI rfl call49 rfl (Pq mY (H:=S1++A1) (hS.v fun c hc=>dw _ hc) gz g.a.now _ _ (qI.mono fun c hc=>dq _ hc)) ?_
 rintro KG Ih ⟨n9,Xh,A2,b,rfl,rfl,jd,oQ⟩
 obtain ⟨ko,kc,rfl,_⟩:=jd.form
 refine gG ?_
 refine w_ [10,11,12] ?_
 refine gD 14 ?_
 refine jT 11 ?_
 refine gG ?_
 refine w_ [15] ?_
 refine gM ?_
 exact ah ((n9,ko,kc,A1,A2,b,b6)) (⟨jd,oQ⟩) (Sx.put rfl (Sx.put rfl (gL))) (Sp.all fc)
 refine kP ?_
 refine nQ iP fun b6=>?_
 refine gG ?_ (hr:=by exact ig (iw [4] rfl (aw Wt.none (ab (v:=ptr (p k)) (cs:=(ik pa pc (fun b9=>ptr (pd b9)) (fun b9=>ptr (p b9)) o4 mM)) fa rfl iz (by cases k<;>rfl))) fa) jl)
 refine gD 8 ?_
 refine iI rfl call20 rfl (Po (i:Int) []) ?_
 rintro x29 XW ⟨A1,qI,rfl⟩
 obtain ⟨qo,qc,rfl,_⟩:=qI.form
 refine gG ?_ (hr:=by exact ig (iw [4] rfl (aw Wt.none (ab (v:=ptr (p k)) (cs:=(ik pa pc (fun b9=>ptr (pd b9)) (fun b9=>ptr (p b9)) o4 mM)) fa rfl iz (by cases k<;>rfl))) fa) jl)
 refine gD 9 ?_
 refine iI rfl call49 rfl (Pq mY (H:=S1++A1) (hS.v fun c hc=>dw _ hc) gz g.a.now _ _ (qI.mono fun c hc=>dq _ hc)) ?_
 rintro KG Ih ⟨n9,Xh,A2,b,rfl,rfl,jd,oQ⟩
 obtain ⟨ko,kc,rfl,_⟩:=jd.form
 refine gG ?_
 refine w_ [10,11,12] ?_
 refine gD 14 ?_
 refine jT 11 ?_
 refine gG ?_
 refine w_ [15] ?_
 refine gM ?_
 exact ah ((n9,ko,kc,A1,A2,b,b6)) (⟨jd,oQ⟩) (Sx.put rfl (Sx.put rfl (gL))) (Sp.all fc)
 rintro ⟨n9,ko,kc,A1,A2,b,b6⟩ ⟨jd,oQ⟩
 replace jd:Bs (.slice ko n9.key.length kc) n9.key A2:=jd
 replace oQ:(b=true→lj (g.R k) g.a.now=true∧n9.key=Bh (i:Int)∧∃e∈(g.J k).take (ng (g.R k) (g.J k)).toNat,e.kind=2∧e.key=Bh (i:Int)∧e.order=n9.order∧(n9.code=0∨∃e1∈(g.J k).take (ng (g.R k) (g.J k)).toNat,e1.kind=5∧e1.order=n9.order∧e1.code=n9.code)):=oQ
 change WC _ _ _ _ _ _ ([(7,.bool b),(6,.pointer (some ⟨b6,0,none⟩))]++_) ((row w (ik pa pc (fun b9=>ptr (pd b9)) (fun b9=>ptr (p b9)) o4 mM) 36::(row pa (jr g.a) 73::(CC++(S1++(S2++(ur++sM))))))++(([row b6 (gS n9 (.slice ko n9.key.length kc) (.slice none 0 0)) 104]++(A2++A1))++(D++H)))
 refine g_ [4,709] ?_
 refine af (t:=34) (v:=.bool (decide (b=false))) rfl (by cases b<;>rfl) ?_
 refine qb (gK rfl (fun rP=>?_) fun rP=>?_)
 refine g_ [6,703,2] ?_
 exact ai (⟨i+1,t2,e2,o4,mM,ur,sM,[row b6 (gS n9 (.slice ko n9.key.length kc) (.slice none 0 0)) 104]++((A2++A1)++D)⟩) (show (i+1)≤6∧lU G2 t2 e2 (n0+2*(i+1))∧il o4 t2.length (t2.flatMap jY) 40 4 ur∧il mM e2.length (e2.flatMap jY) 40 4 sM from ⟨by omega,GN.mono (fB _) gz,ya,Cc⟩) (show 6-(i+1)<6-i by omega) (Sx.put rfl (gL)) fc
 have I4:b=true:=by cases b<;>simp_all
 obtain ⟨hle,hnk,x9,EI,zI,hxk,EJ,Dc⟩:=oQ I4
 refine g_ [12,105] ?_
 refine ae rfl (aN (e:=32) (s:=1) fa fa rfl rfl (qa k) (p8 k)) ?_
 refine WL.h rfl (ak (v:=ptr (p k)) (cs:=(ik pa pc (fun b9=>ptr (pd b9)) (fun b9=>ptr (p b9)) o4 mM)) fa rfl iz (by cases k<;>rfl) ⟨_,rfl,?_⟩)
 refine c_ call27 rfl (WZ mY (hS.v fun c hc=>hc) gz) ?_
 rintro x41 X0 ⟨A3,uH,rfl⟩
 obtain ⟨eo,ec,rfl,_⟩:=VS.form (EO.ev uH)
 refine g_ [10] ?_
 refine aC (fun z:Nat×List (BitVec 8)=>z.1≤(g.J k).length∧∀x∈(g.J k).take z.1,x.kind=2→x.order=n9.order→x.data=z.2) (fun z:Nat×List (BitVec 8)=>[(10,.int .i64 (z.1:Int)),(8,.string (str z.2))]) (fun z:Nat×List (BitVec 8)=>(row w (ik pa pc (fun b9=>ptr (pd b9)) (fun b9=>ptr (p b9)) o4 mM) 36::(row pa (jr g.a) 73::(CC++(S1++(S2++(ur++sM))))))++(([row b6 (gS n9 (.slice ko n9.key.length kc) (.slice none 0 0)) 104]++((A3++A2)++A1))++(D++H))) (fun z:Nat×List (BitVec 8)=>(g.J k).length-z.1) (⟨0,[]⟩) (show 0≤(g.J k).length∧∀x∈(g.J k).take 0,x.kind=2→x.order=n9.order→x.data=[] from ⟨dN _,fun x hx=>absurd hx ej⟩) (Sx.put rfl (Sx.put rfl (gL))) fc ?_
 rintro ⟨j,d⟩ hI
 replace hI:j≤(g.J k).length∧∀x∈(g.J k).take j,x.kind=2→x.order=n9.order→x.data=d:=hI
 obtain ⟨hj,hd⟩:=hI
 change WC _ _ _ _ _ _ ([(10,.int .i64 (j:Int)),(8,.string (str d))]++_) ((row w (ik pa pc (fun b9=>ptr (pd b9)) (fun b9=>ptr (p b9)) o4 mM) 36::(row pa (jr g.a) 73::(CC++(S1++(S2++(ur++sM))))))++(([row b6 (gS n9 (.slice ko n9.key.length kc) (.slice none 0 0)) 104]++((A3++A2)++A1))++(D++H)))
 refine g_ [5,710,77,705,2] ?_
 refine gK rfl (fun oO=>?_) fun oO=>?_
 have gQ:j<(g.J k).length:=by omega
 obtain ⟨b1,o1,si,lV,T1,ra,qY,kL,zi,kM,c1,⟨DG,DF,rfl,np,nL⟩,MJ⟩:=VS.cell (EO.ev uH) (i:=j) gQ gB
 simp only[dI,eD] at kL
 obtain ⟨rfl,rfl⟩:=kL
 obtain ⟨lq,lp,rfl,_⟩:=nL.form
 have G8:(g.J k).take (j+1)=(g.J k).take j++[(g.J k)[j]]:=dJ gQ
 refine g_ [5,516] ?_
 refine w_ [0,1] ?_
 refine gW 2 [1,0] rfl (Yd.indexAddr (e:=77) (s:=11) fa fa rfl rfl gz gz) fa ?_
 refine w_ [1000,3] ?_
 refine iD 4 [3] rfl (ab (cs:=lV) fa rfl (aA (C:=A3) fc kM) (MJ 0 gB)) ?_
 refine w_ [1001,5,6] ?_
 refine aW (fun M7=>?_) (fun M7=>?_)
 refine w_ [7,8] ?_
 refine jP 9 [8,7,6] 54 rfl rfl (Yd.indexAddr (e:=77) (s:=11) fa fa rfl rfl gz gz) fa ?_
 refine w_ [1003,10] ?_
 refine ki 11 [10,6] 54 rfl rfl rfl (ab (cs:=lV) fa rfl (aA (C:=A3) fc kM) (MJ 3 gB)) ?_
 refine w_ [1005,12,13] ?_
 refine jP 14 [13,11,6] 54 rfl rfl (aD _ _ rfl rfl rfl rfl) fa ?_
 refine w_ [15] ?_
 refine gM ?_
 refine g_ [1] ?_
 refine gK rfl (fun Gj=>?_) fun Gj=>?_
 refine g_ [3,711,77,11,110] ?_
 refine WL.h rfl (ak (cs:=lV) fa rfl (aA (C:=A3) fc kM) (MJ 10 gB) ⟨_,rfl,?_⟩)
 refine WL.h rfl (aM (e:=5) (bs:=(g.J k)[j].data) fa fa underlying9 rfl (nL.mono (Sp.sub fc)) ⟨_,rfl,?_⟩)
 refine g_ [6,703,2] ?_
 exact ai (⟨j+1,(g.J k)[j].data⟩) (show (j+1)≤(g.J k).length∧∀x∈(g.J k).take (j+1),x.kind=2→x.order=n9.order→x.data=((g.J k)[j].data) from ⟨by omega,fun x hx k2 ho=>by
   rw[G8] at hx
   rcases dT.1 hx with hx|hx
   · exact (OG (fun q hq=>(mY q hq).G) (v2.fold k) (fY hx) (dG gQ) k2 M7 (.inl (ho.trans Gj.symm))).2.2
   rw[dH.1 hx]⟩) (show (g.J k).length-(j+1)<(g.J k).length-j by omega) (Sx.put rfl (Sx.put rfl (gL))) fc
 refine g_ [5,703,2] ?_
 exact ai (⟨j+1,d⟩) (show (j+1)≤(g.J k).length∧∀x∈(g.J k).take (j+1),x.kind=2→x.order=n9.order→x.data=d from ⟨by omega,fun x hx k2 ho=>by
   rw[G8] at hx
   rcases dT.1 hx with hx|hx
   · exact hd x hx k2 ho
   rw[dH.1 hx] at k2 ho
   exact absurd ho Gj⟩) (show (g.J k).length-(j+1)<(g.J k).length-j by omega) (Sx.put rfl (Sx.put rfl (gL))) fc
 refine w_ [7,8,9,10,11,12,13,14,15] ?_
 refine gM ?_
 refine g_ [7,703,2] ?_
 exact ai (⟨j+1,d⟩) (show (j+1)≤(g.J k).length∧∀x∈(g.J k).take (j+1),x.kind=2→x.order=n9.order→x.data=d from ⟨by omega,fun x hx k2 ho=>by
   rw[G8] at hx
   rcases dT.1 hx with hx|hx
   · exact hd x hx k2 ho
   rw[dH.1 hx] at k2 ho
   exact absurd k2 M7⟩) (show (g.J k).length-(j+1)<(g.J k).length-j by omega) (Sx.put rfl (Sx.put rfl (gL))) fc
 have A4:j=(g.J k).length:=by omega
 subst A4
 rw[eH] at hd
 have hxd:=hd x9 (fY EI) zI EJ
 have TQ:=GN.told (e:=x9) ((Tm hle).subset EI) zI (a:=⟨n9.order,n9.key,d,0⟩) (by rw[EJ,hxk,hnk,hxd])
 refine g_ [6,516] ?_
 refine w_ [0,1,2,1008,3] ?_
 refine iD 4 [3] rfl (ab (v:=o4) (cs:=(ik pa pc (fun b9=>ptr (pd b9)) (fun b9=>ptr (p b9)) o4 mM)) fa rfl iz gA) ?_
 refine w_ [1005,5,6,1009,7,8,10] ?_
 refine gD 9 ?_
 refine SO.h rfl Wt.none rfl (aM (e:=5) (bs:=n9.key) fa fa underlying9 rfl (jd.mono (Sp.sub fc)) ⟨_,rfl,?_⟩)
 refine gG ?_ (hr:=by exact ig (iw [5] rfl (aw Wt.none (ab (cs:=gS n9 (.slice ko n9.key.length kc) (.slice none 0 0)) fa rfl iz gA)) fa) (ig (iw [3] rfl (aw Wt.none (ab (v:=o4) (cs:=(ik pa pc (fun b9=>ptr (pd b9)) (fun b9=>ptr (p b9)) o4 mM)) fa rfl iz gA)) fa) jl))
 refine gW 11 [10,6] rfl (aj (pl:=[(0,1),(1,1),(2,1),(3,1)]) (zs:=[.int .u32 0,.string ⟨#[]⟩,.string ⟨#[]⟩,.int .i64 0]) (parts:=[(0,.tmp 76),(1,.tmp 79),(2,.tmp 80),(3,.const (.int .i64 0))]) (vs:=[(0,_),(1,_),(2,_),(3,_)]) (cells:=[_,_,_,_]) fa fa rfl rfl) fa ?_
 refine gD 12 ?_
 refine iI rfl call50 rfl (W1 o4 t2 ⟨n9.order,n9.key,d,0⟩ gz ur ya []) ?_
 rintro Aa H82 ⟨Ia,Mu,rfl⟩
 refine iO [0] ?_
 refine w_ [13,1008,14] ?_
 refine gD 15 ?_
 refine SO.s rfl Wt.none (aq (iT:=ik pa pc (fun b9=>ptr (pd b9)) (fun b9=>ptr (p b9)) Aa mM) fa rfl rfl (by obtain ⟨_,_,e9,_⟩:=Mu.form;rw[e9];rfl) ir (by show 0+8<11;decide) rfl ⟨rfl,?_⟩)
 refine gG ?_
 refine gM ?_
 refine g_ [3,108,1,707,2] ?_
 refine gK rfl (fun xW=>?_) fun xW=>?_
 obtain ⟨y9,hy9,hy5,hyo,hyc⟩:=Dc.resolve_left (fun q=>by omega)
 have hhe:=TQ.ends (e:=y9) ((Tm hle).subset hy9) hy5 (a:=⟨n9.order,[],[],n9.code⟩) (by rw[hyo,hyc])
 refine g_ [514] ?_
 refine w_ [0,1,2,1009,3] ?_
 refine iD 4 [3] rfl (ab (v:=mM) (cs:=(ik pa pc (fun b9=>ptr (pd b9)) (fun b9=>ptr (p b9)) Aa mM)) fa rfl iz gA) ?_
 refine w_ [1005,5,6,1008,7,8] ?_
 refine gW 9 [8,6] rfl (aj (pl:=[(0,1),(1,1),(2,1),(3,1)]) (zs:=[.int .u32 0,.string ⟨#[]⟩,.string ⟨#[]⟩,.int .i64 0]) (parts:=[(0,.tmp 94),(1,.const (.string ⟨#[]⟩)),(2,.const (.string ⟨#[]⟩)),(3,.tmp 96)]) (vs:=[(0,_),(1,_),(2,_),(3,_)]) (cells:=[_,_,_,_]) fa fa rfl rfl) fa ?_
 refine gD 10 ?_
 refine iI rfl call50 rfl (W1 mM e2 ⟨n9.order,[],[],n9.code⟩ gz sM Cc []) ?_
 rintro DA H98 ⟨P8,Gq,rfl⟩
 refine iO [0,0] ?_
 refine w_ [11,1009,12] ?_
 refine gD 13 ?_
 refine SO.s rfl Wt.none (aq (iT:=ik pa pc (fun b9=>ptr (pd b9)) (fun b9=>ptr (p b9)) Aa DA) fa rfl rfl (by obtain ⟨_,_,e9,_⟩:=Gq.form;rw[e9];rfl) ir (by show 0+9<11;decide) rfl ⟨rfl,?_⟩)
 refine gG ?_
 refine gM ?_
 refine g_ [4,703,2] ?_
 exact ai (⟨i+1,(oW t2 ⟨n9.order,n9.key,d,0⟩),(oW e2 ⟨n9.order,[],[],n9.code⟩),Aa,DA,Ia,P8,[row b6 (gS n9 (.slice ko n9.key.length kc) (.slice none 0 0)) 104]++(((A3++A2)++A1)++D)⟩) (show (i+1)≤6∧lU G2 ((oW t2 ⟨n9.order,n9.key,d,0⟩)) ((oW e2 ⟨n9.order,[],[],n9.code⟩)) (n0+2*(i+1))∧il Aa ((oW t2 ⟨n9.order,n9.key,d,0⟩)).length (((oW t2 ⟨n9.order,n9.key,d,0⟩)).flatMap jY) 40 4 Ia∧il DA ((oW e2 ⟨n9.order,[],[],n9.code⟩)).length (((oW e2 ⟨n9.order,[],[],n9.code⟩)).flatMap jY) 40 4 P8 from ⟨by omega,hhe,Mu,Gq⟩) (show 6-(i+1)<6-i by omega) (Sx.put rfl (gL)) fc
 refine g_ [5,703,2] ?_
 exact ai (⟨i+1,(oW t2 ⟨n9.order,n9.key,d,0⟩),e2,Aa,mM,Ia,sM,[row b6 (gS n9 (.slice ko n9.key.length kc) (.slice none 0 0)) 104]++(((A3++A2)++A1)++D)⟩) (show (i+1)≤6∧lU G2 ((oW t2 ⟨n9.order,n9.key,d,0⟩)) e2 (n0+2*(i+1))∧il Aa ((oW t2 ⟨n9.order,n9.key,d,0⟩)).length (((oW t2 ⟨n9.order,n9.key,d,0⟩)).flatMap jY) 40 4 Ia∧il mM e2.length (e2.flatMap jY) 40 4 sM from ⟨by omega,TQ.mono (fB _) gz,Mu,Cc⟩) (show 6-(i+1)<6-i by omega) (Sx.put rfl (gL)) fc
 refine g_ [4] ?_
 refine gH ((row w (ik pa pc (fun b9=>ptr (pd b9)) (fun b9=>ptr (p b9)) o4 mM) 36::(row pa (jr g.a) 73::(CC++(S1++(S2++(ur++sM))))))++(D++H)) ?_
 exact bl results25 (⟨G2,t2,e2,_,D,⟨pa,pc,p,pd,o4,mM,CC,S1,S2,ur,sM,rfl,hC,hS,mu,ya,Cc⟩,v2,GN.mono (fB _) gz,rfl⟩)
end Go.Proofs.YtchdmlkiggdhaaaGreat
namespace Go.Proofs.YtchdmlkiggdhaaaGreat.St
open Go.SL Go.Proofs.Tryz
attribute [local irreducible] WL WC DN gZ iX
theorem Hv (v:Value) (gs:List Gd) (hg:∀g∈gs,g.gone=0) (H:List Ck) (hv:Rs v gs.length (gs.flatMap sT) H) (hl:gs.length≤9223372036854775807):gC prog 29 [v] H fun r gr=>(BH gs∧∃p C,r=.tuple #[.pointer (some ⟨p,0,none⟩),.int .i64 0]∧wI 137 p gs [] C∧gr=C++H)∨(¬BH gs∧r=.tuple #[.pointer none,.int .i64 2]∧gr=H):=by
 refine gC.enter func29 rfl ntmps29 rfl ?_
 intro w0 R
 obtain ⟨vo,vc,rfl,xk⟩:=hv.form
 refine g_ [10,710,53,707,2] ?_
 refine gK rfl (fun oN=>?_) fun oN=>?_
 refine g_ [8] ?_
 skip
 refine ay results29 rfl rfl ?_
 rotate_left
 refine g_ [4] ?_
 refine WL.h rfl (bW kU fun b1 C1 h1=>⟨_,rfl,?_⟩)
 refine WL.h rfl (bW uV fun b2 C2 h2=>⟨_,rfl,?_⟩)
 refine ae rfl (aj (pl:=[(0,1),(1,1)]) (zs:=[.map none,.map none]) (parts:=[(0,.tmp 12),(1,.tmp 13)]) (vs:=[(0,_),(1,_)]) (cells:=[_,_]) fa fa rfl rfl) ?_
 refine iV fun oK=>?_
 refine g_ [7,710,53,4] ?_
 refine aC (fun z:Nat×List Ck=>z.1≤gs.length∧(∀(j:Nat) (h:j<gs.length),j<z.1→y7 gs[j])∧((gs.take z.1).map Gd.name).Nodup∧mO kU b1 (jS Gd.name qX (gs.take z.1)) z.2) (fun z:Nat×List Ck=>[(18,.int .i64 (z.1:Int))]) (fun z:Nat×List Ck=>row oK [.map (some b1),.map (some b2)] 137::(z.2++(C2++H))) (fun z:Nat×List Ck=>gs.length-z.1) (⟨0,C1⟩) (show 0≤gs.length∧(∀(j:Nat) (h:j<gs.length),j<0→y7 gs[j])∧((gs.take 0).map Gd.name).Nodup∧mO kU b1 (jS Gd.name qX (gs.take 0)) C1 from ⟨dN _,fun j h hj=>by omega,by simp,by simpa [jS] using h1⟩) (Sx.put rfl (gL)) fc ?_
 rintro ⟨i,C1⟩ hI
 replace hI:i≤gs.length∧(∀(j:Nat) (h:j<gs.length),j<i→y7 gs[j])∧((gs.take i).map Gd.name).Nodup∧mO kU b1 (jS Gd.name qX (gs.take i)) C1:=hI
 obtain ⟨hi,ov,nu,hK⟩:=hI
 change WC _ _ _ _ _ _ ([(18,.int .i64 (i:Int))]++_) (row oK [.map (some b1),.map (some b2)] 137::(C1++(C2++H)))
 refine g_ [2,705,3] ?_
 refine gK rfl (fun mT=>?_) fun mT=>?_
 have gQ:i<gs.length:=by omega
 have hgn:=hg gs[i] (dG gQ)
 have kE:gs.take (i+1)=gs.take i++[gs[i]]:=dJ gQ
 refine g_ [6] ?_
 refine cf (e:=53) (s:=2) fa fa fa rfl rfl (rfl) (hv.mono hZ) (LL sT 2 Zj gs i gQ) gA gz (gQ) rfl rfl ?_
 intro p20
 refine WL.h rfl (Hd.alloc (zs:=[.string ⟨#[]⟩,.int .i64 0]) fa fun b6=>⟨_,rfl,?_⟩)
 refine g_ [302,2] ?_
 refine aI (fun z:Nat=>True) (fun z:Nat=>[(8,.bool (iW Gd.name (gs.take i) gs[i].name).isSome)]) (fun z:Nat=>row b6 (sT gs[i]) 53::(row oK [.map (some b1),.map (some b2)] 137::(C1++(C2++H)))) ?_ ?_
 refine g_ [513] ?_
 refine w_ [0,1,1000,2,3,1000,4,5] ?_
 refine pe [(6,[5,3]),(10,[])] fa (ig ?_ (ig ?_ (jl)))
 refine kP ?_
 refine SO.h rfl Wt.none rfl (bf (k0:=kU) (KT:=9) (ET:=139) (TD:=.string) (n:=gs[i].name) (z:=.agg #[.int .i64 0,.int .i64 0]) fa underlying9 rfl fa rfl rfl hK fc (U6 (gs.take i) gs[i].name) ⟨_,rfl,?_⟩)
 refine gG ?_
 refine w_ [7,8,9] ?_
 refine gD 10 ?_
 refine SO.h rfl Wt.none rfl (Hd.alloc (zs:=[.int .i64 0,.int .i64 0]) fa fun b7=>⟨_,rfl,?_⟩)
 refine gG ?_
 refine gD 11 ?_
 refine jT 2 ?_
 refine gG ?_
 refine w_ [12] ?_
 refine gM ?_
 refine gH (row b6 (sT gs[i]) 53::(row oK [.map (some b1),.map (some b2)] 137::(C1++(C2++H)))) ?_
 exact ah (0) (eX) (Sx.put rfl (gL)) (Sp.all fc)
 refine kP ?_
 refine SO.h rfl Wt.none rfl (Hd.alloc (zs:=[.int .i64 0,.int .i64 0]) fa fun b7=>⟨_,rfl,?_⟩)
 refine iO [0,0] ?_
 refine gD 6 ?_
 refine SO.h rfl Wt.none rfl (bf (k0:=kU) (KT:=9) (ET:=139) (TD:=.string) (n:=gs[i].name) (z:=.agg #[.int .i64 0,.int .i64 0]) fa underlying9 rfl fa rfl rfl hK fc (U6 (gs.take i) gs[i].name) ⟨_,rfl,?_⟩)
 refine gG ?_
 refine w_ [7,8,9] ?_
 refine gD 11 ?_
 refine jT 2 ?_
 refine gG ?_
 refine w_ [12] ?_
 refine gM ?_
 refine gH (row b6 (sT gs[i]) 53::(row oK [.map (some b1),.map (some b2)] 137::(C1++(C2++H)))) ?_
 exact ah (0) (eX) (Sx.put rfl (gL)) (Sp.all fc)
 intro _ _
 refine g_ [3,100,1] ?_
 refine ae rfl (bN rfl rfl) (g_ [1] ?_)
 refine ag (t:=35) rfl (fun ou=>?_) (fun ou=>?_)
 refine g_ [34] ?_
 have yh:i<gs.length:=gQ;refine DN.fit (C:=H) fc ?_
 refine ay results29 rfl rfl ?_
 rotate_left
 refine g_ [100,1] ?_
 refine jx 35 rfl rfl rfl (Yd.Oa underlying9 rfl) (g_ [707,2] ?_)
 refine ag (t:=41) rfl (fun M4=>?_) (fun M4=>?_)
 refine g_ [28] ?_
 have yh:i<gs.length:=gQ;refine DN.fit (C:=H) fc ?_
 refine ay results29 rfl rfl ?_
 rotate_left
 refine g_ [101,1,705,2] ?_
 refine ag (t:=46) rfl (fun M5=>?_) (fun M5=>?_)
 refine g_ [23] ?_
 have yh:i<gs.length:=gQ;refine DN.fit (C:=H) fc ?_
 refine ay results29 rfl rfl ?_
 rotate_left
 refine g_ [101,1,707,2] ?_
 refine ag (t:=51) rfl (fun mV=>?_) (fun mV=>?_)
 refine g_ [18] ?_
 have yh:i<gs.length:=gQ;refine DN.fit (C:=H) fc ?_
 refine ay results29 rfl rfl ?_
 rotate_left
 refine g_ [4] ?_
 refine WC.cond rfl (fun tH=>?_) (fun tH=>?_)
 refine g_ [13] ?_
 have yh:i<gs.length:=gQ;refine DN.fit (C:=H) fc ?_
 refine ay results29 rfl rfl ?_
 rotate_left
 have Nc:y7 gs[i]:=⟨ou,by omega,by omega,by omega⟩
 have rr:iW Gd.name (gs.take i) gs[i].name=none:=by simpa using tH
 have Nv:=aeQ nu rr
 refine g_ [2,510] ?_
 refine w_ [0,1,1000,2,3,1000,4,5,1001,6,7] ?_
 refine gW 8 [7] rfl (aj (pl:=[(0,1),(1,1)]) (zs:=[.int .i64 0,.int .i64 0]) (parts:=[(0,.tmp 61)]) (vs:=[(0,_)]) (cells:=[_,.int .i64 0]) fa fa rfl rfl) fa ?_
 refine gD 9 ?_
 refine SO.s rfl Wt.none (bL (k0:=kU) (KT:=9) (ET:=139) (TD:=.string) (n:=gs[i].name) fa underlying9 rfl rfl rfl rfl hK (by rw[xq];exact nu) fc fun C3 h3=>⟨rfl,?_⟩)
 refine gG ?_
 refine gM ?_
 refine g_ [3,703,2] ?_
 exact ai (⟨i+1,C3⟩) (show (i+1)≤gs.length∧(∀(j:Nat) (h:j<gs.length),j<(i+1)→y7 gs[j])∧((gs.take (i+1)).map Gd.name).Nodup∧mO kU b1 (jS Gd.name qX (gs.take (i+1))) C3 from ⟨by omega,fun j h hj=>by
   rcases Nat.lt_or_ge j i with h5|h5
   · exact ov j h h5
   obtain rfl:j=i:=by omega
   exact Nc,by rw[kE];exact Nv,by rw[kE];exact afl hgn rr h3⟩) (show gs.length-(i+1)<gs.length-i by omega) (Sx.put rfl (gL)) fc
 obtain rfl:i=gs.length:=by omega
 rw[eH] at nu hK
 refine g_ [13] ?_
 refine DN.fit (C:=row oK [.map (some b1),.map (some b2)] 137::(C1++(C2++H))) fc ?_
 refine ay results29 rfl rfl ?_
 rotate_left
 all_goals
  first
    |exact .inr ⟨fun hG=>by have:=hG.1;omega,rfl,rfl⟩
    |exact .inr ⟨fun hG=>(hG.2.2 gs[i] (dG gQ)).1 ou,rfl,rfl⟩
    |exact .inr ⟨fun hG=>by have:=(hG.2.2 gs[i] (dG gQ)).2;omega,rfl,rfl⟩
    |exact .inr ⟨fun hG=>(ahu gQ tH) hG.2.1,rfl,rfl⟩
    |exact .inl ⟨⟨by omega,nu,fun g hm=>by obtain ⟨j,hj,rfl⟩:=fu hm;exact ov j hj hj⟩,oK,row oK [.map (some b1),.map (some b2)] 137::(C1++C2),rfl,⟨b1,b2,C1,C2,rfl,hK,h2⟩,by simp⟩
end Go.Proofs.YtchdmlkiggdhaaaGreat.St
namespace Go.Proofs.YtchdmlkiggdhaaaGreat.Pu
open Go.SL Go.Proofs.Tryz
attribute [local irreducible] WL WC DN gZ iX
theorem Hv (v:Value) (gs:List Au) (H:List Ck) (hv:Rs v gs.length (gs.flatMap rL) H) (hl:gs.length≤9223372036854775807):gC prog 30 [v] H fun r gr=>(Ai gs∧∃p C,r=.tuple #[.pointer (some ⟨p,0,none⟩),.int .i64 0]∧tx 144 p gs [] C∧gr=C++H)∨(¬Ai gs∧r=.tuple #[.pointer none,.int .i64 2]∧gr=H):=by
 refine gC.enter func30 rfl ntmps30 rfl ?_
 intro w0 R
 obtain ⟨vo,vc,rfl,xk⟩:=hv.form
 refine g_ [10,710,56,707,2] ?_
 refine gK rfl (fun oN=>?_) fun oN=>?_
 refine g_ [8] ?_
 skip
 refine ay results30 rfl rfl ?_
 rotate_left
 refine g_ [4] ?_
 refine WL.h rfl (bW kU fun b1 C1 h1=>⟨_,rfl,?_⟩)
 refine WL.h rfl (bW uV fun b2 C2 h2=>⟨_,rfl,?_⟩)
 refine ae rfl (aj (pl:=[(0,1),(1,1)]) (zs:=[.map none,.map none]) (parts:=[(0,.tmp 12),(1,.tmp 13)]) (vs:=[(0,_),(1,_)]) (cells:=[_,_]) fa fa rfl rfl) ?_
 refine iV fun oK=>?_
 refine g_ [7,710,56,4] ?_
 refine aC (fun z:Nat×List Ck=>z.1≤gs.length∧(∀(j:Nat) (h:j<gs.length),j<z.1→yM gs[j])∧((gs.take z.1).map Au.name).Nodup∧mO kU b1 (jS Au.name sk (gs.take z.1)) z.2) (fun z:Nat×List Ck=>[(18,.int .i64 (z.1:Int))]) (fun z:Nat×List Ck=>row oK [.map (some b1),.map (some b2)] 144::(z.2++(C2++H))) (fun z:Nat×List Ck=>gs.length-z.1) (⟨0,C1⟩) (show 0≤gs.length∧(∀(j:Nat) (h:j<gs.length),j<0→yM gs[j])∧((gs.take 0).map Au.name).Nodup∧mO kU b1 (jS Au.name sk (gs.take 0)) C1 from ⟨dN _,fun j h hj=>by omega,by simp,by simpa [jS] using h1⟩) (Sx.put rfl (gL)) fc ?_
 rintro ⟨i,C1⟩ hI
 replace hI:i≤gs.length∧(∀(j:Nat) (h:j<gs.length),j<i→yM gs[j])∧((gs.take i).map Au.name).Nodup∧mO kU b1 (jS Au.name sk (gs.take i)) C1:=hI
 obtain ⟨hi,ov,nu,hK⟩:=hI
 change WC _ _ _ _ _ _ ([(18,.int .i64 (i:Int))]++_) (row oK [.map (some b1),.map (some b2)] 144::(C1++(C2++H)))
 refine g_ [2,705,3] ?_
 refine gK rfl (fun mT=>?_) fun mT=>?_
 have gQ:i<gs.length:=by omega
 have kE:gs.take (i+1)=gs.take i++[gs[i]]:=dJ gQ
 refine g_ [6] ?_
 refine cf (e:=56) (s:=3) fa fa fa rfl rfl (rfl) (hv.mono hZ) (LL rL 3 Zk gs i gQ) gA gz (gQ) rfl rfl ?_
 intro p20
 refine WL.h rfl (Hd.alloc (zs:=[.string ⟨#[]⟩,.int .i64 0,.int .i64 0]) fa fun b6=>⟨_,rfl,?_⟩)
 refine g_ [303,2] ?_
 refine aI (fun z:Nat=>True) (fun z:Nat=>[(8,.bool (iW Au.name (gs.take i) gs[i].name).isSome)]) (fun z:Nat=>row b6 (rL gs[i]) 56::(row oK [.map (some b1),.map (some b2)] 144::(C1++(C2++H)))) ?_ ?_
 refine g_ [513] ?_
 refine w_ [0,1,1000,2,3,1000,4,5] ?_
 refine pe [(6,[5,3]),(10,[])] fa (ig ?_ (ig ?_ (jl)))
 refine kP ?_
 refine SO.h rfl Wt.none rfl (bf (k0:=kU) (KT:=9) (ET:=56) (TD:=.string) (n:=gs[i].name) (z:=.agg #[.string ⟨#[]⟩,.int .i64 0,.int .i64 0]) fa underlying9 rfl fa rfl rfl hK fc (U9 (gs.take i) gs[i].name) ⟨_,rfl,?_⟩)
 refine gG ?_
 refine w_ [7,8,9] ?_
 refine gD 10 ?_
 refine SO.h rfl Wt.none rfl (Hd.alloc (zs:=[.string ⟨#[]⟩,.int .i64 0,.int .i64 0]) fa fun b7=>⟨_,rfl,?_⟩)
 refine gG ?_
 refine gD 11 ?_
 refine jT 3 ?_
 refine gG ?_
 refine w_ [12] ?_
 refine gM ?_
 refine gH (row b6 (rL gs[i]) 56::(row oK [.map (some b1),.map (some b2)] 144::(C1++(C2++H)))) ?_
 exact ah (0) (eX) (Sx.put rfl (gL)) (Sp.all fc)
 refine kP ?_
 refine SO.h rfl Wt.none rfl (Hd.alloc (zs:=[.string ⟨#[]⟩,.int .i64 0,.int .i64 0]) fa fun b7=>⟨_,rfl,?_⟩)
 refine iO [0,0] ?_
 refine gD 6 ?_
 refine SO.h rfl Wt.none rfl (bf (k0:=kU) (KT:=9) (ET:=56) (TD:=.string) (n:=gs[i].name) (z:=.agg #[.string ⟨#[]⟩,.int .i64 0,.int .i64 0]) fa underlying9 rfl fa rfl rfl hK fc (U9 (gs.take i) gs[i].name) ⟨_,rfl,?_⟩)
 refine gG ?_
 refine w_ [7,8,9] ?_
 refine gD 11 ?_
 refine jT 3 ?_
 refine gG ?_
 refine w_ [12] ?_
 refine gM ?_
 refine gH (row b6 (rL gs[i]) 56::(row oK [.map (some b1),.map (some b2)] 144::(C1++(C2++H)))) ?_
 exact ah (0) (eX) (Sx.put rfl (gL)) (Sp.all fc)
 intro _ _
 refine g_ [3,100,1] ?_
 refine ae rfl (bN rfl rfl) (g_ [1] ?_)
 refine ag (t:=35) rfl (fun ou=>?_) (fun ou=>?_)
 refine g_ [39] ?_
 have yh:i<gs.length:=gQ;refine DN.fit (C:=H) fc ?_
 refine ay results30 rfl rfl ?_
 rotate_left
 refine g_ [100,1] ?_
 refine jx 35 rfl rfl rfl (Yd.Oa underlying9 rfl) (g_ [707,2] ?_)
 refine ag (t:=41) rfl (fun M4=>?_) (fun M4=>?_)
 refine g_ [33] ?_
 have yh:i<gs.length:=gQ;refine DN.fit (C:=H) fc ?_
 refine ay results30 rfl rfl ?_
 rotate_left
 refine g_ [101,1,705,2] ?_
 refine ag (t:=46) rfl (fun M5=>?_) (fun M5=>?_)
 refine g_ [28] ?_
 have yh:i<gs.length:=gQ;refine DN.fit (C:=H) fc ?_
 refine ay results30 rfl rfl ?_
 rotate_left
 refine g_ [101,1,707,2] ?_
 refine ag (t:=51) rfl (fun mV=>?_) (fun mV=>?_)
 refine g_ [23] ?_
 have yh:i<gs.length:=gQ;refine DN.fit (C:=H) fc ?_
 refine ay results30 rfl rfl ?_
 rotate_left
 refine g_ [102,1,702,2] ?_
 refine ag (t:=56) rfl (fun pz=>?_) (fun pz=>?_)
 refine g_ [18] ?_
 have yh:i<gs.length:=gQ;refine DN.fit (C:=H) fc ?_
 refine ay results30 rfl rfl ?_
 rotate_left
 refine g_ [4] ?_
 refine WC.cond rfl (fun L2=>?_) (fun L2=>?_)
 refine g_ [13] ?_
 have yh:i<gs.length:=gQ;refine DN.fit (C:=H) fc ?_
 refine ay results30 rfl rfl ?_
 rotate_left
 have Nc:yM gs[i]:=⟨ou,by omega,by omega,by omega,by omega⟩
 have rr:iW Au.name (gs.take i) gs[i].name=none:=by simpa using L2
 have Nv:=aeR nu rr
 refine g_ [2,508] ?_
 refine w_ [0,1,1000,2,3,1000,4,5,2003,6] ?_
 refine gD 7 ?_
 refine SO.s rfl Wt.none (bL (k0:=kU) (KT:=9) (ET:=56) (TD:=.string) (n:=gs[i].name) fa underlying9 rfl rfl rfl rfl hK (by rw[xq];exact nu) fc fun C3 h3=>⟨rfl,?_⟩)
 refine gG ?_
 refine gM ?_
 refine g_ [3,703,2] ?_
 exact ai (⟨i+1,C3⟩) (show (i+1)≤gs.length∧(∀(j:Nat) (h:j<gs.length),j<(i+1)→yM gs[j])∧((gs.take (i+1)).map Au.name).Nodup∧mO kU b1 (jS Au.name sk (gs.take (i+1))) C3 from ⟨by omega,fun j h hj=>by
   rcases Nat.lt_or_ge j i with h5|h5
   · exact ov j h h5
   obtain rfl:j=i:=by omega
   exact Nc,by rw[kE];exact Nv,by rw[kE,←afk rr,←OU (gs.take i) gs[i] gs[i].name rfl];exact h3⟩) (show gs.length-(i+1)<gs.length-i by omega) (Sx.put rfl (gL)) fc
 obtain rfl:i=gs.length:=by omega
 rw[eH] at nu hK
 refine g_ [13] ?_
 refine DN.fit (C:=row oK [.map (some b1),.map (some b2)] 144::(C1++(C2++H))) fc ?_
 refine ay results30 rfl rfl ?_
 rotate_left
 all_goals
  first
    |exact .inr ⟨fun hG=>by have:=hG.1;omega,rfl,rfl⟩
    |exact .inr ⟨fun hG=>(hG.2.2 gs[i] (dG gQ)).1 ou,rfl,rfl⟩
    |exact .inr ⟨fun hG=>by have:=(hG.2.2 gs[i] (dG gQ)).2;omega,rfl,rfl⟩
    |exact .inr ⟨fun hG=>(ahv gQ L2) hG.2.1,rfl,rfl⟩
    |exact .inl ⟨⟨by omega,nu,fun g hm=>by obtain ⟨j,hj,rfl⟩:=fu hm;exact ov j hj hj⟩,oK,row oK [.map (some b1),.map (some b2)] 144::(C1++C2),rfl,⟨b1,b2,C1,C2,rfl,hK,h2⟩,by simp⟩
end Go.Proofs.YtchdmlkiggdhaaaGreat.Pu
namespace Go.Proofs.YtchdmlkiggdhaaaGreat
open Go.SL Go.Proofs.Tryz
attribute [local irreducible] WL WC DN gZ iX
theorem Zs (v1 v2 v3:Value) (gs:List Gd) (us:List Au) (rs:List Int) (hg:∀g∈gs,g.gone=0) (H:List Ck) (h1:Rs v1 gs.length (gs.flatMap sT) H) (h2:Rs v2 us.length (us.flatMap rL) H) (h3:Rs v3 rs.length (ic rs) H) (sD:gs.length≤9223372036854775807) (ox:us.length≤9223372036854775807) (vU:rs.length≤9223372036854775807):gC prog 11 [v1,v2,v3] H fun r gr=>((BH gs∧Ai us∧((rs.findIdx? Do.qi).isSome=false∧rs.length≤60))∧∃p C,r=.tuple #[.pointer (some ⟨p,0,none⟩),.int .i64 0]∧xG 137 144 150 3 5 200 209 68 93 p (Cw.new gs us rs) C∧gr=C++H)∨(¬(BH gs∧Ai us∧((rs.findIdx? Do.qi).isSome=false∧rs.length≤60))∧r=.tuple #[.pointer none,.int .i64 2]∧gr=H):=by
 refine gC.enter func11 rfl ntmps11 rfl ?_
 intro w0 R
 obtain ⟨ao1,ac1,rfl,_⟩:=h1.form
 obtain ⟨ao2,ac2,rfl,_⟩:=h2.form
 obtain ⟨ao3,ac3,rfl,_⟩:=h3.form
 refine g_ [9] ?_
 refine c_ call29 rfl (St.Hv _ gs hg H h1 sD) ?_
 intro x H9 h9
 have IY:∃a e C,x=.tuple #[.pointer a,.int .i64 e]∧H9=C++H∧((e=0∧BH gs∧∃p,a=some ⟨p,0,none⟩∧wI 137 p gs [] C)∨(e=2∧¬BH gs)):=by
   rcases h9 with ⟨hg,p,C,rfl,hC,rfl⟩|⟨hn,rfl,rfl⟩
   · exact ⟨_,_,C,rfl,rfl,.inl ⟨rfl,hg,p,rfl,hC⟩⟩
   exact ⟨none,2,[],rfl,rfl,.inr ⟨rfl,hn⟩⟩
 clear h9
 obtain ⟨a1,e1,C1,rfl,rfl,IY⟩:=IY
 refine g_ [11,702,2] ?_
 refine gK rfl (fun pX=>?_) fun pX=>?_
 obtain ⟨rfl,mH⟩:=IY.resolve_left (fun q=>pX q.1)
 refine g_ [9] ?_
 refine gH H ?_
 exact ay results11 rfl rfl (.inr ⟨fun q=>mH q.1,rfl,rfl⟩)
 obtain ⟨rfl,Ew,p1,rfl,hC1⟩:=IY.resolve_right (fun q=>pX (by rw[q.1];decide))
 refine g_ [5] ?_
 refine c_ call30 rfl (Pu.Hv _ us H h2 ox) ?_
 intro x H9 h9
 have IZ:∃a e C,x=.tuple #[.pointer a,.int .i64 e]∧H9=C++H∧((e=0∧Ai us∧∃p,a=some ⟨p,0,none⟩∧tx 144 p us [] C)∨(e=2∧¬Ai us)):=by
   rcases h9 with ⟨hg,p,C,rfl,hC,rfl⟩|⟨hn,rfl,rfl⟩
   · exact ⟨_,_,C,rfl,rfl,.inl ⟨rfl,hg,p,rfl,hC⟩⟩
   exact ⟨none,2,[],rfl,rfl,.inr ⟨rfl,hn⟩⟩
 clear h9
 obtain ⟨a2,e2,C2,rfl,rfl,IZ⟩:=IZ
 refine g_ [11,702,2] ?_
 refine gK rfl (fun uF=>?_) fun uF=>?_
 obtain ⟨rfl,mW⟩:=IZ.resolve_left (fun q=>uF q.1)
 refine g_ [9] ?_
 refine gH H ?_
 exact ay results11 rfl rfl (.inr ⟨fun q=>mW q.2.1,rfl,rfl⟩)
 obtain ⟨rfl,Ex,p2,rfl,wU⟩:=IZ.resolve_right (fun q=>uF (by rw[q.1];decide))
 refine g_ [5] ?_
 refine c_ call31 rfl (Do.Hv _ rs H h3 vU) ?_
 intro x H9 h9
 obtain ⟨a3,e3,C3,rfl,rfl,AP⟩:∃a e C,x=.tuple #[.pointer a,.int .i64 e]∧H9=C++H∧((e=0∧((rs.findIdx? Do.qi).isSome=false∧rs.length≤60)∧∃p,a=some ⟨p,0,none⟩∧yH 150 3 p rs [] C)∨(e=2∧¬((rs.findIdx? Do.qi).isSome=false∧rs.length≤60))):=by
   by_cases CH:((rs.findIdx? Do.qi).isSome=false∧rs.length≤60)
   · rw[dx CH] at h9
     obtain ⟨p,C,rfl,hC,rfl⟩:=h9
     exact ⟨_,_,C,rfl,rfl,.inl ⟨rfl,CH,p,rfl,hC⟩⟩
   rw[dp CH] at h9
   obtain ⟨rfl,rfl⟩:=h9
   exact ⟨none,2,[],rfl,rfl,.inr ⟨rfl,CH⟩⟩
 clear h9
 refine g_ [11,702,2] ?_
 refine gK rfl (fun rP=>?_) fun rP=>?_
 obtain ⟨rfl,tg⟩:=AP.resolve_left (fun q=>rP q.1)
 refine g_ [9] ?_
 refine gH H ?_
 exact ay results11 rfl rfl (.inr ⟨fun q=>tg q.2.2,rfl,rfl⟩)
 obtain ⟨rfl,CH,p3,rfl,Md⟩:=AP.resolve_right (fun q=>rP (by rw[q.1];decide))
 refine g_ [7] ?_
 refine ae rfl (Yd.build (pl:=[(0,1),(1,1),(2,1),(3,2),(5,1),(6,1)]) (zs:=[.pointer none,.pointer none,.pointer none,.int .u32 0,.slice none 0 0,.slice none 0 0,.slice none 0 0]) (parts:=[(0,.tmp 36),(1,.tmp 37),(2,.tmp 38)]) (vs:=[(0,.pointer (some ⟨p3,0,none⟩)),(1,.pointer (some ⟨p1,0,none⟩)),(2,.pointer (some ⟨p2,0,none⟩))]) (cells:=[.pointer (some ⟨p3,0,none⟩),.pointer (some ⟨p1,0,none⟩),.pointer (some ⟨p2,0,none⟩),.int .u32 0,.slice none 0 0,.slice none 0 0,.slice none 0 0]) fa fa rfl rfl) ?_
 refine WL.h rfl (Hd.box rfl fun p=>⟨_,rfl,?_⟩)
 refine g_ [5] ?_
 refine gH ((row p [.pointer (some ⟨p3,0,none⟩),.pointer (some ⟨p1,0,none⟩),.pointer (some ⟨p2,0,none⟩),.int .u32 0,.slice none 0 0,.slice none 0 0,.slice none 0 0] 93::(C1++(C2++(C3++([]++([]++([]++[])))))))++H) ?_
 exact ay results11 rfl rfl (.inl ⟨⟨Ew,Ex,CH⟩,p,_,rfl,⟨p3,p1,p2,_,_,_,C1,C2,C3,[],[],[],[],[],rfl,hC1,wU,Md,rI.nil _ _,il.nil _ _,il.nil _ _,.nil⟩,rfl⟩)
end Go.Proofs.YtchdmlkiggdhaaaGreat
namespace Go.Proofs.YtchdmlkiggdhaaaGreat
open Go.SL Top Go.Proofs.Tryz
attribute [local irreducible] WL WC DN gZ iX
theorem Xv (w pa pc:Nat) (Df Sf:Bool→Value) (vt ve:Value) (k:Bool) (q:Nat) (hq:Df k=ptr q) (gI:List (BitVec 8)) (ss:List gR) (CD:List Ck) (hD:jo 97 127 129 q gI 0 CD) (hj:iM ss) (hH:Holds gI ss) (hb:(gh ss).length≤125) (hf:Folds kF (gh ss)) (H:List Ck):gC prog 13 [ptr w,.int .i64 (kI k)] (row w (ik pa pc Df Sf vt ve) 36::(CD++H)) fun r0 gr=>∃p S D,SA p q kF (gh ss) (ke (gh ss) (gh ss).length) none S∧gr=row w (ik pa pc Df (hX Sf k (ptr p)) vt ve) 36::(S++(D++H)):=by
 refine gC.enter func13 rfl ntmps13 rfl ?_
 intro w0 R
 refine g_ [1,513] ?_
 refine w_ [0,1,2,1002,3] ?_
 refine gW 4 [3,1] rfl (aN (e:=30) (s:=1) fa fa rfl rfl (qa k) (p8 k)) fa ?_
 refine iD 5 [4] rfl (l1_ (v:=Df k) ((ik pa pc Df Sf vt ve)) (hc:=by cases k<;>rfl)) ?_
 refine az (v:=ptr q) (hq) (gD 6 ?_)
 refine iI rfl call33 rfl (ahl []) ?_
 rintro x13 H13 ⟨A,hP,rfl⟩
 refine gG ?_ (hr:=by exact ig (bI (hq) (iw [4] rfl (aw Wt.none (ab (v:=Df k) (cs:=(ik pa pc Df Sf vt ve)) fa rfl iz (by cases k<;>rfl))) fa)) jl)
 refine gD 7 ?_
 refine iI rfl call32 rfl (ahi mY OO hD hj hH hb hf _ A hP) ?_
 rintro Xy Qh ⟨p,S,D,rfl,hS,rfl⟩
 refine gG ?_
 refine w_ [8,9,10,11,12] ?_
 refine gM ?_
 refine g_ [7,105] ?_
 refine ae rfl (aN (e:=32) (s:=1) fa fa rfl rfl (qa k) (p8 k)) ?_
 refine WL.s (aq (iT:=ik pa pc Df (hX Sf k (ptr p)) vt ve) fa rfl rfl gA ir (by cases k<;>(show 0+5+(kI _).toNat*1<11;decide)) (by cases k<;>rfl) ⟨rfl,?_⟩)
 refine g_ [6,110] ?_
 refine UZ (v:=.bool false) (ik pa pc Df (hX Sf k (ptr p)) vt ve) ?_
 refine g_ [1,1028,1,702,1030,3] ?_
 refine jx 32 rfl rfl rfl (an underlying32 rfl rfl) (g_ [1034,2,110,2] ?_)
 refine gH ((row w (ik pa pc Df (hX Sf k (ptr p)) vt ve) 36::(S++(([]++(D++A))++H)))) ?_
 exact bl results13 (⟨p,S,_,hS,rfl⟩)
theorem ahH (p:Bool→Nat) (k:Bool) (x:Nat):hX (fun b9=>ptr (p b9)) k (ptr x)=fun b9=>ptr (hX p k x b9):=funext fun j=>by unfold hX;split<;>rfl
theorem ah8 (w pa pc:Nat) (Df:Bool→Value) (p:Bool→Nat) (vt ve:Value) (k:Bool) (q:Nat) (hq:Df k=ptr q) (gI:List (BitVec 8)) (ss:List gR) (CD:List Ck) (hD:jo 97 127 129 q gI 0 CD) (hj:iM ss) (hH:Holds gI ss) (hb:(gh ss).length≤125) (hf:Folds kF (gh ss)) (H:List Ck):gC prog 13 [ptr w,.int .i64 (kI k)] (row w (ik pa pc Df (fun b9=>ptr (p b9)) vt ve) 36::(CD++H)) fun r0 gr=>∃p9 S D,SA p9 q kF (gh ss) (ke (gh ss) (gh ss).length) none S∧gr=row w (ik pa pc Df (fun b9=>ptr (hX p k p9 b9)) vt ve) 36::(S++(D++H)):=by
  refine (Xv w pa pc Df _ vt ve k q hq gI ss CD hD hj hH hb hf H).mono ?_
  rintro r0 gr ⟨p9,S,D,hS,rfl⟩
  exact ⟨p9,S,D,hS,by rw[ahH]⟩
def zQ (kd iL n key oX:Int):List Value:=[.int .i64 kd,.int .i64 iL,.int .i64 n,.int .i64 key,.int .i64 oX]
theorem Vn (l:List Mv) (i:Nat) (h:i<l.length):∃a b c d e,((Bn l).drop (i*5)).take 5=zQ a b c d e:=⟨_,_,_,_,_,aew l i h⟩
theorem ae8 (a:Int):jD kF [BitVec.ofInt 8 (n5 a 3:Int)]≠[]:=by
  have h:=EY (a:=a) (n:=3) gB
  obtain ⟨x,hx⟩:∃x,x=n5 a 3:=⟨_,rfl⟩
  rw[←hx] at h ⊢
  obtain rfl|rfl|rfl:x=0∨x=1∨x=2:=by omega
  · exact List.cons_ne_nil _ _
  · exact List.cons_ne_nil _ _
  exact List.cons_ne_nil _ _
theorem ahX (w:Nat) (k:Bool) (g:Gs) (told ends:List jt) (C:List Ck) (hW:WA w k g told ends C) (G:List En) (m mc:Nat) (v:iR kF g G m mc) (hm:m≤119) (qt:mc≤119) (kd iL n key oX:Int) (hk:kI k=1+(n5 iL 2:Int)) (n0:Nat) (tf:n0≤5000) (hh:lU G told ends n0) (H:List Ck):gC prog 6 [ptr w,.agg (zQ kd iL n key oX).toArray] (C++H) fun r0 gr=>∃gU lH t2 e2 gP D,WA w k gU t2 e2 gP∧iR kF gU lH (m+1) (mc+1)∧lU lH t2 e2 (n0+12)∧gr=gP++(D++H):=by
 refine gC.enter func6 rfl ntmps6 rfl ?_
 intro w0 R
 have wY:=hW
 obtain ⟨pa,pc,p,pd,vt,ve,CC,S1,S2,CT,CE,rfl,hC,hS,mu,hT,hE⟩:=hW
 have hlen:=v.len k
 have GR:=zK k
 have kD:=EY (a:=iL) (n:=2) gB
 have aje:=EY (a:=n) (n:=16) gB
 have Uc:=v.now
 refine gY (iV fun b3=>?_)
 refine g_ [4,101,1] ?_
 refine iG call14 rfl (Fp iL 2 gB gB _) ?_
 refine g_ [703] ?_
 refine af (t:=8) (v:=.int .i64 (kI k)) rfl (congrArg (Value.int .i64) hk.symm) (g_ [3] ?_)
 refine aI (fun z:Gs×List En×List Ck×List Ck=>WA w k z.1 told ends z.2.2.1∧iR kF z.1 z.2.1 (m+1) (mc+1)∧lU z.2.1 told ends n0) (fun z:Gs×List En×List Ck×List Ck=>[]) (fun z:Gs×List En×List Ck×List Ck=>z.2.2.1++(([row b3 (zQ kd iL n key oX) 27]++z.2.2.2)++H)) ?_ ?_
 refine g_ [2,100,6] ?_
 by_cases q0:kd=0
 refine g_ [1,701] ?_
 refine kl 12 rfl q0 (g_ [7,508] ?_)
 refine w_ [0,1,1000,2] ?_
 refine iD 3 [2] rfl (ab (v:=ptr pa) (cs:=(ik pa pc (fun b9=>ptr (pd b9)) (fun b9=>ptr (p b9)) vt ve)) fa rfl iz gA) ?_
 refine w_ [1002,4,5] ?_
 refine jy 6 [5] rfl call14 rfl (Fp n 16 gB gB _) ax ?_
 refine gD 7 ?_
 refine iI rfl call15 rfl (QS pa g.a (n5 n 16:Int) gz gz gz []) ?_
 rintro HV FI rfl
 have j3:WA w k {g with a:={g.a with now:=g.a.now+BitVec.ofInt 64 (n5 n 16:Int)}} told ends (row w (ik pa pc (fun b9=>ptr (pd b9)) (fun b9=>ptr (p b9)) vt ve) 36::(row pa (jr {g.a with now:=g.a.now+BitVec.ofInt 64 (n5 n 16:Int)}) 73::(CC++(S1++(S2++(CT++CE)))))):=⟨pa,pc,p,pd,vt,ve,CC,S1,S2,CT,CE,rfl,hC,hS,mu,hT,hE⟩
 have v2:=(SB v gz (n:=n5 n 16) gz rfl).le (dA _) (eh _)
 have lB:=hh
 have Cj:=j3
 refine iO [0] ?_
 refine gM ?_
 refine g_ [1] ?_
 exact ah ((_,_,_,[])) (⟨j3,v2,lB⟩) (gL) (Sp.all fc)
 refine g_ [1,701] ?_
 refine j8 12 rfl q0 (g_ [4] ?_)
 by_cases q1:kd=1
 refine g_ [1,701] ?_
 refine kl 13 rfl q1 (g_ [4,508] ?_)
 refine w_ [0,1,1000,2] ?_
 refine iD 3 [2] rfl (ab (v:=ptr pa) (cs:=(ik pa pc (fun b9=>ptr (pd b9)) (fun b9=>ptr (p b9)) vt ve)) fa rfl iz gA) ?_
 refine w_ [1002,4,5] ?_
 refine jy 6 [5] rfl call14 rfl (Fp n 16 gB gB _) ax ?_
 refine gD 7 ?_
 refine iI rfl call15 rfl (QS pa g.a (n5 n 16:Int) gz gz gz []) ?_
 rintro HV FI rfl
 have j3:WA w k {g with a:={g.a with now:=g.a.now+BitVec.ofInt 64 (n5 n 16:Int)}} told ends (row w (ik pa pc (fun b9=>ptr (pd b9)) (fun b9=>ptr (p b9)) vt ve) 36::(row pa (jr {g.a with now:=g.a.now+BitVec.ofInt 64 (n5 n 16:Int)}) 73::(CC++(S1++(S2++(CT++CE)))))):=⟨pa,pc,p,pd,vt,ve,CC,S1,S2,CT,CE,rfl,hC,hS,mu,hT,hE⟩
 have v2:=(SB v gz (n:=n5 n 16) gz rfl).le (dA _) (eh _)
 have lB:=hh
 have Cj:=j3
 refine iO [0] ?_
 refine gM ?_
 refine g_ [1] ?_
 exact ah ((_,_,_,[])) (⟨j3,v2,lB⟩) (gL) (Sp.all fc)
 refine g_ [1,701] ?_
 refine j8 13 rfl q1 (g_ [5] ?_)
 by_cases q2:kd=2
 refine g_ [1,701] ?_
 refine kl 23 rfl q2 (g_ [7] ?_)
 refine c_ call16 rfl (Xs w k g told ends _ wY G m mc v hm qt false []) ?_
 rintro XA Qj ⟨g2,C2,D2,j3,v2,rfl⟩
 replace v2:=v2.le (dA _) (eh mc)
 have lB:=hh
 refine g_ [2] ?_
 exact ah ((_,_,_,D2)) (⟨j3,v2,lB⟩) (gL) (Sp.all fc)
 refine g_ [1,701] ?_
 refine j8 23 rfl q2 (g_ [5] ?_)
 by_cases q3:kd=3
 refine g_ [1,701] ?_
 refine kl 28 rfl q3 (g_ [10,105] ?_)
 refine ae rfl (aN (e:=32) (s:=1) fa fa rfl rfl (qa k) (p8 k)) ?_
 refine WL.h rfl (ak (v:=ptr (p k)) (cs:=(ik pa pc (fun b9=>ptr (pd b9)) (fun b9=>ptr (p b9)) vt ve)) fa rfl iz (by cases k<;>rfl) ⟨_,rfl,?_⟩)
 refine iG call17 rfl (ahc mY (hS.v (Sp.sub fc)) gz) ?_
 refine g_ [707] ?_
 refine c_ call16 rfl (Xs w k g told ends _ wY G m mc v hm qt _ []) ?_
 rintro x39 XZ ⟨g2,C2,D2,j3,v2,rfl⟩
 replace v2:=v2.le (dA _) (eh mc)
 have lB:=hh
 refine g_ [2] ?_
 exact ah ((_,_,_,D2)) (⟨j3,v2,lB⟩) (gL) (Sp.all fc)
 refine g_ [1,701] ?_
 refine j8 28 rfl q3 (g_ [5] ?_)
 by_cases q4:kd=4
 refine g_ [1,701] ?_
 refine kl 41 rfl q4 (g_ [4,520] ?_)
 refine w_ [0,1,2,1005,3] ?_
 refine gW 4 [3,1] rfl (aN (e:=32) (s:=1) fa fa rfl rfl (qa k) (p8 k)) fa ?_
 refine iD 5 [4] rfl (ab (v:=ptr (p k)) (cs:=(ik pa pc (fun b9=>ptr (pd b9)) (fun b9=>ptr (p b9)) vt ve)) fa rfl iz (by cases k<;>rfl)) ?_
 refine w_ [6,7,1000,8] ?_
 refine iD 9 [8] rfl (ab (v:=ptr pa) (cs:=(ik pa pc (fun b9=>ptr (pd b9)) (fun b9=>ptr (p b9)) vt ve)) fa rfl iz gA) ?_
 refine jy 10 [9] rfl call19 rfl (FV iz) ax ?_
 refine w_ [1003,11,12,1004,14,15] ?_
 refine gD 13 ?_
 refine iI rfl call20 rfl (Po key []) ?_
 rintro KH Ii ⟨A1,qI,rfl⟩
 obtain ⟨qo,qc,rfl,_⟩:=qI.form
 refine gG ?_ (hr:=by exact ig (iw [14] rfl (aw Wt.none (ab (cs:=(zQ kd iL n key oX)) fa rfl iz gA)) fa) (ig (iw [8] rfl (aw Wt.none (ab (v:=ptr pa) (cs:=(ik pa pc (fun b9=>ptr (pd b9)) (fun b9=>ptr (p b9)) vt ve)) fa rfl iz gA)) fa) (ig (iw [4] rfl (aw Wt.none (ab (v:=ptr (p k)) (cs:=(ik pa pc (fun b9=>ptr (pd b9)) (fun b9=>ptr (p b9)) vt ve)) fa rfl iz (by cases k<;>rfl))) fa) jl)))
 refine jy 16 [15] rfl call14 rfl (Fp oX 3 gB gB _) ax ?_
 refine gW 17 [16] rfl (bT _ fa fa rfl rfl) fa ?_
 refine gD 18 ?_
 refine SO.h rfl Wt.none rfl (Hd.buildSlice (e:=5) (sz:=1) (zs:=[.int .u8 0]) (parts:=[(0,.tmp 59)]) (vs:=[(0,.int .u8 ((BitVec.ofInt 8 (n5 oX 3:Int)).toNat:Int))]) (cells:=bc [BitVec.ofInt 8 (n5 oX 3:Int)]) fa fa fa rfl fa fa fun It=>⟨_,rfl,?_⟩)
 refine gG ?_ (hr:=by exact ig (iw [15] rfl (aO Wt.none (iE.func call14 rfl) (Fp oX 3 gB gB _) ax) fa) (ig (iw [14] rfl (aw Wt.none (ab (cs:=(zQ kd iL n key oX)) fa rfl iz gA)) fa) (ig (iw [8] rfl (aw Wt.none (ab (v:=ptr pa) (cs:=(ik pa pc (fun b9=>ptr (pd b9)) (fun b9=>ptr (p b9)) vt ve)) fa rfl iz gA)) fa) (ig (iw [4] rfl (aw Wt.none (ab (v:=ptr (p k)) (cs:=(ik pa pc (fun b9=>ptr (pd b9)) (fun b9=>ptr (p b9)) vt ve)) fa rfl iz (by cases k<;>rfl))) fa) jl))))
 refine gD 19 ?_
 refine iI rfl call18 rfl (ahp mY v hm hS (Bh key) [BitVec.ofInt 8 (n5 oX 3:Int)] _ _ ([row It (bc [BitVec.ofInt 8 (n5 oX 3:Int)]) 5]++A1) (qI.mono fun c hc=>dq _ hc) ((show Bs (Value.slice (some ⟨It,0,none⟩) 1 1) [BitVec.ofInt 8 (n5 oX 3:Int)] [row It (bc [BitVec.ofInt 8 (n5 oX 3:Int)]) 5] from Bs.row rfl).mono fun c hc=>dw _ hc) ⟨Nat.zero_lt_succ _,dA _⟩ (dA _) (ae8 oX)) ?_
 rintro x61 X2 ⟨g2,S3,Gw,v2,AT,tK,pC,rfl⟩
 replace v2:=v2.le (dA _) (eh mc)
 have j3:WA w k g2 told ends _:=yC (pa:=pa) tK pC hC Gw mu hT hE
 rw[AT] at j3
 have lB:=hh
 have Cj:=j3
 refine gG ?_ (hr:=by exact ig (iw [14] rfl (aw Wt.none (ab (cs:=(zQ kd iL n key oX)) fa rfl iz gA)) fa) (ig (iw [8] rfl (aw Wt.none (ab (v:=ptr pa) (cs:=(ik pa pc (fun b9=>ptr (pd b9)) (fun b9=>ptr (p b9)) vt ve)) fa rfl iz gA)) fa) jl))
 refine gM ?_
 refine g_ [1] ?_
 exact ah ((_,_,_,([row It (bc [BitVec.ofInt 8 (n5 oX 3:Int)]) 5]++A1))) (⟨j3,v2,lB⟩) (gL) (Sp.all fc)
 refine g_ [1,701] ?_
 refine j8 41 rfl q4 (g_ [6] ?_)
 by_cases q5:kd=5
 refine g_ [1,701] ?_
 refine kl 63 rfl q5 (g_ [10] ?_)
 refine c_ call21 rfl (PE w k g told ends _ wY G m mc v hm qt []) ?_
 rintro XF Qp ⟨g2,G2,C2,D2,oB,j3,v2,rfl⟩
 have lB:=hh.mono oB (dA _)
 refine g_ [2] ?_
 exact ah ((_,_,_,D2)) (⟨j3,v2,lB⟩) (gL) (Sp.all fc)
 refine g_ [1,701] ?_
 refine j8 63 rfl q5 (g_ [5] ?_)
 by_cases q6:kd=6
 refine g_ [1,701] ?_
 refine kl 64 rfl q6 (g_ [10] ?_)
 refine c_ call21 rfl (PE w k g told ends _ wY G m mc v hm qt []) ?_
 rintro XF Qp ⟨g2,G2,C2,D2,oB,j3,v2,rfl⟩
 have lB:=hh.mono oB (dA _)
 refine g_ [2] ?_
 exact ah ((_,_,_,D2)) (⟨j3,v2,lB⟩) (gL) (Sp.all fc)
 refine g_ [1,701] ?_
 refine j8 64 rfl q6 (g_ [4] ?_)
 by_cases q7:kd=7
 refine g_ [1,701] ?_
 refine kl 65 rfl q7 (g_ [7] ?_)
 refine c_ call21 rfl (PE w k g told ends _ wY G m mc v hm qt []) ?_
 rintro XF Qp ⟨g2,G2,C2,D2,oB,j3,v2,rfl⟩
 have lB:=hh.mono oB (dA _)
 refine g_ [2] ?_
 exact ah ((_,_,_,D2)) (⟨j3,v2,lB⟩) (gL) (Sp.all fc)
 refine g_ [1,701] ?_
 refine j8 65 rfl q7 (g_ [6] ?_)
 by_cases q8:kd=8
 refine g_ [1,701] ?_
 refine kl 70 rfl q8 (g_ [10] ?_)
 refine c_ call22 rfl (PD w k g told ends _ wY G m mc v hm qt []) ?_
 rintro XG Qq ⟨g2,C2,D2,j3,v2,rfl⟩
 replace v2:=v2.le (eh m) (eh mc)
 have lB:=hh
 refine g_ [2] ?_
 exact ah ((_,_,_,D2)) (⟨j3,v2,lB⟩) (gL) (Sp.all fc)
 refine g_ [1,701] ?_
 refine j8 70 rfl q8 (g_ [5] ?_)
 by_cases q9:kd=9
 refine g_ [1,701] ?_
 refine kl 71 rfl q9 (g_ [10] ?_)
 refine c_ call22 rfl (PD w k g told ends _ wY G m mc v hm qt []) ?_
 rintro XG Qq ⟨g2,C2,D2,j3,v2,rfl⟩
 replace v2:=v2.le (eh m) (eh mc)
 have lB:=hh
 refine g_ [2] ?_
 exact ah ((_,_,_,D2)) (⟨j3,v2,lB⟩) (gL) (Sp.all fc)
 refine g_ [1,701] ?_
 refine j8 71 rfl q9 (g_ [4] ?_)
 by_cases V3:kd=10
 refine g_ [1,701] ?_
 refine kl 72 rfl V3 (g_ [7] ?_)
 refine c_ call22 rfl (PD w k g told ends _ wY G m mc v hm qt []) ?_
 rintro XG Qq ⟨g2,C2,D2,j3,v2,rfl⟩
 replace v2:=v2.le (eh m) (eh mc)
 have lB:=hh
 refine g_ [2] ?_
 exact ah ((_,_,_,D2)) (⟨j3,v2,lB⟩) (gL) (Sp.all fc)
 refine g_ [1,701] ?_
 refine j8 72 rfl V3 (g_ [5] ?_)
 by_cases V4:kd=11
 refine g_ [1,701] ?_
 refine kl 77 rfl V4 (g_ [9,102] ?_)
 refine ae rfl (aN (e:=30) (s:=1) fa fa rfl rfl (qa k) (p8 k)) ?_
 refine WL.h rfl (ak (v:=ptr (pd k)) (cs:=(ik pa pc (fun b9=>ptr (pd b9)) (fun b9=>ptr (p b9)) vt ve)) fa rfl iz (by cases k<;>rfl) ⟨_,rfl,?_⟩)
 refine c_ call23 rfl (ag9 hS []) ?_
 rintro x84 X5 ⟨gI,ss,CD,D2,Mg,ns,nk,jM,rfl⟩
 refine g_ [5] ?_
 refine c_ call13 rfl (ah8 w pa pc (fun b9=>ptr (pd b9)) p vt ve k (pd k) rfl gI ss CD Mg ns nk (by rw[jM];omega) (by rw[jM];exact v.fold k) []) ?_
 rintro x87 X7 ⟨p9,S9,D9,lW,rfl⟩
 rw[jM] at lW
 have j3:WA w k {g with R:=hX g.R k none,seen:=hX g.seen k (ke (g.J k) (g.J k).length)} told ends (row w (ik pa pc (fun b9=>ptr (pd b9)) (fun b9=>ptr (hX p k p9 b9)) vt ve) 36::(row pa (jr g.a) 73::(CC++(S9++(S2++(CT++CE)))))):=⟨pa,pc,hX p k p9,pd,vt,ve,CC,S9,S2,CT,CE,rfl,hC,by rw[jJ];show SA p9 (pd k) kF (g.J k) (hX g.seen k _ k) (hX g.R k none k) S9;rw[jJ,jJ];exact lW,by rw[ll];show SA (p (!k)) (pd (!k)) kF (g.J (!k)) (hX g.seen k _ (!k)) (hX g.R k none (!k)) S2;rw[ll,ll];exact mu,hT,hE⟩
 have v2:=(aaH mY v k).le (eh m) (eh mc)
 have lB:=hh
 have Cj:=j3
 refine g_ [2] ?_
 exact ah ((_,_,_,(D2++D9))) (⟨j3,v2,lB⟩) (gL) (Sp.all fc)
 refine g_ [1,701] ?_
 refine j8 77 rfl V4 (g_ [5] ?_)
 by_cases V5:kd=12
 refine g_ [1,701] ?_
 refine kl 89 rfl V5 (g_ [7] ?_)
 refine c_ call24 rfl (Xw w k g told ends _ wY G m mc v hm qt 2 (.inr rfl) []) ?_
 rintro x92 H92 ⟨g2,C2,D2,j3,v2,rfl⟩
 replace v2:=v2.le (dA _) (eh mc)
 have lB:=hh
 refine g_ [2] ?_
 exact ah ((_,_,_,D2)) (⟨j3,v2,lB⟩) (gL) (Sp.all fc)
 refine g_ [1,701] ?_
 refine j8 89 rfl V5 (g_ [5] ?_)
 by_cases V6:kd=13
 refine g_ [1,701] ?_
 refine kl 94 rfl V6 (g_ [7] ?_)
 refine c_ call24 rfl (Xw w k g told ends _ wY G m mc v hm qt 1 (.inl rfl) []) ?_
 rintro x97 X8 ⟨g2,C2,D2,j3,v2,rfl⟩
 replace v2:=v2.le (dA _) (eh mc)
 have lB:=hh
 refine g_ [2] ?_
 exact ah ((_,_,_,D2)) (⟨j3,v2,lB⟩) (gL) (Sp.all fc)
 refine g_ [1,701] ?_
 refine j8 94 rfl V6 (g_ [6] ?_)
 exact ah ((_,_,_,[])) (⟨wY,v.le (eh m) (eh mc),hh⟩) (gL) (Sp.all fc)
 rintro ⟨g2,G2,C2,D2⟩ ⟨j3,v2,lB⟩
 replace j3:WA w k g2 told ends C2:=j3
 have Cj:=j3
 obtain ⟨OK,VO,p2,VQ,o4,mM,FB,Ya,Yb,ur,sM,rfl,wU,aiY,aiZ,ya,Cc⟩:=j3
 change WC _ _ _ _ _ _ _ ((row w (ik OK VO (fun b9=>ptr (VQ b9)) (fun b9=>ptr (p2 b9)) o4 mM) 36::(row OK (jr g2.a) 73::(FB++(Ya++(Yb++(ur++sM))))))++(([row b3 (zQ kd iL n key oX) 27]++D2)++H))
 refine g_ [4,110] ?_
 refine WL.h rfl (ak (v:=.bool false) (cs:=ik OK VO (fun b9=>ptr (VQ b9)) (fun b9=>ptr (p2 b9)) o4 mM) fa rfl iz gA ⟨_,rfl,?_⟩)
 refine g_ [709,2102,6] ?_
 refine c_ call25 rfl (ahM w k _ told ends _ Cj _ (m+1) (mc+1) v2 gz gz n0 _ tf rfl lB []) ?_
 rintro ajL aiv ⟨G4,t4,e4,C4,D4,hW4,v4,hh4,rfl⟩
 refine WL.nil (gH (C4++(([row b3 (zQ kd iL n key oX) 27]++(D2++D4))++H)) ?_)
 exact bl results6 (⟨_,G4,t4,e4,C4,_,hW4,v4,hh4,rfl⟩)
theorem Xt (w:Nat) (g:Gs) (told ends:List jt) (C:List Ck) (hW:WA w false g told ends C) (G:List En) (m mc:Nat) (v:iR kF g G m mc) (hm:m≤119) (qt:mc≤119) (kd iL n key oX:Int) (n0:Nat) (tf:n0≤5000) (hh:lU G told ends n0) (H:List Ck):gC prog 6 [ptr w,.agg (zQ kd iL n key oX).toArray] (C++H) fun r0 gr=>∃gU lH t2 e2 gP D,WA w false gU t2 e2 gP∧iR kF gU lH (m+1) (mc+1)∧lU lH t2 e2 (n0+12)∧gr=gP++(D++H):=by
  have kD:=EY (a:=iL) (n:=2) gB
  obtain ⟨k,hk⟩:∃k,kI k=1+(n5 iL 2:Int):=by
    rcases Nat.lt_or_ge (n5 iL 2) 1 with q|q
    · exact ⟨false,by show (1:Int)=_;omega⟩
    exact ⟨true,by show (2:Int)=_;omega⟩
  obtain ⟨C2,hp,j3⟩:=hW.yz k
  refine z6 (Pm (ahX w k g told ends C2 j3 G m mc v hm qt kd iL n key oX hk n0 tf hh H) (hp.append_right H)) ?_
  rintro r0 gr ⟨gU,lH,t2,e2,gP,D,h1,h2,h3,rfl⟩
  obtain ⟨C3,hp3,Cj⟩:=h1.yz false
  exact ⟨C3++(D++H),hp3.append_right _,gU,lH,t2,e2,C3,D,Cj,h2,h3,rfl⟩
def vu:List Gd:=[⟨⟨#[97]⟩,4,0⟩,⟨⟨#[98]⟩,5,0⟩]
def wA:List Au:=[⟨⟨#[97,110,110]⟩,7,0⟩]
theorem W4:BH vu:=⟨by decide,by decide,fun g hg=>by
  simp only[vu,eS,ej,or_false] at hg
  rcases hg with rfl|rfl<;>(unfold y7;decide)⟩
theorem W3:Ai wA:=⟨by decide,by decide,fun g hg=>by
  simp only[wA,eS,ej,or_false] at hg
  subst hg
  unfold yM;decide⟩
theorem ahk:([2,9]:List Int).findIdx? Do.qi=none:=by decide
theorem ahj:uq vu wA [2,9] (Cw.new vu wA [2,9]):=
  aeD (nT.start gB gB fun g hg=>⟨W4.2.2 g hg,(by decide:∀g∈vu,g.gone=0) g hg⟩) (nS.start W3) (qT.start (afD gB) gB)
def y4:Gs:=⟨Ar.new 10#64 3#64,Cw.new vu wA [2,9],fun _=>[],fun _=>0#32,fun _=>none⟩
theorem Su:iR kF y4 [] 0 0:=aaG rfl ahj rfl rfl
theorem Tr:lU [] [] [] 0:=⟨List.Pairwise.nil,fun _ h=>absurd h ej,List.Pairwise.nil,fun _ h=>absurd h ej,dA _,dA _⟩
theorem acf:Holds (List.replicate 32768 0#8) []:=by
  refine ⟨gj,fun i h=>absurd h (gl _),fun i _ hi=>?_⟩
  unfold slot
  rw[fF,dx gz,ft,List.getElem?_replicate,dx gz]
theorem WA.row {w:Nat} {k:Bool} {g:Gs} {told ends:List jt} {C:List Ck} (h:WA w k g told ends C):∃pa pc Df Sf vt ve,row w (ik pa pc Df Sf vt ve) 36∈C∧row pa (jr g.a) 73∈C∧Rs vt told.length (told.flatMap jY) C∧Rs ve ends.length (ends.flatMap jY) C:=by
  obtain ⟨pa,pc,p,pd,vt,ve,CC,S1,S2,CT,CE,rfl,hC,hS,mu,hT,hE⟩:=h
  exact ⟨pa,pc,_,_,vt,ve,dy,dt _ dy,hT.rs.mono fun c hc=>dt _ (dt _ (dq _ (dq _ (dq _ (dw _ hc))))),
    hE.rs.mono fun c hc=>dt _ (dt _ (dq _ (dq _ (dq _ (dq _ hc)))))⟩
def BK (n:Nat) (Df Sf:Bool→Value) (CS:List Ck):Prop:=
  (n=0∧CS=[])∨(n=1∧∃p pd,SA p pd kF [] 0#32 none CS∧Df false=ptr pd∧Sf false=ptr p)∨
  (n=2∧∃p0 Bq C0 p1 E4 C1,SA p0 Bq kF [] 0#32 none C0∧Df false=ptr Bq∧Sf false=ptr p0∧SA p1 E4 kF [] 0#32 none C1∧Df true=ptr E4∧Sf true=ptr p1∧CS=C1++C0)
theorem BK.next {n:Nat} {Df Sf:Bool→Value} {CS:List Ck} (h:BK n Df Sf CS) (hn:n<2) {k:Bool} (hk:kI k=(n:Int)+1) {p pd:Nat} {S:List Ck} (hS:SA p pd kF [] 0#32 none S):BK (n+1) (hX Df k (ptr pd)) (hX Sf k (ptr p)) (S++CS):=by
  rcases h with ⟨rfl,rfl⟩|⟨rfl,p0,Bq,h1,h2,h3⟩|⟨rfl,_⟩
  · have:k=false:=by cases k with|false=>rfl|true=>exact absurd hk gB
    subst this
    exact .inr (.inl ⟨rfl,p,pd,by rw[eF];exact hS,jJ _ _ _,jJ _ _ _⟩)
  · have:k=true:=by cases k with|true=>rfl|false=>exact absurd hk gB
    subst this
    exact .inr (.inr ⟨rfl,p0,Bq,CS,p,pd,S,h1,h2,h3,hS,jJ _ _ _,jJ _ _ _,rfl⟩)
  omega
theorem Xn (H:List Ck):gC prog 5 [] H fun r0 gr=>∃w C D,r0=ptr w∧WA w false y4 [] [] C∧gr=C++(D++H):=by
 refine gC.enter func5 rfl ntmps5 rfl ?_
 intro w0 R
 refine g_ [7] ?_
 refine c_ call10 rfl (Yp 10#64 3#64 gB gB []) ?_
 rintro jz XN ⟨pa,rfl,rfl⟩
 refine g_ [9] ?_
 refine ae rfl (aj (pl:=[(0,1),(1,1)]) (zs:=[.string ⟨#[]⟩,.int .i64 0]) (parts:=[(0,.const (.string ⟨#[97]⟩)),(1,.const (.int .i64 4))]) (vs:=[(0,_),(1,_)]) (cells:=[_,_]) fa fa rfl rfl) ?_
 refine ae rfl (aj (pl:=[(0,1),(1,1)]) (zs:=[.string ⟨#[]⟩,.int .i64 0]) (parts:=[(0,.const (.string ⟨#[98]⟩)),(1,.const (.int .i64 5))]) (vs:=[(0,_),(1,_)]) (cells:=[_,_]) fa fa rfl rfl) ?_
 refine WL.h rfl (Hd.buildSlice (e:=53) (sz:=2) (zs:=[.string ⟨#[]⟩,.int .i64 0]) (parts:=[(0,.tmp 14),(1,.tmp 15)]) (vs:=[(0,.agg (sT ⟨⟨#[97]⟩,4,0⟩).toArray),(1,.agg (sT ⟨⟨#[98]⟩,5,0⟩).toArray)]) (cells:=vu.flatMap sT) fa fa fa rfl fa fa fun vH=>⟨_,rfl,?_⟩)
 refine ae rfl (aj (pl:=[(0,1),(1,1),(2,1)]) (zs:=[.string ⟨#[]⟩,.int .i64 0,.int .i64 0]) (parts:=[(0,.const (.string ⟨#[97,110,110]⟩)),(1,.const (.int .i64 7))]) (vs:=[(0,_),(1,_)]) (cells:=[_,_,.int .i64 0]) fa fa rfl rfl) ?_
 refine WL.h rfl (Hd.buildSlice (e:=56) (sz:=3) (zs:=[.string ⟨#[]⟩,.int .i64 0,.int .i64 0]) (parts:=[(0,.tmp 17)]) (vs:=[(0,.agg (rL ⟨⟨#[97,110,110]⟩,7,0⟩).toArray)]) (cells:=wA.flatMap rL) fa fa fa rfl fa fa fun FY=>⟨_,rfl,?_⟩)
 refine WL.h rfl (Hd.buildSlice (e:=3) (sz:=1) (zs:=[.int .i64 0]) (parts:=[(0,.const (.int .i64 2)),(1,.const (.int .i64 9))]) (vs:=[(0,.int .i64 2),(1,.int .i64 9)]) (cells:=ic [2,9]) fa fa fa rfl fa fa fun vI=>⟨_,rfl,?_⟩)
 refine c_ call11 rfl (Zs _ _ _ vu wA [2,9] gB (row vI (ic [2,9]) 3::(row FY (wA.flatMap rL) 56::[row vH (vu.flatMap sT) 53])) (.inr ⟨vH,0,2,vu.flatMap sT,53,(0,0),true,rfl,dA _,dt _ (dt _ dy),rfl⟩) (.inr ⟨FY,0,1,wA.flatMap rL,56,(0,0),true,rfl,dA _,dt _ dy,rfl⟩) (.inr ⟨vI,0,2,ic [2,9],3,(0,0),true,rfl,dA _,dy,rfl⟩) gB gB gB) ?_
 intro x H9 h9
 obtain ⟨pc,CC,rfl,hC,rfl⟩:=(h9.resolve_right fun q=>q.1 ⟨W4,W3,by rw[ahk];rfl,by decide⟩).2
 refine g_ [11,702,1024,2,702,1027,3] ?_
 refine jx 29 rfl rfl rfl (an underlying28 rfl rfl) (g_ [1031,3] ?_)
 refine jx 33 rfl rfl rfl (an underlying29 rfl rfl) (g_ [1035,10] ?_)
 refine ae rfl (Yd.build (pl:=[(0,1),(1,1),(2,3),(5,3),(8,1),(9,1),(10,1)]) (zs:=[.pointer none,.pointer none,.pointer none,.pointer none,.pointer none,.pointer none,.pointer none,.pointer none,.slice none 0 0,.slice none 0 0,.bool false]) (parts:=[(0,.tmp 37),(1,.tmp 38)]) (vs:=[(0,ptr pa),(1,ptr pc)]) (cells:=ik pa pc (fun _=>.pointer none) (fun _=>.pointer none) (.slice none 0 0) (.slice none 0 0)) fa fa rfl rfl) ?_
 refine WL.h rfl (cH (vs:=ik pa pc (fun _=>.pointer none) (fun _=>.pointer none) (.slice none 0 0) (.slice none 0 0)) rfl fun w=>⟨_,rfl,?_⟩)
 refine g_ [10] ?_
 refine aC (fun z:Nat×(Bool→Value)×(Bool→Value)×List Ck×List Ck=>z.1≤2∧BK z.1 z.2.1 z.2.2.1 z.2.2.2.1) (fun z:Nat×(Bool→Value)×(Bool→Value)×List Ck×List Ck=>[(6,.int .i64 ((z.1:Int)+1))]) (fun z:Nat×(Bool→Value)×(Bool→Value)×List Ck×List Ck=>row w (ik pa pc z.2.1 z.2.2.1 (.slice none 0 0) (.slice none 0 0)) 36::(row pa (jr (Ar.new 10#64 3#64)) 73::(CC++(z.2.2.2.1++((z.2.2.2.2++(row vI (ic [2,9]) 3::(row FY (wA.flatMap rL) 56::[row vH (vu.flatMap sT) 53])))++H))))) (fun z:Nat×(Bool→Value)×(Bool→Value)×List Ck×List Ck=>2-z.1) (⟨0,(fun _=>.pointer none),(fun _=>.pointer none),[],[]⟩) (show 0≤2∧BK 0 ((fun _=>.pointer none)) ((fun _=>.pointer none)) [] from ⟨dN _,.inl ⟨rfl,rfl⟩⟩) (Sx.put rfl (gL)) fc ?_
 rintro ⟨n,Df,Sf,CS,D⟩ hI
 replace hI:n≤2∧BK n Df Sf CS:=hI
 obtain ⟨hn,ho⟩:=hI
 change WC _ _ _ _ _ _ ([(6,.int .i64 ((n:Int)+1))]++_) (row w (ik pa pc Df Sf (.slice none 0 0) (.slice none 0 0)) 36::(row pa (jr (Ar.new 10#64 3#64)) 73::(CC++(CS++((D++(row vI (ic [2,9]) 3::(row FY (wA.flatMap rL) 56::[row vH (vu.flatMap sT) 53])))++H)))))
 refine g_ [4,706,2] ?_
 refine gK rfl (fun pN=>?_) fun pN=>?_
 have mW:n<2:=by omega
 obtain ⟨k,hk⟩:∃k,kI k=(n:Int)+1:=by
   obtain rfl|rfl:n=0∨n=1:=by omega
   · exact ⟨false,rfl⟩
   exact ⟨true,rfl⟩
 refine g_ [6] ?_
 refine c_ call12 rfl (Y2 []) ?_
 rintro wD wH ⟨q,CD,rfl,Mg,rfl⟩
 refine g_ [11] ?_
 refine af (t:=50) (v:=.int .i64 (kI k)) rfl (by rw[hk]) ?_
 refine g_ [2,102] ?_
 refine ae rfl (aN (e:=30) (s:=1) fa fa rfl rfl (qa k) (p8 k)) ?_
 refine WL.s (aq (iT:=ik pa pc (hX Df k (ptr q)) Sf (.slice none 0 0) (.slice none 0 0)) fa rfl rfl gA ir (by cases k<;>(show 0+2+(kI _).toNat*1<11;decide)) (by cases k<;>rfl) ⟨rfl,?_⟩)
 refine g_ [5] ?_
 refine af (t:=56) (v:=.int .i64 (kI k)) rfl (by rw[hk]) ?_
 refine c_ call13 rfl (Xv w pa pc (hX Df k (ptr q)) Sf (.slice none 0 0) (.slice none 0 0) k q (jJ _ _ _) _ [] CD Mg iM.nil acf gB (Folds.nil _) []) ?_
 rintro PJ KW ⟨p,S,D9,hS,rfl⟩
 refine g_ [5,703,2] ?_
 exact ai (⟨n+1,hX Df k (ptr q),hX Sf k (ptr p),S++CS,D9++D⟩) (show (n+1)≤2∧BK (n+1) (hX Df k (ptr q)) (hX Sf k (ptr p)) (S++CS) from ⟨by omega,ho.next gz hk hS⟩) (show 2-(n+1)<2-n by omega) (Sx.put rfl (gL)) fc
 obtain ⟨_,p0,Bq,C0,p1,E4,C1,hS0,hd0,zD,xZ,hd1,qv,rfl⟩:=(ho.resolve_left (fun q=>by omega)).resolve_left (fun q=>by omega)
 have acz:ik pa pc Df Sf (.slice none 0 0) (.slice none 0 0)=ik pa pc (fun b9=>ptr (cond b9 E4 Bq)) (fun b9=>ptr (cond b9 p1 p0)) (.slice none 0 0) (.slice none 0 0):=by unfold ik;rw[hd0,hd1,zD,qv];rfl
 refine g_ [10,110] ?_
 refine UZ (v:=.bool false) (ik pa pc Df Sf (.slice none 0 0) (.slice none 0 0)) ?_
 refine g_ [1061,12] ?_
 rw[acz]
 refine gH ((row w (ik pa pc (fun b9=>ptr (cond b9 E4 Bq)) (fun b9=>ptr (cond b9 p1 p0)) (.slice none 0 0) (.slice none 0 0)) 36::(row pa (jr y4.a) 73::(CC++(C0++(C1++([]++[]))))))++((D++(row vI (ic [2,9]) 3::(row FY (wA.flatMap rL) 56::[row vH (vu.flatMap sT) 53])))++H)) ?_
 exact aa results5 rfl (⟨w,_,_,rfl,⟨pa,pc,fun b=>cond b p1 p0,fun b=>cond b E4 Bq,_,_,CC,C0,C1,[],[],rfl,hC,hS0,xZ,il.nil _ _,il.nil _ _⟩,rfl⟩)
end Go.Proofs.YtchdmlkiggdhaaaGreat
