/-
  Lemmas and walks that TopOne and TopSolo stands on (part 12); no condition.
-/
import Derived.Test.YtchdmlkiggdhaaaGreatTopB11
set_option linter.unusedVariables false
set_option linter.unusedSimpArgs false
set_option maxHeartbeats 4000000
namespace Go.Proofs.YtchdmlkiggdhaaaGreat
open Go.SL Go.Proofs.Tryz
attribute [local irreducible] WL WC DN gZ iX
theorem Yp (len guard:BitVec 64) (hl:1≤len.toNat∧len.toNat≤10000) (hg:guard.toNat≤10000) (H:List Ck):gC prog 10 [.int .u64 len.toNat,.int .u64 guard.toNat] H fun r gr=>∃p,r=.tuple #[.pointer (some ⟨p,0,none⟩),.int .i64 0]∧gr=row p (jr (Ar.new len guard)) 73::H:=by
 refine gC.enter func10 rfl ntmps10 rfl ?_
 intro w0 R
 refine g_ [10] ?_
 refine jv call28 rfl (Yz _ _) ?_
 refine g_ [709] ?_
 refine af (t:=8) (v:=.bool false) rfl (congrArg Value.bool (by simp[hl])) ?_
 refine g_ [1] ?_
 refine af (t:=9) (v:=.bool false) rfl (congrArg Value.bool (by simp[hl])) ?_
 refine g_ [1,707,1011,10] ?_
 refine ae rfl (aj (pl:=[(0,1),(1,1),(2,1),(3,1)]) (zs:=rG) (parts:=[(3,.const (.int .i64 1))]) (vs:=[(3,_)]) (cells:=[.int .u32 0,.int .i64 0,.int .u64 0,_]) fa fa rfl rfl) ?_
 refine ae rfl (aj (pl:=[(0,1),(1,1),(2,1),(3,4),(7,1)]) (zs:=[.int .u64 0,.int .u64 0,.int .u64 0,.int .u32 0,.int .i64 0,.int .u64 0,.int .i64 0,.int .i64 0]) (parts:=[(0,.tmp 13),(1,.tmp 14),(3,.tmp 15)]) (vs:=[(0,_),(1,_),(3,_)]) (cells:=[_,_,.int .u64 0,_,_,_,_,.int .i64 0]) fa fa rfl rfl) ?_
 refine iV fun FX=>?_
 refine g_ [5] ?_
 exact ay results10 rfl rfl (⟨_,rfl,rfl⟩)
theorem Yq (p:Nat) (a:Ar) (H:List Ck):Reads prog 19 [.pointer (some ⟨p,0,none⟩)] (row p (jr a) 73::H) (.int .u64 a.now.toNat):=by
 refine gC.enter func19 rfl ntmps19 rfl ?_
 intro w0 R
 refine gY (ae rfl (Yd.assign (v:=.int .u64 ((0#64).toNat:Int)) rfl) (g_ [6] ?_))
 refine ae rfl (an underlying28 rfl rfl) (g_ [1004,9,102,5] ?_)
 exact aa results19 rfl (⟨rfl,rfl⟩)
theorem Yj (p:Nat) (a:Ar) (H:List Ck):Reads prog 8 [.pointer (some ⟨p,0,none⟩)] (row p (jr a) 73::H) (.agg (ry a.l).toArray):=by
 refine gC.enter func8 rfl ntmps8 rfl ?_
 intro w0 R
 refine gY (iS rG fun b2=>?_)
 refine g_ [6] ?_
 refine ae rfl (an underlying28 rfl rfl) (g_ [1004,9,103] ?_)
 refine WL.h rfl (aJ (n:=4) (vs:=[_,_,_,_]) fa rfl gO gA gA ⟨_,rfl,?_⟩)
 refine g_ [304,3] ?_
 refine aB (s:=4) (row p (jr a) 73::H) results8 fa rfl dy gA (du _ _) ?_
 exact ⟨rfl,rfl⟩
theorem QS (p:Nat) (a:Ar) (n:Int) (h0:0≤n) (hn:n≤1000) (hm:a.now.toNat≤4611686018427380000) (H:List Ck):gC prog 15 [.pointer (some ⟨p,0,none⟩),.int .i64 n] (row p (jr a) 73::H) fun r gr=>gr=row p (jr {a with now:=a.now+BitVec.ofInt 64 n}) 73::H:=by
 refine gC.enter func15 rfl ntmps15 rfl ?_
 intro w0 R
 have e0:(BitVec.ofInt 64 n).toNat=n.toNat:=by
   rw[dX,Int.emod_eq_of_lt gz gz]
 have e1:(4611686018427387904#64-a.now).toNat=4611686018427387904-a.now.toNat:=fx (by rw[gq];show _≤4611686018427387904;omega)
 have e2:min ((BitVec.ofInt 64 n).toNat:Int) ((4611686018427387904#64-a.now).toNat:Int)=((BitVec.ofInt 64 n).toNat:Int):=by rw[e0,e1];omega
 refine g_ [3] ?_
 refine ae rfl (aK underlying28 rfl rfl) (g_ [1,2006,1,707,3] ?_)
 refine gK rfl (fun h9=>?_) fun h9=>?_
 refine g_ [516] ?_
 refine w_ [0,1,1002,2,3,4] ?_
 refine gW 5 [4] rfl (bM _ fa fa rfl rfl) fa ?_
 refine w_ [6,7,1002,8,9] ?_
 refine gW 10 [9] rfl (aL (4611686018427387904#64) _ rfl rfl rfl rfl) fa ?_
 refine gW 11 [10,5] rfl (cg rfl rfl) fa ?_
 refine az (v:=.int .u64 ((BitVec.ofInt 64 n).toNat:Int)) (congrArg (Value.int .u64) e2) (gW 12 [11,3] rfl (aY _ _ rfl rfl rfl rfl) fa ?_)
 refine w_ [13,1002,14] ?_
 refine gD 15 ?_
 refine SO.s rfl Wt.none (bg fa rfl rfl gA ir gA (by (simp only[fC,ff,eV,fG,Nat.reduceAdd];rfl)) ⟨rfl,?_⟩)
 refine gG ?_
 refine gM ?_
 refine bl results15 ?_
 rfl
 refine g_ [1] ?_
 refine bl results15 ?_
 obtain rfl:n=0:=by omega
 rw[show BitVec.ofInt 64 0=0#64 from rfl,BitVec.add_zero]
theorem DM (e:Int) (H:List Ck):gC prog 62 [.int .i64 e] H fun r gr=>∃c,r=.int .i64 c∧gr=H:=by
 refine gC.enter func62 rfl ntmps62 rfl ?_
 intro w0 R
 refine g_ [7] ?_
 refine WL.h rfl (bW EK fun b1 C1 h1=>⟨_,rfl,?_⟩)
 refine WL.s (cz (k0:=EK) (KT:=47) (ET:=3) (TD:=.int .i64) (n:=70) (v:=.int .i64 2) fa underlying47 ⟨_,rfl⟩ rfl rfl rfl h1 gB fc fun C2 h2=>⟨rfl,?_⟩)
 refine WL.s (cz (k0:=EK) (KT:=47) (ET:=3) (TD:=.int .i64) (n:=72) (v:=.int .i64 3) fa underlying47 ⟨_,rfl⟩ rfl rfl rfl h2 gB fc fun C3 h3=>⟨rfl,?_⟩)
 refine WL.s (cz (k0:=EK) (KT:=47) (ET:=3) (TD:=.int .i64) (n:=73) (v:=.int .i64 4) fa underlying47 ⟨_,rfl⟩ rfl rfl rfl h3 gB fc fun C4 h4=>⟨rfl,?_⟩)
 refine WL.s (cz (k0:=EK) (KT:=47) (ET:=3) (TD:=.int .i64) (n:=71) (v:=.int .i64 6) fa underlying47 ⟨_,rfl⟩ rfl rfl rfl h4 gB fc fun C5 h5=>⟨rfl,?_⟩)
 refine g_ [9] ?_
 refine WL.h rfl (bf (k0:=EK) (KT:=47) (ET:=3) (TD:=.int .i64) (n:=e) (z:=.int .i64 0) fa underlying47 ⟨_,rfl⟩ fa rfl rfl h5 fc rfl ⟨_,rfl,?_⟩)
 refine g_ [12] ?_
 refine WC.cond rfl (fun ql=>?_) (fun ql=>?_)
 refine g_ [8] ?_
 refine gH H ?_
 refine aa results62 rfl ?_
 obtain ⟨c,hc⟩:=Zu e
 exact ⟨c,hc,rfl⟩
 refine g_ [8] ?_
 refine gH H ?_
 exact aa results62 rfl (⟨1,rfl,rfl⟩)
theorem yN (p:Nat) (a:Ar) (c:Int) (H:List Ck):Reads prog 60 [.pointer (some ⟨p,0,none⟩),.int .i64 c] (row p (jr a) 73::H) (.agg (gS ⟨6,a.l.ep,0#32,0#64,0#64,0#32,0,false,c,[],[]⟩ (.slice none 0 0) (.slice none 0 0)).toArray):=by
 refine gC.enter func60 rfl ntmps60 rfl ?_
 intro w0 R
 refine gY (iS iP fun b4=>?_)
 refine g_ [6,103,100,2] ?_
 refine ae rfl (aj (pl:=kz) (zs:=iP) (parts:=[(0,.const (.int .i64 6)),(1,.tmp 9),(8,.tmp 10)]) (vs:=[(0,_),(1,_),(8,_)]) (cells:=[_,_,.int .u32 0,.int .u64 0,.int .u64 0,.int .u32 0,.int .i64 0,.bool false,_,.slice none 0 0,.slice none 0 0]) fa fa rfl rfl) ?_
 refine g_ [311,3] ?_
 refine aB (s:=11) (row p (jr a) 73::H) results60 fa rfl dy gA (du _ _) ?_
 exact ⟨rfl,rfl⟩
theorem DQ (p:Nat) (a:Ar) (ok:HY a) (iL:Int) (hw:iL=1∨iL=2) (n:Nt) (vk vd:Value) (h1:vk.oneCell'=true) (h2:vd.oneCell'=true) (hc:n.code=0∨n.code=1∨n.code=2) (H:List Ck):Reads prog 61 [.pointer (some ⟨p,0,none⟩),.int .i64 iL,.agg (gS n vk vd).toArray] (row p (jr a) 73::H) (.tuple #[.agg (ry (oV a iL n.gE n.code).1).toArray,.int .i64 (oV a iL n.gE n.code).2]):=by
 refine gC.enter func61 rfl ntmps61 rfl ?_
 intro w0 R
 refine gY (iV fun b5=>?_)
 refine iS rG fun b6=>?_
 refine g_ [7,101,1] ?_
 refine ae rfl (aD _ (0#32) rfl rfl rfl rfl) (g_ [3] ?_)
 refine gK rfl (fun h8=>?_) fun h8=>?_
 refine g_ [1,522] ?_
 refine w_ [0,1,1003,2] ?_
 refine iD 3 [2] rfl (aE (n:=4) (vs:=[_,_,_,_]) fa rfl gO gA gA) ?_
 refine w_ [4,5,1002,6,7,8,9,10,1000,11,12,13,14,1001,15,16] ?_
 refine jy 17 [16,12,8,7,3] rfl call100 rfl (ad9 a.l ok.l a.now iL a.len a.guard hw ok.len ok.guard ok.now ok.ep _) fc ?_
 refine w_ [18,19] ?_
 refine gD 20 ?_
 refine jT 4 ?_
 refine gG ?_
 refine gD 21 ?_
 refine jm ?_
 refine gG ?_
 refine gM ?_
 refine g_ [4] ?_
 refine au (s:=4) (row p (jr a) 73::H) results61 fa rfl rfl gO gA fc ?_
 unfold oV
 rw[dx ‹_›];exact ⟨rfl,rfl⟩
 refine g_ [2,108,1,701,3] ?_
 refine gK rfl (fun LV=>?_) fun LV=>?_
 refine g_ [1,520] ?_
 refine w_ [0,1,1003,2] ?_
 refine iD 3 [2] rfl (aE (n:=4) (vs:=[_,_,_,_]) fa rfl gO gA gA) ?_
 refine w_ [4,5,1002,6,7,8,1001,9,10,11,12,1000,13,14] ?_
 refine jy 15 [14,10,8,7,3] rfl call101 rfl (aei a.l ok.l a.now iL n.gE a.len hw ok.len ok.now _) fc ?_
 refine w_ [16,17] ?_
 refine gD 18 ?_
 refine jT 4 ?_
 refine gG ?_
 refine gD 19 ?_
 refine jm ?_
 refine gG ?_
 refine gM ?_
 refine g_ [4] ?_
 refine au (s:=4) (row p (jr a) 73::H) results61 fa rfl rfl gO gA fc ?_
 unfold oV
 rw[dp ‹_›,dx ‹_›];exact ⟨rfl,rfl⟩
 refine g_ [4,518] ?_
 refine w_ [0,1,1003,2] ?_
 refine iD 3 [2] rfl (aE (n:=4) (vs:=[_,_,_,_]) fa rfl gO gA gA) ?_
 refine w_ [4,5,1002,6,7,8,1001,9,10,1008,11,12] ?_
 refine jy 13 [12,10,8,7,3] rfl call102 rfl (aem a.l ok.l a.now iL n.gE n.code hw gz _) fc ?_
 refine w_ [14,15] ?_
 refine gD 16 ?_
 refine jT 4 ?_
 refine gG ?_
 refine gD 17 ?_
 refine jm ?_
 refine gG ?_
 refine gM ?_
 refine g_ [2] ?_
 refine au (s:=4) (row p (jr a) 73::H) results61 fa rfl rfl gO gA fc ?_
 unfold oV
 rw[dp ‹_›,dp ‹_›];exact ⟨rfl,rfl⟩
theorem Iq (p:Nat) (a:Ar) (ok:HY a) (iL:Int) (hw:iL=1∨iL=2) (n:Nt) (vk vd:Value) (hk:mm vk n.key.length) (hd:mm vd n.data.length) (hn:n.kind=4∧mS n=false) (hc:n.code=0∨n.code=1∨n.code=2) (h0:n.gE=0#32→n.code=0) (H:List Ck):gC prog 35 [.pointer (some ⟨p,0,none⟩),.int .i64 iL,.agg (gS n vk vd).toArray] (row p (jr a) 73::H) fun r gr=>∃gX m,HF a iL n gX m∧r=.agg (gS m (.slice none 0 0) (.slice none 0 0)).toArray∧gr=row p (jr gX) 73::H:=by
 refine gC.enter func35 rfl ntmps35 rfl ?_
 intro w0 R
 obtain ⟨ko,JK,rfl⟩:=hk
 obtain ⟨vo,ajA,rfl⟩:=hd
 obtain ⟨Ez,ov⟩:=hn
 refine gY (iV fun b5=>?_)
 refine iS iP fun b6=>?_
 refine g_ [7] ?_
 refine ae rfl (an underlying28 rfl rfl) (g_ [1011,7,705,1,1016,1,707,1018,2,100,1,702] ?_)
 refine j8 23 rfl (fun h=>h Ez) ?_
 refine g_ [2] ?_
 refine aS (dj:=25) rfl rfl rfl (aF (n:=11) fa rfl gO gA ⟨_,rfl,?_⟩)
 refine bV (dj:=25) rfl rfl rfl (iE.func call59 rfl) (AB n _ _ ⟨_,_,rfl⟩ ⟨_,_,rfl⟩ _) fc ?_
 refine g_ [702] ?_
 refine af (t:=28) (v:=.bool false) rfl (congrArg Value.bool (by rw[ov];decide)) ?_
 refine g_ [2,108,1,707,1033,2,101,1] ?_
 refine jx 35 rfl rfl rfl (aD _ (0#32) rfl rfl rfl rfl) (g_ [1] ?_)
 refine ag (t:=39) rfl (fun qp=>?_) (fun qp=>?_)
 refine g_ [108,1,702,5] ?_
 refine gK rfl (fun sW=>?_) fun sW=>?_
 refine g_ [3] ?_
 refine jv call60 rfl (yN p a _ _) ?_
 refine g_ [311,5] ?_
 refine aB (s:=11) (row p (jr a) 73::H) results35 fa rfl gO gA ((du _ _).trans (du _ _)) ?_
 rotate_left
 refine g_ [2,101,1] ?_
 refine ae rfl (aD _ (0#32) rfl rfl rfl rfl) (g_ [1] ?_)
 refine ag (t:=51) rfl (fun mV=>?_) (fun mV=>?_)
 refine g_ [2,103,103,1,701,2] ?_
 refine ag (t:=59) rfl (fun zr=>?_) (fun zr=>?_)
 refine g_ [3,107,1,702,4] ?_
 refine gK rfl (fun lN=>?_) fun lN=>?_
 refine g_ [3] ?_
 refine jv call60 rfl (yN p a _ _) ?_
 refine g_ [311,5] ?_
 refine aB (s:=11) (row p (jr a) 73::H) results35 fa rfl gO gA ((du _ _).trans (du _ _)) ?_
 rotate_left
 refine g_ [7,411] ?_
 refine jv call61 rfl (DQ p a ok iL hw n _ _ rfl rfl hc _) ?_
 refine g_ [3] ?_
 refine iS rG fun b7=>?_
 refine g_ [304,7,702,2] ?_
 refine gK rfl (fun rh=>?_) fun rh=>?_
 refine g_ [4] ?_
 refine bK rfl (iE.func call62 rfl) (DM _ _) ?_
 rintro _ _ ⟨c9,rfl,rfl⟩
 refine jv call60 rfl (yN p a _ _) ?_
 refine g_ [311,4] ?_
 refine aB (s:=11) (row p (jr a) 73::H) results35 fa rfl gO gA ((du _ _).trans ((du _ _).trans (du _ _))) ?_
 rotate_left
 refine g_ [6,404,2,103] ?_
 refine WL.s (bj (n:=4) fa rfl rfl gA qd ir (by show 0+3+4≤8;decide) gA ⟨rfl,?_⟩)
 refine g_ [1,107,4,513] ?_
 refine w_ [1000,0,1,1002,2,3,4,5,1002,6,7] ?_
 refine gW 8 [7,3] rfl (aL _ _ rfl rfl rfl rfl) fa ?_
 refine w_ [1003,9,10] ?_
 refine gW 11 [10,8,1] rfl (aj (pl:=kz) (zs:=iP) (parts:=[(0,.const (.int .i64 5)),(1,.tmp 91),(4,.tmp 98),(8,.tmp 100)]) (vs:=[(0,_),(1,_),(4,_),(8,_)]) (cells:=[_,_,.int .u32 0,.int .u64 0,_,.int .u32 0,.int .i64 0,.bool false,_,.slice none 0 0,.slice none 0 0]) fa fa rfl rfl) fa ?_
 refine gD 12 ?_
 refine jT 11 ?_
 refine gG ?_
 refine gM ?_
 refine g_ [2] ?_
 refine aB (s:=11) (row p (jr {a with l:=(oV a iL n.gE n.code).1,last:=iL}) 73::H) results35 fa rfl gO gA (.cons _ (.cons_cons _ (.cons _ (.cons _ (.refl _))))) ?_
 rotate_left
 refine g_ [18,411] ?_
 refine jv call61 rfl (DQ p a ok iL hw n _ _ rfl rfl hc _) ?_
 refine g_ [3] ?_
 refine iS rG fun b7=>?_
 refine g_ [304,7,702,2] ?_
 refine gK rfl (fun rh=>?_) fun rh=>?_
 refine g_ [4] ?_
 refine bK rfl (iE.func call62 rfl) (DM _ _) ?_
 rintro _ _ ⟨c9,rfl,rfl⟩
 refine jv call60 rfl (yN p a _ _) ?_
 refine g_ [311,4] ?_
 refine aB (s:=11) (row p (jr a) 73::H) results35 fa rfl gO gA ((du _ _).trans ((du _ _).trans (du _ _))) ?_
 rotate_left
 refine g_ [6,404,2,103] ?_
 refine WL.s (bj (n:=4) fa rfl rfl gA qd ir (by show 0+3+4≤8;decide) gA ⟨rfl,?_⟩)
 refine g_ [1,107,4,513] ?_
 refine w_ [1000,0,1,1002,2,3,4,5,1002,6,7] ?_
 refine gW 8 [7,3] rfl (aL _ _ rfl rfl rfl rfl) fa ?_
 refine w_ [1003,9,10] ?_
 refine gW 11 [10,8,1] rfl (aj (pl:=kz) (zs:=iP) (parts:=[(0,.const (.int .i64 5)),(1,.tmp 91),(4,.tmp 98),(8,.tmp 100)]) (vs:=[(0,_),(1,_),(4,_),(8,_)]) (cells:=[_,_,.int .u32 0,.int .u64 0,_,.int .u32 0,.int .i64 0,.bool false,_,.slice none 0 0,.slice none 0 0]) fa fa rfl rfl) fa ?_
 refine gD 12 ?_
 refine jT 11 ?_
 refine gG ?_
 refine gM ?_
 refine g_ [2] ?_
 refine aB (s:=11) (row p (jr {a with l:=(oV a iL n.gE n.code).1,last:=iL}) 73::H) results35 fa rfl gO gA (.cons _ (.cons_cons _ (.cons _ (.cons _ (.refl _))))) ?_
 rotate_left
 refine g_ [26,411] ?_
 refine jv call61 rfl (DQ p a ok iL hw n _ _ rfl rfl hc _) ?_
 refine g_ [3] ?_
 refine iS rG fun b7=>?_
 refine g_ [304,7,702,2] ?_
 refine gK rfl (fun rh=>?_) fun rh=>?_
 refine g_ [4] ?_
 refine bK rfl (iE.func call62 rfl) (DM _ _) ?_
 rintro _ _ ⟨c9,rfl,rfl⟩
 refine jv call60 rfl (yN p a _ _) ?_
 refine g_ [311,4] ?_
 refine aB (s:=11) (row p (jr a) 73::H) results35 fa rfl gO gA ((du _ _).trans ((du _ _).trans (du _ _))) ?_
 rotate_left
 refine g_ [6,404,2,103] ?_
 refine WL.s (bj (n:=4) fa rfl rfl gA qd ir (by show 0+3+4≤8;decide) gA ⟨rfl,?_⟩)
 refine g_ [1,107,4,513] ?_
 refine w_ [1000,0,1,1002,2,3,4,5,1002,6,7] ?_
 refine gW 8 [7,3] rfl (aL _ _ rfl rfl rfl rfl) fa ?_
 refine w_ [1003,9,10] ?_
 refine gW 11 [10,8,1] rfl (aj (pl:=kz) (zs:=iP) (parts:=[(0,.const (.int .i64 5)),(1,.tmp 91),(4,.tmp 98),(8,.tmp 100)]) (vs:=[(0,_),(1,_),(4,_),(8,_)]) (cells:=[_,_,.int .u32 0,.int .u64 0,_,.int .u32 0,.int .i64 0,.bool false,_,.slice none 0 0,.slice none 0 0]) fa fa rfl rfl) fa ?_
 refine gD 12 ?_
 refine jT 11 ?_
 refine gG ?_
 refine gM ?_
 refine g_ [2] ?_
 refine aB (s:=11) (row p (jr {a with l:=(oV a iL n.gE n.code).1,last:=iL}) 73::H) results35 fa rfl gO gA (.cons _ (.cons_cons _ (.cons _ (.cons _ (.refl _))))) ?_
 rotate_left
 refine g_ [11,101,1] ?_
 refine ae rfl (aD _ (0#32) rfl rfl rfl rfl) (g_ [1] ?_)
 refine ag (t:=51) rfl (fun mV=>?_) (fun mV=>?_)
 refine g_ [2,103,103,1,701,2] ?_
 refine ag (t:=59) rfl (fun zr=>?_) (fun zr=>?_)
 refine g_ [3,107,1,702,4] ?_
 refine gK rfl (fun lN=>?_) fun lN=>?_
 refine g_ [3] ?_
 refine jv call60 rfl (yN p a _ _) ?_
 refine g_ [311,5] ?_
 refine aB (s:=11) (row p (jr a) 73::H) results35 fa rfl gO gA ((du _ _).trans (du _ _)) ?_
 rotate_left
 refine g_ [7,411] ?_
 refine jv call61 rfl (DQ p a ok iL hw n _ _ rfl rfl hc _) ?_
 refine g_ [3] ?_
 refine iS rG fun b7=>?_
 refine g_ [304,7,702,2] ?_
 refine gK rfl (fun rh=>?_) fun rh=>?_
 refine g_ [4] ?_
 refine bK rfl (iE.func call62 rfl) (DM _ _) ?_
 rintro _ _ ⟨c9,rfl,rfl⟩
 refine jv call60 rfl (yN p a _ _) ?_
 refine g_ [311,4] ?_
 refine aB (s:=11) (row p (jr a) 73::H) results35 fa rfl gO gA ((du _ _).trans ((du _ _).trans (du _ _))) ?_
 rotate_left
 refine g_ [6,404,2,103] ?_
 refine WL.s (bj (n:=4) fa rfl rfl gA qd ir (by show 0+3+4≤8;decide) gA ⟨rfl,?_⟩)
 refine g_ [1,107,4,513] ?_
 refine w_ [1000,0,1,1002,2,3,4,5,1002,6,7] ?_
 refine gW 8 [7,3] rfl (aL _ _ rfl rfl rfl rfl) fa ?_
 refine w_ [1003,9,10] ?_
 refine gW 11 [10,8,1] rfl (aj (pl:=kz) (zs:=iP) (parts:=[(0,.const (.int .i64 5)),(1,.tmp 91),(4,.tmp 98),(8,.tmp 100)]) (vs:=[(0,_),(1,_),(4,_),(8,_)]) (cells:=[_,_,.int .u32 0,.int .u64 0,_,.int .u32 0,.int .i64 0,.bool false,_,.slice none 0 0,.slice none 0 0]) fa fa rfl rfl) fa ?_
 refine gD 12 ?_
 refine jT 11 ?_
 refine gG ?_
 refine gM ?_
 refine g_ [2] ?_
 refine aB (s:=11) (row p (jr {a with l:=(oV a iL n.gE n.code).1,last:=iL}) 73::H) results35 fa rfl gO gA (.cons _ (.cons_cons _ (.cons _ (.cons _ (.refl _))))) ?_
 rotate_left
 refine g_ [18,411] ?_
 refine jv call61 rfl (DQ p a ok iL hw n _ _ rfl rfl hc _) ?_
 refine g_ [3] ?_
 refine iS rG fun b7=>?_
 refine g_ [304,7,702,2] ?_
 refine gK rfl (fun rh=>?_) fun rh=>?_
 refine g_ [4] ?_
 refine bK rfl (iE.func call62 rfl) (DM _ _) ?_
 rintro _ _ ⟨c9,rfl,rfl⟩
 refine jv call60 rfl (yN p a _ _) ?_
 refine g_ [311,4] ?_
 refine aB (s:=11) (row p (jr a) 73::H) results35 fa rfl gO gA ((du _ _).trans ((du _ _).trans (du _ _))) ?_
 rotate_left
 refine g_ [6,404,2,103] ?_
 refine WL.s (bj (n:=4) fa rfl rfl gA qd ir (by show 0+3+4≤8;decide) gA ⟨rfl,?_⟩)
 refine g_ [1,107,4,513] ?_
 refine w_ [1000,0,1,1002,2,3,4,5,1002,6,7] ?_
 refine gW 8 [7,3] rfl (aL _ _ rfl rfl rfl rfl) fa ?_
 refine w_ [1003,9,10] ?_
 refine gW 11 [10,8,1] rfl (aj (pl:=kz) (zs:=iP) (parts:=[(0,.const (.int .i64 5)),(1,.tmp 91),(4,.tmp 98),(8,.tmp 100)]) (vs:=[(0,_),(1,_),(4,_),(8,_)]) (cells:=[_,_,.int .u32 0,.int .u64 0,_,.int .u32 0,.int .i64 0,.bool false,_,.slice none 0 0,.slice none 0 0]) fa fa rfl rfl) fa ?_
 refine gD 12 ?_
 refine jT 11 ?_
 refine gG ?_
 refine gM ?_
 refine g_ [2] ?_
 refine aB (s:=11) (row p (jr {a with l:=(oV a iL n.gE n.code).1,last:=iL}) 73::H) results35 fa rfl gO gA (.cons _ (.cons_cons _ (.cons _ (.cons _ (.refl _))))) ?_
 rotate_left
 refine g_ [26,411] ?_
 refine jv call61 rfl (DQ p a ok iL hw n _ _ rfl rfl hc _) ?_
 refine g_ [3] ?_
 refine iS rG fun b7=>?_
 refine g_ [304,7,702,2] ?_
 refine gK rfl (fun rh=>?_) fun rh=>?_
 refine g_ [4] ?_
 refine bK rfl (iE.func call62 rfl) (DM _ _) ?_
 rintro _ _ ⟨c9,rfl,rfl⟩
 refine jv call60 rfl (yN p a _ _) ?_
 refine g_ [311,4] ?_
 refine aB (s:=11) (row p (jr a) 73::H) results35 fa rfl gO gA ((du _ _).trans ((du _ _).trans (du _ _))) ?_
 rotate_left
 refine g_ [6,404,2,103] ?_
 refine WL.s (bj (n:=4) fa rfl rfl gA qd ir (by show 0+3+4≤8;decide) gA ⟨rfl,?_⟩)
 refine g_ [1,107,4,513] ?_
 refine w_ [1000,0,1,1002,2,3,4,5,1002,6,7] ?_
 refine gW 8 [7,3] rfl (aL _ _ rfl rfl rfl rfl) fa ?_
 refine w_ [1003,9,10] ?_
 refine gW 11 [10,8,1] rfl (aj (pl:=kz) (zs:=iP) (parts:=[(0,.const (.int .i64 5)),(1,.tmp 91),(4,.tmp 98),(8,.tmp 100)]) (vs:=[(0,_),(1,_),(4,_),(8,_)]) (cells:=[_,_,.int .u32 0,.int .u64 0,_,.int .u32 0,.int .i64 0,.bool false,_,.slice none 0 0,.slice none 0 0]) fa fa rfl rfl) fa ?_
 refine gD 12 ?_
 refine jT 11 ?_
 refine gG ?_
 refine gM ?_
 refine g_ [2] ?_
 refine aB (s:=11) (row p (jr {a with l:=(oV a iL n.gE n.code).1,last:=iL}) 73::H) results35 fa rfl gO gA (.cons _ (.cons_cons _ (.cons _ (.cons _ (.refl _))))) ?_
 rotate_left
 all_goals
  first
  |exact ⟨a,_,.inl ⟨rfl,_,rfl⟩,rfl,rfl⟩
  |exact ⟨_,_,.inr ⟨fun ⟨e1,e2,e3⟩=>lN e3,Decidable.not_not.1 rh,rfl,rfl⟩,rfl,rfl⟩
  |exact ⟨_,_,.inr ⟨fun ⟨e1,e2,e3⟩=>zr e2,Decidable.not_not.1 rh,rfl,rfl⟩,rfl,rfl⟩
  |exact ⟨_,_,.inr ⟨fun ⟨e1,e2,e3⟩=>mV e1,Decidable.not_not.1 rh,rfl,rfl⟩,rfl,rfl⟩
theorem Z8 (w:Wk) (v:Value) (H:List Ck) (hv:Bs v w.name H) (hl:w.name.length≤1000000):gC prog 197 [.agg (Ac w v).toArray] H fun r gr=>∃x A,r=.tuple #[x,.int .i64 (IE w)]∧Ob 5 x (LC w) A∧gr=A++H:=by
 refine gC.enter func197 rfl ntmps197 rfl ?_
 intro w0 R
 obtain ⟨no,nc,rfl,yj⟩:=hv.form
 refine gY (iV fun b1=>?_)
 refine g_ [5] ?_
 refine aI (fun z:Bool=>z=!decide (pb w)) (fun z:Bool=>[(27,.bool z)]) (fun z:Bool=>row b1 (Ac w (.slice no w.name.length nc)) 157::H) ?_ ?_
 refine g_ [1,100,1,705,1] ?_
 refine ag (t:=7) rfl (fun hg7=>?_) (fun hg7=>?_)
 refine g_ [21] ?_
 exact ah (_) (HS (by unfold pb;simp only[dz,fR,eW,eB,fS];omega)) (Sx.put rfl (gL)) (Sp.all fc)
 refine g_ [100,1,707,2] ?_
 refine ag (t:=12) rfl (fun abv=>?_) (fun abv=>?_)
 refine g_ [16] ?_
 exact ah (_) (HS (by unfold pb;simp only[dz,fR,eW,eB,fS];omega)) (Sx.put rfl (gL)) (Sp.all fc)
 refine g_ [101,1,705,2] ?_
 refine ag (t:=17) rfl (fun w8=>?_) (fun w8=>?_)
 refine g_ [11] ?_
 exact ah (_) (HS (by unfold pb;simp only[dz,fR,eW,eB,fS];omega)) (Sx.put rfl (gL)) (Sp.all fc)
 refine g_ [101,1,707,2] ?_
 refine ag (t:=22) rfl (fun zm=>?_) (fun zm=>?_)
 refine g_ [6] ?_
 exact ah (_) (HS (by unfold pb;simp only[dz,fR,eW,eB,fS];omega)) (Sx.put rfl (gL)) (Sp.all fc)
 refine g_ [102,1,710,5,707,2] ?_
 exact ah (_) (HS (by unfold pb;simp only[dz,fR,eW,eB,fS];omega)) (Sx.put rfl (gL)) (Sp.all fc)
 intro z hz
 refine WC.cond rfl (fun lz=>?_) (fun lz=>?_)
 have hb:¬pb w:=by rw[hz] at lz;simpa using lz
 refine g_ [8] ?_
 refine gH H ?_
 refine ay results197 rfl rfl ?_
 rw[(Lz hb).1,(Lz hb).2]
 exact ⟨_,[],rfl,Ob.nil _,rfl⟩
 have hg:pb w:=by rw[hz] at lz;simpa using lz
 have ajg:=hg.2.2.2.2
 refine g_ [3,517] ?_
 refine w_ [1000,1,2] ?_
 refine gW 3 [2] rfl (bT _ fa fa rfl rfl) fa ?_
 refine w_ [1001,5,6] ?_
 refine gW 7 [6] rfl (Yd.Kz _ fa fa rfl rfl) fa ?_
 refine w_ [1002,9,10] ?_
 refine gD 0 ?_
 refine iI rfl call174 rfl (E0) ?_
 rintro x0 H0 ⟨bw,rfl,rfl⟩
 refine iO [0,0,0] ?_
 refine gD 4 ?_
 refine iI rfl call175 rfl (wC bw (.slice none 0 0) [] [] (BitVec.ofInt 8 w.iA) (Ob.nil _) (by simp)) ?_
 rintro x1 H1 ⟨rfl,v1,C1,oS,rfl⟩
 refine iO [0,0,0] ?_
 refine gD 8 ?_
 refine iI rfl call177 rfl (BC bw v1 ([]++[BitVec.ofInt 8 w.iA]) C1 (BitVec.ofInt 32 w.n) oS (by simp)) ?_
 rintro x2 H2 ⟨rfl,v2,C2,pC,rfl⟩
 refine iO [0,0,0] ?_
 refine gD 11 ?_
 refine iI rfl call178 rfl (KC bw v2 (([]++[BitVec.ofInt 8 w.iA])++iu ((BitVec.ofInt 32 w.n).setWidth 64) 4) C2 H _ w.name hv gz pC (by simp[ju])) ?_
 rintro x3 H3 ⟨rfl,v3,C3,xb,rfl⟩
 refine iO [0,0] ?_
 refine gD 12 ?_
 refine iI rfl call180 rfl (Fu bw v3 ((([]++[BitVec.ofInt 8 w.iA])++iu ((BitVec.ofInt 32 w.n).setWidth 64) 4)++tb w.name) C3 xb (by simp only[dr,dF,dR,ju,tb];omega)) ?_
 rintro x9 H9 ⟨v9,C9,rfl,Jr,nk⟩
 rw[nk]
 clear nk H9
 refine iO [0,0] ?_
 refine w_ [13,14] ?_
 refine gD 15 ?_
 refine jm ?_
 refine gG ?_
 refine gD 16 ?_
 refine jm ?_
 refine gG ?_
 refine gM ?_
 refine g_ [2] ?_
 refine gH (C9++H) ?_
 refine ay results197 rfl rfl ?_
 rw[(LA hg).1,(LA hg).2]
 exact ⟨v9,C9,rfl,by have e9:r6 w=((([]++[BitVec.ofInt 8 w.iA])++iu ((BitVec.ofInt 32 w.n).setWidth 64) 4)++tb w.name):=(by unfold r6;simp only[dD,eC]);rw[e9];exact Jr,rfl⟩
theorem ZL (v:Value) (b:List (BitVec 8)) (H:List Ck) (hv:Bs v b H) (hl:b.length≤900000):gC prog 131 [v] H fun r gr=>∃x A,r=.tuple #[.agg (Ac (jH b) x).toArray,.int .i64 (AF b)]∧Ob 5 x (jH b).name A∧gr=A++H:=by
 refine gC.enter func131 rfl ntmps131 rfl ?_
 intro w0 R
 have Ug:(rW b).bs.length≤1000000:=by show b.length≤_;omega
 have rX:=eJ ((rW b).VD 1) Ug
 have yn:=eJ (((rW b).on 1).VD 4) rX
 refine gY (WL.h rfl (Hd.alloc (zs:=[.int .i64 0,.int .i64 0,.slice none 0 0]) fa fun b2=>⟨_,rfl,?_⟩))
 refine g_ [6] ?_
 refine c_ call155 rfl (J3 _ b H hv gz) ?_
 rintro x0 H0 ⟨br,u0,CR,rfl,G9,rfl⟩
 refine g_ [6] ?_
 refine c_ call156 rfl (Wc br u0 (rW b).bs (rW b).sh CR G9 Ug) ?_
 rintro x1 H1 ⟨u1,rfl,Ha,rfl⟩
 refine ae rfl (cj _ fa fa rfl rfl) ?_
 refine g_ [1] ?_
 refine c_ call157 rfl (OV br u1 ((rW b).on 1).bs ((rW b).on 1).sh CR Ha rX) ?_
 rintro x2 H2 ⟨u2,rfl,nv,rfl⟩
 refine ae rfl (bS _ fa fa rfl rfl) ?_
 refine ae rfl (aj (pl:=[(0,1),(1,1),(2,1)]) (zs:=[.int .i64 0,.int .i64 0,.slice none 0 0]) (parts:=[(0,.tmp 12),(1,.tmp 15)]) (vs:=[(0,_),(1,_)]) (cells:=[_,_,.slice none 0 0]) fa fa rfl rfl) ?_
 refine WL.h rfl (Hd.alloc (zs:=[.int .i64 0,.int .i64 0,.slice none 0 0]) fa fun b5=>⟨_,rfl,?_⟩)
 refine g_ [303,5] ?_
 refine c_ call187 rfl (V8 br u2 (((rW b).on 1).on 4).bs (((rW b).on 1).on 4).sh CR nv yn) ?_
 rintro x3 H3 ⟨u3,A3,uH,vY,rfl⟩
 obtain ⟨o3,c3,rfl,_⟩:=uH.form
 refine g_ [102,6,403] ?_
 refine c_ call197 rfl (Z8 (vv b) (.slice o3 (vv b).name.length c3) A3 uH.bs (eJ (W7 _ _) gB)) ?_
 rintro x4 H4 ⟨x5,A5,rfl,B7,rfl⟩
 obtain ⟨o5,c5,rfl,_⟩:=B7.form
 refine g_ [7] ?_
 refine aI (fun z:Bool=>z=decide (wN b)) (fun z:Bool=>[(31,.bool z)]) (fun z:Bool=>row b5 (Ac (vv b) (.slice o3 (vv b).name.length c3)) 157::(A3++(row b2 [.int .i64 0,.int .i64 0,.slice none 0 0] 157::H))) ?_ ?_
 refine g_ [2] ?_
 refine jv call159 rfl (Bu br u3 (sl b).bs (sl b).sh CR vY) ?_
 refine g_ [702,1] ?_
 refine ag (t:=28) rfl (fun GJ=>?_) (fun GJ=>?_)
 refine g_ [4] ?_
 exact aV (_) (by exact ahN GJ) (Sx.put rfl (gL)) fc
 refine g_ [1,702,2] ?_
 exact aV (_) (by exact ahO GJ) (Sx.put rfl (gL)) fc
 intro z9 vZ
 refine WC.cond rfl (fun mU=>?_) (fun mU=>?_)
 have hb:wN b:=eR (vZ.symm.trans mU)
 refine gY (kJ [(0,1),(1,1),(2,1)] [.int .i64 0,.int .i64 0,.slice none 0 0] (g_ [303,5] ?_))
 refine au (s:=3) H results131 fa rfl rfl gO gA fc ?_
 rw[show jH b=Wk.z from dx hb,show AF b=120 from dx hb]
 exact ⟨_,[],rfl,Ob.nil _,rfl⟩
 have hb:¬wN b:=fV (vZ.symm.trans mU)
 refine g_ [4,403,303,4] ?_
 refine au (s:=3) (A3++H) results131 fa rfl rfl gO gA fc ?_
 rw[show jH b=vv b from dp hb,show AF b=0 from dp hb]
 exact ⟨_,A3,rfl,uH,rfl⟩
end Go.Proofs.YtchdmlkiggdhaaaGreat
namespace Go.Proofs.YtchdmlkiggdhaaaGreat.St
open Go.SL Go.Proofs.Tryz
attribute [local irreducible] WL WC DN gZ iX
theorem acd (p:Nat) (first K:List Gd) (L:List Ho) (C:List Ck) (h:wI 137 p K L C) (inv:nT first K L) (o:BitVec 32) (nm:ByteArray) (n:Int):gC prog 133 [.pointer (some ⟨p,0,none⟩),.int .u32 o.toNat,.string nm,.int .i64 n] C fun r gr=>r=.int .i64 (vd (xf K L o nm n))∧wI 137 p (Bc K L o nm n) (Bd K L o nm n) gr:=by
 refine gC.enter func133 rfl ntmps133 rfl ?_
 intro w0 R
 have hS:=h
 obtain ⟨b1,b2,C1,C2,rfl,hK,hL⟩:=h
 have GV:=inv.Bl nm
 obtain ⟨jz,tW⟩:∃x,x=(iW Ho.o L o).getD PM:=⟨_,rfl⟩
 refine g_ [9] ?_
 refine ae rfl (an underlying78 rfl rfl) (g_ [1013,2] ?_)
 refine jx 14 rfl rfl rfl (aD _ (0#32) rfl rfl rfl rfl) (g_ [2] ?_)
 refine ag (t:=18) rfl (fun uN=>?_) (fun uN=>?_)
 refine g_ [13] ?_
 refine DN.fit (C:=row p [.map (some b1),.map (some b2)] 137::(C1++C2)) fc ?_
 refine aa results133 rfl ?_
 rotate_left
 refine g_ [1,705,3] ?_
 refine gK rfl (fun nK=>?_) fun nK=>?_
 refine g_ [7] ?_
 refine DN.fit (C:=row p [.map (some b1),.map (some b2)] 137::(C1++C2)) fc ?_
 refine aa results133 rfl ?_
 rotate_left
 refine g_ [6,100,2] ?_
 refine WL.h rfl (bf (k0:=kU) (KT:=9) (ET:=139) (TD:=.string) (n:=nm) (z:=.agg #[.int .i64 0,.int .i64 0]) fa underlying9 rfl fa rfl rfl hK fc (Oc K nm) ⟨_,rfl,?_⟩)
 refine WL.h rfl (Hd.alloc (zs:=[.int .i64 0,.int .i64 0]) fa fun b9=>⟨_,rfl,?_⟩)
 refine g_ [302,7,101,2] ?_
 refine WL.h rfl (bf (k0:=uV) (KT:=38) (ET:=347) (TD:=.int .u32) (n:=o) (z:=.agg #[.int .u32 0,.string ⟨#[]⟩,.int .i64 0]) fa underlying38 ⟨_,rfl⟩ fa rfl rfl hL fc (U7 L o) ⟨_,rfl,?_⟩)
 refine g_ [1] ?_
 rw[←tW]
 refine g_ [2] ?_
 refine WL.h rfl (Hd.alloc (zs:=[.int .u32 0,.string ⟨#[]⟩,.int .i64 0]) fa fun pg=>⟨_,rfl,?_⟩)
 refine g_ [303,7] ?_
 refine aG (t:=38) rfl (fun zp=>?_) (fun zp=>?_)
 refine g_ [15] ?_
 refine DN.fit (C:=row p [.map (some b1),.map (some b2)] 137::(C1++C2)) fc ?_
 refine aa results133 rfl ?_
 rotate_left
 refine g_ [100,2,705,3] ?_
 refine gK rfl (fun LX=>?_) fun LX=>?_
 refine g_ [7] ?_
 refine DN.fit (C:=row p [.map (some b1),.map (some b2)] 137::(C1++C2)) fc ?_
 refine aa results133 rfl ?_
 rotate_left
 refine g_ [4,100,2,704,100,4,507] ?_
 refine w_ [0,1,1000,2,3,4,2002,5] ?_
 refine gD 6 ?_
 refine SO.s rfl Wt.none (bL (k0:=kU) (KT:=9) (ET:=139) (TD:=.string) (n:=nm) (v:=.agg #[.int .i64 (oq K nm-n),.int .i64 (pL K nm)]) fa underlying9 rfl rfl rfl rfl hK (by rw[xq];exact inv.EN) fc fun C3 h3=>⟨rfl,?_⟩)
 refine gG ?_
 refine gM ?_
 refine g_ [5,101,5] ?_
 refine ae rfl (aj (pl:=[(0,1),(1,1),(2,1)]) (zs:=[.int .u32 0,.string ⟨#[]⟩,.int .i64 0]) (parts:=[(0,.tmp 60),(1,.tmp 61),(2,.tmp 62)]) (vs:=[(0,_),(1,_),(2,_)]) (cells:=[_,_,_]) fa fa rfl rfl) ?_
 refine WL.s (bL (k0:=uV) (KT:=38) (ET:=347) (TD:=.int .u32) (n:=o) (v:=.agg #[.int .u32 o.toNat,.string nm,.int .i64 n]) fa underlying38 ⟨_,rfl⟩ rfl rfl rfl hL (by rw[xq];exact inv.keys) fc fun C4 h4=>⟨rfl,?_⟩)
 refine g_ [8] ?_
 refine DN.fit (C:=row p [.map (some b1),.map (some b2)] 137::(C3++C4)) fc ?_
 refine aa results133 rfl ?_
 rotate_left
 all_goals
  first
    | (have hb:xf K L o nm n=true:=by
         unfold xf
         simp only[eu,dz,fq]
         exact ⟨uN,by omega,zp,by omega⟩
       have hf:iW Ho.o L o=none:=by simpa using zp
       unfold Bc Bd
       rw[hb]
       simp only[if_true]
       refine ⟨rfl,b1,b2,C3,C4,rfl,?_,?_⟩
       · have e:qV K nm (-n) 0=mw Gd.name K ⟨nm,oq K nm-n,pL K nm⟩:=by unfold qV;rw[Int.add_zero];rfl
         rw[e,←Kf];exact h3
       rw[←afe L o nm n hf];exact h4)
    | (have hb:xf K L o nm n=false:=by
         unfold xf
         rw[gx]
         simp only[ne_eq,eu,dz,fq]
         rintro ⟨e1,e2,e3,e4⟩
         first
         |omega
         |exact e1 uN
         |exact Bool.noConfusion (e3.symm.trans zp)
       unfold Bc Bd
       rw[hb]
       simp only[eB,if_false]
       exact ⟨rfl,hS⟩)
theorem U4 (p:Nat) (first K:List Gd) (L:List Ho) (C:List Ck) (h:wI 137 p K L C) (inv:nT first K L) (o:BitVec 32) (gone:Bool):gC prog 202 [.pointer (some ⟨p,0,none⟩),.int .u32 o.toNat,.bool gone] C fun r gr=>r=.int .i64 (vd (iW Ho.o L o).isSome)∧wI 137 p (uY K L o gone) (pK Ho.o L o) gr:=by
 refine gC.enter func202 rfl ntmps202 rfl ?_
 intro w0 R
 have hS:=h
 obtain ⟨b1,b2,C1,C2,rfl,hK,hL⟩:=h
 obtain ⟨jz,tW⟩:∃x,x=(iW Ho.o L o).getD PM:=⟨_,rfl⟩
 refine g_ [9] ?_
 refine ae rfl (an underlying78 rfl rfl) (g_ [1011,9,101,2] ?_)
 refine WL.h rfl (bf (k0:=uV) (KT:=38) (ET:=347) (TD:=.int .u32) (n:=o) (z:=.agg #[.int .u32 0,.string ⟨#[]⟩,.int .i64 0]) fa underlying38 ⟨_,rfl⟩ fa rfl rfl hL fc (U7 L o) ⟨_,rfl,?_⟩)
 refine g_ [1] ?_
 rw[←tW]
 refine g_ [2] ?_
 refine WL.h rfl (Hd.alloc (zs:=[.int .u32 0,.string ⟨#[]⟩,.int .i64 0]) fa fun b7=>⟨_,rfl,?_⟩)
 refine g_ [303,7,709,2] ?_
 refine WC.cond rfl (fun kS=>?_) (fun kS=>?_)
 have rr:iW Ho.o L o=none:=by simpa using kS
 refine g_ [7] ?_
 refine DN.fit (C:=row p [.map (some b1),.map (some b2)] 137::(C1++C2)) fc ?_
 refine aa results202 rfl ?_
 rotate_left
 have xi:iW Ho.o L o=some jz:=by
   have h1:(iW Ho.o L o).isSome=true:=by simpa using kS
   obtain ⟨x,hx⟩:=fP.1 h1
   rw[hx] at tW ⊢
   exact congrArg some tW.symm
 have JD:=(wP xi).1
 have hxn:=inv.nle JD
 have GV:=inv.Bl jz.name
 refine g_ [6,101,2] ?_
 refine WL.h0 (Hd.ZO (k0:=uV) (KT:=38) (ET:=347) (TD:=.int .u32) (n:=o) fa underlying38 ⟨_,rfl⟩ rfl rfl rfl hL (by rw[xq];exact inv.keys) fc fun C4 h4=>⟨_,rfl,?_⟩)
 refine qb (aI (fun z:Nat=>True) (fun z:Nat=>[(9,.pointer (some ⟨z,0,none⟩))]) (fun z:Nat=>row z [.int .i64 (oq K jz.name),.int .i64 (pL K jz.name)] 139::(row b7 (Rh jz) 347::(row p [.map (some b1),.map (some b2)] 137::(C1++C4)))) ?_ ?_)
 refine g_ [509] ?_
 refine w_ [0,1,1000,2,3,1001,4,5] ?_
 refine pe [(6,[5,3]),(7,[])] fa (ig ?_ (ig ?_ (jl)))
 refine kP ?_
 refine SO.h rfl Wt.none rfl (bf (k0:=kU) (KT:=9) (ET:=139) (TD:=.string) (n:=jz.name) (z:=.agg #[.int .i64 0,.int .i64 0]) fa underlying9 rfl fa rfl rfl hK fc (Oc K jz.name) ⟨_,rfl,?_⟩)
 refine gG ?_
 refine gD 7 ?_
 refine SO.h rfl Wt.none rfl (Hd.alloc (zs:=[.int .i64 0,.int .i64 0]) fa fun b9=>⟨_,rfl,?_⟩)
 refine gG ?_
 refine gD 8 ?_
 refine jT 2 ?_
 refine gG ?_
 refine gM ?_
 exact ah (b9) (eX) (Sx.put rfl (gL)) (Sp.all fc)
 refine kP ?_
 refine SO.h rfl Wt.none rfl (Hd.alloc (zs:=[.int .i64 0,.int .i64 0]) fa fun b9=>⟨_,rfl,?_⟩)
 refine iO [0,0] ?_
 refine gD 6 ?_
 refine SO.h rfl Wt.none rfl (bf (k0:=kU) (KT:=9) (ET:=139) (TD:=.string) (n:=jz.name) (z:=.agg #[.int .i64 0,.int .i64 0]) fa underlying9 rfl fa rfl rfl hK fc (Oc K jz.name) ⟨_,rfl,?_⟩)
 refine gG ?_
 refine gD 8 ?_
 refine jT 2 ?_
 refine gG ?_
 refine gM ?_
 exact ah (b9) (eX) (Sx.put rfl (gL)) (Sp.all fc)
 intro b9 _
 refine g_ [6] ?_
 refine WC.cond rfl (fun uG=>?_) (fun uG=>?_)
 subst uG
 refine g_ [1,101,1,102,1,703,101,4,508] ?_
 refine w_ [0,1,1000,2,3,1001,4,5,2002,6] ?_
 refine gD 7 ?_
 refine SO.s rfl Wt.none (bL (k0:=kU) (KT:=9) (ET:=139) (TD:=.string) (n:=jz.name) fa underlying9 rfl rfl rfl rfl hK (by rw[xq];exact inv.EN) fc fun C5 h5=>⟨rfl,?_⟩)
 refine gG ?_
 refine gM ?_
 refine g_ [7] ?_
 refine DN.fit (C:=row p [.map (some b1),.map (some b2)] 137::(C5++C4)) fc ?_
 refine aa results202 rfl ?_
 rotate_left
 subst uG
 refine g_ [1,100,1,102,1,703,100,4,508] ?_
 refine w_ [0,1,1000,2,3,1001,4,5,2002,6] ?_
 refine gD 7 ?_
 refine SO.s rfl Wt.none (bL (k0:=kU) (KT:=9) (ET:=139) (TD:=.string) (n:=jz.name) fa underlying9 rfl rfl rfl rfl hK (by rw[xq];exact inv.EN) fc fun C5 h5=>⟨rfl,?_⟩)
 refine gG ?_
 refine gM ?_
 refine g_ [7] ?_
 refine DN.fit (C:=row p [.map (some b1),.map (some b2)] 137::(C5++C4)) fc ?_
 refine aa results202 rfl ?_
 rotate_left
 all_goals
  first
    | (rw[rr,Lu rr]
       unfold uY
       rw[rr]
       exact ⟨rfl,hS⟩)
    | (unfold uY
       rw[xi]
       refine ⟨rfl,b1,b2,C5,C4,rfl,?_,by rw[←ZM];exact h4⟩
       first
       | (have e:qV K jz.name 0 jz.n=mw Gd.name K ⟨jz.name,oq K jz.name,pL K jz.name+jz.n⟩:=by unfold qV;rw[Int.add_zero]
          show mO kU b1 (jS Gd.name qX (qV K jz.name 0 jz.n)) C5
          rw[e,←Kf];exact h5)
       | (have e:qV K jz.name jz.n 0=mw Gd.name K ⟨jz.name,oq K jz.name+jz.n,pL K jz.name⟩:=by unfold qV;rw[Int.add_zero]
          show mO kU b1 (jS Gd.name qX (qV K jz.name jz.n 0)) C5
          rw[e,←Kf];exact h5))
theorem aaw (p:Nat) (first K:List Gd) (L:List Ho) (C:List Ck) (h:wI 137 p K L C) (inv:nT first K L) (o:BitVec 32):gC prog 198 [.pointer (some ⟨p,0,none⟩),.int .u32 o.toNat] C fun r gr=>r=.int .i64 (vd (iW Ho.o L o).isSome)∧wI 137 p (uY K L o false) (pK Ho.o L o) gr:=by
 refine gC.enter func198 rfl ntmps198 rfl ?_
 intro w0 R
 refine g_ [9] ?_
 refine c_ call202 rfl (U4 p first K L C h inv o false) ?_
 rintro q C9 ⟨rfl,h9⟩
 refine g_ [4] ?_
 exact aa results198 rfl (⟨rfl,by simpa using h9⟩)
theorem age (p:Nat) (first K:List Gd) (L:List Ho) (C:List Ck) (h:wI 137 p K L C) (inv:nT first K L) (o:BitVec 32):gC prog 134 [.pointer (some ⟨p,0,none⟩),.int .u32 o.toNat] C fun r gr=>r=.int .i64 (vd (iW Ho.o L o).isSome)∧wI 137 p (uY K L o true) (pK Ho.o L o) gr:=by
 refine gC.enter func134 rfl ntmps134 rfl ?_
 intro w0 R
 refine g_ [9] ?_
 refine c_ call202 rfl (U4 p first K L C h inv o true) ?_
 rintro q C9 ⟨rfl,h9⟩
 refine g_ [4] ?_
 exact aa results134 rfl (⟨rfl,by simpa using h9⟩)
end Go.Proofs.YtchdmlkiggdhaaaGreat.St
namespace Go.Proofs.YtchdmlkiggdhaaaGreat.Pu
open Go.SL Go.Proofs.Tryz
attribute [local irreducible] WL WC DN gZ iX
theorem ahr {first K:List Au} {L:List Py} (inv:nS first K L) {x:Py} (hx:x∈L) {s t dm dh:Int} (mI:Fs s t dm dh):-1000000000≤dm*x.n∧dm*x.n≤1000000000∧-1000000000≤dh*x.n∧dh*x.n≤1000000000∧0≤(acc K x.name).held∧(acc K x.name).held≤(acc K x.name).vg∧(acc K x.name).vg≤1000000000:=by
  have h1:=inv.zT x hx
  have h2:=inv.Bl x.name
  unfold qn oC at h2
  rcases mI with ⟨_,_,rfl,rfl⟩|⟨_,_,rfl,rfl⟩|⟨_,_,rfl,rfl⟩<;>omega
theorem YC (p:Nat) (first K:List Au) (L:List Py) (C:List Ck) (h:tx 144 p K L C) (inv:nS first K L) (o:BitVec 32) (nm:ByteArray) (n:Int):gC prog 135 [.pointer (some ⟨p,0,none⟩),.int .u32 o.toNat,.string nm,.int .i64 n] C fun r gr=>r=.int .i64 (pH (tB K L o nm n))∧tx 144 p (Aw K L o nm n) (Ax K L o nm n) gr:=by
 refine gC.enter func135 rfl ntmps135 rfl ?_
 intro w0 R
 have hS:=h
 obtain ⟨b1,b2,C1,C2,rfl,hK,hL⟩:=h
 have GV:=inv.Bl nm
 unfold qn oC at GV
 obtain ⟨jz,tW⟩:∃x,x=(iW Py.o L o).getD PN:=⟨_,rfl⟩
 refine g_ [9] ?_
 refine ae rfl (an underlying81 rfl rfl) (g_ [1013,2] ?_)
 refine jx 14 rfl rfl rfl (aD _ (0#32) rfl rfl rfl rfl) (g_ [2] ?_)
 refine ag (t:=18) rfl (fun uN=>?_) (fun uN=>?_)
 refine g_ [13] ?_
 refine DN.fit (C:=row p [.map (some b1),.map (some b2)] 144::(C1++C2)) fc ?_
 refine aa results135 rfl ?_
 rotate_left
 refine g_ [1,705,3] ?_
 refine gK rfl (fun nK=>?_) fun nK=>?_
 refine g_ [7] ?_
 refine DN.fit (C:=row p [.map (some b1),.map (some b2)] 144::(C1++C2)) fc ?_
 refine aa results135 rfl ?_
 rotate_left
 refine g_ [6,100,2] ?_
 refine WL.h rfl (bf (k0:=kU) (KT:=9) (ET:=56) (TD:=.string) (n:=nm) (z:=.agg #[.string ⟨#[]⟩,.int .i64 0,.int .i64 0]) fa underlying9 rfl fa rfl rfl hK fc (Od K nm) ⟨_,rfl,?_⟩)
 refine WL.h rfl (Hd.alloc (zs:=[.string ⟨#[]⟩,.int .i64 0,.int .i64 0]) fa fun b9=>⟨_,rfl,?_⟩)
 refine g_ [303,7,101,2] ?_
 refine WL.h rfl (bf (k0:=uV) (KT:=38) (ET:=351) (TD:=.int .u32) (n:=o) (z:=.agg #[.int .u32 0,.string ⟨#[]⟩,.int .i64 0,.int .i64 0]) fa underlying38 ⟨_,rfl⟩ fa rfl rfl hL fc (U8 L o) ⟨_,rfl,?_⟩)
 refine g_ [1] ?_
 rw[←tW]
 refine g_ [2] ?_
 refine WL.h rfl (Hd.alloc (zs:=[.int .u32 0,.string ⟨#[]⟩,.int .i64 0,.int .i64 0]) fa fun pg=>⟨_,rfl,?_⟩)
 refine g_ [304,7] ?_
 refine aG (t:=38) rfl (fun zp=>?_) (fun zp=>?_)
 refine g_ [18] ?_
 refine DN.fit (C:=row p [.map (some b1),.map (some b2)] 144::(C1++C2)) fc ?_
 refine aa results135 rfl ?_
 rotate_left
 refine g_ [101,1,102,1,704,1,705,3] ?_
 refine gK rfl (fun LY=>?_) fun LY=>?_
 refine g_ [7] ?_
 refine DN.fit (C:=row p [.map (some b1),.map (some b2)] 144::(C1++C2)) fc ?_
 refine aa results135 rfl ?_
 rotate_left
 refine g_ [4,102,2,703,102,4,507] ?_
 refine w_ [0,1,1000,2,3,4,2003,5] ?_
 refine gD 6 ?_
 refine SO.s rfl Wt.none (bL (k0:=kU) (KT:=9) (ET:=56) (TD:=.string) (n:=nm) (v:=.agg #[.string (acc K nm).name,.int .i64 (acc K nm).vg,.int .i64 ((acc K nm).held+n)]) fa underlying9 rfl rfl rfl rfl hK (by rw[xq];exact inv.EN) fc fun C3 h3=>⟨rfl,?_⟩)
 refine gG ?_
 refine gM ?_
 refine g_ [5,101,5] ?_
 refine ae rfl (aj (pl:=[(0,1),(1,1),(2,1),(3,1)]) (zs:=[.int .u32 0,.string ⟨#[]⟩,.int .i64 0,.int .i64 0]) (parts:=[(0,.tmp 63),(1,.tmp 64),(2,.tmp 65),(3,.const (.int .i64 1))]) (vs:=[(0,_),(1,_),(2,_),(3,_)]) (cells:=[_,_,_,_]) fa fa rfl rfl) ?_
 refine WL.s (bL (k0:=uV) (KT:=38) (ET:=351) (TD:=.int .u32) (n:=o) (v:=.agg #[.int .u32 o.toNat,.string nm,.int .i64 n,.int .i64 1]) fa underlying38 ⟨_,rfl⟩ rfl rfl rfl hL (by rw[xq];exact inv.keys) fc fun C4 h4=>⟨rfl,?_⟩)
 refine g_ [8] ?_
 refine DN.fit (C:=row p [.map (some b1),.map (some b2)] 144::(C3++C4)) fc ?_
 refine aa results135 rfl ?_
 rotate_left
 all_goals
  first
    | (have hb:tB K L o nm n=true:=by
         unfold tB oC qn
         simp only[eu,dz,fq]
         exact ⟨uN,by omega,zp,by omega⟩
       have rq:=(QT hb).2.2.2.2
       have hf:iW Py.o L o=none:=by simpa using zp
       rw[(Ir hb).1,(Ir hb).2,hb]
       refine ⟨rfl,b1,b2,C3,C4,rfl,?_,?_⟩
       · have e:ux K nm 0 n=mw Au.name K ⟨(acc K nm).name,(acc K nm).vg,(acc K nm).held+n⟩:=by unfold ux oC qn;rw[Int.add_zero,Im rq]
         rw[e,←OU K ⟨(acc K nm).name,(acc K nm).vg,(acc K nm).held+n⟩ nm (Im rq).symm];exact h3
       rw[←afj (x:=⟨o,nm,n,1⟩) hf,←V2 L ⟨o,nm,n,1⟩ o rfl];exact h4)
    | (have hb:tB K L o nm n=false:=by
         unfold tB oC qn
         rw[gx]
         simp only[ne_eq,eu,dz,fq]
         rintro ⟨e1,e2,e3,e4⟩
         first
         |omega
         |exact e1 uN
         |exact Bool.noConfusion (e3.symm.trans zp)
       rw[(DR hb).1,(DR hb).2,hb]
       exact ⟨rfl,hS⟩)
theorem Pr (p:Nat) (first K:List Au) (L:List Py) (C:List Ck) (h:tx 144 p K L C) (inv:nS first K L) (o:BitVec 32) (s t dm dh:Int) (mI:Fs s t dm dh):gC prog 203 [.pointer (some ⟨p,0,none⟩),.int .u32 o.toNat,.int .i64 s,.int .i64 t,.int .i64 dm,.int .i64 dh] C fun r gr=>r=.int .i64 (pH (qQ L o s))∧tx 144 p (rE K L o s dm dh) (rF L o s t) gr:=by
 refine gC.enter func203 rfl ntmps203 rfl ?_
 intro w0 R
 have hS:=h
 obtain ⟨b1,b2,C1,C2,rfl,hK,hL⟩:=h
 obtain ⟨jz,tW⟩:∃x,x=(iW Py.o L o).getD PN:=⟨_,rfl⟩
 refine g_ [9] ?_
 refine ae rfl (an underlying81 rfl rfl) (g_ [1017,9,101,2] ?_)
 refine WL.h rfl (bf (k0:=uV) (KT:=38) (ET:=351) (TD:=.int .u32) (n:=o) (z:=.agg #[.int .u32 0,.string ⟨#[]⟩,.int .i64 0,.int .i64 0]) fa underlying38 ⟨_,rfl⟩ fa rfl rfl hL fc (U8 L o) ⟨_,rfl,?_⟩)
 refine g_ [1] ?_
 rw[←tW]
 refine g_ [2] ?_
 refine WL.h rfl (Hd.alloc (zs:=[.int .u32 0,.string ⟨#[]⟩,.int .i64 0,.int .i64 0]) fa fun se=>⟨_,rfl,?_⟩)
 refine g_ [304,7,709,1] ?_
 refine aG (t:=29) rfl (fun zo=>?_) (fun zo=>?_)
 refine g_ [15] ?_
 refine DN.fit (C:=row p [.map (some b1),.map (some b2)] 144::(C1++C2)) fc ?_
 refine aa results203 rfl ?_
 rotate_left
 refine g_ [103,2,702,3] ?_
 refine gK rfl (fun rP=>?_) fun rP=>?_
 refine g_ [7] ?_
 refine DN.fit (C:=row p [.map (some b1),.map (some b2)] 144::(C1++C2)) fc ?_
 refine aa results203 rfl ?_
 rotate_left
 have xi:iW Py.o L o=some jz:=by
   have h1:(iW Py.o L o).isSome=true:=by simpa using zo
   obtain ⟨x,hx⟩:=fP.1 h1
   rw[hx] at tW ⊢
   exact congrArg some tW.symm
 have jB:jz.st=s:=dW rP
 have JD:=(wP xi).1
 have EJ:=(wP xi).2
 have GV:=ahr inv JD mI
 have rq:jz.name∈K.map Au.name:=by rw[inv.names];exact (inv.zT jz JD).2.2.2.1
 have hgu:kB (jS Au.name sk K) jz.name=some (sk (acc K jz.name)):=by
   rw[y5]
   obtain ⟨y,hy⟩:=fP.1 (IK rq)
   unfold acc
   rw[hy]
   rfl
 have hgp:kB (jS Py.o yX L) o=some (yX jz):=by rw[y5,xi];rfl
 have hb:qQ L o s=true:=by unfold qQ;rw[xi];simpa using jB
 have eK:rE K L o s dm dh=ux K jz.name (dm*jz.n) (dh*jz.n):=by unfold rE;rw[xi];exact dx jB
 have eL:rF L o s t=mw Py.o L ⟨jz.o,jz.name,jz.n,t⟩:=by unfold rF;rw[xi];exact dx jB
 refine g_ [2] ?_
 refine aI (fun z:Nat=>True) (fun z:Nat=>[(15,.pointer (some ⟨z,0,none⟩))]) (fun z:Nat=>row z (rL (acc K jz.name)) 56::(row se (Ri jz) 351::(row p [.map (some b1),.map (some b2)] 144::(C1++C2)))) ?_ ?_
 refine g_ [509] ?_
 refine w_ [0,1,1000,2,3,1001,4,5] ?_
 refine pe [(6,[5,3]),(7,[])] fa (ig ?_ (ig ?_ (jl)))
 refine kP ?_
 refine SO.h rfl Wt.none rfl (bf (k0:=kU) (KT:=9) (ET:=56) (TD:=.string) (n:=jz.name) (z:=.agg #[.string ⟨#[]⟩,.int .i64 0,.int .i64 0]) fa underlying9 rfl fa rfl rfl hK fc (Od K jz.name) ⟨_,rfl,?_⟩)
 refine gG ?_
 refine gD 7 ?_
 refine SO.h rfl Wt.none rfl (Hd.alloc (zs:=[.string ⟨#[]⟩,.int .i64 0,.int .i64 0]) fa fun oK=>⟨_,rfl,?_⟩)
 refine gG ?_
 refine gD 8 ?_
 refine jT 3 ?_
 refine gG ?_
 refine gM ?_
 exact ah (oK) (eX) (Sx.put rfl (gL)) (Sp.all fc)
 refine kP ?_
 refine SO.h rfl Wt.none rfl (Hd.alloc (zs:=[.string ⟨#[]⟩,.int .i64 0,.int .i64 0]) fa fun oK=>⟨_,rfl,?_⟩)
 refine iO [0,0] ?_
 refine gD 6 ?_
 refine SO.h rfl Wt.none rfl (bf (k0:=kU) (KT:=9) (ET:=56) (TD:=.string) (n:=jz.name) (z:=.agg #[.string ⟨#[]⟩,.int .i64 0,.int .i64 0]) fa underlying9 rfl fa rfl rfl hK fc (Od K jz.name) ⟨_,rfl,?_⟩)
 refine gG ?_
 refine gD 8 ?_
 refine jT 3 ?_
 refine gG ?_
 refine gM ?_
 exact ah (oK) (eX) (Sx.put rfl (gL)) (Sp.all fc)
 intro oK _
 refine g_ [2,101,2,102,1] ?_
 refine ae rfl (Yd.mul rfl rfl gz gz) ?_
 refine g_ [703,101,5,102,2,102,1] ?_
 refine ae rfl (Yd.mul rfl rfl gz gz) ?_
 refine g_ [703,102,6,103,3] ?_
 refine aI (fun z:List Ck=>tx 144 p (rE K L o s dm dh) (rF L o s t) z) (fun z:List Ck=>[]) (fun z:List Ck=>z) ?_ ?_
 refine g_ [519] ?_
 refine w_ [0,1,1000,2,3,1001,4,5,6,7,1001,8,9,10,2003,11,2004,12] ?_
 refine gD 13 ?_
 refine SO.h rfl Wt.none rfl (Hd.mapEntry (k0:=kU) (KT:=9) (ET:=56) (TD:=.string) (n:=jz.name) fa underlying9 rfl rfl rfl hK hgu fc fun bo1 D1 hE1=>⟨_,rfl,?_⟩)
 refine iO [104,103] ?_
 refine w_ [14] ?_
 refine gD 15 ?_
 refine SO.s rfl Wt.none (Hd.entryStore (k0:=kU) rfl rfl rfl hE1 (by rw[xq];exact inv.EN) fc fun C5 h5=>⟨rfl,?_⟩)
 refine iO [104] ?_
 refine gD 16 ?_
 refine SO.h rfl Wt.none rfl (Hd.mapEntry (k0:=uV) (KT:=38) (ET:=351) (TD:=.int .u32) (n:=o) fa underlying38 ⟨_,rfl⟩ rfl rfl hL hgp fc fun bo2 D2 Cc=>⟨_,rfl,?_⟩)
 refine iO [104] ?_
 refine w_ [17] ?_
 refine gD 18 ?_
 refine SO.s rfl Wt.none (Hd.entryStore (k0:=uV) rfl rfl rfl Cc (by rw[xq];exact inv.keys) fc fun C6 h6=>⟨rfl,?_⟩)
 refine gG ?_
 refine gM ?_
 refine gH (row p [.map (some b1),.map (some b2)] 144::(C5++C6)) ?_
 exact ah (row p [.map (some b1),.map (some b2)] 144::(C5++C6)) (by
   refine ⟨b1,b2,C5,C6,rfl,?_,?_⟩
   · have e:ux K jz.name (dm*jz.n) (dh*jz.n)=mw Au.name K ⟨(acc K jz.name).name,(acc K jz.name).vg+dm*jz.n,(acc K jz.name).held+dh*jz.n⟩:=by unfold ux oC qn;rw[Im rq]
     rw[eK,e,←OU K ⟨(acc K jz.name).name,(acc K jz.name).vg+dm*jz.n,(acc K jz.name).held+dh*jz.n⟩ jz.name (Im rq).symm];exact h5
   rw[eL,←V2 L ⟨jz.o,jz.name,jz.n,t⟩ o EJ.symm];exact h6) (gL) (Sp.all fc)
 intro z hz
 refine g_ [6] ?_
 skip
 refine aa results203 rfl ?_
 rotate_left
 all_goals
  first
    |(rw[hb];exact ⟨rfl,hz⟩)
    | (have hb:qQ L o s=false:=by
         unfold qQ
         cases hf:iW Py.o L o with
         |none=>rfl
         | some x=>
           rw[hf] at tW zo
           simp only[Option.getD_some] at tW
           subst tW
           first
           |(simp at zo;done)
           |exact decide_eq_false rP
       rw[hb,(yA t dm dh hb).1,(yA (K:=K) t dm dh hb).2]
       exact ⟨rfl,hS⟩)
theorem Zf (p:Nat) (first K:List Au) (L:List Py) (C:List Ck) (h:tx 144 p K L C) (inv:nS first K L) (o:BitVec 32):gC prog 136 [.pointer (some ⟨p,0,none⟩),.int .u32 o.toNat] C fun r gr=>r=.int .i64 (pH (qQ L o 1))∧tx 144 p (rE K L o 1 (-1) (-1)) (rF L o 1 2) gr:=by
 refine gC.enter func136 rfl ntmps136 rfl ?_
 intro w0 R
 refine g_ [9] ?_
 refine c_ call203 rfl (Pr p first K L C h inv o 1 2 (-1) (-1) (by unfold Fs;decide)) ?_
 rintro q C9 ⟨rfl,h9⟩
 refine g_ [4] ?_
 exact aa results136 rfl (⟨rfl,by simpa using h9⟩)
theorem ahJ (p:Nat) (first K:List Au) (L:List Py) (C:List Ck) (h:tx 144 p K L C) (inv:nS first K L) (o:BitVec 32):gC prog 199 [.pointer (some ⟨p,0,none⟩),.int .u32 o.toNat] C fun r gr=>r=.int .i64 (pH (qQ L o 1))∧tx 144 p (rE K L o 1 0 (-1)) (rF L o 1 3) gr:=by
 refine gC.enter func199 rfl ntmps199 rfl ?_
 intro w0 R
 refine g_ [9] ?_
 refine c_ call203 rfl (Pr p first K L C h inv o 1 3 0 (-1) (by unfold Fs;decide)) ?_
 rintro q C9 ⟨rfl,h9⟩
 refine g_ [4] ?_
 exact aa results199 rfl (⟨rfl,by simpa using h9⟩)
theorem afs (p:Nat) (first K:List Au) (L:List Py) (C:List Ck) (h:tx 144 p K L C) (inv:nS first K L) (o:BitVec 32):gC prog 200 [.pointer (some ⟨p,0,none⟩),.int .u32 o.toNat] C fun r gr=>r=.int .i64 (pH (qQ L o 2))∧tx 144 p (rE K L o 2 1 0) (rF L o 2 3) gr:=by
 refine gC.enter func200 rfl ntmps200 rfl ?_
 intro w0 R
 refine g_ [9] ?_
 refine c_ call203 rfl (Pr p first K L C h inv o 2 3 1 0 (by unfold Fs;decide)) ?_
 rintro q C9 ⟨rfl,h9⟩
 refine g_ [4] ?_
 exact aa results200 rfl (⟨rfl,by simpa using h9⟩)
end Go.Proofs.YtchdmlkiggdhaaaGreat.Pu
namespace Go.Proofs.YtchdmlkiggdhaaaGreat.Do
open Go.SL Go.Proofs.Tryz
attribute [local irreducible] WL WC DN gZ iX
def qi (n:Int):Bool:=decide (n<0)||decide (1000000<n)
theorem aaq (rs:List Int) (i:Nat) (hi:i<rs.length) (h:qi (rs.getD i 0)=true) (jf:∀j,j<i→qi (rs.getD j 0)=false):rs.findIdx? qi=some i:=by
  rw[List.findIdx?_eq_some_iff_getElem]
  refine ⟨hi,by simpa [List.getD,hi] using h,fun j hj=>?_⟩
  have:=jf j hj
  have pO:j<rs.length:=by omega
  simpa [List.getD,pO] using this
theorem aap (rs:List Int) (jf:∀j,j<rs.length→qi (rs.getD j 0)=false):rs.findIdx? qi=none:=by
  rw[List.findIdx?_eq_none_iff]
  intro x hx
  obtain ⟨j,hj,rfl⟩:=fu hx
  have:=jf j hj
  simpa [List.getD,hj] using this
theorem YJ (n:Int) (H:List Ck):Reads prog 53 [.int .i64 n] H (.bool (qi n)):=by
 refine gC.enter func53 rfl ntmps53 rfl ?_
 intro w0 R
 refine g_ [8,705,1] ?_
 refine ag (t:=5) rfl (fun rn=>?_) (fun rn=>?_)
 refine g_ [7] ?_
 exact aa results53 rfl (⟨by simp[qi,rn],rfl⟩)
 refine g_ [1,707,5] ?_
 exact aa results53 rfl (⟨by simp[qi,rn],rfl⟩)
theorem acG (v:Value) (rs:List Int) (H:List Ck) (hv:Rs v rs.length (ic rs) H) (hl:rs.length≤9223372036854775807):Reads prog 90 [v,.func (.func 53) #[] #[]] H (.int .i64 (match rs.findIdx? qi with|some i=>(i:Int)|none=>-1)):=by
 refine gC.enter func90 rfl ntmps90 rfl ?_
 intro w0 R
 obtain ⟨vo,vc,rfl,xk⟩:=hv.form
 refine g_ [9,710,3,4] ?_
 refine WC.loop (fun i:Nat=>i≤rs.length∧∀j,j<i→qi (rs.getD j 0)=false) (fun i=>[(0,.slice vo rs.length vc),(1,.func (.func 53) #[] #[]),(7,.int .i64 rs.length),(8,.int .i64 i)]) (fun _=>H) (fun i=>rs.length-i) 0 ⟨dN _,fun j h=>by omega⟩ ⟨rfl,rfl,rfl,rfl,eX⟩ (fb _) ?_
 rintro i ⟨hi,jf⟩
 refine g_ [2,705,3] ?_
 refine gK rfl (fun h9=>?_) fun h9=>?_
 have gQ:i<rs.length:=by omega
 refine g_ [15] ?_
 refine bX (e:=3) fa fa fa rfl rfl (rfl) (hv) (JE gQ) (gQ) rfl rfl ?_
 intro _
 refine WL.r rfl (iE.val call53 rfl rfl) (YJ _ _) (qb (WC.cond rfl (fun mr=>?_) (fun mr=>?_)))
 refine g_ [12] ?_
 exact aa results90 rfl (⟨by rw[aaq rs i gQ mr jf],rfl⟩)
 refine g_ [4,703,2] ?_
 exact DN.again (i+1) ⟨by omega,fun j hj=>by by_cases e:j=i;(subst e;exact mr);exact jf j gz⟩ gz ⟨rfl,rfl,rfl,rfl,eX⟩ (fb _)
 refine g_ [11] ?_
 exact aa results90 rfl (⟨by rw[aap rs (fun j hj=>jf j gz)],rfl⟩)
theorem Zy (v:Value) (rs:List Int) (H:List Ck) (hv:Rs v rs.length (ic rs) H) (hl:rs.length≤9223372036854775807):Reads prog 52 [v,.func (.func 53) #[] #[]] H (.bool (rs.findIdx? qi).isSome):=by
 refine gC.enter func52 rfl ntmps52 rfl ?_
 intro w0 R
 refine g_ [9] ?_
 refine iG call90 rfl (acG _ rs _ hv hl) (g_ [708] ?_)
 refine af (t:=8) (v:=.bool (rs.findIdx? qi).isSome) rfl (congrArg Value.bool (by cases rs.findIdx? qi<;>simp)) ?_
 refine g_ [4] ?_
 exact aa results52 rfl (⟨rfl,rfl⟩)
theorem Zr (v:Value) (rs:List Int) (H:List Ck) (hv:Rs v rs.length (ic rs) H) (hl:rs.length≤1000000):gC prog 54 [v] H fun r gr=>∃C,il r rs.length (ic rs) 3 1 C∧gr=C++H:=by
 refine gC.enter func54 rfl ntmps54 rfl ?_
 intro w0 R
 obtain ⟨vo,vc,rfl,xk⟩:=hv.form
 have Nw:vo=none→rs=[]:=by
   rintro rfl
   rcases hv with ⟨_,_,e,h0,_⟩|⟨b,o,cap,cs,T,fr,ex,e,_⟩
   · exact dU h0
   cases e
 refine g_ [9] ?_
 refine ae rfl (cI underlying58 rfl rfl) (qb (WC.cond rfl (fun h4=>?_) (fun h4=>?_)))
 refine g_ [7] ?_
 refine aa results54 rfl ?_
 have e0:rs=[]:=Nw (by simpa using h4)
 subst e0
 exact ⟨[],il.nil _ _,rfl⟩
 refine g_ [4] ?_
 refine WL.h rfl (Hd.buildSlice (e:=3) (sz:=1) (zs:=[.int .i64 0]) (parts:=[]) (vs:=[]) (cells:=[]) fa fa fa rfl fa fa fun rb=>⟨_,rfl,?_⟩)
 refine g_ [1] ?_
 refine WL.h rfl (Hd.append (e:=3) (sz:=1) (bytes:=8) (zs:=[.int .i64 0]) (n:=0) (xs:=[]) (C:=[row rb [] 3]) (D:=H) (m:=rs.length) (news:=ic rs) fa fa rfl gz rfl rfl (.inr ⟨rb,0,[],rfl,dA _,by simp only[maxLen];omega,rfl,rfl,rfl⟩) (hv.mono fun y hy=>by simp[hy]) (by rw[Bg];omega) (acB _) (by simp only[maxLen];omega) gz (fb _) fun v2 C2 h2 _=>⟨_,rfl,?_⟩)
 refine g_ [4] ?_
 exact aa results54 rfl (⟨C2,by simpa using h2,rfl⟩)
theorem Hv (v:Value) (rs:List Int) (H:List Ck) (hv:Rs v rs.length (ic rs) H) (hl:rs.length≤9223372036854775807):gC prog 31 [v] H fun r gr=>if (rs.findIdx? qi).isSome=false∧rs.length≤60 then ∃p C,r=.tuple #[.pointer (some ⟨p,0,none⟩),.int .i64 0]∧yH 150 3 p rs [] C∧gr=C++H else r=.tuple #[.pointer none,.int .i64 2]∧gr=H:=by
 refine gC.enter func31 rfl ntmps31 rfl ?_
 intro w0 R
 obtain ⟨vo,vc,rfl,xk⟩:=hv.form
 refine g_ [9] ?_
 refine iG call52 rfl (Zy _ rs _ hv hl) (g_ [8] ?_)
 refine aG (t:=8) rfl (fun Na=>?_) (fun Na=>?_)
 refine g_ [15] ?_
 refine ay results31 rfl rfl ?_
 rw[dp (by rw[Na];simp)]
 exact ⟨rfl,rfl⟩
 refine g_ [1,710,3,707,3] ?_
 refine gK rfl (fun nj=>?_) fun nj=>?_
 refine g_ [8] ?_
 refine ay results31 rfl rfl ?_
 rw[dp gz]
 exact ⟨rfl,rfl⟩
 refine g_ [5] ?_
 refine bK rfl (iE.func call54 rfl) (Zr _ rs _ hv gz) ?_
 rintro x H1 ⟨Cr,hr,rfl⟩
 obtain ⟨xo,xc,rfl,Dc⟩:=hr.form
 refine WL.h rfl (Hd.makeMap (kd:=.u32) fun bm Cm hCm=>⟨_,rfl,?_⟩)
 refine ae rfl (Yd.build (pl:=[(0,1),(1,1)]) (zs:=[.slice none 0 0,.map none]) (parts:=[(0,.tmp 14),(1,.tmp 15)]) (vs:=[(0,.slice xo rs.length xc),(1,.map (some bm))]) (cells:=[.slice xo rs.length xc,.map (some bm)]) fa fa rfl rfl) ?_
 refine WL.h rfl (Hd.box rfl fun p=>⟨_,rfl,?_⟩)
 refine g_ [5] ?_
 refine cy ((row p [.slice xo rs.length xc,.map (some bm)] 150::(Cr++Cm))++H) (show (row p [.slice xo rs.length xc,.map (some bm)] 150::(Cm++(Cr++H))).Perm ((row p [.slice xo rs.length xc,.map (some bm)] 150::(Cr++Cm))++H) from (by classical exact fQ.2 fun q=>by simp only[gb,List.count_cons,List.count_nil];omega)) ?_
 refine ay results31 rfl rfl ?_
 rw[dx ⟨Na,by omega⟩]
 exact ⟨p,_,rfl,⟨_,Cr,bm,Cm,rfl,hr,hCm,by simp⟩,rfl⟩
theorem Y6 (p:Nat) (rs:List Int) (L:List Bk) (C:List Ck) (h:yH 150 3 p rs L C) (mI:FR rs) (hl:rs.length≤1000000) (o:BitVec 32) (from_ n:Int):gC prog 137 [.pointer (some ⟨p,0,none⟩),.int .u32 o.toNat,.int .i64 from_,.int .i64 n] C fun r gr=>match oL rs L o from_ n with|none=>r=.tuple #[.int .i64 0,.int .i64 2]∧gr=C|some d=>r=.tuple #[.int .i64 d,.int .i64 1]∧yH 150 3 p (rs.set d (rs.getD d 0-n)) (L++[⟨o,d,n⟩]) gr:=by
 refine gC.enter func137 rfl ntmps137 rfl ?_
 intro w0 R
 obtain ⟨vr,Cr,bm,Cm,rfl,nE,hm,nu⟩:=h
 obtain ⟨xo,xc,rfl,Dc⟩:=nE.form
 refine g_ [10] ?_
 refine ae rfl (an underlying84 rfl rfl) (g_ [1015,2] ?_)
 refine jx 16 rfl rfl rfl (aD _ (0#32) rfl rfl rfl rfl) (g_ [2] ?_)
 refine ag (t:=20) rfl (fun rl=>?_) (fun rl=>?_)
 refine g_ [18] ?_
 refine ay results137 rfl rfl ?_
 have hb:oL rs L o from_ n=none:=by rw[oL,dx (.inl rl)]
 rw[hb]
 exact ⟨rfl,rfl⟩
 refine g_ [1,705,2] ?_
 refine ag (t:=24) rfl (fun zn=>?_) (fun zn=>?_)
 refine g_ [14] ?_
 refine ay results137 rfl rfl ?_
 have hb:oL rs L o from_ n=none:=by rw[oL,dx (.inr (.inl zn))]
 rw[hb]
 exact ⟨rfl,rfl⟩
 refine g_ [1,705,3] ?_
 refine gK rfl (fun lz=>?_) fun lz=>?_
 refine g_ [8] ?_
 refine ay results137 rfl rfl ?_
 have hb:oL rs L o from_ n=none:=by rw[oL,dx (.inr (.inr (.inl lz)))]
 rw[hb]
 exact ⟨rfl,rfl⟩
 refine g_ [7,101] ?_
 refine WL.h rfl (ak (v:=.map (some bm)) (b:=p) (cs:=[.slice xo rs.length xc,.map (some bm)]) fa rfl (by exact dy) rfl ⟨_,rfl,?_⟩)
 refine g_ [1] ?_
 refine WL.h rfl (cZ (KT:=38) (ET:=355) (kt:=.u32) (z:=.agg #[.int .u32 0,.int .i64 0,.int .i64 0]) (C:=Cm) (D:=row p [.slice xo rs.length xc,.map (some bm)] 150::Cr) fa fa fa rfl rfl hm (by classical exact fQ.2 fun q=>by simp only[gb,List.count_cons,List.count_nil];omega) ⟨_,rfl,?_⟩)
 refine g_ [1] ?_
 rw[SE,UL]
 obtain ⟨yU,Jb⟩:∃e,e=(kY L o).getD ⟨0#32,0,0⟩:=⟨_,rfl⟩
 rw[←Jb]
 refine g_ [2] ?_
 refine WL.h rfl (Hd.alloc (zs:=[.int .u32 0,.int .i64 0,.int .i64 0]) fa fun pg=>⟨_,rfl,?_⟩)
 refine WL.s (cx (n:=3) (b:=pg) (cs:=[.int .u32 0,.int .i64 0,.int .i64 0]) (gV:=355) (v:=yU.val) (D:=row p [.slice xo rs.length xc,.map (some bm)] 150::(Cr++Cm)) fa rfl rfl rfl (by simp[Bk.val,Value.cells,Value.oneCell']) (fb _) (by simp) ⟨rfl,?_⟩)
 refine g_ [8] ?_
 refine WC.cond rfl (fun xV=>?_) (fun xV=>?_)
 refine g_ [8] ?_
 refine aR (row p [.slice xo rs.length xc,.map (some bm)] 150::(Cr++Cm)) (du _ _) (ay results137 rfl rfl ?_)
 have hb:oL rs L o from_ n=none:=by rw[oL,dx (.inr (.inr (.inr xV)))]
 rw[hb]
 exact ⟨rfl,rfl⟩
 have rr:kY L o=none:=by simpa using xV
 have abq:getM (nf L) (o.toNat:Int)=none:=by rw[LP,rr];rfl
 refine g_ [7,100] ?_
 refine WL.h rfl (ak (v:=.slice xo rs.length xc) (b:=p) (cs:=[.slice xo rs.length xc,.map (some bm)]) fa rfl (by exact dt _ dy) rfl ⟨_,rfl,?_⟩)
 refine g_ [710,3,4] ?_
 refine WC.loop (fun i:Nat=>i≤rs.length∧∀j,j<i→¬(from_≤(j:Int)∧n≤rs.getD j 0)) (fun i=>[(0,.pointer (some ⟨p,0,none⟩)),(1,.int .u32 o.toNat),(2,.int .i64 from_),(3,.int .i64 n),(41,.slice xo rs.length xc),(42,.int .i64 rs.length),(43,.int .i64 i)]) (fun _=>row pg (oZ [.int .u32 0,.int .i64 0,.int .i64 0] 0 yU.val.cells.toList) 355::row p [.slice xo rs.length xc,.map (some bm)] 150::(Cr++Cm)) (fun i=>rs.length-i) 0 ⟨dN _,fun j h=>by omega⟩ ⟨rfl,rfl,rfl,rfl,rfl,rfl,rfl,eX⟩ (fb _) ?_
 rintro i ⟨hi,jf⟩
 refine g_ [2,705,3] ?_
 refine gK rfl (fun h44=>?_) fun h44=>?_
 have gQ:i<rs.length:=by omega
 have hri:=mI i
 refine g_ [7] ?_
 refine bX (e:=3) fa fa fa rfl rfl (rfl) (nE.rs.mono fun y hy=>by simp[hy]) (JE gQ) (gQ) rfl rfl ?_
 intro _
 refine g_ [8,708,1] ?_
 refine ag (t:=51) rfl (fun mV=>?_) (fun mV=>?_)
 refine g_ [2,708,3] ?_
 refine gK rfl (fun h55=>?_) fun h55=>?_
 rcases nE with ⟨_,h0,_⟩|⟨br,cap,extra,he,lX,tK,yp,zI,Me⟩
 · omega
 simp only[dI] at he
 obtain ⟨rfl,_,rfl⟩:=he
 subst Me
 obtain ⟨Q,hQ⟩:∃Q,Q=[row pg (oZ [.int .u32 0,.int .i64 0,.int .i64 0] 0 yU.val.cells.toList) 355,row p [.slice (some ⟨br,0,none⟩) rs.length xc,.map (some bm)] 150]:=⟨_,rfl⟩
 have abg:yT rs from_ n=some i:=ZK rs from_ n i gQ gz gz jf
 refine g_ [4,100] ?_
 refine WL.h rfl (ak (v:=.slice (some ⟨br,0,none⟩) rs.length xc) (b:=p) (cs:=[.slice (some ⟨br,0,none⟩) rs.length xc,.map (some bm)]) fa rfl (by exact dt _ dy) rfl ⟨_,rfl,?_⟩)
 refine g_ [1] ?_
 refine bX (e:=3) fa fa fa rfl rfl (rfl) (((show il (.slice (some ⟨br,0,none⟩) rs.length xc) rs.length (ic rs) 3 1 [row br (ic rs++extra) 3] from .inr ⟨br,xc,extra,rfl,lX,tK,yp,zI,rfl⟩).rs.mono fun y hy=>by rw[dH.1 hy];simp)) (JE gQ) (gQ) rfl rfl ?_
 intro _
 refine g_ [1,704,711,3,1] ?_
 refine WL.s (cD (b:=br) (cs:=ic rs++extra) (gV:=3) (D:=Q++Cm) fa rfl rfl rfl (by rw[hQ];exact (by classical exact fQ.2 fun q=>by simp only[gb,List.count_cons,List.count_nil];omega)) (by simp[Bg];omega) ⟨rfl,?_⟩)
 refine g_ [6,101] ?_
 refine WL.h rfl (ak (v:=.map (some bm)) (b:=p) (cs:=[.slice (some ⟨br,0,none⟩) rs.length xc,.map (some bm)]) fa rfl (dt _ (dw _ (by rw[hQ];exact dt _ dy))) rfl ⟨_,rfl,?_⟩)
 refine g_ [4] ?_
 refine ae rfl (Yd.build (pl:=[(0,1),(1,1),(2,1)]) (zs:=[.int .u32 0,.int .i64 0,.int .i64 0]) (parts:=[(0,.tmp 71),(1,.tmp 72),(2,.tmp 73)]) (vs:=[(0,.int .u32 o.toNat),(1,.int .i64 i),(2,.int .i64 n)]) (cells:=[.int .u32 o.toNat,.int .i64 i,.int .i64 n]) fa fa rfl rfl) ?_
 refine WL.s (Hd.aeo (KT:=38) (ET:=355) (kt:=.u32) (C:=Cm) (D:=row br ((ic rs++extra).set (0+(i:Int).toNat*1) (.int .i64 (rs.getD i 0-n))) 3::Q) fa fa rfl rfl rfl hm abq (by classical exact fQ.2 fun q=>by simp only[gb,List.count_cons,List.count_nil];omega) fun xF kD=>⟨rfl,?_⟩)
 refine g_ [15] ?_
 refine cy (row pg (oZ [.int .u32 0,.int .i64 0,.int .i64 0] 0 yU.val.cells.toList) 355::(row p [.slice (some ⟨br,0,none⟩) rs.length xc,.map (some bm)] 150::([row br (ic (rs.set i (rs.getD i 0-n))++extra) 3]++xF))) (by rw[hQ,show 0+(i:Int).toNat*1=i by omega,WE _ _ _ _ (by rw[Bg];omega),UG];exact (by classical exact fQ.2 fun q=>by simp only[gb,List.count_cons,List.count_nil];omega)) ?_
 refine aR _ (du _ _) (ay results137 rfl rfl ?_)
 have hb:oL rs L o from_ n=some i:=by rw[oL,dp (by rintro (h|h|h|h);exact rl h;omega;omega;rw[rr] at h;cases h)];exact abg
 rw[hb]
 refine ⟨rfl,_,[row br (ic (rs.set i (rs.getD i 0-n))++extra) 3],bm,xF,rfl,.inr ⟨br,xc,extra,by simp,by simpa using lX,tK,by simp[Bg],by simpa using zI,rfl⟩,?_,Vt nu rr⟩
 rw[←YW]
 exact kD
 refine g_ [4,703,2] ?_
 exact DN.again (i+1) ⟨by omega,fun j hj=>by by_cases e:j=i;(subst e;omega);exact jf j gz⟩ gz ⟨rfl,rfl,rfl,rfl,rfl,rfl,rfl,eX⟩ (fb _)
 refine g_ [11,703,2] ?_
 exact DN.again (i+1) ⟨by omega,fun j hj=>by by_cases e:j=i;(subst e;omega);exact jf j gz⟩ gz ⟨rfl,rfl,rfl,rfl,rfl,rfl,rfl,eX⟩ (fb _)
 refine g_ [12] ?_
 refine aR (row p [.slice xo rs.length xc,.map (some bm)] 150::(Cr++Cm)) (du _ _) (ay results137 rfl rfl ?_)
 have hb:oL rs L o from_ n=none:=by rw[oL,dp (by rintro (h|h|h|h);exact rl h;omega;omega;rw[rr] at h;cases h)];exact ZI rs from_ n (fun j hj=>jf j gz)
 rw[hb]
 exact ⟨rfl,rfl⟩
theorem Ze (p:Nat) (rs:List Int) (L:List Bk) (C:List Ck) (h:yH 150 3 p rs L C) (o:BitVec 32) (hb:∀b,kY L o=some b→b.day<rs.length∧-9223372036854775808≤rs.getD b.day 0+b.n∧rs.getD b.day 0+b.n≤9223372036854775807):gC prog 201 [.pointer (some ⟨p,0,none⟩),.int .u32 o.toNat] C fun r gr=>match kY L o with|none=>r=.int .i64 2∧gr=C|some b=>r=.int .i64 1∧yH 150 3 p (rs.set b.day (rs.getD b.day 0+b.n)) (qC L o) gr:=by
 refine gC.enter func201 rfl ntmps201 rfl ?_
 intro w0 R
 obtain ⟨vr,Cr,bm,Cm,rfl,nE,hm,nu⟩:=h
 obtain ⟨xo,xc,rfl,Dc⟩:=nE.form
 refine g_ [9] ?_
 refine ae rfl (an underlying84 rfl rfl) (g_ [1008,9,101] ?_)
 refine WL.h rfl (ak (v:=.map (some bm)) (b:=p) (cs:=[.slice xo rs.length xc,.map (some bm)]) fa rfl (by exact dy) rfl ⟨_,rfl,?_⟩)
 refine g_ [1] ?_
 refine WL.h rfl (cZ (KT:=38) (ET:=355) (kt:=.u32) (z:=.agg #[.int .u32 0,.int .i64 0,.int .i64 0]) (C:=Cm) (D:=row p [.slice xo rs.length xc,.map (some bm)] 150::Cr) fa fa fa rfl rfl hm (by classical exact fQ.2 fun q=>by simp only[gb,List.count_cons,List.count_nil];omega) ⟨_,rfl,?_⟩)
 refine g_ [1] ?_
 rw[SE,UL]
 obtain ⟨yU,Jb⟩:∃e,e=(kY L o).getD ⟨0#32,0,0⟩:=⟨_,rfl⟩
 rw[←Jb]
 refine g_ [2] ?_
 refine WL.h rfl (Hd.alloc (zs:=[.int .u32 0,.int .i64 0,.int .i64 0]) fa fun b5=>⟨_,rfl,?_⟩)
 refine WL.s (cx (n:=3) (b:=b5) (cs:=[.int .u32 0,.int .i64 0,.int .i64 0]) (gV:=355) (v:=yU.val) (D:=row p [.slice xo rs.length xc,.map (some bm)] 150::(Cr++Cm)) fa rfl rfl rfl (by simp[Bk.val,Value.cells,Value.oneCell']) (fb _) (by simp) ⟨rfl,?_⟩)
 refine g_ [7,709,2] ?_
 refine WC.cond rfl (fun mT=>?_) (fun mT=>?_)
 have rr:kY L o=none:=by simpa using mT
 refine g_ [7] ?_
 refine aR (row p [.slice xo rs.length xc,.map (some bm)] 150::(Cr++Cm)) (du _ _) (aa results201 rfl ?_)
 rw[rr]
 exact ⟨rfl,rfl⟩
 obtain ⟨bk,jd⟩:∃bk,kY L o=some bk:=by
   cases h:kY L o with
   |none=>rw[h] at mT;simp at mT
   |some b=>exact ⟨b,rfl⟩
 have ZZ:yU=bk:=by rw[Jb,jd];rfl
 subst ZZ
 have ME:=hb yU jd
 obtain ⟨bk,MH⟩:∃bk,bk=yU:=⟨_,rfl⟩
 rw[←MH] at ME jd ⊢
 refine g_ [6,101] ?_
 refine WL.h rfl (ak (v:=.map (some bm)) (b:=p) (cs:=[.slice xo rs.length xc,.map (some bm)]) fa rfl (by exact dt _ dy) rfl ⟨_,rfl,?_⟩)
 refine g_ [1] ?_
 refine WL.h0 (Hd.delete (KT:=38) (ET:=355) (kt:=.u32) (C:=Cm) (D:=row b5 (oZ [.int .u32 0,.int .i64 0,.int .i64 0] 0 bk.val.cells.toList) 355::row p [.slice xo rs.length xc,.map (some bm)] 150::Cr) fa fa rfl rfl rfl hm (adJ nu) (by classical exact fQ.2 fun q=>by simp only[gb,List.count_cons,List.count_nil];omega) fun xF kD=>⟨_,rfl,?_⟩)
 refine g_ [3] ?_
 rw[ZN] at kD
 rcases nE with ⟨_,h0,_⟩|⟨br,cap,extra,he,lX,tK,yp,zI,Me⟩
 · omega
 simp only[dI] at he
 obtain ⟨rfl,_,rfl⟩:=he
 subst Me
 obtain ⟨Q,hQ⟩:∃Q,Q=xF++(row b5 (oZ [.int .u32 0,.int .i64 0,.int .i64 0] 0 bk.val.cells.toList) 355::row p [.slice (some ⟨br,0,none⟩) rs.length xc,.map (some bm)] 150::[row br (ic rs++extra) 3]):=⟨_,rfl⟩
 have T7:row b5 (oZ [.int .u32 0,.int .i64 0,.int .i64 0] 0 bk.val.cells.toList) 355∈xF++(row b5 (oZ [.int .u32 0,.int .i64 0,.int .i64 0] 0 bk.val.cells.toList) 355::row p [.slice (some ⟨br,0,none⟩) rs.length xc,.map (some bm)] 150::[row br (ic rs++extra) 3]):=by simp
 have ab5:row p [.slice (some ⟨br,0,none⟩) rs.length xc,.map (some bm)] 150∈xF++(row b5 (oZ [.int .u32 0,.int .i64 0,.int .i64 0] 0 bk.val.cells.toList) 355::row p [.slice (some ⟨br,0,none⟩) rs.length xc,.map (some bm)] 150::[row br (ic rs++extra) 3]):=by simp
 have ab6:row br (ic rs++extra) 3∈xF++(row b5 (oZ [.int .u32 0,.int .i64 0,.int .i64 0] 0 bk.val.cells.toList) 355::row p [.slice (some ⟨br,0,none⟩) rs.length xc,.map (some bm)] 150::[row br (ic rs++extra) 3]):=by simp
 rw[←hQ]
 refine g_ [513] ?_
 refine w_ [0,1,1000,2] ?_
 refine iD 3 [2] rfl (ab (v:=.slice (some ⟨br,0,none⟩) rs.length xc) (b:=p) (cs:=[.slice (some ⟨br,0,none⟩) rs.length xc,.map (some bm)]) fa rfl (by rw[hQ];exact ab5) rfl) ?_
 refine w_ [1001,4] ?_
 refine iD 5 [4] rfl (ab (v:=.int .i64 bk.day) (b:=b5) (cs:=oZ [.int .u32 0,.int .i64 0,.int .i64 0] 0 bk.val.cells.toList) fa rfl (by rw[hQ];exact T7) rfl) ?_
 refine gW 6 [5,3] rfl (Yd.indexAddr (e:=3) (s:=1) fa fa rfl rfl gz gz) fa ?_
 refine iD 7 [6] rfl (ab (v:=.int .i64 (rs.getD bk.day 0)) (b:=br) (cs:=ic rs++extra) fa rfl (by rw[hQ];exact ab6) (by rw[show 0+(bk.day:Int).toNat*1=bk.day by omega,eT (by rw[Bg];exact ME.1)];exact JE ME.1)) ?_
 refine w_ [1002,8] ?_
 refine iD 9 [8] rfl (ab (v:=.int .i64 bk.n) (b:=b5) (cs:=oZ [.int .u32 0,.int .i64 0,.int .i64 0] 0 bk.val.cells.toList) fa rfl (by rw[hQ];exact T7) rfl) ?_
 refine w_ [1003,10] ?_
 refine gW 11 [10,9,8,7,6,5,4,3,2,1,0] rfl (Yd.indexAddr (e:=3) (s:=1) fa fa rfl rfl gz gz) fa ?_
 refine gD 12 ?_
 refine SO.s rfl Wt.none (cD (b:=br) (cs:=ic rs++extra) (gV:=3) (D:=xF++[row b5 (oZ [.int .u32 0,.int .i64 0,.int .i64 0] 0 bk.val.cells.toList) 355,row p [.slice (some ⟨br,0,none⟩) rs.length xc,.map (some bm)] 150]) fa rfl rfl rfl (by rw[hQ];exact (by classical exact fQ.2 fun q=>by simp only[gb,List.count_cons,List.count_nil];omega)) (by simp[Bg];omega) ⟨rfl,?_⟩)
 refine gG ?_
 refine gM ?_
 refine g_ [7] ?_
 refine cy (row b5 (oZ [.int .u32 0,.int .i64 0,.int .i64 0] 0 bk.val.cells.toList) 355::(row p [.slice (some ⟨br,0,none⟩) rs.length xc,.map (some bm)] 150::([row br (ic (rs.set bk.day (rs.getD bk.day 0+bk.n))++extra) 3]++xF))) (by rw[show 0+(bk.day:Int).toNat*1=bk.day by omega,WE _ _ _ _ (by rw[Bg];omega),UG];exact (by classical exact fQ.2 fun q=>by simp only[gb,List.count_cons,List.count_nil];omega)) ?_
 refine aR _ (du _ _) (aa results201 rfl ?_)
 rw[jd]
 exact ⟨rfl,_,[row br (ic (rs.set bk.day (rs.getD bk.day 0+bk.n))++extra) 3],bm,xF,rfl,.inr ⟨br,xc,extra,by simp,by simpa using lX,tK,by simp[Bg],by simpa using zI,rfl⟩,kD,Rx o nu⟩
end Go.Proofs.YtchdmlkiggdhaaaGreat.Do
namespace Go.Proofs.YtchdmlkiggdhaaaGreat
open Go.SL Go.Proofs.Tryz
attribute [local irreducible] WL WC DN gZ iX
theorem RG (n:Nt) (vk vd:Value) (hk:mm vk n.key.length) (hd:mm vd n.data.length) (code:Int) (vr:Value) (iq:List (BitVec 8)) (H:List Ck) (nE:Bs vr iq H) (hl:iq.length≤1000000):gC prog 79 [.agg (gS n vk vd).toArray,.int .i64 code,vr] H fun r gr=>∃w A,r=.agg (gS (qD n code iq) (.slice none 0 0) w).toArray∧Ob 5 w iq A∧gr=A++H:=by
 refine gC.enter func79 rfl ntmps79 rfl ?_
 intro w0 R
 obtain ⟨ko,kc,rfl⟩:=hk
 obtain ⟨jR,dc,rfl⟩:=hd
 obtain ⟨ro,rc,rfl,Ui⟩:=nE.form
 refine gY (iV fun b3=>?_)
 refine iS iP fun b6=>?_
 refine g_ [3,514] ?_
 refine w_ [1001,0,1,1005,2,3,1006,4,5,1007,6,7,8,10] ?_
 refine gD 9 ?_
 refine SO.h rfl Wt.none rfl (aU (e:=5) [] fa fa fa rfl rfl fa fun vH=>⟨_,rfl,?_⟩)
 refine iO [0,0,0,0] ?_
 refine gD 11 ?_
 refine SO.h rfl Wt.none rfl (aZ (e:=5) (zs:=[.int .u8 0]) fa fa rfl rfl rfl (Ob.block vH [] (by simp)) fc (nE.mono hZ) (by simp;omega) fun w A hA=>⟨_,rfl,?_⟩)
 refine iO [0,0,0,0] ?_
 rw[eC] at hA
 obtain ⟨wo,wc,rfl,JB⟩:=hA.form
 refine gW 12 [8,7,5,3,1] rfl (aj (pl:=kz) (zs:=iP) (parts:=[(0,.const (.int .i64 8)),(1,.tmp 8),(5,.tmp 10),(6,.tmp 12),(7,.tmp 14),(8,.tmp 15),(10,.tmp 18)]) (vs:=[(0,_),(1,_),(5,_),(6,_),(7,_),(8,_),(10,_)]) (cells:=[_,_,.int .u32 0,.int .u64 0,.int .u64 0,_,_,_,_,.slice none 0 0,_]) fa fa rfl rfl) fa ?_
 refine gD 13 ?_
 refine jT 11 ?_
 refine gG ?_
 refine gM ?_
 refine g_ [2] ?_
 refine bH (s:=11) (A++H) results79 fa rfl gO gA fc ?_
 exact ⟨_,A,rfl,hA,rfl⟩
theorem ahF (p:Nat) (s:Cw) (C:List Ck) (h:xG 137 144 150 3 5 200 209 68 93 p s C) {g0:List Gd} {u0:List Au} {r0:List Int} (jB:nT g0 s.K s.L) (ym:nS u0 s.U s.Y) (Et:qT r0 s.rs s.B) (jf:s.no.length≤100000) (o:BitVec 32) (w:Wk) (v:Value) (H:List Ck) (hv:Bs v w.name H) (hwl:w.name.length≤32):gC prog 132 [.pointer (some ⟨p,0,none⟩),.int .u32 o.toNat,.agg (Ac w v).toArray] (C++H) fun r gr=>∃gP,r=.int .i64 (qS s o w)∧xG 137 144 150 3 5 200 209 68 93 p (pT s o w) gP∧gr=gP++H:=by
 refine gC.enter func132 rfl ntmps132 rfl ?_
 intro w0 R
 obtain ⟨pd,ps,pp,vL,vE,vN,CS,CP,CD,CF,CE,cn,CN,DO,rfl,hS,hP,hD,hF,hE,hN,hO⟩:=h
 obtain ⟨lo,lc,rfl⟩:=hF.form
 obtain ⟨eo,ec,rfl,GD⟩:=hE.form
 obtain ⟨no,nc,rfl,yj⟩:=hN.form
 obtain ⟨wo,wc,rfl,JB⟩:=hv.form
 refine gY (iV fun b5=>?_)
 refine g_ [6,100,6,701,3] ?_
 refine gK rfl (fun h9=>?_) fun h9=>?_
 refine g_ [4,101,2] ?_
 refine c_ call198 rfl (St.aaw ps g0 s.K s.L CS hS jB o) ?_
 rintro x H9 ⟨rfl,h9⟩
 refine g_ [6] ?_
 refine gH ((row p [.pointer (some ⟨pd,0,none⟩),.pointer (some ⟨ps,0,none⟩),.pointer (some ⟨pp,0,none⟩),.int .u32 s.e.toNat,.slice lo s.ks.length lc,.slice eo s.ef.length ec,.slice no s.no.length nc] 93::(H9++(CP++(CD++(CF++(CE++(CN++DO)))))))++H) ?_
 refine aa results132 rfl ?_
 rw[show qS s o w=vd (iW Ho.o s.L o).isSome from dx gz,show pT s o w={s with K:=uY s.K s.L o false,L:=pK Ho.o s.L o} from dx gz]
 exact ⟨_,rfl,⟨pd,ps,pp,_,_,_,_,_,_,_,_,_,_,_,rfl,h9,hP,hD,hF,hE,hN,hO⟩,rfl⟩
 refine g_ [2,701,3] ?_
 refine gK rfl (fun wQ=>?_) fun wQ=>?_
 refine g_ [8] ?_
 refine gH ((row p [.pointer (some ⟨pd,0,none⟩),.pointer (some ⟨ps,0,none⟩),.pointer (some ⟨pp,0,none⟩),.int .u32 s.e.toNat,.slice lo s.ks.length lc,.slice eo s.ef.length ec,.slice no s.no.length nc] 93::(CS++(CP++(CD++(CF++(CE++(CN++DO)))))))++H) ?_
 refine aa results132 rfl ?_
 have e1:¬w.iA=1:=by omega
 rw[show qS s o w=2 by unfold qS;rw[dp e1,dx gz],show pT s o w=s by unfold pT;rw[dp e1,dx gz]]
 exact ⟨_,rfl,⟨pd,ps,pp,_,_,_,_,_,_,_,_,_,_,_,rfl,hS,hP,hD,hF,hE,hN,hO⟩,rfl⟩
 refine g_ [2,701,3] ?_
 refine gK rfl (fun mT=>?_) fun mT=>?_
 refine g_ [4,102,2] ?_
 refine c_ call199 rfl (Pu.ahJ pp u0 s.U s.Y CP hP ym o) ?_
 rintro x H9 ⟨rfl,h9⟩
 refine g_ [6] ?_
 refine gH ((row p [.pointer (some ⟨pd,0,none⟩),.pointer (some ⟨ps,0,none⟩),.pointer (some ⟨pp,0,none⟩),.int .u32 s.e.toNat,.slice lo s.ks.length lc,.slice eo s.ef.length ec,.slice no s.no.length nc] 93::(CS++(H9++(CD++(CF++(CE++(CN++DO)))))))++H) ?_
 refine aa results132 rfl ?_
 have e1:¬w.iA=1:=by omega
 have e2:¬w.iA=2:=by omega
 rw[show qS s o w=pH (qQ s.Y o 1) by unfold qS;rw[dp e1,dp e2,dx gz],show pT s o w={s with U:=rE s.U s.Y o 1 0 (-1),Y:=rF s.Y o 1 3} by unfold pT;rw[dp e1,dp e2,dx gz]]
 exact ⟨_,rfl,⟨pd,ps,pp,_,_,_,_,_,_,_,_,_,_,_,rfl,hS,h9,hD,hF,hE,hN,hO⟩,rfl⟩
 refine g_ [2,701,3] ?_
 refine gK rfl (fun lz=>?_) fun lz=>?_
 refine g_ [4,102,2] ?_
 refine c_ call200 rfl (Pu.afs pp u0 s.U s.Y CP hP ym o) ?_
 rintro x H9 ⟨rfl,h9⟩
 refine g_ [6] ?_
 refine gH ((row p [.pointer (some ⟨pd,0,none⟩),.pointer (some ⟨ps,0,none⟩),.pointer (some ⟨pp,0,none⟩),.int .u32 s.e.toNat,.slice lo s.ks.length lc,.slice eo s.ef.length ec,.slice no s.no.length nc] 93::(CS++(H9++(CD++(CF++(CE++(CN++DO)))))))++H) ?_
 refine aa results132 rfl ?_
 have e1:¬w.iA=1:=by omega
 have e2:¬w.iA=2:=by omega
 have e3:¬w.iA=3:=by omega
 rw[show qS s o w=pH (qQ s.Y o 2) by unfold qS;rw[dp e1,dp e2,dp e3,dx gz],show pT s o w={s with U:=rE s.U s.Y o 2 1 0,Y:=rF s.Y o 2 3} by unfold pT;rw[dp e1,dp e2,dp e3,dx gz]]
 exact ⟨_,rfl,⟨pd,ps,pp,_,_,_,_,_,_,_,_,_,_,_,rfl,hS,h9,hD,hF,hE,hN,hO⟩,rfl⟩
 refine g_ [2,701,3] ?_
 refine gK rfl (fun uG=>?_) fun uG=>?_
 refine g_ [4,100,2] ?_
 refine c_ call201 rfl (Do.Ze pd s.rs s.B CD hD o (Et.Zd o)) ?_
 intro x H9 h9
 obtain ⟨rfl,h8⟩:x=.int .i64 (Fa (kY s.B o))∧yH 150 3 pd (Bw s.rs (kY s.B o)) (Hs s.B (kY s.B o) o) H9:=by
   cases hb:kY s.B o with
   |none=>rw[hb] at h9;exact ⟨h9.1,by rw[h9.2];exact hD⟩
   |some b=>rw[hb] at h9;exact ⟨h9.1,h9.2⟩
 refine g_ [6] ?_
 refine gH ((row p [.pointer (some ⟨pd,0,none⟩),.pointer (some ⟨ps,0,none⟩),.pointer (some ⟨pp,0,none⟩),.int .u32 s.e.toNat,.slice lo s.ks.length lc,.slice eo s.ef.length ec,.slice no s.no.length nc] 93::(CS++(CP++(H9++(CF++(CE++(CN++DO)))))))++H) ?_
 refine aa results132 rfl ?_
 have e1:¬w.iA=1:=by omega
 have e2:¬w.iA=2:=by omega
 have e3:¬w.iA=3:=by omega
 have e4:¬w.iA=4:=by omega
 rw[show qS s o w=Fa (kY s.B o) by unfold qS;rw[dp e1,dp e2,dp e3,dp e4,dx gz],show pT s o w={s with rs:=Bw s.rs (kY s.B o),B:=Hs s.B (kY s.B o) o} by unfold pT;rw[dp e1,dp e2,dp e3,dp e4,dx gz]]
 exact ⟨_,rfl,⟨pd,ps,pp,_,_,_,_,_,_,_,_,_,_,_,rfl,hS,hP,h8,hF,hE,hN,hO⟩,rfl⟩
 refine g_ [4,514] ?_
 refine w_ [0,1,2,1006,3,4,1002,6,7] ?_
 refine gD 5 ?_
 refine SO.h rfl Wt.none rfl (aU (e:=5) [33#8] fa fa fa rfl rfl fa fun YF=>⟨_,rfl,?_⟩)
 refine iO [0,0] ?_
 refine gD 8 ?_
 refine SO.h rfl Wt.none rfl (aZ (e:=5) (zs:=[.int .u8 0]) fa fa rfl rfl rfl (Ob.block (T:=5) YF [33#8] (by simp only[maxLen,dF,dR];omega)) fc (hv.mono hZ) (by simp only[dF,dR];omega) fun x A hA=>⟨_,rfl,?_⟩)
 refine iO [0] ?_
 refine gD 9 ?_
 obtain ⟨xo,xc,rfl,Dc⟩:=hA.form
 refine SO.h rfl Wt.none rfl (bp (e:=68) (z:=.slice none 0 0) fa fa fa rfl gA fun b52=>⟨_,rfl,?_⟩)
 refine iO [0] ?_
 refine gD 10 ?_
 refine SO.h rfl Wt.none rfl (cR (e:=68) (sz:=1) (bytes:=24) (zs:=[.slice none 0 0]) (m:=1) fa fa rfl gz rfl rfl hN fc gO rfl (by intro u hu;rw[dH.1 hu];rfl) (by simp only[maxLen];omega) gz fun v2 C2 pC=>⟨_,rfl,?_⟩)
 refine gG ?_
 obtain ⟨Ou,Oq,rfl,_⟩:=pC.form
 refine w_ [11,1006,12] ?_
 refine gD 13 ?_
 refine SO.s rfl Wt.none (bg fa rfl rfl gA ir gA (by (simp only[fC,ff,eV,fG,Nat.reduceAdd];rfl)) ⟨rfl,?_⟩)
 refine gG ?_
 refine gM ?_
 refine g_ [7] ?_
 refine gH ((row p [.pointer (some ⟨pd,0,none⟩),.pointer (some ⟨ps,0,none⟩),.pointer (some ⟨pp,0,none⟩),.int .u32 s.e.toNat,.slice lo s.ks.length lc,.slice eo s.ef.length ec,.slice Ou (s.no.length+1) Oq] 93::(CS++(CP++(CD++(CF++(CE++(C2++(DO++A))))))))++H) ?_
 refine aa results132 rfl ?_
 have e1:¬w.iA=1:=by omega
 have e2:¬w.iA=2:=by omega
 have e3:¬w.iA=3:=by omega
 have e4:¬w.iA=4:=by omega
 have e5:¬w.iA=5:=by omega
 rw[show qS s o w=1 by unfold qS;rw[dp e1,dp e2,dp e3,dp e4,dp e5],show pT s o w={s with no:=s.no++[33#8::w.name]} by unfold pT;rw[dp e1,dp e2,dp e3,dp e4,dp e5]]
 exact ⟨_,rfl,⟨pd,ps,pp,_,_,_,_,_,_,_,_,_,_,_,rfl,hS,hP,hD,hF,hE,(by rw[dr];exact pC),(hO.append (.one hA))⟩,rfl⟩
theorem ZT (p:Nat) (s:Cw) (C:List Ck) (h:xG 137 144 150 3 5 200 209 68 93 p s C) {g0:List Gd} {u0:List Au} {r0:List Int} (jB:nT g0 s.K s.L) (ym:nS u0 s.U s.Y) (Et:qT r0 s.rs s.B) (jf:s.no.length≤100000) (n:Nt) (vk vd:Value) (H:List Ck) (hk:mm vk n.key.length) (p7:Bs vd n.data H) (sB:n.data.length≤1000):gC prog 80 [.pointer (some ⟨p,0,none⟩),.agg (gS n vk vd).toArray] (C++H) fun r gr=>∃gP x A,r=.tuple #[.int .i64 (mA s n),x]∧xG 137 144 150 3 5 200 209 68 93 p (lr s n) gP∧Ob 5 x (om s n) A∧gr=gP++(A++H):=by
 refine gC.enter func80 rfl ntmps80 rfl ?_
 intro w0 R
 have Ma:=h
 obtain ⟨pd,ps,pp,vL,vE,vN,CS,CP,CD,CF,CE,cn,CN,DO,rfl,hS,hP,hD,hF,hE,hN,hO⟩:=h
 obtain ⟨lo,lc,rfl⟩:=hF.form
 obtain ⟨eo,ec,rfl,GD⟩:=hE.form
 obtain ⟨no,nc,rfl,yj⟩:=hN.form
 obtain ⟨ko,kc,rfl⟩:=hk
 obtain ⟨jR,dc,rfl,MM⟩:=p7.form
 refine gY (iV fun b3=>?_)
 refine g_ [6,110,1] ?_
 refine c_ call131 rfl (ZL _ n.data H p7 gz) ?_
 rintro x H9 ⟨wv,AW,rfl,hW,rfl⟩
 obtain ⟨wo,wc,rfl,JB⟩:=hW.form
 have hwn:=Lt n.data
 refine g_ [3] ?_
 refine WL.h rfl (Hd.alloc (zs:=[.int .i64 0,.int .i64 0,.slice none 0 0]) fa fun b6=>⟨_,rfl,?_⟩)
 refine g_ [303,8,702,3] ?_
 refine gK rfl (fun mr=>?_) fun mr=>?_
 have mh:AF n.data≠0:=mr
 refine g_ [9] ?_
 refine gH ((row p [.pointer (some ⟨pd,0,none⟩),.pointer (some ⟨ps,0,none⟩),.pointer (some ⟨pp,0,none⟩),.int .u32 s.e.toNat,.slice lo s.ks.length lc,.slice eo s.ef.length ec,.slice no s.no.length nc] 93::(CS++(CP++(CD++(CF++(CE++(CN++DO)))))))++H) ?_
 refine ay results80 rfl rfl ?_
 rw[show mA s n=2 from dx mh,show lr s n=s from dx mh,show om s n=[] from dx mh]
 exact ⟨_,_,[],rfl,⟨pd,ps,pp,_,_,_,_,_,_,_,_,_,_,_,rfl,hS,hP,hD,hF,hE,hN,hO⟩,Ob.nil _,rfl⟩
 have mh:¬AF n.data≠0:=mr
 refine g_ [2,107,4] ?_
 refine WC.cond rfl (fun mT=>?_) (fun mT=>?_)
 refine g_ [3,105,1,403] ?_
 refine c_ call132 rfl (ahF p s _ Ma jB ym Et jf n.order (jH n.data) _ AW hW.bs hwn) ?_
 rintro x H9 ⟨C9,rfl,h9,rfl⟩
 refine g_ [7] ?_
 refine gH (C9++H) ?_
 refine ay results80 rfl rfl ?_
 rw[show mA s n=qS s n.order (jH n.data) by unfold mA;rw[dp mh,dx mT],show lr s n=pT s n.order (jH n.data) by unfold lr;rw[dp mh,dx mT],show om s n=[] by unfold om;rw[dp mh,dx mT]]
 exact ⟨_,_,[],rfl,h9,Ob.nil _,rfl⟩
 have nX:¬n.iy=true:=by rw[mT];decide
 refine g_ [6,100,6,701,3] ?_
 refine gK rfl (fun wR=>?_) fun wR=>?_
 refine g_ [1,514] ?_
 refine w_ [0,1,1001,2,3,1005,4,5,1002,6,7,1001,9,10] ?_
 refine gD 8 ?_
 refine SO.h rfl Wt.none rfl (aM (e:=5) (bs:=(jH n.data).name) fa fa underlying9 rfl (hW.bs.mono hZ) ⟨_,rfl,?_⟩)
 refine iO [0,0,0] ?_
 refine gD 11 ?_
 refine iI rfl call133 rfl (St.acd ps g0 s.K s.L CS hS jB n.order (str (jH n.data).name) (jH n.data).n) ?_
 rintro x H9 ⟨rfl,h9⟩
 refine gG ?_
 refine gD 12 ?_
 refine jm ?_
 refine gG ?_
 refine gD 13 ?_
 refine jm ?_
 refine gG ?_
 refine gM ?_
 refine g_ [4] ?_
 refine gH ((row p [.pointer (some ⟨pd,0,none⟩),.pointer (some ⟨ps,0,none⟩),.pointer (some ⟨pp,0,none⟩),.int .u32 s.e.toNat,.slice lo s.ks.length lc,.slice eo s.ef.length ec,.slice no s.no.length nc] 93::(H9++(CP++(CD++(CF++(CE++(CN++DO)))))))++H) ?_
 refine ay results80 rfl rfl ?_
 have e5:¬(jH n.data).iA=5:=by omega
 have g1:mA s n=vd (xf s.K s.L n.order (str (jH n.data).name) (jH n.data).n):=by unfold mA;rw[dp mh,dp nX];unfold vx;rw[dx gz]
 have g2:lr s n={s with K:=Bc s.K s.L n.order (str (jH n.data).name) (jH n.data).n,L:=Bd s.K s.L n.order (str (jH n.data).name) (jH n.data).n}:=by unfold lr;rw[dp mh,dp nX];unfold sK;rw[dx gz]
 have g3:om s n=[]:=by unfold om;rw[dp mh,dp nX];unfold yE;rw[dp e5]
 rw[g1,g2,g3]
 exact ⟨_,_,[],rfl,⟨pd,ps,pp,_,_,_,_,_,_,_,_,_,_,_,rfl,h9,hP,hD,hF,hE,hN,hO⟩,Ob.nil _,rfl⟩
 refine g_ [2,701,3] ?_
 refine gK rfl (fun LX=>?_) fun LX=>?_
 refine g_ [1,509] ?_
 refine w_ [0,1,1001,2,3,1005,4,5] ?_
 refine gD 6 ?_
 refine iI rfl call134 rfl (St.age ps g0 s.K s.L CS hS jB n.order) ?_
 rintro x H9 ⟨rfl,h9⟩
 refine gG ?_
 refine gD 7 ?_
 refine jm ?_
 refine gG ?_
 refine gD 8 ?_
 refine jm ?_
 refine gG ?_
 refine gM ?_
 refine g_ [4] ?_
 refine gH ((row p [.pointer (some ⟨pd,0,none⟩),.pointer (some ⟨ps,0,none⟩),.pointer (some ⟨pp,0,none⟩),.int .u32 s.e.toNat,.slice lo s.ks.length lc,.slice eo s.ef.length ec,.slice no s.no.length nc] 93::(H9++(CP++(CD++(CF++(CE++(CN++DO)))))))++H) ?_
 refine ay results80 rfl rfl ?_
 have e1:¬(jH n.data).iA=1:=by omega
 have e5:¬(jH n.data).iA=5:=by omega
 have g1:mA s n=vd (iW Ho.o s.L n.order).isSome:=by unfold mA;rw[dp mh,dp nX];unfold vx;rw[dp e1,dx gz]
 have g2:lr s n={s with K:=uY s.K s.L n.order true,L:=pK Ho.o s.L n.order}:=by unfold lr;rw[dp mh,dp nX];unfold sK;rw[dp e1,dx gz]
 have g3:om s n=[]:=by unfold om;rw[dp mh,dp nX];unfold yE;rw[dp e5]
 rw[g1,g2,g3]
 exact ⟨_,_,[],rfl,⟨pd,ps,pp,_,_,_,_,_,_,_,_,_,_,_,rfl,h9,hP,hD,hF,hE,hN,hO⟩,Ob.nil _,rfl⟩
 refine g_ [2,701,3] ?_
 refine gK rfl (fun y8=>?_) fun y8=>?_
 refine g_ [1,514] ?_
 refine w_ [0,1,1002,2,3,1005,4,5,1002,6,7,1001,9,10] ?_
 refine gD 8 ?_
 refine SO.h rfl Wt.none rfl (aM (e:=5) (bs:=(jH n.data).name) fa fa underlying9 rfl (hW.bs.mono hZ) ⟨_,rfl,?_⟩)
 refine iO [0,0,0] ?_
 refine gD 11 ?_
 refine iI rfl call135 rfl (Pu.YC pp u0 s.U s.Y CP hP ym n.order (str (jH n.data).name) (jH n.data).n) ?_
 rintro x H9 ⟨rfl,h9⟩
 refine gG ?_
 refine gD 12 ?_
 refine jm ?_
 refine gG ?_
 refine gD 13 ?_
 refine jm ?_
 refine gG ?_
 refine gM ?_
 refine g_ [4] ?_
 refine gH ((row p [.pointer (some ⟨pd,0,none⟩),.pointer (some ⟨ps,0,none⟩),.pointer (some ⟨pp,0,none⟩),.int .u32 s.e.toNat,.slice lo s.ks.length lc,.slice eo s.ef.length ec,.slice no s.no.length nc] 93::(CS++(H9++(CD++(CF++(CE++(CN++DO)))))))++H) ?_
 refine ay results80 rfl rfl ?_
 have e1:¬(jH n.data).iA=1:=by omega
 have e2:¬(jH n.data).iA=2:=by omega
 have e5:¬(jH n.data).iA=5:=by omega
 have g1:mA s n=pH (tB s.U s.Y n.order (str (jH n.data).name) (jH n.data).n):=by unfold mA;rw[dp mh,dp nX];unfold vx;rw[dp e1,dp e2,dx gz]
 have g2:lr s n={s with U:=Aw s.U s.Y n.order (str (jH n.data).name) (jH n.data).n,Y:=Ax s.U s.Y n.order (str (jH n.data).name) (jH n.data).n}:=by unfold lr;rw[dp mh,dp nX];unfold sK;rw[dp e1,dp e2,dx gz]
 have g3:om s n=[]:=by unfold om;rw[dp mh,dp nX];unfold yE;rw[dp e5]
 rw[g1,g2,g3]
 exact ⟨_,_,[],rfl,⟨pd,ps,pp,_,_,_,_,_,_,_,_,_,_,_,rfl,hS,h9,hD,hF,hE,hN,hO⟩,Ob.nil _,rfl⟩
 refine g_ [2,701,3] ?_
 refine gK rfl (fun wT=>?_) fun wT=>?_
 refine g_ [1,509] ?_
 refine w_ [0,1,1002,2,3,1005,4,5] ?_
 refine gD 6 ?_
 refine iI rfl call136 rfl (Pu.Zf pp u0 s.U s.Y CP hP ym n.order) ?_
 rintro x H9 ⟨rfl,h9⟩
 refine gG ?_
 refine gD 7 ?_
 refine jm ?_
 refine gG ?_
 refine gD 8 ?_
 refine jm ?_
 refine gG ?_
 refine gM ?_
 refine g_ [4] ?_
 refine gH ((row p [.pointer (some ⟨pd,0,none⟩),.pointer (some ⟨ps,0,none⟩),.pointer (some ⟨pp,0,none⟩),.int .u32 s.e.toNat,.slice lo s.ks.length lc,.slice eo s.ef.length ec,.slice no s.no.length nc] 93::(CS++(H9++(CD++(CF++(CE++(CN++DO)))))))++H) ?_
 refine ay results80 rfl rfl ?_
 have e1:¬(jH n.data).iA=1:=by omega
 have e2:¬(jH n.data).iA=2:=by omega
 have e3:¬(jH n.data).iA=3:=by omega
 have e5:¬(jH n.data).iA=5:=by omega
 have g1:mA s n=pH (qQ s.Y n.order 1):=by unfold mA;rw[dp mh,dp nX];unfold vx;rw[dp e1,dp e2,dp e3,dx gz]
 have g2:lr s n={s with U:=rE s.U s.Y n.order 1 (-1) (-1),Y:=rF s.Y n.order 1 2}:=by unfold lr;rw[dp mh,dp nX];unfold sK;rw[dp e1,dp e2,dp e3,dx gz]
 have g3:om s n=[]:=by unfold om;rw[dp mh,dp nX];unfold yE;rw[dp e5]
 rw[g1,g2,g3]
 exact ⟨_,_,[],rfl,⟨pd,ps,pp,_,_,_,_,_,_,_,_,_,_,_,rfl,hS,h9,hD,hF,hE,hN,hO⟩,Ob.nil _,rfl⟩
 refine g_ [2,701,3] ?_
 refine gK rfl (fun Gm=>?_) fun Gm=>?_
 refine g_ [1,514] ?_
 refine w_ [0,1,1000,2,3,1005,4,5,1001,6,7] ?_
 refine gD 8 ?_
 refine iI rfl call137 rfl (Do.Y6 pd s.rs s.B CD hD Et.Wl (by have:=Et.jW;have:=Et.len;omega) n.order 0 (jH n.data).n) ?_
 intro x H9 h9
 obtain ⟨bk,jd⟩:∃q,oL s.rs s.B n.order 0 (jH n.data).n=q:=⟨_,rfl⟩
 rw[jd] at h9
 obtain ⟨rfl,h8⟩:x=.tuple #[.int .i64 (Bv bk).1,.int .i64 (Bv bk).2]∧yH 150 3 pd (zV s.rs bk (jH n.data).n) (Dj s.B bk n.order (jH n.data).n) H9:=by
   cases bk with
   |none=>exact ⟨h9.1,by rw[h9.2];exact hD⟩
   |some d=>exact ⟨h9.1,h9.2⟩
 refine gG ?_
 refine w_ [9,10,11,12,13] ?_
 refine gM ?_
 refine g_ [5,702,2] ?_
 refine gK rfl (fun L4=>?_) fun L4=>?_
 have rj:bk=none:=by
   cases bk with
   |none=>rfl
   |some d=>exact absurd rfl L4
 refine g_ [11] ?_
 refine gH ((row p [.pointer (some ⟨pd,0,none⟩),.pointer (some ⟨ps,0,none⟩),.pointer (some ⟨pp,0,none⟩),.int .u32 s.e.toNat,.slice lo s.ks.length lc,.slice eo s.ef.length ec,.slice no s.no.length nc] 93::(CS++(CP++(H9++(CF++(CE++(CN++DO)))))))++H) ?_
 refine ay results80 rfl rfl ?_
 subst rj
 have e1:¬(jH n.data).iA=1:=by omega
 have e2:¬(jH n.data).iA=2:=by omega
 have e3:¬(jH n.data).iA=3:=by omega
 have e4:¬(jH n.data).iA=4:=by omega
 have g1:mA s n=(Bv none).2:=by unfold mA;rw[dp mh,dp nX];unfold vx;rw[dp e1,dp e2,dp e3,dp e4,dx gz];rw[jd]
 have g2:lr s n={s with rs:=zV s.rs none (jH n.data).n,B:=Dj s.B none n.order (jH n.data).n}:=by unfold lr;rw[dp mh,dp nX];unfold sK;rw[dp e1,dp e2,dp e3,dp e4,dx gz];rw[jd]
 have g3:om s n=[]:=by unfold om;rw[dp mh,dp nX];unfold yE;rw[dx gz];rw[jd]
 rw[g1,g2,g3]
 exact ⟨_,_,[],rfl,⟨pd,ps,pp,_,_,_,_,_,_,_,_,_,_,_,rfl,hS,hP,h8,hF,hE,hN,hO⟩,Ob.nil _,rfl⟩
 obtain ⟨d,rfl⟩:∃d,bk=some d:=by
   cases bk with
   |none=>exact absurd gB L4
   |some d=>exact ⟨d,rfl⟩
 refine g_ [6] ?_
 refine ae rfl (bT _ fa fa rfl rfl) ?_
 refine WL.h rfl (bp (e:=5) (z:=.int .u8 0) fa fa fa rfl rfl fun QV=>⟨_,rfl,?_⟩)
 refine g_ [7] ?_
 refine gH ((row p [.pointer (some ⟨pd,0,none⟩),.pointer (some ⟨ps,0,none⟩),.pointer (some ⟨pp,0,none⟩),.int .u32 s.e.toNat,.slice lo s.ks.length lc,.slice eo s.ef.length ec,.slice no s.no.length nc] 93::(CS++(CP++(H9++(CF++(CE++(CN++DO)))))))++(row QV (bc [BitVec.ofInt 8 (d:Int)]) 5::H)) ?_
 refine ay results80 rfl rfl ?_
 have e1:¬(jH n.data).iA=1:=by omega
 have e2:¬(jH n.data).iA=2:=by omega
 have e3:¬(jH n.data).iA=3:=by omega
 have e4:¬(jH n.data).iA=4:=by omega
 have g1:mA s n=(Bv (some d)).2:=by unfold mA;rw[dp mh,dp nX];unfold vx;rw[dp e1,dp e2,dp e3,dp e4,dx gz];rw[jd]
 have g2:lr s n={s with rs:=zV s.rs (some d) (jH n.data).n,B:=Dj s.B (some d) n.order (jH n.data).n}:=by unfold lr;rw[dp mh,dp nX];unfold sK;rw[dp e1,dp e2,dp e3,dp e4,dx gz];rw[jd]
 have g3:om s n=[BitVec.ofInt 8 (d:Int)]:=by unfold om;rw[dp mh,dp nX];unfold yE;rw[dx gz];rw[jd]
 rw[g1,g2,g3]
 exact ⟨_,_,[_],rfl,⟨pd,ps,pp,_,_,_,_,_,_,_,_,_,_,_,rfl,hS,hP,h8,hF,hE,hN,hO⟩,Ob.block QV [BitVec.ofInt 8 (d:Int)] (by simp only[maxLen,dF,dR];omega),rfl⟩
 refine g_ [4,512] ?_
 refine w_ [0,1,2,1006,3,4,1002,5,6] ?_
 refine gD 7 ?_
 refine SO.h rfl Wt.none rfl (bp (e:=68) (z:=.slice none 0 0) fa fa fa rfl gA fun aiB=>⟨_,rfl,?_⟩)
 refine iO [0] ?_
 refine gD 8 ?_
 refine SO.h rfl Wt.none rfl (cR (e:=68) (sz:=1) (bytes:=24) (zs:=[.slice none 0 0]) (m:=1) fa fa rfl gz rfl rfl hN fc gO rfl (by intro u hu;rw[dH.1 hu];rfl) (by simp only[maxLen];omega) gz fun v2 C2 pC=>⟨_,rfl,?_⟩)
 refine gG ?_
 obtain ⟨Ou,Oq,rfl,_⟩:=pC.form
 refine w_ [9,1006,10] ?_
 refine gD 11 ?_
 refine SO.s rfl Wt.none (bg fa rfl rfl gA ir gA (by (simp only[fC,ff,eV,fG,Nat.reduceAdd];rfl)) ⟨rfl,?_⟩)
 refine gG ?_
 refine gM ?_
 refine g_ [8] ?_
 refine gH ((row p [.pointer (some ⟨pd,0,none⟩),.pointer (some ⟨ps,0,none⟩),.pointer (some ⟨pp,0,none⟩),.int .u32 s.e.toNat,.slice lo s.ks.length lc,.slice eo s.ef.length ec,.slice Ou (s.no.length+1) Oq] 93::(CS++(CP++(CD++(CF++(CE++(C2++(DO++AW))))))))++H) ?_
 refine ay results80 rfl rfl ?_
 have e1:¬(jH n.data).iA=1:=by omega
 have e2:¬(jH n.data).iA=2:=by omega
 have e3:¬(jH n.data).iA=3:=by omega
 have e4:¬(jH n.data).iA=4:=by omega
 have e5:¬(jH n.data).iA=5:=by omega
 have g1:mA s n=1:=by unfold mA;rw[dp mh,dp nX];unfold vx;rw[dp e1,dp e2,dp e3,dp e4,dp e5]
 have g2:lr s n={s with no:=s.no++[(jH n.data).name]}:=by unfold lr;rw[dp mh,dp nX];unfold sK;rw[dp e1,dp e2,dp e3,dp e4,dp e5]
 have g3:om s n=[]:=by unfold om;rw[dp mh,dp nX];unfold yE;rw[dp e5]
 rw[g1,g2,g3]
 exact ⟨_,_,[],rfl,⟨pd,ps,pp,_,_,_,_,_,_,_,_,_,_,_,rfl,hS,hP,hD,hF,hE,(by rw[dr];exact pC),(hO.append (.one hW))⟩,Ob.nil _,rfl⟩
theorem Wj (k:Kp) (va vr:Value) (ha:mm va k.asked.length) (hr:mm vr k.iq.length) (H:List Ck):Reads prog 138 [.agg (kc k va vr).toArray] H (.bool (decide (mZ k))):=by
 refine gC.enter func138 rfl ntmps138 rfl ?_
 intro w0 R
 obtain ⟨ao,ac,rfl⟩:=ha
 obtain ⟨ro,rc,rfl⟩:=hr
 refine gY (iV fun b1=>?_)
 refine g_ [5,100,1,707,1] ?_
 refine ag (t:=6) rfl (fun hg6=>?_) (fun hg6=>?_)
 refine g_ [101,1,708,2] ?_
 refine aG (t:=11) rfl (fun Jd=>?_) (fun Jd=>?_)
 refine g_ [101,1,705,2] ?_
 refine aG (t:=16) rfl (fun aby=>?_) (fun aby=>?_)
 refine g_ [103,1,710,5,706,2] ?_
 refine aG (t:=22) rfl (fun zm=>?_) (fun zm=>?_)
 refine g_ [105,1,710,5,706,2] ?_
 refine aG (t:=28) rfl (fun GJ=>?_) (fun GJ=>?_)
 refine g_ [104,1,701,1] ?_
 refine ag (t:=32) rfl (fun abC=>?_) (fun abC=>?_)
 refine g_ [9] ?_
 refine gH H ?_
 refine aa results138 rfl (⟨?_,rfl⟩)
 congr 1
 rw[dM]
 simp only[dz,fi,fR,eB,fS,eW] at*
 simp only[mZ]
 omega
 refine g_ [104,1,701,6] ?_
 refine gH H ?_
 refine aa results138 rfl (⟨?_,rfl⟩)
 congr 1
 rw[dM]
 simp only[dz,fi,fR,eB,fS,eW] at*
 simp only[mZ]
 omega
 refine g_ [13] ?_
 refine gH H ?_
 refine aa results138 rfl (⟨?_,rfl⟩)
 congr 1
 rw[dM]
 simp only[dz,fi,fR,eB,fS,eW] at*
 simp only[mZ]
 omega
 refine g_ [19] ?_
 refine gH H ?_
 refine aa results138 rfl (⟨?_,rfl⟩)
 congr 1
 rw[dM]
 simp only[dz,fi,fR,eB,fS,eW] at*
 simp only[mZ]
 omega
 refine g_ [25] ?_
 refine gH H ?_
 refine aa results138 rfl (⟨?_,rfl⟩)
 congr 1
 rw[dM]
 simp only[dz,fi,fR,eB,fS,eW] at*
 simp only[mZ]
 omega
 refine g_ [30] ?_
 refine gH H ?_
 refine aa results138 rfl (⟨?_,rfl⟩)
 congr 1
 rw[dM]
 simp only[dz,fi,fR,eB,fS,eW] at*
 simp only[mZ]
 omega
 refine g_ [35] ?_
 refine gH H ?_
 refine aa results138 rfl (⟨?_,rfl⟩)
 congr 1
 rw[dM]
 simp only[dz,fi,fR,eB,fS,eW] at*
 simp only[mZ]
 omega
theorem IN (k:Kp) (va vr:Value) (h1:va.oneCell'=true) (h2:vr.oneCell'=true) (H:List Ck):Reads prog 140 [.agg (kc k va vr).toArray] H (.agg (N5 k.order k.step k.iy).toArray):=by
 refine gC.enter func140 rfl ntmps140 rfl ?_
 intro w0 R
 refine gY (iV fun b1=>?_)
 refine WL.h rfl (Hd.alloc (zs:=[.int .u32 0,.int .i64 0,.bool false]) fa fun b2=>⟨_,rfl,?_⟩)
 refine g_ [4,100,1,101,1,102,1] ?_
 refine ae rfl (aj (pl:=[(0,1),(1,1),(2,1)]) (zs:=[.int .u32 0,.int .i64 0,.bool false]) (parts:=[(0,.tmp 4),(1,.tmp 6),(2,.tmp 8)]) (vs:=[(0,_),(1,_),(2,_)]) (cells:=[_,_,_]) fa fa rfl rfl) ?_
 refine g_ [303,3] ?_
 refine aB (s:=3) H results140 fa rfl dy gA ((du _ _).trans (du _ _)) ?_
 exact ⟨rfl,rfl⟩
theorem J9 (o:BitVec 32) (s:Int) (u:Bool) (h0:0≤s) (h:s<16) (H:List Ck):Reads prog 196 [.agg (N5 o s u).toArray] H (.int .u64 (kx o s u:Nat)):=by
 refine gC.enter func196 rfl ntmps196 rfl ?_
 intro w0 R
 refine gY (iV fun b1=>?_)
 refine ae rfl (Yd.assign (v:=.int .u64 ((0#64).toNat:Int)) rfl) (g_ [4,100,1] ?_)
 refine ae rfl (cU _ fa fa rfl rfl) ?_
 refine ae rfl (Yd.Ph _ 8 rfl rfl rfl rfl) (g_ [101,1] ?_)
 refine ae rfl (bM _ fa fa rfl rfl) ?_
 refine ae rfl (Yd.Ph _ 1 rfl rfl rfl rfl) (ae rfl (Yd.OE _ _ rfl rfl rfl rfl) (g_ [6,102,3] ?_))
 refine WC.cond rfl (fun ql=>?_) (fun ql=>?_)
 refine g_ [2] ?_
 refine ae rfl (Yd.OE _ (1#64) rfl rfl rfl rfl) (g_ [10] ?_)
 refine gH H ?_
 refine aa results196 rfl (⟨?_,rfl⟩)
 subst ql
 rw[aeM h0 h]
 simp[kx]
 refine g_ [9] ?_
 refine gH H ?_
 refine aa results196 rfl (⟨?_,rfl⟩)
 subst ql
 rw[Ox h0 h]
 simp[kx]
theorem Ln (e:BitVec 32) (v:Value) (ks:List Kp) (H:List Ck) (hv:KV v ks H) (hl:ks.length≤9223372036854775807):Reads prog 128 [.agg #[.int .u32 e.toNat,v]] H (.int .i64 (if lP ks then 0 else 2)):=by
 refine gC.enter func128 rfl ntmps128 rfl ?_
 intro w0 R
 obtain ⟨cs,hr,hk⟩:=hv
 obtain ⟨ao,c,rfl,hc⟩:=hr.form
 refine gY (iV fun b1=>?_)
 refine g_ [6,101,1,710,200,707,2] ?_
 refine gK rfl (fun h8=>?_) fun h8=>?_
 refine g_ [7] ?_
 refine gH H ?_
 refine aa results128 rfl ?_
 exact ⟨by rw[dp (fun h9=>by have:=h9.1;omega)],rfl⟩
 refine g_ [5,101,1,710,200,4] ?_
 refine aC (fun z:Nat=>z≤ks.length∧lP (ks.take z)) (fun z:Nat=>[(12,.int .i64 (z:Int))]) (fun z:Nat=>row b1 [.int .u32 e.toNat,.slice ao ks.length c] 89::H) (fun z:Nat=>ks.length-z) (0) (show 0≤ks.length∧lP (ks.take 0) from ⟨dN _,Zm ks⟩) (Sx.put rfl (gL)) fc ?_
 rintro i hI
 replace hI:i≤ks.length∧lP (ks.take i):=hI
 obtain ⟨hi,nr⟩:=hI
 change WC _ _ _ _ _ _ ([(12,.int .i64 (i:Int))]++_) (row b1 [.int .u32 e.toNat,.slice ao ks.length c] 89::H)
 refine g_ [2,705,3] ?_
 refine gK rfl (fun sW=>?_) fun sW=>?_
 have gQ:i<ks.length:=by omega
 obtain ⟨va,vr,hg,qK,nE⟩:=hk.at i gQ
 refine g_ [7] ?_
 refine cf (e:=200) (s:=6) fa fa fa rfl rfl (rfl) (hr.mono hZ) (hg) gA gz (gQ) rfl rfl ?_
 intro p15
 refine iS lG fun b4=>?_
 refine g_ [1] ?_
 refine WL.s (aH (n:=6) fa rfl rfl gA (xp (bG qK).one (bG nE).one) ir gA ⟨rfl,?_⟩)
 refine qb (aI (fun z:Bool=>(z=true→¬lP ks)∧(z=true∨lP (ks.take (i+1)))) (fun z:Bool=>[(37,.bool z)]) (fun z:Bool=>row b4 (kc ks[i] va vr) 200::(row b1 [.int .u32 e.toNat,.slice ao ks.length c] 89::H)) ?_ ?_)
 refine g_ [521] ?_
 refine w_ [2006,0] ?_
 refine jy 1 [0] rfl call138 rfl (Wj ks[i] va vr (bG qK) (bG nE) _) ax ?_
 refine w_ [1009,2,3] ?_
 refine bR (fun rl=>?_) (fun rl=>?_)
 refine w_ [4,5,6,7,8,9,10,11,12,13,14,15,16,17,18,19,20] ?_
 refine gM ?_
 exact ah (_) (⟨fun h=>by
     intro zg;have hr9:=F6 zg gQ;simp[hr9] at rl;done,by
     exact .inl rfl⟩) (Sx.put rfl (gL)) (Sp.all fc)
 refine w_ [4,1007,5,6] ?_
 refine aW (fun M1=>?_) (fun M1=>?_)
 refine w_ [1001,7,8,9,1004,10] ?_
 obtain ⟨lb,lf,lcs,lT,lfr,lex,Ly,_,No,Nl⟩:=hr.Bj gz
 obtain ⟨Xf,Xl,MW,acx,acy⟩:=hk.at (i-1) gz
 have EC:mZ (ks[i-1]'gz):=nr.2.1 _ (List.mem_take_iff_getElem.2 ⟨i-1,by omega,rfl⟩)
 have Jx:mZ ks[i]:=by simpa using rl
 refine jP 11 [10,8,6] 23 rfl rfl (Yd.indexAddr (e:=200) (s:=6) (b:=lb) (o:=lf) (n:=ks.length) (c:=c) fa fa (congrArg (fun q=>some (Value.slice q ks.length c)) Ly) rfl gz gz) fa ?_
 refine ki 12 [11,6] 23 rfl rfl rfl (aE (n:=6) (b:=lb) (o:=lf+((i:Int)-1).toNat*6) (cs:=lcs) (vs:=kc (ks[i-1]'gz) Xf Xl) fa rfl (Gr.get hZ No) rfl (by rw[show ((i:Int)-1).toNat=((i-1:Nat):Int).toNat by omega];exact Wm Nl (by rw[hk.len];omega) MW)) ?_
 refine ny (iw (i:=13) [12,6] rfl (aO (aP (dj:=23) rfl rfl) (iE.func call140 rfl) (IN ks[i-1] Xf Xl (bG acx).one (bG acy).one _) ax) fa) fa ?_
 refine ny (iw (i:=14) [13,6] rfl (aO (aP (dj:=23) rfl rfl) (iE.func call196 rfl) (J9 _ _ _ EC.2.1 EC.2.2.1 _) ax) fa) fa ?_
 refine ki 15 [6] 23 rfl rfl rfl (aQ (n:=6) fa rfl gO gA) ?_
 refine ny (iw (i:=16) [15,14,6] rfl (aO (aP (dj:=23) rfl rfl) (iE.func call140 rfl) (IN ks[i] va vr (bG qK).one (bG nE).one _) ax) fa) fa ?_
 refine ny (iw (i:=17) [16,6] rfl (aO (aP (dj:=23) rfl rfl) (iE.func call196 rfl) (J9 _ _ _ Jx.2.1 Jx.2.2.1 _) ax) fa) fa ?_
 refine w_ [1008,18,19,20] ?_
 refine gM ?_
 exact ah (_) (⟨fun h=>by
     intro zg;have h8:=Zl zg gz gQ;simp only[dz,Kp.num] at h h8;omega,by
     by_cases h9:(ks[i-1]'gz).num<ks[i].num
     · exact .inr (Rm nr gz gQ (by simpa using rl) (.inr h9))
     exact .inl (by simp only[dz,Kp.num] at h9 ⊢;omega)⟩) (Sx.put rfl (gL)) (Sp.all fc)
 refine w_ [7,8,9,10,11,12,13,14,15,16,17,18,19,20] ?_
 refine gM ?_
 exact ah (_) (⟨fun h=>by
     cases h;done,by
     exact .inr (Rm nr gz gQ (by simpa using rl) (.inl gz))⟩) (Sx.put rfl (gL)) (Sp.all fc)
 intro z37 UB
 refine WC.cond rfl (fun xV=>?_) (fun xV=>?_)
 have MF:¬lP ks:=UB.1 xV
 refine g_ [11] ?_
 refine gH H ?_
 refine aa results128 rfl ?_
 exact ⟨by rw[dp MF],rfl⟩
 have ab9:lP (ks.take (i+1)):=by
   rcases UB.2 with h|h
   · rw[h] at xV;cases xV
   exact h
 refine g_ [4,703,2] ?_
 exact ai (i+1) (show (i+1)≤ks.length∧lP (ks.take (i+1)) from ⟨by omega,ab9⟩) (show ks.length-(i+1)<ks.length-i by omega) (Sx.put rfl (gL)) fc
 obtain rfl:i=ks.length:=by omega
 rw[eH] at nr
 refine g_ [11] ?_
 refine gH H ?_
 refine aa results128 rfl ?_
 exact ⟨by rw[dx nr],rfl⟩
theorem QC (k:Kp) (va vr:Value) (h1:va.oneCell'=true) (h2:vr.oneCell'=true) (n:Nat) (h0:0≤k.step) (h:k.step<16) (H:List Ck):Reads prog 205 [.agg (kc k va vr).toArray,.int .u64 (n:Int)] H (.int .i64 (if k.num<n then -1 else if n<k.num then 1 else 0)):=by
 refine gC.enter func205 rfl ntmps205 rfl ?_
 intro w0 R
 refine gY (iV fun b2=>?_)
 refine g_ [5,406] ?_
 refine iG call140 rfl (IN k va vr h1 h2 _) (iG call196 rfl (J9 _ _ _ h0 h _) (g_ [9,705,3] ?_))
 refine gK rfl (fun h9=>?_) fun h9=>?_
 refine g_ [8] ?_
 refine gH H ?_
 refine aa results205 rfl (⟨?_,rfl⟩)
 rw[dx (show k.num<n by unfold Kp.num;omega)]
 refine g_ [4,707,3] ?_
 refine gK rfl (fun sW=>?_) fun sW=>?_
 refine g_ [8] ?_
 refine gH H ?_
 refine aa results205 rfl (⟨?_,rfl⟩)
 rw[dp (show ¬k.num<n by unfold Kp.num;omega),dx (show n<k.num by unfold Kp.num;omega)]
 refine g_ [9] ?_
 refine gH H ?_
 refine aa results205 rfl (⟨?_,rfl⟩)
 rw[dp (show ¬k.num<n by unfold Kp.num;omega),dp (show ¬n<k.num by unfold Kp.num;omega)]
theorem Y7 (v:Value) (ks:List Kp) (H:List Ck) (hv:KV v ks H) (nr:lP ks) (n:Nat):Reads prog 204 [v,.int .u64 (n:Int),.func (.func 205) #[] #[]] H (.tuple #[.int .i64 (pos ks n:Nat),.bool (lJ ks n).isSome]):=by
 refine gC.enter func204 rfl ntmps204 rfl ?_
 intro w0 R
 obtain ⟨cs,hr,hk⟩:=hv
 obtain ⟨ao,c,rfl,hc⟩:=hr.form
 have LU:=nr.1
 refine g_ [9,710,200,12] ?_
 refine aC (fun z:Nat×Nat=>z.1≤z.2∧z.2≤ks.length∧(∀t (ht:t<ks.length),t<z.1→ks[t].num<n)∧(∀t (ht:t<ks.length),z.2≤t→n≤ks[t].num)) (fun z:Nat×Nat=>[(9,.int .i64 (z.1:Int)),(10,.int .i64 (z.2:Int))]) (fun z:Nat×Nat=>H) (fun z:Nat×Nat=>z.2-z.1) (⟨0,ks.length⟩) (show 0≤ks.length∧ks.length≤ks.length∧(∀t (ht:t<ks.length),t<0→ks[t].num<n)∧(∀t (ht:t<ks.length),ks.length≤t→n≤ks[t].num) from ⟨dN _,dA _,fun t ht h=>by omega,fun t ht h=>by omega⟩) (Sx.put rfl (Sx.put rfl (gL))) fc ?_
 rintro ⟨i,j⟩ hI
 replace hI:i≤j∧j≤ks.length∧(∀t (ht:t<ks.length),t<i→ks[t].num<n)∧(∀t (ht:t<ks.length),j≤t→n≤ks[t].num):=hI
 obtain ⟨A0,hj,Np,TM⟩:=hI
 change WC _ _ _ _ _ _ ([(9,.int .i64 (i:Int)),(10,.int .i64 (j:Int))]++_) (H)
 refine g_ [5,705,2] ?_
 refine gK rfl (fun wQ=>?_) fun wQ=>?_
 have hm:(i+j)/2<ks.length:=by omega
 obtain ⟨va,vr,hg,qK,nE⟩:=hk.at ((i+j)/2) hm
 have rv:=F6 nr hm
 refine g_ [7,703] ?_
 refine ae rfl (bM _ fa fa rfl rfl) ?_
 refine ae rfl (cJ _ 1 rfl rfl rfl rfl) ?_
 refine af (t:=22) (v:=.int .u64 (((i+j)/2:Nat):Int)) rfl (congrArg (Value.int .u64) (by rw[fe,dX,eZ];omega)) ?_
 refine ae rfl (bQ fa fa rfl gz gz) ?_
 refine g_ [8] ?_
 refine cf (e:=200) (s:=6) fa fa fa rfl rfl (rfl) (hr.mono hZ) (hg) gA gz (hm) rfl rfl ?_
 intro p27
 refine g_ [1] ?_
 refine WL.r rfl (iE.val call205 rfl rfl) (QC _ va vr (bG qK).one (bG nE).one n rv.2.1 rv.2.2.1 _) (g_ [705,2] ?_)
 refine gK rfl (fun mU=>?_) fun mU=>?_
 have kD:ks[(i+j)/2].num<n:=by
   revert mU
   split
   · intro _;assumption
   split<;>omega
 refine g_ [2,703,3] ?_
 exact ai (⟨(i+j)/2+1,j⟩) (show ((i+j)/2+1)≤j∧j≤ks.length∧(∀t (ht:t<ks.length),t<((i+j)/2+1)→ks[t].num<n)∧(∀t (ht:t<ks.length),j≤t→n≤ks[t].num) from ⟨by omega,by omega,fun t ht h=>by
     rcases Nat.lt_or_ge t ((i+j)/2) with h5|h5
     · have:=DZ nr h5 hm;omega
     obtain rfl:t=(i+j)/2:=by omega
     exact kD,TM⟩) (show j-((i+j)/2+1)<j-i by omega) (Sx.put rfl (Sx.put rfl (gL))) fc
 have kD:¬ks[(i+j)/2].num<n:=by
   revert mU
   split
   · omega
   intro _;assumption
 refine g_ [5] ?_
 exact ai (⟨i,(i+j)/2⟩) (show i≤((i+j)/2)∧((i+j)/2)≤ks.length∧(∀t (ht:t<ks.length),t<i→ks[t].num<n)∧(∀t (ht:t<ks.length),((i+j)/2)≤t→n≤ks[t].num) from ⟨by omega,by omega,Np,fun t ht h=>by
     rcases Nat.lt_or_ge ((i+j)/2) t with h5|h5
     · have:=DZ nr h5 ht;omega
     obtain rfl:t=(i+j)/2:=by omega
     omega⟩) (show ((i+j)/2)-i<j-i by omega) (Sx.put rfl (Sx.put rfl (gL))) fc
 obtain rfl:i=j:=by omega
 have CX:pos ks n=i:=pos_eq hj Np fun h=>TM i h (dA _)
 refine g_ [10,705,1] ?_
 refine ag (t:=39) rfl (fun qp=>?_) (fun qp=>?_)
 refine g_ [3] ?_
 have hm:i<ks.length:=by omega
 obtain ⟨va,vr,hg,qK,nE⟩:=hk.at i hm
 have rv:=F6 nr hm
 obtain ⟨lb,lf,lcs,lT,lfr,lex,Ly,_,No,Nl⟩:=hr.Bj gz
 refine jx 39 rfl rfl rfl (Yd.indexAddr (e:=200) (s:=6) (b:=lb) (o:=lf) (n:=ks.length) (c:=c) fa fa (congrArg (fun q=>some (Value.slice q ks.length c)) Ly) rfl gz gz) ?_
 refine aS (dj:=39) rfl rfl rfl (aJ (n:=6) (b:=lb) (o:=lf+(i:Int).toNat*6) (cs:=lcs) (vs:=kc ks[i] va vr) fa rfl No rfl (Wm Nl (by rw[hk.len];omega) hg) ⟨_,rfl,?_⟩)
 refine g_ [1] ?_
 refine bq (dj:=39) rfl rfl rfl (iE.val call205 rfl rfl) (QC _ va vr (bG qK).one (bG nE).one n rv.2.1 rv.2.2.1 _) (g_ [701,6] ?_)
 refine ay results204 rfl rfl ?_
 rotate_left
 refine g_ [14] ?_
 refine ay results204 rfl rfl ?_
 rotate_left
 all_goals
  refine ⟨?_,rfl⟩
  subst CX
  refine congrArg (fun q=>Value.tuple #[Value.int IntKind.i64 (pos ks n:Nat),Value.bool q]) ?_
  rcases SG nr (n:=n) with ⟨e1,e2⟩|⟨qH,e1,e2⟩
  · rw [e1,Option.isSome_none]
    all_goals first
    |rfl
    | (have e3:=e2 gz
       refine decide_eq_false fun h9=>?_
       by_cases h5:ks[pos ks n].num<n
       · rw[dx h5] at h9;omega
       rw[dp h5] at h9
       by_cases h6:n<ks[pos ks n].num
       · rw[dx h6] at h9;omega
       omega)
  rw[e2,Option.isSome_some]
  first
  |(rw[dz,dp gz,dp gz])
  |omega
theorem Sc (e:BitVec 32) (v:Value) (ks:List Kp) (H:List Ck) (hv:KV v ks H) (nr:lP ks) (o:BitVec 32) (s:Int) (u:Bool) (h0:0≤s) (h:s<16):Reads prog 139 [.agg #[.int .u32 e.toNat,v],.agg (N5 o s u).toArray] H (.tuple #[.int .i64 (pos ks (kx o s u):Nat),.bool (lJ ks (kx o s u)).isSome]):=by
 refine gC.enter func139 rfl ntmps139 rfl ?_
 intro w0 R
 refine gY (iV fun b2=>?_)
 refine iV fun b3=>?_
 refine g_ [5,509] ?_
 refine w_ [1001,0,1,2003,2] ?_
 refine jy 3 [2] rfl call196 rfl (J9 o s u h0 h _) ax ?_
 refine jy 4 [3,1] rfl call204 rfl (Y7 v ks _ (hv.mono hZ) nr (kx o s u)) ax ?_
 refine w_ [5,6] ?_
 refine gD 7 ?_
 refine jm ?_
 refine gG ?_
 refine gD 8 ?_
 refine jm ?_
 refine gG ?_
 refine gM ?_
 refine g_ [2] ?_
 refine gH H ?_
 exact ay results139 rfl rfl (⟨rfl,rfl⟩)
theorem OJ (k:Kp) (va vr:Value) (H:List Ck) (qK:Bs va k.asked H) (nE:Bs vr k.iq H) (hla:k.asked.length≤1000000) (hlr:k.iq.length≤1000000):gC prog 142 [.agg (kc k va vr).toArray] H fun r gr=>∃wa wr A B,r=.agg (kc k wa wr).toArray∧Ob 5 wa k.asked A∧Ob 5 wr k.iq B∧gr=A++(B++H):=by
 refine gC.enter func142 rfl ntmps142 rfl ?_
 intro w0 R
 obtain ⟨ao,ac,rfl,Ct⟩:=qK.form
 obtain ⟨ro,rc,rfl,Ui⟩:=nE.form
 refine gY (iV fun b1=>?_)
 refine iS lG fun b2=>?_
 refine E1 (WL.h rfl (aU (e:=5) [] fa fa fa rfl rfl fa fun b=>⟨_,rfl,?_⟩))
 refine g_ [103,1] ?_
 refine WL.h rfl (aZ (e:=5) (zs:=[.int .u8 0]) fa fa rfl rfl rfl (Ob.block b [] (by simp)) fc (qK.mono hZ) (by simp;omega) fun wa A hA=>⟨_,rfl,?_⟩)
 rw[eC] at hA
 obtain ⟨o1,c1,rfl,lX⟩:=hA.form
 refine g_ [103,5] ?_
 refine WL.h rfl (aU (e:=5) [] fa fa fa rfl rfl fa fun b=>⟨_,rfl,?_⟩)
 refine g_ [105,1] ?_
 refine WL.h rfl (aZ (e:=5) (zs:=[.int .u8 0]) fa fa rfl rfl rfl (Ob.block b [] (by simp)) fc (nE.mono hZ) (by simp;omega) fun wr B hB=>⟨_,rfl,?_⟩)
 rw[eC] at hB
 obtain ⟨o2,c2,rfl,tK⟩:=hB.form
 refine g_ [105,5,406,306,3] ?_
 refine bH (s:=6) (A++(B++H)) results142 fa rfl gO gA fc ?_
 exact ⟨_,_,A,B,rfl,hA,hB,rfl⟩
theorem QI (e:BitVec 32) (v:Value) (ks:List Kp) (H:List Ck) (hv:KV v ks H) (nr:lP ks):gC prog 130 [.agg #[.int .u32 e.toNat,v]] H fun r gr=>∃w D,r=.agg #[.int .u32 e.toNat,w]∧rI 5 200 w ks D∧gr=D++H:=by
 refine gC.enter func130 rfl ntmps130 rfl ?_
 intro w0 R
 obtain ⟨cs,hr,hk⟩:=hv
 obtain ⟨ao,c,rfl,hc⟩:=hr.form
 have LU:=nr.1
 refine gY (iV fun b1=>?_)
 refine WL.h rfl (Hd.alloc (zs:=[.int .u32 0,.slice none 0 0]) fa fun b2=>⟨_,rfl,?_⟩)
 refine g_ [10,101,1,710,200,4] ?_
 refine aC (fun z:Nat×Value×List Value×List Ck×List Ck=>z.1≤ks.length∧il z.2.1 z.1 z.2.2.1 200 6 z.2.2.2.1∧nz 5 z.2.2.1 (ks.take z.1) z.2.2.2.2) (fun z:Nat×Value×List Value×List Ck×List Ck=>[(9,.int .i64 (z.1:Int)),(3,z.2.1)]) (fun z:Nat×Value×List Value×List Ck×List Ck=>z.2.2.2.1++(z.2.2.2.2++(row b2 [.int .u32 0,.slice none 0 0] 89::row b1 [.int .u32 e.toNat,.slice ao ks.length c] 89::H))) (fun z:Nat×Value×List Value×List Ck×List Ck=>ks.length-z.1) (⟨0,.slice none 0 0,[],[],[]⟩) (show 0≤ks.length∧il (.slice none 0 0) 0 [] 200 6 []∧nz 5 [] (ks.take 0) [] from ⟨dN _,il.nil _ _,by rw[fJ];exact .nil⟩) (Sx.put rfl (Sx.put rfl (gL))) fc ?_
 rintro ⟨i,vl,cl,Cl,Dl⟩ hI
 replace hI:i≤ks.length∧il vl i cl 200 6 Cl∧nz 5 cl (ks.take i) Dl:=hI
 obtain ⟨hi,Mn,Ml⟩:=hI
 change WC _ _ _ _ _ _ ([(9,.int .i64 (i:Int)),(3,vl)]++_) (Cl++(Dl++(row b2 [.int .u32 0,.slice none 0 0] 89::row b1 [.int .u32 e.toNat,.slice ao ks.length c] 89::H)))
 obtain ⟨lo,lc,rfl,hlc⟩:=Mn.form
 refine g_ [2,705,3] ?_
 refine gK rfl (fun re=>?_) fun re=>?_
 have gQ:i<ks.length:=by omega
 obtain ⟨va,vr,hg,qK,nE⟩:=hk.at i gQ
 have rv:=F6 nr gQ
 refine g_ [6] ?_
 refine cf (e:=200) (s:=6) fa fa fa rfl rfl (rfl) (hr.mono hZ) (hg) gA gz (gQ) rfl rfl ?_
 intro p11
 refine iS lG fun b5=>?_
 refine WL.s (aH (n:=6) fa rfl rfl gA (xp (bG qK).one (bG nE).one) ir gA ⟨rfl,?_⟩)
 refine g_ [4,406] ?_
 refine c_ call142 rfl (OJ ks[i] va vr H qK nE (by have:=rv.2.2.2.1;omega) (by have:=rv.2.2.2.2.1;omega)) ?_
 rintro x H1 ⟨wa,wr,A,B,rfl,hA,hB,rfl⟩
 obtain ⟨o1,c1,rfl,lX⟩:=hA.form
 obtain ⟨o2,c2,rfl,tK⟩:=hB.form
 refine WL.h rfl (aX (e:=200) (sz:=6) (zs:=lG) fa fa fa rfl rfl gA fa fun vH=>⟨_,rfl,?_⟩)
 refine WL.h rfl (aT (e:=200) (sz:=6) (bytes:=80) (zs:=lG) fa fa rfl gz rfl rfl (Mn) fc gO gA (xp gA gA) (by simp only[maxLen];omega) gz fun v2 C2 h2=>⟨_,rfl,?_⟩)
 refine g_ [5,703,2] ?_
 exact ai (⟨i+1,v2,cl++kc ks[i] (.slice o1 ks[i].asked.length c1) (.slice o2 ks[i].iq.length c2),C2,Dl++(A++B)⟩) (show (i+1)≤ks.length∧il v2 (i+1) (cl++kc ks[i] (.slice o1 ks[i].asked.length c1) (.slice o2 ks[i].iq.length c2)) 200 6 C2∧nz 5 (cl++kc ks[i] (.slice o1 ks[i].asked.length c1) (.slice o2 ks[i].iq.length c2)) (ks.take (i+1)) (Dl++(A++B)) from ⟨by omega,h2,by rw[dJ gQ];exact Ml.append (nz.aeS hA hB)⟩) (show ks.length-(i+1)<ks.length-i by omega) (Sx.put rfl (Sx.put rfl (gL))) fc
 obtain rfl:i=ks.length:=by omega
 rw[eH] at Ml
 refine g_ [8,101,5,402,302,3] ?_
 refine bH (s:=2) (Cl++(Dl++H)) results130 fa rfl gO gA fc ?_
 exact ⟨_,Cl++Dl,rfl,⟨cl,Cl,Dl,Mn,Ml,rfl⟩,by rw[dD]⟩
theorem af5 (e:BitVec 32) (v:Value) (ks:List Kp) (H:List Ck) (hv:KV v ks H) (hl:ks.length≤9223372036854775807) (x:BitVec 32):gC prog 78 [.agg #[.int .u32 e.toNat,v],.int .u32 x.toNat] H fun r gr=>∃w D,r=.tuple #[.agg #[.int .u32 (rB e ks x).1.toNat,w],.int .i64 (rB e ks x).2.2]∧rI 5 200 w (rB e ks x).2.1 D∧gr=D++H:=by
 refine gC.enter func78 rfl ntmps78 rfl ?_
 intro w0 R
 obtain ⟨ao,c,rfl,hc⟩:=hv.form
 refine gY (iV fun b2=>?_)
 refine WL.h rfl (Hd.alloc (zs:=[.int .u32 0,.slice none 0 0]) fa fun b4=>⟨_,rfl,?_⟩)
 refine g_ [7,402] ?_
 refine iG call128 rfl (Ln e _ ks _ (hv.mono hZ) hl) ?_
 refine g_ [702,3] ?_
 refine gK rfl (fun h9=>?_) fun h9=>?_
 have hn:¬lP ks:=fun h=>by rw[dx h] at h9;exact h9 rfl
 refine gY (kJ [(0,1),(1,1)] [.int .u32 0,.slice none 0 0] (g_ [302,6] ?_))
 refine au (s:=2) H results78 fa rfl rfl gO gA fc ?_
 rw[show rB e ks x=(0#32,[],2) from dx hn]
 exact ⟨_,[],rfl,rI.nil _ _,rfl⟩
 have hy:lP ks:=dW fun h=>by rw[dp h] at h9;exact h9 gB
 refine g_ [3,100,1,705,3] ?_
 refine gK rfl (fun oN=>?_) fun oN=>?_
 refine gY (kJ [(0,1),(1,1)] [.int .u32 0,.slice none 0 0] (g_ [302,6] ?_))
 refine au (s:=2) H results78 fa rfl rfl gO gA fc ?_
 rw[show rB e ks x=(0#32,[],72) by unfold rB;rw[dp (fK hy),dx gz]]
 exact ⟨_,[],rfl,rI.nil _ _,rfl⟩
 refine g_ [5,402] ?_
 refine c_ call130 rfl (QI e _ ks H hv (by assumption)) ?_
 rintro r2 H1 ⟨w,D,rfl,hF,rfl⟩
 obtain ⟨wo,wc,rfl⟩:=hF.form
 refine g_ [302,5,100,5,402,302,4] ?_
 refine au (s:=2) (D++H) results78 fa rfl rfl gO gA fc ?_
 rw[show rB e ks x=(x,ks,0) by unfold rB;rw[dp (fK hy),dp gz]]
 exact ⟨_,D,rfl,hF,rfl⟩
theorem R6 (e:BitVec 32) (v:Value) (ks:List Kp) (H:List Ck) (hv:KV v ks H) (hl:ks.length≤9223372036854775807) (o:BitVec 32) (s:Int) (u:Bool):gC prog 129 [.agg #[.int .u32 e.toNat,v],.int .u32 o.toNat,.int .i64 s,.bool u] H fun r gr=>∃wa wr A B,r=.tuple #[.agg (kc ((findF ks o s u).getD Kp.z) wa wr).toArray,.bool (findF ks o s u).isSome]∧Ob 5 wa ((findF ks o s u).getD Kp.z).asked A∧Ob 5 wr ((findF ks o s u).getD Kp.z).iq B∧gr=A++(B++H):=by
 refine gC.enter func129 rfl ntmps129 rfl ?_
 intro w0 R
 have nD:=hv
 obtain ⟨cs,hr,hk⟩:=nD
 obtain ⟨ao,c,rfl,hc⟩:=hr.form
 refine gY (iV fun b4=>?_)
 refine iS lG fun b8=>?_
 refine g_ [6,402] ?_
 refine iG call128 rfl (Ln e _ ks _ (hv.mono hZ) hl) ?_
 refine g_ [702,1] ?_
 refine ag (t:=15) rfl (fun rS=>?_) (fun rS=>?_)
 refine g_ [12] ?_
 refine kJ pE lG (g_ [306,5] ?_)
 refine au (s:=6) H results129 fa rfl rfl gO gA fc ?_
 rotate_left
 refine g_ [1,705,2] ?_
 refine aG (t:=19) rfl (fun CG=>?_) (fun CG=>?_)
 refine g_ [8] ?_
 refine kJ pE lG (g_ [306,5] ?_)
 refine au (s:=6) H results129 fa rfl rfl gO gA fc ?_
 rotate_left
 refine g_ [1,708,3] ?_
 refine WC.cond rfl (fun kS=>?_) (fun kS=>?_)
 refine gY (kJ pE lG (g_ [306,5] ?_))
 refine au (s:=6) H results129 fa rfl rfl gO gA fc ?_
 rotate_left
 refine g_ [4,402] ?_
 have mI:lP ks∧0≤s∧s<16:=⟨dW fun h=>(by simp only[dp h] at rS;revert rS;decide),by simp only[dz,fi] at*;omega,by simp only[dz,fi] at*;omega⟩
 have Tw:=LF (o:=o) (u:=u) mI.1 mI.2.1 mI.2.2
 refine g_ [3] ?_
 refine ae rfl (aj (pl:=[(0,1),(1,1),(2,1)]) (zs:=[.int .u32 0,.int .i64 0,.bool false]) (parts:=[(0,.tmp 26),(1,.tmp 27),(2,.tmp 28)]) (vs:=[(0,_),(1,_),(2,_)]) (cells:=[_,_,_]) fa fa rfl rfl) ?_
 refine iG call139 rfl (Sc e _ ks _ (hv.mono hZ) mI.1 o s u mI.2.1 mI.2.2) ?_
 refine g_ [11,709,2] ?_
 refine WC.cond rfl (fun rP=>?_) (fun rP=>?_)
 have jf:findF ks o s u=none:=by
   rw[Tw]
   simpa using rP
 refine gY (kJ pE lG (g_ [306,5] ?_))
 refine au (s:=6) H results129 fa rfl rfl gO gA fc ?_
 rotate_left
 have JA:(lJ ks (kx o s u)).isSome=true:=by simpa using rP
 obtain ⟨gQ,GY,uO⟩:∃hi:pos ks (kx o s u)<ks.length,ks[pos ks (kx o s u)].num=kx o s u∧lJ ks (kx o s u)=some ks[pos ks (kx o s u)]:=by
   rcases SG mI.1 (n:=kx o s u) with ⟨e1,e2⟩|h9
   · rw[e1] at JA;cases JA
   exact h9
 refine g_ [4,101,2] ?_
 obtain ⟨va,vr,hg,qK,nE⟩:=hk.at (pos ks (kx o s u)) gQ
 have rv:=F6 mI.1 gQ
 refine cf (e:=200) (s:=6) fa fa fa rfl rfl (rfl) (hr.mono hZ) (hg) gA gz (gQ) rfl rfl ?_
 intro p39
 refine c_ call142 rfl (OJ ks[pos ks (kx o s u)] va vr H qK nE (by have:=rv.2.2.2.1;omega) (by have:=rv.2.2.2.2.1;omega)) ?_
 rintro x H1 ⟨wa,wr,A,B,rfl,hA,hB,rfl⟩
 obtain ⟨o1,c1,rfl,lX⟩:=hA.form
 obtain ⟨o2,c2,rfl,tK⟩:=hB.form
 refine g_ [306,4] ?_
 refine au (s:=6) (A++(B++H)) results129 fa rfl rfl gO gA fc ?_
 rotate_left
 all_goals
  first
    | (have e9:findF ks o s u=some ks[pos ks (kx o s u)]:=by rw[Tw,uO]
       rw[e9]
       exact ⟨_,_,A,B,rfl,hA,hB,rfl⟩)
    | (rw[jf]
       exact ⟨_,_,[],[],rfl,Ob.nil _,Ob.nil _,rfl⟩)
    | (have e9:findF ks o s u=none:=aao fun ⟨g1,g2,g3⟩=>by
         first
         |(simp only[dx g1] at rS;revert rS;decide)
         |(simp only[dz,fi] at*;omega)
       rw[e9]
       exact ⟨_,_,[],[],rfl,Ob.nil _,Ob.nil _,rfl⟩)
theorem acI (v:Value) (n:Nat) (cells:List Value) (C:List Ck) (own:il v n cells 200 6 C) (h1:∀u∈cells,u.oneCell'=true) (hn:n≤1000000) (i:Nat) (hi:i≤n) (rb:Nat) (x:List Value) (hx:x.length=6) (yp:∀u∈x,u.oneCell'=true):gC prog 141 [v,.int .i64 (i:Int),.slice (some ⟨rb,0,none⟩) 1 1] (C++[row rb x 200]) fun r gr=>il r (n+1) (cells.take (i*6)++(x++cells.drop (i*6))) 200 6 gr:=by
 refine gC.enter func141 rfl ntmps141 rfl ?_
 intro w0 R
 obtain ⟨ao,cap,rfl,I6⟩:=own.form
 have qF:=own.len
 refine g_ [9] ?_
 refine ae rfl (Yd.slice (i:=i) (j:=n) (e:=200) (s:=6) fa fa rfl ⟨_,_,rfl,rfl⟩ rfl hi I6) ?_
 refine g_ [5,710,200,7,701] ?_
 refine af (t:=16) (v:=.bool false) rfl (congrArg Value.bool (by simp)) ?_
 refine g_ [8,710,200,8,701,2] ?_
 refine gK rfl (fun kS=>?_) fun kS=>?_
 obtain rfl:i=n:=by omega
 refine g_ [4] ?_
 refine WL.h rfl (cQ (e:=200) (sz:=6) (bytes:=80) (zs:=lG) fa fa rfl gz rfl rfl own fc (.inr ⟨rb,0,1,x,200,(0,0),true,rfl,dA _,gO,by simp⟩) gz yp (by simp only[maxLen];omega) gz fun v2 C2 h2=>⟨_,rfl,?_⟩)
 refine g_ [5] ?_
 refine gH C2 ?_
 refine aa results141 rfl ?_
 rw[dL gz,fv gz,eF]
 exact h2
 obtain ⟨b,sS,extra,e1,h2,h3,h4,h5,rfl⟩:∃(b sS:Nat) (extra:List Value),Value.slice ao n cap=.slice (some ⟨b,0,none⟩) n sS∧n≤sS∧sS≤maxLen∧cells.length=n*6∧extra.length=(sS-n)*6∧C=[row b (cells++extra) 200]:=by
   rcases own with ⟨_,h,_⟩|h
   · omega
   exact h
 simp only[dI,eD] at e1
 obtain ⟨rfl,rfl⟩:=e1
 simp only[maxLen] at h3
 have sH:(cells.take (i*6)).length=i*6:=by rw[dE];omega
 have sB:(cells.drop (i*6)).length=(n-i)*6:=by rw[eg];omega
 refine g_ [7,703,1] ?_
 refine ae rfl (Yd.Rg (e:=200) fa rfl) ?_
 refine g_ [707,2] ?_
 refine gK rfl (fun mU=>?_) fun mU=>?_
 refine g_ [4] ?_
 refine ae rfl (bJ (j:=i) (e:=200) (s:=6) fa fa rfl rfl rfl gz) ?_
 refine g_ [2,703,1,704] ?_
 refine WL.h rfl (c8 (i:=i) (k:=n+1-i) (zS:=cells.take (i*6)) (e:=200) (sz:=6) (bytes:=80) (zs:=lG) fa underlying3 fa rfl gz rfl (by exact congrArg (fun q=>some (Value.int .i64 q)) gz) ((own.rs.upto qF hi).mono hZ) sH gz gz (by simp only[maxLen];omega) gz fun b2 c2 nW g1 g2 g3=>⟨_,rfl,?_⟩)
 refine g_ [7] ?_
 refine ae rfl (bh (i:=i) (e:=200) (s:=6) fa fa rfl rfl gz gz gz gz) ?_
 refine g_ [1] ?_
 refine WL.h rfl (bB (uA:=cells.take (i*6)++(x++nW.drop x.length)) (q:=1) (e:=200) (sz:=6) (bytes:=80) (zs:=lG) fa fa rfl rfl ir (.inr ⟨rb,0,1,x,200,(0,0),true,rfl,dA _,gO,by simp⟩) (by show min _ _=_;omega) gz yp (by rw[dr];omega) (UI _ _ _ _ sH) ⟨_,rfl,?_⟩)
 refine g_ [3,509] ?_
 refine w_ [0,1,2,1003,3] ?_
 refine gW 4 [3,0] rfl (bh (i:=i+1) (e:=200) (s:=6) fa fa rfl rfl gz gz gz gz) fa ?_
 refine w_ [5,6] ?_
 refine gW 7 [6,5] rfl (bh (i:=i) (e:=200) (s:=6) fa fa rfl rfl gz gz gz gz) fa ?_
 refine gD 8 ?_
 refine SO.h rfl Wt.none rfl (bB (uA:=cells.take (i*6)++(x++(cells.drop (i*6)++(nW.drop x.length).drop (cells.drop (i*6)).length))) (q:=n-i) (news:=cells.drop (i*6)) (e:=200) (sz:=6) (bytes:=80) (zs:=lG) fa fa rfl rfl ir (.inr ⟨b,i*6,cap-i,cells++extra,200,(0,0),true,rfl,by omega,gO,by
     rw[eN gz,dQ gz,dL gz]⟩) (by show min _ _=_;omega) sB (fun u hu=>h1 u (List.mem_of_mem_drop hu)) (by simp only[dr,eg];omega) (UJ _ _ _ _ _ gz) ⟨_,rfl,?_⟩)
 refine gG ?_
 refine gM ?_
 refine g_ [9] ?_
 refine gH ([row b2 (cells.take (i*6)++(x++(cells.drop (i*6)++(nW.drop x.length).drop (cells.drop (i*6)).length))) 200]) ?_
 refine aa results141 rfl ?_
 exact .inr ⟨b2,c2,(nW.drop x.length).drop (cells.drop (i*6)).length,by rw[show i+(n+1-i)=n+1 by omega],by omega,g2,by simp only[dr];omega,by simp only[eg];omega,by simp only[dD]⟩
 refine g_ [7,703] ?_
 refine ae rfl (bJ (j:=n+1) (e:=200) (s:=6) fa fa rfl rfl gz gz) ?_
 refine g_ [10,703] ?_
 refine ae rfl (bh (i:=i+1) (e:=200) (s:=6) fa fa rfl rfl gz gz gz gz) ?_
 refine WL.h rfl (Hd.VK (tS:=87) (tR:=4) (e:=200) (sz:=6) func206 fa fa fa fa fa fa rfl rfl ir ir (by intro h0;have:=congrArg List.length h0;rw[dr,dR] at this;omega) ⟨_,rfl,?_⟩)
 refine g_ [709] ?_
 refine af (t:=68) (v:=.bool true) rfl (congrArg Value.bool gA) ?_
 refine g_ [4,509] ?_
 refine w_ [0,1,2,1003,3] ?_
 refine gW 4 [3,0] rfl (bh (i:=i+1) (e:=200) (s:=6) fa fa rfl rfl gz gz gz gz) fa ?_
 refine w_ [5,6] ?_
 refine gW 7 [6,5] rfl (bh (i:=i) (e:=200) (s:=6) fa fa rfl rfl gz gz gz gz) fa ?_
 refine gD 8 ?_
 refine SO.h rfl Wt.none rfl (bB (q:=n-i) (news:=cells.drop (i*6)) (e:=200) (sz:=6) (bytes:=80) (zs:=lG) fa fa rfl rfl ir (.inr ⟨b,i*6,cap-i,cells++extra,200,(0,0),true,rfl,by omega,gO,by
     rw[eN gz,dQ gz,dL gz]⟩) (by show min _ _=_;omega) sB (fun u hu=>h1 u (List.mem_of_mem_drop hu)) (by simp only[dr,eg];omega) rfl ⟨_,rfl,?_⟩)
 refine gG ?_
 refine gM ?_
 refine g_ [5] ?_
 refine ae rfl (bh (i:=i) (e:=200) (s:=6) fa fa rfl rfl gz gz gz gz) ?_
 refine g_ [1] ?_
 have lA:=show i*6+x.length≤(List.take ((i+1)*6) (cells++extra)++(List.drop (i*6) cells++List.drop ((i+1)*6+(List.drop (i*6) cells).length) (cells++extra))).length by
   rw[dr,dE,dr,qF,h5];omega
 have hE:(i+1)*6+(cells.drop (i*6)).length≤(cells.take (i*6)).length+((cells.drop (i*6)).length+extra.length):=by
   rw[sH,sB,h5];omega
 have ho:i*6+x.length=(i+1)*6:=by rw[hx];omega
 have l8:=UK (cells.take (i*6)) x extra (cells.drop (i*6)) (i*6) ((i+1)*6) sH ho hE
 rw[←dD (cells.take (i*6)) (cells.drop (i*6)) extra,fz] at l8
 refine WL.h rfl (bB (uA:=cells.take (i*6)++(x++(cells.drop (i*6)++extra.drop x.length))) (q:=1) (e:=200) (sz:=6) (bytes:=80) (zs:=lG) fa fa rfl rfl ir (.inr ⟨rb,0,1,x,200,(0,0),true,rfl,dA _,gO,by simp⟩) (by show min _ _=_;omega) gz yp lA l8 ⟨_,rfl,?_⟩)
 refine g_ [10] ?_
 refine gH ([row b (cells.take (i*6)++(x++(cells.drop (i*6)++extra.drop x.length))) 200]) ?_
 refine aa results141 rfl ?_
 exact .inr ⟨b,cap,extra.drop x.length,rfl,by omega,by simp only[maxLen];omega,by simp only[dr];omega,by simp only[eg];omega,by simp only[dD]⟩
end Go.Proofs.YtchdmlkiggdhaaaGreat
