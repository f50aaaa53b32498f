/-
  Lemmas and walks that TopOne and TopSolo stands on (part 9); no condition.
-/
import Derived.Test.YtchdmlkiggdhaaaGreatTopB8
set_option linter.unusedVariables false
set_option linter.unusedSimpArgs false
set_option maxHeartbeats 4000000
namespace Go.Proofs.YtchdmlkiggdhaaaGreat
open Go.SL Top Go.Proofs.Tryz
attribute [local irreducible] WL WC DN gZ iX
theorem NY (pj pd:Nat) (ss:List gR) (safe:BitVec 64) (CJ:List Ck) (hJ:na 223 229 248 3 77 pj pd ss safe CJ) (gI:List (BitVec 8)) (n:Nat) (CD:List Ck) (hD:jo 97 127 129 pd gI n CD) (hj:iM ss) (hH:Holds gI ss) (hb:(gh ss).length≤125) (hn:n≤800) (e:En) (he:iZ e) (ja:mn (gh ss++[e])) (zG:(iB e).length≤30) (vk vd:Value) (H:List Ck) (hk:Bs vk e.key H) (hd:Bs vd e.data H):gC prog 68 [ptr pj,.agg (enc e vk vd).toArray] (CJ++(CD++H)) fun r gr=>∃iQ jN ob sN jb,r=.int .i64 0∧na 223 229 248 3 77 pj pd iQ safe sN∧jo 97 127 129 pd jN ob jb∧Holds jN iQ∧iM iQ∧gh iQ=gh ss++[e]∧ob≤n+32∧gr=sN++(jb++H):=by
 refine gC.enter func68 rfl ntmps68 rfl ?_
 intro w0 R
 have sy:=hJ
 have uL:=hj.jW gz
 obtain ⟨vs,ps,Cv,D,rfl,kT,hS⟩:=hJ
 have lx:=hS.len
 obtain ⟨ko,kc,rfl,_⟩:=hk.form
 obtain ⟨xo,xc,rfl,_⟩:=hd.form
 have uK:=BU he
 have zl:(Sum.j5 (iB e)).length=(iB e).length+8:=Ge _
 have pQ:e.gF-1#64=js (gh ss):=by
   have:=ja.gF (gh ss).length (by simp)
   rw[eO rfl] at this
   apply dB
   rw[fx (by rw[gq];show 1≤_;omega),nO gz]
   show _-1=_
   omega
 have Tc:∀x,(gh ss).getLast?=some x→iZ x∧yF x e:=fun x hx=>by
   rw[fE] at hx
   obtain ⟨h1,h2⟩:=dV.1 hx
   have:=ja.mG.nx ((gh ss).length-1) (by rw[dr,dZ];omega)
   rw[eY h1,h2] at this
   simp only[show (gh ss).length-1+1=(gh ss).length by omega,eO] at this
   exact ⟨hj.row.mG.ok x (by rw[←h2];exact dG h1),this⟩
 refine gY (iV fun b3=>?_)
 refine g_ [7] ?_
 refine iG call103 rfl (Dg pj pd _ _ _ (dt _ (dw _ dy))) (g_ [6,702,1020,7] ?_)
 refine WL.h rfl (aF (n:=11) (cs:=enc e _ _) fa rfl gO rfl ⟨_,rfl,?_⟩)
 refine c_ call108 rfl (D3 e he _ _ H hk hd) ?_
 rintro DH BI ⟨v6,A,rfl,hA,rfl⟩
 obtain ⟨o6,c6,rfl,_⟩:=hA.form
 refine g_ [11,702,1028,9] ?_
 refine c_ call109 rfl (ac5 pj pd ss safe _ sy.v gz gz) ?_
 rintro x32 XX ⟨aa2,x,uk,ud,oQ,rfl,⟨uo,uc,rfl⟩,⟨wo,wc,rfl⟩,hx,Uz⟩
 subst aa2
 refine g_ [3] ?_
 refine iS lh fun b8=>?_
 refine WL.s (aH (n:=11) fa rfl rfl gA (sV rfl rfl) ir gA ⟨rfl,?_⟩)
 refine g_ [3] ?_
 refine aI (fun _z:Unit=>True) (fun _z:Unit=>[(49,.bool false)]) (fun _z:Unit=>(row pj [ptr pd,.int .i64 32,vs,.int .u64 safe.toNat,.bool false] 223::(Cv++D))++(A++(row b3 (enc e (.slice ko e.key.length kc) (.slice xo e.data.length xc)) 77::(CD++H)))) ?_ ?_
 refine g_ [515] ?_
 refine w_ [1001,0,1] ?_
 refine gW 2 [1] rfl (aL _ (1#64) rfl rfl rfl rfl) fa ?_
 refine w_ [3] ?_
 refine jy 4 [3] rfl call64 rfl (qM pj pd ss safe _ sy.v gz hj gz) fc ?_
 refine gW 5 [4,2] rfl (bA _ _ rfl rfl rfl rfl) fa ?_
 refine lL (fun h=>h pQ) ?_
 refine w_ [6,7,8] ?_
 refine bR (fun GK=>?_) (fun GK=>?_)
 refine ki 9 [8] 43 rfl rfl rfl (aQ (n:=11) (cs:=enc x _ _) fa rfl gO rfl) ?_
 refine ki 10 [8] 43 rfl rfl rfl (aQ (n:=11) (cs:=enc e _ _) fa rfl gO rfl) ?_
 refine ny (iw (i:=11) [10,9,8] rfl (aO (aP (dj:=43) rfl rfl) (iE.func call110 rfl) (N0 x e (Tc x (hx GK).1).1 he (Tc x (hx GK).1).2 _ _ _ _ _ ((hx GK).2.1.mono (Sp.sub fc)) ((hx GK).2.2.mono (Sp.sub fc)) (hk.mono (Sp.sub fc)) (hd.mono (Sp.sub fc))) ax) fa) fa ?_
 refine w_ [1009,12,9001,13,14] ?_
 refine gM ?_
 exact aV (()) (eX) (Sx.put rfl (gL)) fc
 refine w_ [9,10,11,12,13,14] ?_
 refine gM ?_
 exact aV (()) (eX) (Sx.put rfl (gL)) fc
 intro _ _
 refine g_ [6] ?_
 refine c_ call111 rfl (V1 (.slice o6 (iB e).length c6) (iB e) A hA.bs gz) ?_
 rintro XD Qn ⟨v52,HZ,rfl,NB,rfl⟩
 rw[show Sum.Hz (iB e)=Sum.j5 (iB e) from dx gz] at NB
 obtain ⟨o52,Zc,rfl,_⟩:=NB.form
 refine g_ [10] ?_
 refine iG call104 rfl (Hp pj pd vs _ _ gO ps ss.length lx (kT.rs.mono (Sp.sub fc)) gz) ?_
 refine g_ [3] ?_
 refine aI (fun z:Bool=>(z=true∧(ss=[]∨∃a s,ss=a++[s]∧1024<(jw s).length+38))∨(z=false∧∃a s,ss=a++[s]∧(jw s).length+(Sum.j5 (iB e)).length≤1024)) (fun z:Bool=>[(13,.bool z)]) (fun z:Bool=>(row pj [ptr pd,.int .i64 32,vs,.int .u64 safe.toNat,.bool false] 223::(Cv++D))++(HZ++(A++(row b3 (enc e (.slice ko e.key.length kc) (.slice xo e.data.length xc)) 77::(CD++H))))) ?_ ?_
 refine g_ [2] ?_
 refine ae rfl (an underlying229 rfl rfl) (g_ [1] ?_)
 refine aG (t:=59) rfl (fun zr=>?_) (fun zr=>?_)
 refine g_ [14] ?_
 exact aV (true) (.inl ⟨rfl,.inl (dU (by rw[←lx,N7 zr];rfl))⟩) (Sx.put rfl (gL)) fc
 obtain ⟨q,hq⟩:∃q,ps.length=q+1:=by
   rcases Nat.eq_zero_or_pos ps.length with h0|h0
   · rw[dU h0] at zr;cases zr
   exact ⟨ps.length-1,by omega⟩
 obtain ⟨mM,KB,T2,sr,nW,kD,jV,ti,yo⟩:=hS.at q gz gz
 obtain ⟨yr,yq,rfl,_⟩:=yo.form
 have ajp:=(hj.at q gz).fit
 refine g_ [1] ?_
 refine af (t:=60) (v:=ptr ps[q]) rfl (congrArg Value.pointer (EP hq)) (g_ [1] ?_)
 refine af (t:=61) (v:=ptr ps[q]) rfl (congrArg Value.pointer (EP hq)) (g_ [1,1127] ?_)
 refine aS (dj:=59) rfl rfl rfl (ak fa rfl (aA fc kD) (pG jV) ⟨_,rfl,?_⟩)
 refine g_ [710,77] ?_
 refine bq (dj:=59) rfl rfl rfl (iE.func call112 rfl) (Hq ps[q] ss[q].no ss[q].first (ij ss[q]) (jI ss[q]) ss[q].l _ ((hS.at q gz gz).mono (Sp.sub fc)) ss[q].l.length (LB ss[q]).1 _ (LB ss[q]).2) ?_
 refine g_ [1,710,5,703,707,3] ?_
 have e9:ss=ss.take q++[ss[q]'gz]:=by rw[←dJ gz,dL gz]
 have vZ:∀z:Bool,z=decide ((1024:Int)<((jw (ss[q]'gz)).length:Int)+((Sum.j5 (iB e)).length:Int))→(z=true∧(ss=[]∨∃a s,ss=a++[s]∧1024<(jw s).length+38))∨(z=false∧∃a s,ss=a++[s]∧(jw s).length+(Sum.j5 (iB e)).length≤1024):=fun z hz=>by
   by_cases h9:(1024:Int)<((jw (ss[q]'gz)).length:Int)+((Sum.j5 (iB e)).length:Int)
   · exact .inl ⟨by rw[hz];exact fo h9,.inr ⟨_,_,e9,by omega⟩⟩
   exact .inr ⟨by rw[hz];exact decide_eq_false h9,_,_,e9,by omega⟩
 exact aV (_) (vZ _ rfl) (Sx.put rfl (gL)) fc
 intro z hz
 refine aI (fun z:Value×List Nat×Nat×List gR×gR×List (BitVec 8)×Nat×List Ck×List Ck×List Ck×List Ck=>kQ z.1 (z.2.2.2.1.length+1) ((z.2.1++[z.2.2.1]).map ptr) 229 1 z.2.2.2.2.2.2.2.1∧nJ 248 3 77 z.2.1 z.2.2.2.1 z.2.2.2.2.2.2.2.2.1∧uw 248 3 77 z.2.2.1 z.2.2.2.2.1 z.2.2.2.2.2.2.2.2.2.1∧jo 97 127 129 pd z.2.2.2.2.2.1 z.2.2.2.2.2.2.1 z.2.2.2.2.2.2.2.2.2.2∧Holds z.2.2.2.2.2.1 (z.2.2.2.1++[z.2.2.2.2.1])∧z.2.2.2.2.2.2.1≤n+16∧z.2.2.2.2.1.no.toNat=z.2.2.2.1.length∧(jw z.2.2.2.2.1).length≤1024∧(jw (z.2.2.2.2.1.snoc e)).length≤1024∧iM (z.2.2.2.1++[z.2.2.2.2.1.snoc e])∧gh (z.2.2.2.1++[z.2.2.2.2.1.snoc e])=gh ss++[e]) (fun z:Value×List Nat×Nat×List gR×gR×List (BitVec 8)×Nat×List Ck×List Ck×List Ck×List Ck=>[(12,ptr z.2.2.1),(7,.int .i64 0)]) (fun z:Value×List Nat×Nat×List gR×gR×List (BitVec 8)×Nat×List Ck×List Ck×List Ck×List Ck=>row pj [ptr pd,.int .i64 32,z.1,.int .u64 safe.toNat,.bool false] 223::(z.2.2.2.2.2.2.2.1++(z.2.2.2.2.2.2.2.2.1++(z.2.2.2.2.2.2.2.2.2.1++(HZ++(A++(z.2.2.2.2.2.2.2.2.2.2++H))))))) ?_ ?_
 refine g_ [5] ?_
 refine WC.cond rfl (fun Gl=>?_) (fun Gl=>?_)
 replace hz:ss=[]∨∃a s,ss=a++[s]∧1024<(jw s).length+38:=by
   rcases hz with ⟨_,q⟩|⟨q,_⟩
   · exact q
   rw[q] at Gl;cases Gl
 obtain ⟨vo,vc,rfl,_⟩:=kT.form
 refine g_ [2,510] ?_
 refine w_ [0,1,1002,2,3,3229,4,5,6,1001,7,8,1001,9,9001] ?_
 refine gM ?_
 refine g_ [8,101,1] ?_
 refine c_ call113 rfl (adg pj pd ss safe _ sy gI n CD hD hj gz gz e.gF []) ?_
 rintro x87 X7 ⟨p,Al,P7,rfl,aaW,aa1,rfl⟩
 refine WL.fit (C:=row pj [ptr pd,.int .i64 32,.slice vo ss.length vc,.int .u64 safe.toNat,.bool false] 223::(Cv++(D++(Al++(P7++(HZ++(A++(row b3 (enc e (.slice ko e.key.length kc) (.slice xo e.data.length xc)) 77::H)))))))) fc ?_
 refine g_ [10,702,1091,9,102,2] ?_
 refine WL.h rfl (bp (e:=229) (z:=.pointer none) fa fa fa rfl gA fun b99=>⟨_,rfl,?_⟩)
 refine WL.h rfl (bU (e:=229) (sz:=1) (bytes:=8) (zs:=[.pointer none]) (m:=1) fa fa rfl gz rfl rfl kT fc (cm gO) rfl (by intro u hu;rw[dH.1 hu];rfl) gz (by simp only[maxLen];omega) gz fun ajy XL SJ=>⟨_,rfl,?_⟩)
 obtain ⟨aeO,Zb,rfl,_⟩:=SJ.form
 refine g_ [1,102,2] ?_
 exact aV (⟨.slice aeO (ss.length+1) Zb,ps,p,ss,(⟨BitVec.ofNat 32 ss.length,e.gF,[]⟩:gR),lZ gI ss.length (ij (⟨BitVec.ofNat 32 ss.length,e.gF,[]⟩:gR)),n+16,XL,D,Al,P7⟩) (by
    obtain ⟨j1,j2⟩:=hj.yz hz ja zG gz
    have CB:(jw ((⟨BitVec.ofNat 32 ss.length,e.gF,[]⟩:gR).snoc e)).length≤1024:=j1.last.2.fit
    have qv:(jw (⟨BitVec.ofNat 32 ss.length,e.gF,[]⟩:gR)).length≤1024:=eJ (by rw[HE,dr];omega) CB
    exact ⟨by rw[fW];exact SJ,hS,aaW,aa1,ace hH gz (De qv),dA _,by show (BitVec.ofNat 32 ss.length).toNat=ss.length;rw[fg];omega,qv,CB,j1,j2⟩) (Sx.put rfl (Sx.put rfl (gL))) fc
 obtain ⟨a,s,rfl,Tx⟩:∃a s,ss=a++[s]∧(jw s).length+(Sum.j5 (iB e)).length≤1024:=by
   rcases hz with ⟨q,_⟩|⟨_,q⟩
   · rw[q] at Gl;cases Gl
   exact q
 obtain ⟨tq,p,pf,gP,rfl,rfl,jX,xX⟩:=hS.last
 refine g_ [1] ?_
 rw[show UX (tq++[p])=ptr p from congrArg Value.pointer (uW _ _)]
 exact aV (⟨vs,tq,p,a,s,gI,n,Cv,pf,gP,CD⟩) (by
    have rk:(jw (s.snoc e)).length≤1024:=by rw[HE,dr];omega
    obtain ⟨j1,j2⟩:=hj.add rk ja zG
    exact ⟨by rw[dr] at kT;exact kT,jX,xX,hD,hH,Nat.le_add_right _ _,hj.last.2.no,hj.last.2.fit,rk,j1,j2⟩) (Sx.put rfl (Sx.put rfl (gL))) fc
 rintro ⟨DE,xy,p9,a9,s9,tY,n9,uu,D9,C9,oI⟩ ⟨nD,lW,wV,pY,nk,sF,Nx,nZ,zk,ns,qG⟩
 dsimp only at nD lW wV pY nk sF Nx nZ zk ns qG ⊢
 have GF:=ns.jW (by rw[qG,dr];simp;omega)
 rw[dr,dZ] at GF
 have ajd:s9.l.length≤1000:=by
   have:=congrArg List.length qG
   rw[rK,dr,dr] at this
   simp only[gR.snoc,dr,dZ] at this
   omega
 have Bf:slot tY s9.no.toNat=ij s9:=by
   have:=nk.on a9.length (by simp)
   rw[eO rfl] at this
   rw[Nx];exact this
 refine g_ [6] ?_
 refine c_ call114 rfl (ac6 pj pd DE (.int .u64 safe.toNat) tY n9 oI pY p9 s9 C9 wV e he nZ zk gz gz Bf gz (.slice o52 (Sum.j5 (iB e)).length Zc) HZ NB.bs) ?_
 rintro ajM aiw ⟨C3,vA,n3,rfl,Md,zb,tg,rfl⟩
 obtain ⟨DA,vl3,Qd,Ca3,Qc,Zh,rfl,GP,Gq,S8,hV3⟩:=Md
 obtain ⟨RY,RJ,rfl,_⟩:=Gq.form
 obtain ⟨lo3,lc3,rfl,_⟩:=S8.form
 refine g_ [6,702,1108,8] ?_
 refine c_ call115 rfl (Lx e he (.slice o6 (iB e).length c6) A hA.bs) ?_
 rintro aiq XQ ⟨wk,wd,A2,rfl,nF,zH,rfl⟩
 obtain ⟨we,wb,rfl,_⟩:=nF.form
 obtain ⟨xR,xP,rfl,_⟩:=zH.form
 refine g_ [3] ?_
 refine iS lh fun oK=>?_
 refine g_ [311,4,511] ?_
 refine w_ [0,1,2,2027,3] ?_
 refine iD 4 [3] rfl (ab fa rfl gO (pG GP)) ?_
 refine iD 5 [] rfl (aQ (n:=11) (cs:=enc e _ _) fa rfl gO rfl) ?_
 refine gD 6 ?_
 refine SO.h rfl Wt.none rfl (aX (e:=77) (sz:=11) (zs:=lh) (vs:=enc e (.slice we e.key.length wb) (.slice xR e.data.length xP)) fa fa fa rfl rfl rfl fa fun QU=>⟨_,rfl,?_⟩)
 refine gG ?_ (hr:=by exact ig (iw [3] rfl (aw Wt.none (ab fa rfl gO (pG GP))) fa) jl)
 refine gD 7 ?_
 refine SO.h rfl Wt.none rfl (bU (e:=77) (sz:=11) (bytes:=112) (zs:=lh) (m:=1) fa fa rfl gz rfl rfl S8 fc (cm gO) rfl (sV rfl rfl) gz (by simp only[maxLen];omega) gz fun Ft xE Eg=>⟨_,rfl,?_⟩)
 refine gG ?_
 obtain ⟨Vz,Re,rfl,_⟩:=Eg.form
 refine w_ [8,2027,9] ?_
 refine gD 10 ?_
 refine SO.s rfl Wt.none (aq (iT:=kG s9.no s9.first (ij (s9.snoc e)) (.slice RY (jI (s9.snoc e)).length RJ) (.slice Vz (s9.l.length+1) Re)) fa rfl rfl gA ir (by rw[xz GP];decide) (Pf GP _) ⟨rfl,?_⟩)
 refine gG ?_
 refine gM ?_
 refine g_ [7] ?_
 refine gH ((row pj [ptr pd,.int .i64 32,DE,.int .u64 safe.toNat,.bool false] 223::(uu++(D9++(row p9 (kG s9.no s9.first (ij (s9.snoc e)) (.slice RY (jI (s9.snoc e)).length RJ) (.slice Vz (s9.l.length+1) Re)) 248::(Qd++(xE++(Qc++A2)))))))++(vA++H)) ?_
 refine aa results68 rfl ?_
 rotate_left
 all_goals
  refine ⟨a9++[s9.snoc e],_,n3,_,vA,rfl,⟨DE,xy++[p9],uu,_,rfl,?_,lW.snoc ⟨_,_,Qd,xE,Qc++A2,Zh++enc e (.slice we e.key.length wb) (.slice xR e.data.length xP),rfl,GP,Gq,?_,?_⟩⟩,zb,?_,ns,qG,by omega,rfl⟩
  · rw[dr,dZ];exact nD
  · show kQ _ (s9.l++[e]).length _ _ _ _
    rw[dr,dZ];exact Eg
  · exact (hV3.mono fun c hc=>dw _ hc).append (VL.one (E:=nh) ⟨_,_,rfl,nF.mono fun c hc=>dq _ hc,zH.mono fun c hc=>dq _ hc⟩)
  rw[Nx];exact Ud nk gz (De zk)
theorem UM (pj pd:Nat) (vs sf:Value) (gI:List (BitVec 8)) (n:Nat) (CD:List Ck) (hD:jo 97 127 129 pd gI n CD) (p:Nat) (s:gR) (C:List Ck) (hS:uw 248 3 77 p s C) (m:Nat) (hm:m≤s.l.length) (zD:(jw s).length≤1024) (jf:s.no.toNat<32) (NP:slot gI s.no.toNat=ij s) (hn:n≤900) (H:List Ck):gC prog 165 [ptr pj,ptr p,.int .i64 (mB s m:Int)] (row pj [ptr pd,.int .i64 32,vs,sf,.bool false] 223::(CD++(C++H))) fun r gr=>∃gP jb k,r=.tuple #[.int .i64 ((k:Nat):Int),.int .i64 0]∧Ap 248 3 77 p s.no s.first (ij (s.cut m)) (jI s) s.l gP∧jo 97 127 129 pd (lZ gI s.no.toNat (ij (s.cut m))) (n+k) jb∧k≤16∧(m=s.l.length→k=0)∧gr=row pj [ptr pd,.int .i64 32,vs,sf,.bool false] 223::(jb++(gP++H)):=by
 refine gC.enter func165 rfl ntmps165 rfl ?_
 intro w0 R
 have rT:=hD.len
 obtain ⟨ve,vl,Ce,Ca,Cb,cells,rfl,lC,hE,hL,hV⟩:=hS
 have mv:(ij (s.cut m)).length=1024:=De (Ru zD m)
 have hle:=IF s m
 obtain ⟨eo,ec,rfl,_⟩:=hE.form
 obtain ⟨lo,lc,rfl,_⟩:=hL.form
 refine g_ [10,102] ?_
 refine WL.h rfl (aJ (n:=1024) (vs:=bc (ij s)) fa rfl gO (by rw[je];exact lC) (Pd lC) ⟨_,rfl,?_⟩)
 refine WL.h rfl (Hd.alloc (zs:=bc um) fa fun b8=>⟨_,rfl,?_⟩)
 refine WL.s (aH (n:=1024) fa rfl rfl (by rw[je];exact lC) (qA _) ir (by rw[je,Ah]) ⟨rfl,?_⟩)
 refine g_ [5] ?_
 refine ae rfl (bY (n:=1024) (e:=5) (s:=1) (i:=mB s m) fa fa rfl rfl rfl gz) ?_
 refine WL.h0 (Hd.Zo (e:=5) (bytes:=1) (z:=.int .u8 0) fa fa rfl rfl ir (by rw[je,lC];split<;>omega) ⟨_,rfl,?_⟩)
 rw[Zq zD m]
 refine g_ [14] ?_
 refine aC (fun z:Nat×Nat×List Ck=>z.1≤16∧z.2.1≤z.1∧(m=s.l.length→z.2.1=0)∧jo 97 127 129 pd (lZ gI s.no.toNat (mix (ij (s.cut m)) (ij s) z.1)) (n+z.2.1) z.2.2) (fun z:Nat×Nat×List Ck=>[(9,.int .i64 (z.2.1:Int)),(21,.int .i64 (z.1:Int))]) (fun z:Nat×Nat×List Ck=>row pj [ptr pd,.int .i64 32,vs,sf,.bool false] 223::(z.2.2++(row b8 (bc (ij (s.cut m))) 226::((row p (kG s.no s.first (ij s) (.slice eo (jI s).length ec) (.slice lo s.l.length lc)) 248::(Ce++(Ca++Cb)))++H)))) (fun z:Nat×Nat×List Ck=>16-z.1) (⟨0,0,CD⟩) (show 0≤16∧0≤0∧(m=s.l.length→0=0)∧jo 97 127 129 pd (lZ gI s.no.toNat (mix (ij (s.cut m)) (ij s) 0)) (n+0) CD from ⟨dN _,dA _,fun _=>rfl,by rw[Vm,←NP,Fi rT jf];exact hD⟩) (Sx.put rfl (Sx.put rfl (gL))) fc ?_
 rintro ⟨i,k,sL⟩ hI
 replace hI:i≤16∧k≤i∧(m=s.l.length→k=0)∧jo 97 127 129 pd (lZ gI s.no.toNat (mix (ij (s.cut m)) (ij s) i)) (n+k) sL:=hI
 obtain ⟨jV,Nj,ow,zc⟩:=hI
 change WC _ _ _ _ _ _ ([(9,.int .i64 (k:Int)),(21,.int .i64 (i:Int))]++_) (row pj [ptr pd,.int .i64 32,vs,sf,.bool false] 223::(sL++(row b8 (bc (ij (s.cut m))) 226::((row p (kG s.no s.first (ij s) (.slice eo (jI s).length ec) (.slice lo s.l.length lc)) 248::(Ce++(Ca++Cb)))++H))))
 refine g_ [2,705,3] ?_
 refine gK rfl (fun kS=>?_) fun kS=>?_
 have te:i<16:=by omega
 have jd:(j9 (ij (s.cut m)) i).length=64:=wJ mv te
 have Gz:(j9 (ij s) i).length=64:=wJ lC te
 refine g_ [12] ?_
 refine WL.h rfl (aF (n:=1024) (cs:=bc (ij (s.cut m))) fa rfl gO (by rw[je];exact mv) ⟨_,rfl,?_⟩)
 refine g_ [1] ?_
 refine iG call185 rfl (N2 (ij (s.cut m)) mv i te _) (WL.h rfl (Hd.alloc (zs:=(List.replicate 64 (.int .u8 0))) fa fun sR=>⟨_,rfl,?_⟩))
 refine WL.s (aH (n:=64) fa rfl rfl (by rw[je,jd]) (qA _) ir gA ⟨rfl,?_⟩)
 refine g_ [4,523] ?_
 refine w_ [0,1,1000,2,3,4,5,1000,6,7] ?_
 refine gW 8 [7] rfl (bS _ fa fa rfl rfl) fa ?_
 refine w_ [9,10,1001,11,12] ?_
 refine gW 13 [12,8] rfl (Yd.rem rfl rfl gz gz) fa ?_
 refine az (v:=.int .i64 (s.no.toNat:Int)) (congrArg (Value.int .i64) gz) ?_
 refine gW 14 [13] rfl (Yd.mul rfl rfl gz gz) fa ?_
 refine w_ [15,1003,16] ?_
 refine az (v:=.int .i64 ((s.no.toNat*16+i:Nat):Int)) (congrArg (Value.int .i64) gz) ?_
 refine gD 17 ?_
 refine iI rfl call93 rfl (Rc pd (lZ gI s.no.toNat (mix (ij (s.cut m)) (ij s) i)) (n+k) sL zc (s.no.toNat*16+i) gz []) ?_
 rintro PI Qm ⟨b45,rfl,rfl⟩
 rw[Ra rT jf (Bm lC mv _) te,YZ lC mv te,eF]
 refine iO [0,0] ?_
 refine w_ [18,19,20,21,22] ?_
 refine gM ?_
 refine g_ [1] ?_
 refine aI (fun _z:Unit=>True) (fun _z:Unit=>[(52,.bool (decide (j9 (ij s) i=j9 (ij (s.cut m)) i)))]) (fun _z:Unit=>row sR (bc (j9 (ij (s.cut m)) i)) 126::(row pj [ptr pd,.int .i64 32,vs,sf,.bool false] 223::(sL++(row b8 (bc (ij (s.cut m))) 226::((row p (kG s.no s.first (ij s) (.slice eo (jI s).length ec) (.slice lo s.l.length lc)) 248::(Ce++(Ca++Cb)))++H))))) ?_ ?_
 refine g_ [505] ?_
 refine w_ [0] ?_
 refine gW 2 [] rfl (bt (n:=64) (e:=5) (s:=1) fa fa rfl) fa ?_
 refine pe [(1,[0]),(3,[2])] fa (ig ?_ (ig ?_ (jl)))
 refine kP ?_
 refine SO.h rfl Wt.none rfl (aM (e:=5) (bs:=j9 (ij s) i) fa fa underlying9 rfl ((Bs.row Gz).mono (Sp.sub fc)) ⟨_,rfl,?_⟩)
 refine gG ?_
 refine gD 3 ?_
 refine SO.h rfl Wt.none rfl (aM (e:=5) (bs:=j9 (ij (s.cut m)) i) fa fa underlying9 rfl ((Bs.row jd).mono (Sp.sub fc)) ⟨_,rfl,?_⟩)
 refine gG ?_
 refine gW 4 [] rfl (bN rfl rfl) fa ?_
 refine az (v:=.bool (decide (j9 (ij s) i=j9 (ij (s.cut m)) i))) (congrArg Value.bool (decide_eq_decide.2 str_inj)) (gM ?_)
 exact aV (()) (eX) (Sx.put rfl (gL)) fc
 refine kP ?_
 refine SO.h rfl Wt.none rfl (aM (e:=5) (bs:=j9 (ij (s.cut m)) i) fa fa underlying9 rfl ((Bs.row jd).mono (Sp.sub fc)) ⟨_,rfl,?_⟩)
 refine gG ?_
 refine gD 1 ?_
 refine SO.h rfl Wt.none rfl (aM (e:=5) (bs:=j9 (ij s) i) fa fa underlying9 rfl ((Bs.row Gz).mono (Sp.sub fc)) ⟨_,rfl,?_⟩)
 refine gG ?_
 refine gW 4 [] rfl (bN rfl rfl) fa ?_
 refine az (v:=.bool (decide (j9 (ij s) i=j9 (ij (s.cut m)) i))) (congrArg Value.bool (decide_eq_decide.2 str_inj)) (gM ?_)
 exact aV (()) (eX) (Sx.put rfl (gL)) fc
 intro _ _
 refine gK rfl (fun y8=>?_) fun y8=>?_
 refine g_ [5,703,2] ?_
 exact ai (⟨i+1,k,sL⟩) (show (i+1)≤16∧k≤(i+1)∧(m=s.l.length→k=0)∧jo 97 127 129 pd (lZ gI s.no.toNat (mix (ij (s.cut m)) (ij s) (i+1))) (n+k) sL from ⟨by omega,by omega,ow,by rw[←aeu lC mv te y8];exact zc⟩) (show 16-(i+1)<16-i by omega) (Sx.put rfl (Sx.put rfl (gL))) fc
 refine g_ [4,509] ?_
 refine w_ [0,1,2,1000,3,4,5] ?_
 refine gW 6 [] rfl (bt (n:=64) (e:=5) (s:=1) fa fa rfl) fa ?_
 refine gD 7 ?_
 refine iI rfl call186 rfl (JH pj pd vs sf (lZ gI s.no.toNat (mix (ij (s.cut m)) (ij s) i)) (n+k) sL zc s.no jf i te (.slice (some ⟨sR,0,none⟩) 64 64) (j9 (ij (s.cut m)) i) [row sR (bc (j9 (ij (s.cut m)) i)) 126] (Bs.row jd) jd gz) ?_
 rintro PK FL ⟨yG,rfl,xY,rfl⟩
 rw[Kb rT jf (Bm lC mv _) te jd,On lC mv te] at xY
 refine gG ?_
 refine w_ [8] ?_
 refine gM ?_
 refine g_ [4,702,1062,7,703,5,703,2] ?_
 exact ai (⟨i+1,k+1,yG⟩) (show (i+1)≤16∧(k+1)≤(i+1)∧(m=s.l.length→(k+1)=0)∧jo 97 127 129 pd (lZ gI s.no.toNat (mix (ij (s.cut m)) (ij s) (i+1))) (n+(k+1)) yG from ⟨by omega,by omega,fun e=>absurd (by rw[e,IA]) y8,xY⟩) (show 16-(i+1)<16-i by omega) (Sx.put rfl (Sx.put rfl (gL))) fc
 have lY:i=16:=by omega
 rw[lY,Om lC mv] at zc
 refine g_ [8] ?_
 refine WL.h rfl (aF (n:=1024) (cs:=bc (ij (s.cut m))) fa rfl gO (by rw[je];exact mv) ⟨_,rfl,?_⟩)
 refine g_ [1,102] ?_
 refine WL.s (bj (n:=1024) (iT:=kG s.no s.first (ij (s.cut m)) (.slice eo (jI s).length ec) (.slice lo s.l.length lc)) fa rfl rfl (by rw[je];exact mv) (qA _) ir (by rw[xz lC];decide) (Pe lC mv) ⟨rfl,?_⟩)
 refine g_ [10] ?_
 refine gH (row pj [ptr pd,.int .i64 32,vs,sf,.bool false] 223::(sL++((row p (kG s.no s.first (ij (s.cut m)) (.slice eo (jI s).length ec) (.slice lo s.l.length lc)) 248::(Ce++(Ca++Cb)))++H))) ?_
 exact ay results165 rfl rfl (⟨_,sL,k,rfl,⟨.slice eo (jI s).length ec,.slice lo s.l.length lc,Ce,Ca,Cb,cells,rfl,mv,hE,hL,hV⟩,zc,by omega,ow,rfl⟩)
theorem adh (pj pd:Nat) (ss:List gR) (safe:BitVec 64) (CJ:List Ck) (hJ:na 223 229 248 3 77 pj pd ss safe CJ) (gI:List (BitVec 8)) (n:Nat) (CD:List Ck) (hD:jo 97 127 129 pd gI n CD) (hj:iM ss) (hH:Holds gI ss) (hb:(gh ss).length≤125) (hn:n≤800) (H:List Ck):gC prog 96 [ptr pj] (CJ++(CD++H)) fun r gr=>∃sN jb,r=.int .i64 0∧na 223 229 248 3 77 pj pd ss safe sN∧jo 97 127 129 pd gI n jb∧gr=sN++(jb++H):=by
 refine gC.enter func96 rfl ntmps96 rfl ?_
 intro w0 R
 have rT:=hD.len
 have sy:=hJ
 have uL:=hj.jW gz
 obtain ⟨vs,ps,Cv,D,rfl,kT,hS⟩:=hJ
 have lx:=hS.len
 refine g_ [8] ?_
 refine iG call104 rfl (Hp pj pd vs _ _ gO ps ss.length lx (kT.rs.mono (Sp.sub fc)) gz) ?_
 refine g_ [7] ?_
 refine ae rfl (an underlying229 rfl rfl) (qb (WC.cond rfl (fun h9=>?_) (fun h9=>?_)))
 refine g_ [7] ?_
 refine gH ((row pj [ptr pd,.int .i64 32,vs,.int .u64 safe.toNat,.bool false] 223::(Cv++D))++(CD++H)) ?_
 exact aa results96 rfl (⟨_,CD,rfl,sy,hD,rfl⟩)
 have jk:ss≠[]:=fun e=>by
   rw[e] at lx
   rw[dU lx] at h9;cases h9
 obtain ⟨a,s,rfl⟩:∃a s,ss=a++[s]:=by
   rcases hj.sg with h|⟨a,s,h,_⟩
   · exact absurd h jk
   exact ⟨a,s,h⟩
 obtain ⟨tq,p,pf,gP,rfl,rfl,jX,xX⟩:=hS.last
 have hL:=hj.last.2
 have Bf:slot gI s.no.toNat=ij s:=by
   have:=hH.on a.length (by simp)
   rw[eO rfl] at this
   rw[hL.no];exact this
 have yg:=Fg (ss:=a++[s]) (q:=a.length) (by simp)
 rw[eO rfl] at yg
 obtain ⟨mM,KB,T2,sr,nW,kD,jV,ti,yo⟩:=xX.v
 obtain ⟨yr,yq,rfl,_⟩:=yo.form
 refine g_ [6] ?_
 refine af (t:=12) (v:=ptr p) rfl (congrArg Value.pointer (uW _ _)) (g_ [1] ?_)
 refine af (t:=13) (v:=ptr p) rfl (congrArg Value.pointer (uW _ _)) (g_ [1] ?_)
 refine af (t:=14) (v:=ptr p) rfl (congrArg Value.pointer (uW _ _)) (g_ [1,1127] ?_)
 refine WL.h rfl (ak fa rfl (aA fc kD) (pG jV) ⟨_,rfl,?_⟩)
 refine g_ [710,77] ?_
 refine iG call112 rfl (Hq p s.no s.first (ij s) (jI s) s.l _ (xX.v.mono (Sp.sub fc)) s.l.length (F8 s (dA _)).1 _ (F8 s (dA _)).2) ?_
 refine c_ call165 rfl (UM pj pd vs (.int .u64 safe.toNat) gI n CD hD p s gP xX s.l.length (dA _) hL.fit (by rw[hL.no];simp at uL;omega) Bf gz []) ?_
 rintro PF FH ⟨C2,ml,k,rfl,wU,ot,hk,ow,rfl⟩
 obtain rfl:=ow rfl
 rw[acF rT (by rw[hL.no];simp at uL;omega) Bf] at ot
 rw[IA] at wU
 refine g_ [11,702,1024,2,701,2027,12] ?_
 refine gH ((row pj [ptr pd,.int .i64 32,vs,.int .u64 safe.toNat,.bool false] 223::(Cv++(pf++C2)))++(ml++H)) ?_
 exact aa results96 rfl (⟨_,ml,rfl,⟨vs,tq++[p],Cv,_,rfl,kT,jX.snoc wU⟩,ot,rfl⟩)
theorem acW (pj pd:Nat) (uf:List gR) (safe:BitVec 64) (CJ:List Ck) (hJ:na 223 229 248 3 77 pj pd uf safe CJ) (gI:List (BitVec 8)) (n:Nat) (CD:List Ck) (hD:jo 97 127 129 pd gI n CD) (hj:iM uf) (hH:Holds gI uf) (hb:(gh uf).length≤125) (jk:uf≠[]) (hn:n≤700) (gF:BitVec 64) (m:Nat) (pQ:gF.toNat=m) (hm:m≤(gh uf).length) (H:List Ck):gC prog 152 [ptr pj,.int .u64 gF.toNat] (CJ++(CD++H)) fun r gr=>∃iQ jN sN jb,r=.int .i64 0∧na 223 229 248 3 77 pj pd iQ safe sN∧jo 97 127 129 pd jN 0 jb∧Holds jN iQ∧iM iQ∧gh iQ=(gh uf).take m∧gr=sN++(jb++H):=by
 refine gC.enter func152 rfl ntmps152 rfl ?_
 intro w0 R
 have rT:=hD.len
 have uL:=hj.jW gz
 obtain ⟨vs,ps,Cv,D,rfl,kT,hS⟩:=hJ
 obtain ⟨a,s,Da⟩:∃a s,uf=a++[s]:=by
   rcases hj.sg with h|⟨a,s,h,_⟩
   · exact absurd h jk
   exact ⟨a,s,h⟩
 rw[Da] at hS
 obtain ⟨tq,p,pf,gP,rfl,rfl,jX,xX⟩:=hS.last
 have T5:uf.length=a.length+1:=by rw[Da];simp
 rw[T5] at kT uL
 obtain ⟨vo,vc,rfl,_⟩:=kT.form
 refine g_ [5] ?_
 refine aI (fun z:((Value)×(List Nat)×(Nat)×(List gR)×(gR)×(List (BitVec 8))×(Nat)×(List Ck)×(List Ck)×(List Ck)×(List Ck))=>kQ z.1 (z.2.2.2.1.length+1) ((z.2.1++[z.2.2.1]).map ptr) 229 1 z.2.2.2.2.2.2.2.1∧nJ 248 3 77 z.2.1 z.2.2.2.1 z.2.2.2.2.2.2.2.2.1∧uw 248 3 77 z.2.2.1 z.2.2.2.2.1 z.2.2.2.2.2.2.2.2.2.1∧jo 97 127 129 pd z.2.2.2.2.2.1 z.2.2.2.2.2.2.1 z.2.2.2.2.2.2.2.2.2.2∧Holds z.2.2.2.2.2.1 (z.2.2.2.1++[z.2.2.2.2.1])∧iM (z.2.2.2.1++[z.2.2.2.2.1])∧z.2.2.2.2.2.2.1+z.2.2.2.1.length≤n+6∧m≤(gh (z.2.2.2.1++[z.2.2.2.2.1])).length∧(gh (z.2.2.2.1++[z.2.2.2.2.1])).take m=(gh uf).take m∧(gh (z.2.2.2.1++[z.2.2.2.2.1])).length≤125∧(z.2.2.2.1=[]∨(gh z.2.2.2.1).length+1≤m)) (fun z:((Value)×(List Nat)×(Nat)×(List gR)×(gR)×(List (BitVec 8))×(Nat)×(List Ck)×(List Ck)×(List Ck)×(List Ck))=>[]) (fun z:((Value)×(List Nat)×(Nat)×(List gR)×(gR)×(List (BitVec 8))×(Nat)×(List Ck)×(List Ck)×(List Ck)×(List Ck))=>row pj [ptr pd,.int .i64 32,z.1,.int .u64 safe.toNat,.bool false] 223::(z.2.2.2.2.2.2.2.1++(z.2.2.2.2.2.2.2.2.1++(z.2.2.2.2.2.2.2.2.2.1++(z.2.2.2.2.2.2.2.2.2.2++H))))) ?_ ?_
 refine g_ [4,102,1,710,229,704] ?_
 refine af (t:=16) (v:=.int .i64 (a.length:Int)) rfl (congrArg (Value.int .i64) gz) ?_
 refine g_ [4] ?_
 refine aC (fun z:Value×List Nat×Nat×List gR×gR×List (BitVec 8)×Nat×List Ck×List Ck×List Ck×List Ck=>kQ z.1 (z.2.2.2.1.length+1) ((z.2.1++[z.2.2.1]).map ptr) 229 1 z.2.2.2.2.2.2.2.1∧nJ 248 3 77 z.2.1 z.2.2.2.1 z.2.2.2.2.2.2.2.2.1∧uw 248 3 77 z.2.2.1 z.2.2.2.2.1 z.2.2.2.2.2.2.2.2.2.1∧jo 97 127 129 pd z.2.2.2.2.2.1 z.2.2.2.2.2.2.1 z.2.2.2.2.2.2.2.2.2.2∧Holds z.2.2.2.2.2.1 (z.2.2.2.1++[z.2.2.2.2.1])∧iM (z.2.2.2.1++[z.2.2.2.2.1])∧z.2.2.2.2.2.2.1+z.2.2.2.1.length≤n+6∧m≤(gh (z.2.2.2.1++[z.2.2.2.2.1])).length∧(gh (z.2.2.2.1++[z.2.2.2.2.1])).take m=(gh uf).take m∧(gh (z.2.2.2.1++[z.2.2.2.2.1])).length≤125) (fun z:Value×List Nat×Nat×List gR×gR×List (BitVec 8)×Nat×List Ck×List Ck×List Ck×List Ck=>[(5,.int .i64 (z.2.2.2.1.length:Int))]) (fun z:Value×List Nat×Nat×List gR×gR×List (BitVec 8)×Nat×List Ck×List Ck×List Ck×List Ck=>row pj [ptr pd,.int .i64 32,z.1,.int .u64 safe.toNat,.bool false] 223::(z.2.2.2.2.2.2.2.1++(z.2.2.2.2.2.2.2.2.1++(z.2.2.2.2.2.2.2.2.2.1++(z.2.2.2.2.2.2.2.2.2.2++H))))) (fun z:Value×List Nat×Nat×List gR×gR×List (BitVec 8)×Nat×List Ck×List Ck×List Ck×List Ck=>z.2.2.2.1.length) (⟨.slice vo (a.length+1) vc,tq,p,a,s,gI,n,Cv,pf,gP,CD⟩) (show kQ (.slice vo (a.length+1) vc) (a.length+1) ((tq++[p]).map ptr) 229 1 Cv∧nJ 248 3 77 tq a pf∧uw 248 3 77 p s gP∧jo 97 127 129 pd gI n CD∧Holds gI (a++[s])∧iM (a++[s])∧n+a.length≤n+6∧m≤(gh (a++[s])).length∧(gh (a++[s])).take m=(gh uf).take m∧(gh (a++[s])).length≤125 from ⟨kT,jX,xX,hD,by rw[←Da];exact hH,by rw[←Da];exact hj,by omega,by rw[←Da];exact hm,by rw[←Da],by rw[←Da];exact hb⟩) (Sx.put rfl (gL)) fc ?_
 rintro ⟨DE,xy,p9,a9,s9,tY,n9,uu,D9,C9,oI⟩ hI
 replace hI:kQ DE (a9.length+1) ((xy++[p9]).map ptr) 229 1 uu∧nJ 248 3 77 xy a9 D9∧uw 248 3 77 p9 s9 C9∧jo 97 127 129 pd tY n9 oI∧Holds tY (a9++[s9])∧iM (a9++[s9])∧n9+a9.length≤n+6∧m≤(gh (a9++[s9])).length∧(gh (a9++[s9])).take m=(gh uf).take m∧(gh (a9++[s9])).length≤125:=hI
 obtain ⟨nD,lW,wV,pY,nk,ns,sF,Ba,EF,oQ⟩:=hI
 change WC _ _ _ _ _ _ ([(5,.int .i64 (a9.length:Int))]++_) (row pj [ptr pd,.int .i64 32,DE,.int .u64 safe.toNat,.bool false] 223::(uu++(D9++(C9++(oI++H)))))
 obtain ⟨Xj,BB,rfl,_⟩:=nD.form
 have Ju:xy.length=a9.length:=lW.len
 have GF:=ns.jW gz
 rw[dr,dZ] at GF
 have wW:=ns.last.2
 have GQ:=pY.len
 have Jv:=nD.rs
 obtain ⟨b1,o1,si,lV,T1,ra,qY,kL,_,kM,lX⟩:=Jv.Bt (i:=a9.length) (by simp;omega)
 simp only[dI,eD] at kL
 obtain ⟨rfl,rfl⟩:=kL
 have l8:lV[o1+a9.length]?=some (ptr p9):=by
   rw[lX]
   simp only[←Ju,eO]
 obtain ⟨mM,KB,T2,sr,nW,kD,jV,ti,yo⟩:=wV.v
 refine g_ [4,707,1] ?_
 refine ag (t:=19) rfl (fun CG=>?_) (fun CG=>?_)
 refine g_ [2,102,2] ?_
 refine jx 19 rfl rfl rfl (Yd.indexAddr (e:=229) (s:=1) fa fa rfl rfl gz gz) ?_
 refine aS (dj:=19) rfl rfl rfl (ak fa rfl (aA fc kM) (by rw[show o1+((a9.length:Int)).toNat*1=o1+a9.length by omega];exact l8) ⟨_,rfl,?_⟩)
 refine g_ [1,101] ?_
 refine aS (dj:=19) rfl rfl rfl (ak fa rfl (aA fc kD) gA ⟨_,rfl,?_⟩)
 refine g_ [1,707,3] ?_
 refine gK rfl (fun LV=>?_) fun LV=>?_
 obtain ⟨t,sq,rfl⟩:∃t sq,a9=t++[sq]:=by
   rcases List.eq_nil_or_concat a9 with h|⟨t,sq,h⟩
   · rw[h] at CG;simp at CG
   exact ⟨t,sq,by rw[h,List.concat_eq_append]⟩
 obtain ⟨V0,pq,Dq,Cq,rfl,rfl,Mt,hCq⟩:=lW.last
 have Nh:=ns.pop (by simp)
 have Gh:(t++[sq]).length<32:=by omega
 have hHq:Holds (lO tY (64*(s9.no.toNat*16+0)) z64) (t++[sq]):=by
   rw[wW.no,afc GQ Gh]
   exact acg nk Gh (by rw[Ds (by rw[yv GQ Gh,Af];omega),yv GQ Gh]) (abk (yv GQ Gh) Af rfl)
 have MK:kQ (.slice (some ⟨b1,o1,none⟩) (t.length+1) (t.length+1)) (t.length+1) ((V0++[pq]).map ptr) 229 1 uu:=by
   have h9:=nD.cut (m:=t.length+1) (by simp)
   rw[Nat.mul_one,←Mt.len,fW,dQ (by simp),dL (by simp)] at h9
   rwa [Mt.len] at h9
 have vQ:n9+1+t.length≤n+6:=by rw[dr,dZ] at sF;omega
 have sw:m≤(gh (t++[sq])).length:=by have:=wW.first;omega
 have uH:(gh (t++[sq])).take m=(gh uf).take m:=by rw[Nh.2,gd,eE sw];exact EF
 have L9:(gh (t++[sq])).length≤125:=by rw[Nh.2,dE];omega
 refine g_ [6,514] ?_
 refine w_ [0,1,2,1002,3,4,5] ?_
 refine gW 6 [5,4] rfl (Yd.indexAddr (e:=229) (s:=1) fa fa rfl rfl gz gz) fa ?_
 refine iD 7 [6] rfl (ab fa rfl (aA fc kM) (by rw[show o1+(((t++[sq]).length:Int)).toNat*1=o1+(t++[sq]).length by omega];exact l8)) ?_
 refine w_ [8,1000,9] ?_
 refine iD 10 [9] rfl (ab fa rfl (aA fc kD) gA) ?_
 refine gD 11 ?_
 refine SO.h rfl Wt.none rfl (Hd.aen (e:=5) (n:=64) (bytes:=1) fa fa rfl rfl rfl rfl gB gB fun Lb=>⟨_,rfl,?_⟩)
 refine gG ?_ (hr:=by exact ig (iw [9] rfl (aw Wt.none (ab fa rfl (aA fc kD) gA)) fa) (ig (iw [6] rfl (aw Wt.none (ab fa rfl (aA fc kM) (by rw[show o1+(((t++[sq]).length:Int)).toNat*1=o1+(t++[sq]).length by omega];exact l8))) fa) (ig (iw [3] rfl (aw Wt.none (ab fa rfl gO gA)) fa) jl)))
 refine gD 12 ?_
 refine iI rfl call186 rfl (JH pj pd _ (.int .u64 safe.toNat) tY n9 oI pY s9.no (by rw[wW.no];omega) 0 gz (.slice (some ⟨Lb,0,none⟩) 64 64) z64 [row Lb (bc z64) 5] (Bs.row Af) Af gz) ?_
 rintro x47 H47 ⟨yG,rfl,xY,rfl⟩
 refine gG ?_ (hr:=by exact ig (iw [6] rfl (aw Wt.none (ab fa rfl (aA fc kM) (by rw[show o1+(((t++[sq]).length:Int)).toNat*1=o1+(t++[sq]).length by omega];exact l8))) fa) (ig (iw [3] rfl (aw Wt.none (ab fa rfl gO gA)) fa) jl))
 refine w_ [13] ?_
 refine gM ?_
 refine g_ [4,702,1049,9,102,3] ?_
 refine ae rfl (cL (e:=229) (s:=1) (j:=t.length+1) (q:=t.length+1) fa fa rfl rfl rfl (by simp) (by simp) (dA _) (by rw[dr,dZ] at*;omega) nD.plain) ?_
 refine g_ [1,102,6,704] ?_
 refine af (t:=34) (v:=.int .i64 (t.length:Int)) rfl (congrArg (Value.int .i64) (by simp)) ?_
 refine g_ [2] ?_
 exact ai (⟨.slice (some ⟨b1,o1,none⟩) (t.length+1) (t.length+1),V0,pq,t,sq,lO tY (64*(s9.no.toNat*16+0)) z64,n9+1,uu,Dq,Cq,yG⟩:((Value)×(List Nat)×(Nat)×(List gR)×(gR)×(List (BitVec 8))×(Nat)×(List Ck)×(List Ck)×(List Ck)×(List Ck))) ⟨MK,Mt,hCq,xY,hHq,Nh.1,vQ,sw,uH,L9⟩ (by show t.length<(t++[sq]).length;simp) (Sx.put rfl (gL)) fc
 refine g_ [4] ?_
 exact ah (⟨.slice (some ⟨b1,o1,none⟩) (a9.length+1) BB,xy,p9,a9,s9,tY,n9,uu,D9,C9,oI⟩) (⟨nD,lW,wV,pY,nk,ns,sF,Ba,EF,oQ,.inr (by have:=wW.first;show (gh a9).length+1≤m;omega)⟩) (gL) (Sp.all fc)
 refine g_ [20] ?_
 exact ah (⟨.slice (some ⟨b1,o1,none⟩) (a9.length+1) BB,xy,p9,a9,s9,tY,n9,uu,D9,C9,oI⟩) (⟨nD,lW,wV,pY,nk,ns,sF,Ba,EF,oQ,.inl (dU (l:=a9) gz)⟩) (gL) (Sp.all fc)
 rintro ⟨DE,xy,p9,a9,s9,tY,n9,uu,D9,C9,oI⟩ ⟨nD,lW,wV,pY,nk,ns,sF,Ba,EF,oQ,Nq⟩
 dsimp only at nD lW wV pY nk ns sF Ba EF oQ Nq ⊢
 have abV:(gh a9).length≤m:=by
   rcases Nq with h|h
   · rw[h];exact dN _
   omega
 obtain ⟨Xj,BB,rfl,_⟩:=nD.form
 have Ju:xy.length=a9.length:=lW.len
 have GF:=ns.jW gz
 rw[dr,dZ] at GF
 have wW:=ns.last.2
 have GQ:=pY.len
 have Jv:=nD.rs
 obtain ⟨b1,o1,si,lV,T1,ra,qY,kL,_,kM,lX⟩:=Jv.Bt (i:=a9.length) (by simp;omega)
 simp only[dI,eD] at kL
 obtain ⟨rfl,rfl⟩:=kL
 have l8:lV[o1+a9.length]?=some (ptr p9):=by
   rw[lX]
   simp only[←Ju,eO]
 obtain ⟨mM,KB,T2,sr,nW,kD,jV,ti,yo⟩:=wV.v
 have Bf:slot tY s9.no.toNat=ij s9:=by
   have:=nk.on a9.length (by simp)
   rw[eO rfl] at this
   rw[wW.no];exact this
 have I8:=ZH wW Ba abV gz pQ
 obtain ⟨q,hq⟩:∃q,q=m-(gh a9).length:=⟨_,rfl⟩
 have j7:q≤s9.l.length:=by rw[rK,dr] at Ba;omega
 refine g_ [4] ?_
 refine iG call104 rfl (Hp pj pd _ _ _ gO (xy++[p9]) (a9.length+1) (by rw[dr,dZ,Ju]) (Jv.mono (Sp.sub fc)) gz) ?_
 refine g_ [6] ?_
 refine ae rfl (aK underlying229 rfl rfl) ?_
 refine af (t:=64) (v:=.bool true) rfl (congrArg Value.bool (by rw[uW];rfl)) ?_
 refine g_ [6] ?_
 refine ae rfl (aY _ (1#64) rfl rfl rfl rfl) (g_ [1] ?_)
 refine af (t:=67) (v:=ptr p9) rfl (congrArg Value.pointer (uW _ _)) (g_ [1,101] ?_)
 refine WL.h rfl (ak fa rfl (aA fc kD) gA ⟨_,rfl,?_⟩)
 refine ae rfl (aL _ _ rfl rfl rfl rfl) (ae rfl (bQ fa fa rfl gz gz) ?_)
 refine af (t:=72) (v:=.int .i64 (q:Int)) rfl (congrArg (Value.int .i64) (by rw[hq];exact I8)) ?_
 refine g_ [8] ?_
 refine af (t:=75) (v:=ptr p9) rfl (congrArg Value.pointer (uW _ _)) (g_ [1] ?_)
 refine af (t:=76) (v:=ptr p9) rfl (congrArg Value.pointer (uW _ _)) (g_ [1] ?_)
 refine iG call112 rfl (Hq p9 s9.no s9.first (ij s9) (jI s9) s9.l _ (wV.v.mono (Sp.sub fc)) q (F8 s9 j7).1 _ (F8 s9 j7).2) ?_
 refine c_ call165 rfl (UM pj pd _ (.int .u64 safe.toNat) tY n9 oI pY p9 s9 C9 wV q j7 wW.fit (by rw[wW.no];omega) Bf gz []) ?_
 rintro x79 H79 ⟨C2,ml,k,rfl,wU,ot,hk,_,rfl⟩
 obtain ⟨ve4,vl4,KQ,KM,KO,Zi,rfl,CI,Mi,Mm,hV4⟩:=wU
 obtain ⟨F9,RL,rfl,_⟩:=Mi.form
 obtain ⟨Ht,lc4,rfl,_⟩:=Mm.form
 refine WL.fit (C:=row pj [ptr pd,.int .i64 32,.slice (some ⟨b1,o1,none⟩) (a9.length+1) BB,.int .u64 safe.toNat,.bool false] 223::(uu++(D9++((row p9 (kG s9.no s9.first (ij (s9.cut q)) (.slice F9 (jI s9).length RL) (.slice Ht s9.l.length lc4)) 248::(KQ++(KM++KO)))++(ml++H))))) fc ?_
 refine g_ [10,702,1083,5,524] ?_
 refine w_ [0] ?_
 refine az (v:=ptr p9) (congrArg Value.pointer (uW _ _)) (w_ [1] ?_)
 refine az (v:=ptr p9) (congrArg Value.pointer (uW _ _)) (w_ [2] ?_)
 refine az (v:=ptr p9) (congrArg Value.pointer (uW _ _)) (w_ [3,2027,4] ?_)
 refine iD 5 [4] rfl (ab fa rfl gO (pG CI)) ?_
 refine w_ [6,7] ?_
 refine gW 8 [7,6,5] rfl (cL (e:=77) (s:=11) (j:=q) (q:=q) fa fa rfl rfl rfl rfl rfl (dA _) gz Mm.plain) fa ?_
 refine w_ [9] ?_
 refine az (v:=ptr p9) (congrArg Value.pointer (uW _ _)) (w_ [10,2026,11] ?_)
 refine iD 12 [11] rfl (ab fa rfl gO (Fj CI)) ?_
 refine w_ [13,1003,14,15,1003,16] ?_
 refine gW 17 [16,14,12] rfl (cL (e:=3) (s:=1) (j:=q+1) (q:=q+1) fa fa rfl rfl rfl gz gz (dA _) (by have:=BV s9;omega) Mi.plain) fa ?_
 refine w_ [18,2027,19] ?_
 refine gD 20 ?_
 refine SO.s rfl Wt.none (aq (iT:=kG s9.no s9.first (ij (s9.cut q)) (.slice F9 (jI s9).length RL) (.slice Ht q q)) fa rfl rfl gA ir (by rw[xz CI];decide) (Pf CI _) ⟨rfl,?_⟩)
 refine gG ?_
 refine w_ [21,2026,22] ?_
 refine gD 23 ?_
 refine SO.s rfl Wt.none (aq (iT:=kG s9.no s9.first (ij (s9.cut q)) (.slice F9 (q+1) (q+1)) (.slice Ht q q)) fa rfl rfl gA ir (by rw[xz CI];decide) (Kr CI _) ⟨rfl,?_⟩)
 refine gG ?_
 refine gM ?_
 refine g_ [4] ?_
 refine c_ call116 rfl (UP pj pd (.slice (some ⟨b1,o1,none⟩) (a9.length+1) BB) (.int .u64 safe.toNat) (lZ tY s9.no.toNat (ij (s9.cut q))) (n9+k) ml ot []) ?_
 rintro ajN aix ⟨vA,rfl,zb,rfl⟩
 refine g_ [4] ?_
 refine gH ((row pj [ptr pd,.int .i64 32,.slice (some ⟨b1,o1,none⟩) (a9.length+1) BB,.int .u64 safe.toNat,.bool false] 223::(uu++(D9++(row p9 (kG s9.no s9.first (ij (s9.cut q)) (.slice F9 (q+1) (q+1)) (.slice Ht q q)) 248::(KQ++(KM++KO))))))++(vA++H)) ?_
 refine aa results152 rfl ?_
 rotate_left
 all_goals
  have TV:=ns.cut (m:=q) j7 (fun h0=>by
    rcases Nq with h|h
    · exact absurd h h0
    omega)
  refine ⟨a9++[s9.cut q],_,_,vA,rfl,⟨.slice (some ⟨b1,o1,none⟩) (a9.length+1) BB,xy++[p9],uu,_,rfl,?_,lW.snoc ⟨.slice F9 (q+1) (q+1),.slice Ht q q,KQ,KM,KO,Zi.take (q*11),rfl,CI,?_,?_,hV4.take q⟩⟩,zb,?_,TV.1,?_,rfl⟩
  · rw[dr,dZ];exact nD
  · rw[aag s9 q j7]
    have h9:=Mi.cut (m:=q+1) (by rw[BV];omega)
    rw[Nat.mul_one,acC] at h9
    rw[dE,eE (by rw[BV];omega)]
    exact h9
  · show kQ _ (s9.l.take q).length _ _ _ _
    rw[dE,eE j7]
    exact Mm.cut j7
  · rw[wW.no];exact Ud nk gz (De (Ru wW.fit q))
  rw[TV.2,hq,show (gh a9).length+(m-(gh a9).length)=m by omega];exact EF
end Go.Proofs.YtchdmlkiggdhaaaGreat
namespace Go.Proofs.YtchdmlkiggdhaaaGreat
open Go.SL Go.Proofs.Tryz
attribute [local irreducible] WL WC DN gZ iX
theorem acJ (v:Value) (n:Nat) (cells:List Value) (C:List Ck) (own:il v n cells 229 1 C) (h1:∀u∈cells,u.oneCell'=true) (hn:n≤1000000) (i:Nat) (hi:i≤n) (rb:Nat) (x:List Value) (hx:x.length=1) (yp:∀u∈x,u.oneCell'=true):gC prog 164 [v,.int .i64 (i:Int),.slice (some ⟨rb,0,none⟩) 1 1] (C++[row rb x 229]) fun r gr=>il r (n+1) (cells.take (i*1)++(x++cells.drop (i*1))) 229 1 gr:=by
 refine gC.enter func164 rfl ntmps164 rfl ?_
 intro w0 R
 obtain ⟨ao,cap,rfl,I6⟩:=own.form
 have qF:=own.len
 refine g_ [9] ?_
 refine ae rfl (Yd.slice (i:=i) (j:=n) (e:=229) (s:=1) fa fa rfl ⟨_,_,rfl,rfl⟩ rfl hi I6) ?_
 refine g_ [5,710,229,7,701] ?_
 refine af (t:=16) (v:=.bool false) rfl (congrArg Value.bool (by simp)) ?_
 refine g_ [8,710,229,8,701,2] ?_
 refine gK rfl (fun kS=>?_) fun kS=>?_
 obtain rfl:i=n:=by omega
 refine g_ [4] ?_
 refine WL.h rfl (cQ (e:=229) (sz:=1) (bytes:=8) (zs:=[.pointer none]) fa fa rfl gz rfl rfl own fc (.inr ⟨rb,0,1,x,229,(0,0),true,rfl,dA _,gO,by simp⟩) gz yp (by simp only[maxLen];omega) gz fun v2 C2 h2=>⟨_,rfl,?_⟩)
 refine g_ [5] ?_
 refine gH C2 ?_
 refine aa results164 rfl ?_
 rw[dL gz,fv gz,eF]
 exact h2
 obtain ⟨b,sS,extra,e1,h2,h3,h4,h5,rfl⟩:∃(b sS:Nat) (extra:List Value),Value.slice ao n cap=.slice (some ⟨b,0,none⟩) n sS∧n≤sS∧sS≤maxLen∧cells.length=n*1∧extra.length=(sS-n)*1∧C=[row b (cells++extra) 229]:=by
   rcases own with ⟨_,h,_⟩|h
   · omega
   exact h
 simp only[dI,eD] at e1
 obtain ⟨rfl,rfl⟩:=e1
 simp only[maxLen] at h3
 have sH:(cells.take (i*1)).length=i*1:=by rw[dE];omega
 have sB:(cells.drop (i*1)).length=(n-i)*1:=by rw[eg];omega
 refine g_ [7,703,1] ?_
 refine ae rfl (Yd.Rg (e:=229) fa rfl) ?_
 refine g_ [707,2] ?_
 refine gK rfl (fun mU=>?_) fun mU=>?_
 refine g_ [4] ?_
 refine ae rfl (bJ (j:=i) (e:=229) (s:=1) fa fa rfl rfl rfl gz) ?_
 refine g_ [2,703,1,704] ?_
 refine WL.h rfl (c8 (i:=i) (k:=n+1-i) (zS:=cells.take (i*1)) (e:=229) (sz:=1) (bytes:=8) (zs:=[.pointer none]) fa underlying3 fa rfl gz rfl (by exact congrArg (fun q=>some (Value.int .i64 q)) gz) ((own.rs.upto qF hi).mono hZ) sH gz gz (by simp only[maxLen];omega) gz fun b2 c2 nW g1 g2 g3=>⟨_,rfl,?_⟩)
 refine g_ [7] ?_
 refine ae rfl (bh (i:=i) (e:=229) (s:=1) fa fa rfl rfl gz gz gz gz) ?_
 refine g_ [1] ?_
 refine WL.h rfl (bB (uA:=cells.take (i*1)++(x++nW.drop x.length)) (q:=1) (e:=229) (sz:=1) (bytes:=8) (zs:=[.pointer none]) fa fa rfl rfl ir (.inr ⟨rb,0,1,x,229,(0,0),true,rfl,dA _,gO,by simp⟩) (by show min _ _=_;omega) gz yp (by rw[dr];omega) (UI _ _ _ _ sH) ⟨_,rfl,?_⟩)
 refine g_ [3,509] ?_
 refine w_ [0,1,2,1003,3] ?_
 refine gW 4 [3,0] rfl (bh (i:=i+1) (e:=229) (s:=1) fa fa rfl rfl gz gz gz gz) fa ?_
 refine w_ [5,6] ?_
 refine gW 7 [6,5] rfl (bh (i:=i) (e:=229) (s:=1) fa fa rfl rfl gz gz gz gz) fa ?_
 refine gD 8 ?_
 refine SO.h rfl Wt.none rfl (bB (uA:=cells.take (i*1)++(x++(cells.drop (i*1)++(nW.drop x.length).drop (cells.drop (i*1)).length))) (q:=n-i) (news:=cells.drop (i*1)) (e:=229) (sz:=1) (bytes:=8) (zs:=[.pointer none]) fa fa rfl rfl ir (.inr ⟨b,i*1,cap-i,cells++extra,229,(0,0),true,rfl,by omega,gO,by
     rw[eN gz,dQ gz,dL gz]⟩) (by show min _ _=_;omega) sB (fun u hu=>h1 u (List.mem_of_mem_drop hu)) (by simp only[dr,eg];omega) (UJ _ _ _ _ _ gz) ⟨_,rfl,?_⟩)
 refine gG ?_
 refine gM ?_
 refine g_ [9] ?_
 refine gH ([row b2 (cells.take (i*1)++(x++(cells.drop (i*1)++(nW.drop x.length).drop (cells.drop (i*1)).length))) 229]) ?_
 refine aa results164 rfl ?_
 exact .inr ⟨b2,c2,(nW.drop x.length).drop (cells.drop (i*1)).length,by rw[show i+(n+1-i)=n+1 by omega],by omega,g2,by simp only[dr];omega,by simp only[eg];omega,by simp only[dD]⟩
 refine g_ [7,703] ?_
 refine ae rfl (bJ (j:=n+1) (e:=229) (s:=1) fa fa rfl rfl gz gz) ?_
 refine g_ [10,703] ?_
 refine ae rfl (bh (i:=i+1) (e:=229) (s:=1) fa fa rfl rfl gz gz gz gz) ?_
 refine WL.h rfl (Hd.VK (tS:=221) (tR:=4) (e:=229) (sz:=1) func213 fa fa fa fa fa fa rfl rfl ir ir (by intro h0;have:=congrArg List.length h0;rw[dr,dR] at this;omega) ⟨_,rfl,?_⟩)
 refine g_ [709] ?_
 refine af (t:=68) (v:=.bool true) rfl (congrArg Value.bool gA) ?_
 refine g_ [4,509] ?_
 refine w_ [0,1,2,1003,3] ?_
 refine gW 4 [3,0] rfl (bh (i:=i+1) (e:=229) (s:=1) fa fa rfl rfl gz gz gz gz) fa ?_
 refine w_ [5,6] ?_
 refine gW 7 [6,5] rfl (bh (i:=i) (e:=229) (s:=1) fa fa rfl rfl gz gz gz gz) fa ?_
 refine gD 8 ?_
 refine SO.h rfl Wt.none rfl (bB (q:=n-i) (news:=cells.drop (i*1)) (e:=229) (sz:=1) (bytes:=8) (zs:=[.pointer none]) fa fa rfl rfl ir (.inr ⟨b,i*1,cap-i,cells++extra,229,(0,0),true,rfl,by omega,gO,by
     rw[eN gz,dQ gz,dL gz]⟩) (by show min _ _=_;omega) sB (fun u hu=>h1 u (List.mem_of_mem_drop hu)) (by simp only[dr,eg];omega) rfl ⟨_,rfl,?_⟩)
 refine gG ?_
 refine gM ?_
 refine g_ [5] ?_
 refine ae rfl (bh (i:=i) (e:=229) (s:=1) fa fa rfl rfl gz gz gz gz) ?_
 refine g_ [1] ?_
 have lA:=show i*1+x.length≤(List.take ((i+1)*1) (cells++extra)++(List.drop (i*1) cells++List.drop ((i+1)*1+(List.drop (i*1) cells).length) (cells++extra))).length by
   rw[dr,dE,dr,qF,h5];omega
 have hE:(i+1)*1+(cells.drop (i*1)).length≤(cells.take (i*1)).length+((cells.drop (i*1)).length+extra.length):=by
   rw[sH,sB,h5];omega
 have ho:i*1+x.length=(i+1)*1:=by rw[hx];omega
 have l8:=UK (cells.take (i*1)) x extra (cells.drop (i*1)) (i*1) ((i+1)*1) sH ho hE
 rw[←dD (cells.take (i*1)) (cells.drop (i*1)) extra,fz] at l8
 refine WL.h rfl (bB (uA:=cells.take (i*1)++(x++(cells.drop (i*1)++extra.drop x.length))) (q:=1) (e:=229) (sz:=1) (bytes:=8) (zs:=[.pointer none]) fa fa rfl rfl ir (.inr ⟨rb,0,1,x,229,(0,0),true,rfl,dA _,gO,by simp⟩) (by show min _ _=_;omega) gz yp lA l8 ⟨_,rfl,?_⟩)
 refine g_ [10] ?_
 refine gH ([row b (cells.take (i*1)++(x++(cells.drop (i*1)++extra.drop x.length))) 229]) ?_
 refine aa results164 rfl ?_
 exact .inr ⟨b,cap,extra.drop x.length,rfl,by omega,by simp only[maxLen];omega,by simp only[dr];omega,by simp only[eg];omega,by simp only[dD]⟩
end Go.Proofs.YtchdmlkiggdhaaaGreat
namespace Go.Proofs.YtchdmlkiggdhaaaGreat
open Go.SL Top Go.Proofs.Tryz
attribute [local irreducible] WL WC DN gZ iX
theorem JJ (pj pd:Nat) (ss:List gR) (safe:BitVec 64) (CJ:List Ck) (hJ:na 223 229 248 3 77 pj pd ss safe CJ) (gI:List (BitVec 8)) (n:Nat) (CD:List Ck) (hD:jo 97 127 129 pd gI n CD) (hj:iM ss) (hH:Holds gI ss) (hb:(gh ss).length≤125) (jk:ss≠[]) (hn:n≤700) (gF:BitVec 64) (m:Nat) (pQ:gF.toNat=m) (hm:m≤(gh ss).length) (H:List Ck):gC prog 87 [ptr pj,.int .u64 gF.toNat] (CJ++(CD++H)) fun r gr=>∃iQ jN sN jb,r=.int .i64 0∧na 223 229 248 3 77 pj pd iQ (js (gh iQ)) sN∧jo 97 127 129 pd jN 0 jb∧Holds jN iQ∧iM iQ∧gh iQ=(gh ss).take m∧gr=sN++(jb++H):=by
 refine gC.enter func87 rfl ntmps87 rfl ?_
 intro w0 R
 have uL:=hj.jW gz
 have sy:=hJ
 obtain ⟨vs,ps,Cv,D,e9,kT,hS⟩:=hJ
 have hU:JI 223 pj pd vs safe∈CJ:=by rw[e9];exact dy
 clear e9
 have rU:=nO (l:=gh ss) gz
 have e9:¬((gF.toNat:Int)<(((1#64-1#64:BitVec 64)).toNat:Int)):=by
   have:((1#64-1#64:BitVec 64)).toNat=0:=by decide
   omega
 refine g_ [9] ?_
 refine iG call103 rfl (Dg pj pd _ _ _ (dw _ hU)) (g_ [6,702,1010,10] ?_)
 refine jv call151 rfl (acX pj pd ss safe _ sy.v gz hj) ?_
 refine ae rfl (aL (1#64) (1#64) rfl rfl rfl rfl) (g_ [705] ?_)
 refine j8 16 rfl e9 (g_ [3] ?_)
 refine bV (dj:=17) rfl rfl rfl (iE.func call64 rfl) (qM pj pd ss safe _ sy.v gz hj gz) fc ?_
 refine g_ [707,1021,11] ?_
 refine c_ call152 rfl (acW pj pd ss safe CJ sy gI n CD hD hj hH hb jk hn gF m pQ hm H) ?_
 rintro PG KU ⟨iQ,jN,sN,jb,rfl,Gt,sY,uI,uQ,vS,rfl⟩
 obtain ⟨ahL,tq,Qe,pf,rfl,Ux,jX⟩:=Gt
 obtain ⟨Xi,Xg,rfl,_⟩:=Ux.form
 have abS:gF=js (gh iQ):=by
   apply dB
   rw[nO (by rw[vS,dE];omega),pQ,vS,dE,eE hm]
 refine g_ [6,702,1027,10,103,9] ?_
 refine gH ((row pj [ptr pd,.int .i64 32,.slice Xi iQ.length Xg,.int .u64 gF.toNat,.bool false] 223::(Qe++pf))++(jb++H)) ?_
 refine aa results87 rfl ?_
 rw[abS]
 exact ⟨iQ,jN,_,jb,rfl,⟨.slice Xi iQ.length Xg,tq,Qe,pf,rfl,Ux,jX⟩,sY,uI,uQ,vS,rfl⟩
theorem ac4 (p:Nat) (s:gR) (vs:Value) (ps:List Nat) (ss:List gR) (H:List Ck) (hs:Il p s H) (gN:Rs vs ss.length (ps.map ptr) H) (lx:ps.length=ss.length) (xh:∀(i:Nat) (h1:i<ps.length) (h2:i<ss.length),Il ps[i] ss[i] H) (jk:ss≠[]) (hl:ss.length≤1000) (yg:∀t∈ss,t.l.length≤1000) (ie:s.l.length≤1000) (oy:∀(h:0<ss.length),s.first+BitVec.ofInt 64 (s.l.length:Int)=ss[0].first) (hc:mE (s.l++gh ss)):Reads prog 163 [ptr p,vs] H (.bool true):=by
 refine gC.enter func163 rfl ntmps163 rfl ?_
 intro w0 R
 have pR:=hs
 obtain ⟨ves,vls,Ts,frs,exs,Nr,Ng,G5,kT⟩:=hs
 obtain ⟨los,lcs,rfl,_⟩:=kT.form
 obtain ⟨vo,vc,rfl,_⟩:=gN.form
 have h0:0<ss.length:=List.length_pos_iff.2 jk
 obtain ⟨bz,oz,aiG,csz,Tz,frz,exz,Up,_,hmz,hcz⟩:=gN.Bt (i:=0) gz
 simp only[dI,eD] at Up
 obtain ⟨rfl,rfl⟩:=Up
 obtain ⟨vez,vlz,Tz2,aiW,aiP,ab7,hiz,hrz,hvz⟩:=xh 0 gz gz
 obtain ⟨loz,lcz,rfl,_⟩:=hvz.form
 refine g_ [7,509] ?_
 refine w_ [0] ?_
 refine jy 1 [0] rfl call105 rfl (UO p s.no s.first _ _ s.l _ pR) ax ?_
 refine w_ [2] ?_
 refine gW 3 [2] rfl (Yd.indexAddr (e:=229) (s:=1) fa fa rfl rfl gz gz) fa ?_
 refine iD 4 [3] rfl (ab fa rfl hmz (by rw[show oz+((0:Int)).toNat*1=oz+0 by omega];exact hcz)) ?_
 refine w_ [5,1001,6] ?_
 refine iD 7 [6] rfl (ab fa rfl ab7 gA) ?_
 refine gW 8 [7,1] rfl (bA _ _ rfl rfl rfl rfl) fa ?_
 refine lL (fun h=>h (oy h0)) ?_
 refine gM ?_
 refine g_ [8,710,229,4] ?_
 refine aC (fun z:Nat=>z≤ss.length∧gh (ss.take z)=[]) (fun z:Nat=>[(18,.int .i64 (z:Int))]) (fun z:Nat=>H) (fun z:Nat=>ss.length-z) (0) (show 0≤ss.length∧gh (ss.take 0)=[] from ⟨dN _,by rw[fJ];rfl⟩) (Sx.put rfl (gL)) fc ?_
 rintro i hI
 replace hI:i≤ss.length∧gh (ss.take i)=[]:=hI
 obtain ⟨hi,hz⟩:=hI
 change WC _ _ _ _ _ _ ([(18,.int .i64 (i:Int))]++_) (H)
 refine g_ [2,705,3] ?_
 refine gK rfl (fun mT=>?_) fun mT=>?_
 have gQ:i<ss.length:=by omega
 have oU:=yg _ (dG gQ)
 obtain ⟨b1,o1,si,lV,T1,ra,qY,kL,_,kM,lX⟩:=gN.Bt (i:=i) gz
 simp only[dI,ew,Addr.mk.injEq,eD,and_true] at kL
 obtain ⟨⟨rfl,rfl⟩,rfl⟩:=kL
 obtain ⟨mM,KB,T2,sr,nW,kD,jV,ti,yo⟩:=xh i gz gz
 obtain ⟨yr,yq,rfl,_⟩:=yo.form
 refine g_ [6,711,229,1] ?_
 refine WL.h rfl (ak fa rfl (ib kM) (by rw[show oz+((i:Int)).toNat*1=oz+i by omega];exact lX) ⟨_,rfl,?_⟩)
 refine g_ [7,1127] ?_
 refine WL.h rfl (ak fa rfl (ib kD) (pG jV) ⟨_,rfl,?_⟩)
 refine g_ [710,77,707,2] ?_
 refine gK rfl (fun lz=>?_) fun lz=>?_
 obtain ⟨b0b,Vy,aiF,aiI,T0b,aiR,aiK,Uo,_,abY,c0b,⟨wkb,wdb,rfl,Tj,Th⟩,acp⟩:=yo.rowAt (i:=0) gz gB
 simp only[dI,eD] at Uo
 obtain ⟨rfl,rfl⟩:=Uo
 refine g_ [1,528] ?_
 refine w_ [0,1,2027,2] ?_
 refine iD 3 [2] rfl (ab fa rfl (ib Nr) (pG Ng)) ?_
 refine w_ [3077,4,1001,5,6] ?_
 refine aW (fun s8=>?_) (fun s8=>?_)
 refine w_ [7,8,9,10,11,12,13,14,15,16,17,18,19,20,21,22,23,24,25,26] ?_
 refine gD 27 ?_
 refine jm ?_
 refine gG ?_
 refine gM ?_
 refine g_ [7] ?_
 refine gH H ?_
 exact aa results163 rfl (⟨rfl,rfl⟩)
 obtain ⟨j,hj⟩:∃j,s.l.length=j+1:=⟨s.l.length-1,by omega⟩
 obtain ⟨b0a,Vx,aiE,aiH,T0a,aiQ,aiJ,Un,_,abX,c0a,⟨wka,wda,rfl,Ti,Tg⟩,aco⟩:=kT.rowAt (i:=j) gz gB
 simp only[dI,eD] at Un
 obtain ⟨rfl,rfl⟩:=Un
 obtain ⟨koa,kca,rfl,_⟩:=Ti.form
 obtain ⟨doa,dca,rfl,_⟩:=Tg.form
 obtain ⟨kob,kcb,rfl,_⟩:=Tj.form
 obtain ⟨dob,dcb,rfl,_⟩:=Th.form
 have My:iZ s.l[j]∧iZ ss[i].l[0]∧yF s.l[j] ss[i].l[0]:=Yh hc gz hz hj gz
 refine w_ [7,8,2027,9] ?_
 refine ki 10 [9,6] 34 rfl rfl rfl (ab fa rfl (ib Nr) (pG Ng)) ?_
 refine w_ [11,12,2027,13] ?_
 refine ki 14 [13,6] 34 rfl rfl rfl (ab fa rfl (ib Nr) (pG Ng)) ?_
 refine w_ [3077,15,1004,16] ?_
 refine az (v:=.int .i64 (j:Int)) (congrArg (Value.int .i64) gz) ?_
 refine jP 17 [16,10,6] 34 rfl rfl (Yd.indexAddr (e:=77) (s:=11) fa fa rfl rfl gz gz) fa ?_
 refine ki 18 [17,6] 34 rfl rfl rfl (aE (n:=11) (vs:=enc s.l[j] _ _) fa rfl (ib abX) rfl (by rw[show Vx+((j:Int)).toNat*11=Vx+j*11 by omega];exact aco)) ?_
 refine w_ [19,20,2027,21] ?_
 refine ki 22 [21,6] 34 rfl rfl rfl (ab fa rfl (ib kD) (pG jV)) ?_
 refine jP 23 [22,6] 34 rfl rfl (Yd.indexAddr (e:=77) (s:=11) fa fa rfl rfl gz gz) fa ?_
 refine ki 24 [23,6] 34 rfl rfl rfl (aE (n:=11) (vs:=enc ss[i].l[0] _ _) fa rfl (ib abY) rfl (by rw[show Vy+(0:Int).toNat*11=Vy+0*11 by omega];exact acp)) ?_
 refine ny (iw (i:=25) [24,18,6] rfl (aO (aP (dj:=34) rfl rfl) (iE.func call110 rfl) (N0 s.l[j] ss[i].l[0] My.1 My.2.1 My.2.2 _ _ _ _ _ Ti Tg Tj Th) ax) fa) fa ?_
 refine w_ [26] ?_
 refine gD 27 ?_
 refine jm ?_
 refine gG ?_
 refine gM ?_
 refine g_ [7] ?_
 refine gH H ?_
 exact aa results163 rfl (⟨rfl,rfl⟩)
 refine g_ [4,703,2] ?_
 exact ai (i+1) (show (i+1)≤ss.length∧gh (ss.take (i+1))=[] from ⟨by omega,by rw[QE gz,hz,eC];exact dU gz⟩) (show ss.length-(i+1)<ss.length-i by omega) (Sx.put rfl (gL)) fc
 refine g_ [11] ?_
 refine gH H ?_
 exact aa results163 rfl (⟨rfl,rfl⟩)
theorem ade (x:List (BitVec 8)) (hx:x.length=1024) (h0:x[0]?=some 0#8) (k:Nat) (hk:k<32) (H:List Ck):gC prog 94 [.agg (bc x).toArray,.int .i64 (k:Int),.int .i64 32] H fun r gr=>r=.pointer none∧gr=H:=by
 refine gC.enter func94 rfl ntmps94 rfl ?_
 intro w0 R
 refine gY (iV fun b3=>?_)
 refine g_ [5] ?_
 refine ae rfl (bt (n:=1024) (e:=5) (s:=1) fa fa rfl) ?_
 refine c_ call154 rfl (QD (.slice (some ⟨b3,0,none⟩) 1024 1024) x [row b3 (bc x) 226] (Bs.row hx) gz) ?_
 rintro HV FI ⟨u,vs,Cu,D,rfl,hu,hD,rfl⟩
 rw[Ym h0] at hu
 obtain ⟨uo,uc,rfl,_⟩:=hu.form
 refine g_ [13,710,68,701,2027,10] ?_
 refine gH H ?_
 exact aa results94 rfl (⟨rfl,rfl⟩)
theorem ada (s:gR) (hs:(jw s).length≤1024) (jf:s.no.toNat<32) (hc:mE s.l) (hf:∀(h:0<s.l.length),s.l[0].gF=s.first) (qs:s.l.length≤200) (H:List Ck):gC prog 94 [.agg (bc (ij s)).toArray,.int .i64 (s.no.toNat:Int),.int .i64 32] H fun r gr=>∃p C,r=ptr p∧uw 248 3 77 p s C∧gr=C++H:=by
 refine gC.enter func94 rfl ntmps94 rfl ?_
 intro w0 R
 have hx:(ij s).length=1024:=De hs
 have nq:=F4 s
 refine gY (iV fun b3=>?_)
 refine g_ [5] ?_
 refine ae rfl (bt (n:=1024) (e:=5) (s:=1) fa fa rfl) ?_
 refine c_ call154 rfl (QD (.slice (some ⟨b3,0,none⟩) 1024 1024) (ij s) [row b3 (bc (ij s)) 226] (Bs.row hx) gz) ?_
 rintro HV FI ⟨u,vs,Cu,D,rfl,hu,hD,rfl⟩
 rw[Yn hs hc.ok] at hu hD ⊢
 dsimp only at hu hD ⊢
 obtain ⟨bu,cu,xu,rfl,GC,rfl,_⟩:=hu.open gz
 have hvl:=hu.len
 obtain ⟨w0,Hf,Ep⟩:=hD.get 0 gz
 obtain ⟨wo,wc,rfl,_⟩:=Ep.form
 replace Ep:Bs (.slice wo (oR s.no s.first).length wc) (oR s.no s.first) D:=Ep
 refine g_ [13,710,68,701,1027,8] ?_
 refine bX (e:=68) fa fa fa rfl rfl (rfl) (hu.rs.mono (Sp.sub fc)) (Hf) (show 0<(pJ s).length by omega) rfl rfl ?_
 intro _
 refine c_ call155 rfl (J3 (.slice wo (oR s.no s.first).length wc) (oR s.no s.first) D Ep (by rw[Eu];decide)) ?_
 rintro x31 H31 ⟨br,u0,CR,rfl,G9,rfl⟩
 refine g_ [6] ?_
 refine c_ call156 rfl (Du br u0 83#8 (iu (s.no.setWidth 64) 4++iu s.first 8) CR G9 (by simp only[dr,dF,dR,ju,tb];omega)) ?_
 rintro x1 H1 ⟨u1,rfl,Ha,rfl⟩
 refine g_ [1] ?_
 refine c_ call157 rfl (HA br u1 s.no (iu s.first 8) CR Ha (by simp only[dr,dF,dR,ju,tb];omega)) ?_
 rintro x2 H2 ⟨u2,rfl,nv,rfl⟩
 rw[←eF (iu s.first 8)] at nv
 refine g_ [1] ?_
 refine c_ call158 rfl (Wb br u2 s.first [] CR nv (by simp only[dr,dF,dR,ju,tb];omega)) ?_
 rintro x3 H3 ⟨u3,rfl,vY,rfl⟩
 refine g_ [9] ?_
 refine jv call159 rfl (Bu br u3 [] false CR vY) ?_
 refine g_ [702,1040,2] ?_
 refine jx 41 rfl rfl rfl (Yd.aeB _ (83#8) rfl rfl rfl rfl) (g_ [1043,3] ?_)
 refine jx 45 rfl rfl rfl (bS _ fa fa rfl rfl) ?_
 refine g_ [1] ?_
 refine jx 45 rfl rfl rfl (Yd.rem rfl rfl gz gz) ?_
 refine g_ [1,702,1051,10] ?_
 refine c_ call160 rfl (UN s.no s.first []) ?_
 rintro KH Ii ⟨p,C0,rfl,Mc,rfl⟩
 obtain ⟨ve0,vl0,KP,KL,KN,Lm,rfl,GO,SZ,tI,hV0⟩:=Mc
 obtain ⟨IH,IC,rfl,_⟩:=SZ.form
 obtain ⟨JY,JS,rfl,_⟩:=tI.form
 refine WL.fit (C:=(row p (kG s.no s.first (ij ⟨s.no,s.first,[]⟩) (.slice IH (jI ⟨s.no,s.first,[]⟩).length IC) (.slice JY 0 JS)) 248::(KP++(KL++KN)))++(row b3 (bc (ij s)) 226::([row bu (vs++xu) 68]++(D++H)))) fc ?_
 refine g_ [6] ?_
 refine WL.h rfl (aF (n:=1024) (cs:=bc (ij s)) fa rfl gO (by rw[je];exact hx) ⟨_,rfl,?_⟩)
 refine g_ [1,102] ?_
 refine WL.s (bj (n:=1024) (iT:=kG s.no s.first (ij s) (.slice IH (jI ⟨s.no,s.first,[]⟩).length IC) (.slice JY 0 JS)) fa rfl rfl (by rw[je];exact hx) (qA _) ir (by rw[xz GO];decide) (Pe GO hx) ⟨rfl,?_⟩)
 refine g_ [6] ?_
 obtain ⟨K5,MB⟩:∃ao,ao=(if cu=1 then (some ⟨bu,0,none⟩:Option Addr) else (some ⟨bu,0,none⟩:Option Addr).map (·.add (1*1))):=⟨_,rfl⟩
 refine ae rfl (Yd.slice (e:=68) (s:=1) (i:=1) (j:=(pJ s).length) fa fa rfl ⟨_,_,rfl,rfl⟩ rfl gz gz) ?_
 refine af (t:=61) (v:=.slice K5 ((pJ s).length-1) (cu-1)) rfl (congrArg (fun q=>Value.slice q _ _) MB.symm) ?_
 refine g_ [710,68,4] ?_
 refine aC (fun z:Nat×Value×Value×List Ck×List Ck×List Ck×List Value=>z.1≤s.l.length∧kQ z.2.1 (jI (s.cut z.1)).length (ic (jI (s.cut z.1))) 3 1 z.2.2.2.1∧kQ z.2.2.1 (s.l.take z.1).length z.2.2.2.2.2.2 77 11 z.2.2.2.2.1∧VL nh z.2.2.2.2.2.1 z.2.2.2.2.2.2 (s.l.take z.1)) (fun z:Nat×Value×Value×List Ck×List Ck×List Ck×List Value=>[(63,.int .i64 (z.1:Int))]) (fun z:Nat×Value×Value×List Ck×List Ck×List Ck×List Value=>(row p (kG s.no s.first (ij s) z.2.1 z.2.2.1) 248::(z.2.2.2.1++(z.2.2.2.2.1++z.2.2.2.2.2.1)))++(row b3 (bc (ij s)) 226::([row bu (vs++xu) 68]++(D++H)))) (fun z:Nat×Value×Value×List Ck×List Ck×List Ck×List Value=>s.l.length-z.1) (⟨0,.slice IH (jI ⟨s.no,s.first,[]⟩).length IC,.slice JY 0 JS,KP,KL,KN,Lm⟩) (show 0≤s.l.length∧kQ (.slice IH (jI ⟨s.no,s.first,[]⟩).length IC) (jI (s.cut 0)).length (ic (jI (s.cut 0))) 3 1 KP∧kQ (.slice JY 0 JS) (s.l.take 0).length Lm 77 11 KL∧VL nh KN Lm (s.l.take 0) from ⟨dN _,SZ,tI,hV0⟩) (Sx.put rfl (gL)) fc ?_
 rintro ⟨i,ve,vl,Ce,Ca,Cb,cells⟩ hI
 replace hI:i≤s.l.length∧kQ ve (jI (s.cut i)).length (ic (jI (s.cut i))) 3 1 Ce∧kQ vl (s.l.take i).length cells 77 11 Ca∧VL nh Cb cells (s.l.take i):=hI
 obtain ⟨hi,hE,hL,hV⟩:=hI
 change WC _ _ _ _ _ _ ([(63,.int .i64 (i:Int))]++_) ((row p (kG s.no s.first (ij s) ve vl) 248::(Ce++(Ca++Cb)))++(row b3 (bc (ij s)) 226::([row bu (vs++xu) 68]++(D++H))))
 obtain ⟨eo,ec,rfl,_⟩:=hE.form
 obtain ⟨lo,lc,rfl,_⟩:=hL.form
 refine g_ [2,705,3] ?_
 refine gK rfl (fun h64=>?_) fun h64=>?_
 have lC:i<s.l.length:=by omega
 have ai5:=IF s i
 have ajs:(s.l.take i).length=i:=by rw[dE];omega
 have hao:K5=some ⟨bu,1,none⟩:=by
   rw[MB,dp gz]
   show some ((⟨bu,0,none⟩:Addr).add (1*1))=_
   rw[add_plain]
 clear MB
 subst hao
 obtain ⟨hbi,hbe⟩:=Y5 s lC
 obtain ⟨w9,hwi,NT⟩:=hD.get (i+1) hbi
 rw[hbe] at NT
 obtain ⟨wo9,HR,rfl,_⟩:=NT.form
 have ai4:=BV (s.cut i)
 have hct:(s.cut i).l.length=i:=by show (s.l.take i).length=i;rw[dE];omega
 obtain ⟨lY,MS⟩:=F8 (s.cut i) (n:=i) gz
 have MS:(jI (s.cut i))[i]=(mB s i:Int):=by
   rw[MS]
   unfold mB
   rw[DY,gd,Nat.min_self]
 have hfx:s.l.take i=[]→s.l[i].gF=s.first:=fun h=>by
   have:i=0:=by have:=congrArg List.length h;rw[dE,dR] at this;omega
   subst this
   exact hf gz
 have hfa:∀x,(s.l.take i).getLast?=some x→iZ x∧yF x s.l[i]:=fun x hx=>by
   rw[fE] at hx
   obtain ⟨h1,h2⟩:=dV.1 hx
   rw[List.getElem_take] at h2
   have h3:(s.l.take i).length=i:=by rw[dE];omega
   rw[h3] at h1
   simp only[h3] at h2
   have:=hc.nx (i-1) gz
   simp only[show i-1+1=i by omega,h2] at this
   exact ⟨hc.ok x (by rw[←h2];exact dG _),this⟩
 have ai0:=(BU (hc.ok _ (dG lC))).2
 refine g_ [6,711,68,1] ?_
 refine WL.h rfl (ak fa rfl gO (by rw[show 1+((i:Int)).toNat*1=i+1 by omega,eT gz];exact hwi) ⟨_,rfl,?_⟩)
 refine g_ [6] ?_
 refine c_ call115 rfl (Lx s.l[i] (hc.ok _ (dG lC)) (.slice wo9 (iB s.l[i]).length HR) D NT) ?_
 rintro x69 H69 ⟨wk,wd,A,rfl,nF,zH,rfl⟩
 obtain ⟨ko,kc,rfl,_⟩:=nF.form
 obtain ⟨xo,xc,rfl,_⟩:=zH.form
 refine g_ [3] ?_
 refine iS lh fun FX=>?_
 refine g_ [311,7,702,1073,2] ?_
 refine aS (dj:=74) rfl rfl rfl (aF (n:=11) (cs:=enc s.l[i] _ _) fa rfl gO rfl ⟨_,rfl,?_⟩)
 refine bq (dj:=74) rfl rfl rfl (iE.func call161 rfl) (acY p s.no s.first (ij s) (jI (s.cut i)) (s.l.take i) _ (xJ.mono (Ap.v ⟨.slice eo (jI (s.cut i)).length ec,.slice lo (s.l.take i).length lc,Ce,Ca,Cb,cells,rfl,hx,hE,hL,hV⟩) (Sp.sub fc)) s.l[i] (hc.ok _ (dG lC)) (by rw[dE];omega) hfx hfa _ _ (nF.mono (Sp.sub fc)) (zH.mono (Sp.sub fc))) ?_
 refine g_ [709,1078,7,511] ?_
 refine w_ [0,1,2,2027,3] ?_
 refine iD 4 [3] rfl (ab fa rfl gO (pG hx)) ?_
 refine iD 5 [] rfl (aQ (n:=11) (cs:=enc s.l[i] _ _) fa rfl gO rfl) ?_
 refine gD 6 ?_
 refine SO.h rfl Wt.none rfl (aX (e:=77) (sz:=11) (zs:=lh) (vs:=(enc s.l[i] (.slice ko s.l[i].key.length kc) (.slice xo s.l[i].data.length xc))) fa fa fa rfl rfl rfl fa fun Iu=>⟨_,rfl,?_⟩)
 refine gG ?_ (hr:=by exact ig (iw [3] rfl (aw Wt.none (ab fa rfl gO (pG hx))) fa) jl)
 refine gD 7 ?_
 refine SO.h rfl Wt.none rfl (bU (e:=77) (sz:=11) (bytes:=112) (zs:=lh) (m:=1) fa fa rfl gz rfl rfl hL fc (cm gO) rfl (sV rfl rfl) gz (by rw[dE];simp only[maxLen];omega) (by rw[dE];omega) fun v87 Al xW=>⟨_,rfl,?_⟩)
 refine gG ?_
 obtain ⟨yr,yq,rfl,_⟩:=xW.form
 have wX:VL nh (Cb++A) (cells++(enc s.l[i] (.slice ko s.l[i].key.length kc) (.slice xo s.l[i].data.length xc))) (s.l.take (i+1)):=by
   rw[dJ lC]
   exact (hV.mono fun c hc=>dw _ hc).append (VL.one (E:=nh) ⟨_,_,rfl,nF.mono fun c hc=>dq _ hc,zH.mono fun c hc=>dq _ hc⟩)
 have S7:kQ (.slice yr ((s.l.take i).length+1) yq) (s.l.take (i+1)).length (cells++(enc s.l[i] (.slice ko s.l[i].key.length kc) (.slice xo s.l[i].data.length xc))) 77 11 Al:=by
   have e8:(s.l.take (i+1)).length=(s.l.take i).length+1:=by rw[dE,dE];omega
   rw[e8]
   exact xW
 refine w_ [8,2027,9] ?_
 refine gD 10 ?_
 refine SO.s rfl Wt.none (aq (iT:=kG s.no s.first (ij s) (.slice eo (jI (s.cut i)).length ec) (.slice yr ((s.l.take i).length+1) yq)) fa rfl rfl gA ir (by rw[xz hx];decide) (Pf hx _) ⟨rfl,?_⟩)
 refine gG ?_
 refine gM ?_
 refine g_ [1,522] ?_
 refine w_ [0,1,2,2026,3] ?_
 refine iD 4 [3] rfl (ab fa rfl gO (Fj hx)) ?_
 refine w_ [5,6,7,2027,8] ?_
 refine iD 9 [8] rfl (ab fa rfl gO (pG hx)) ?_
 refine w_ [3077,10,1004,11] ?_
 refine az (v:=.int .i64 (i:Int)) (congrArg (Value.int .i64) (by rw[dE];omega)) ?_
 refine w_ [13,3005,14] ?_
 refine gD 12 ?_
 refine iI rfl call112 rfl (Hq p s.no s.first (ij s) (jI (s.cut i)) (s.l.take (i+1)) (row p (kG s.no s.first (ij s) (.slice eo (jI (s.cut i)).length ec) (.slice yr ((s.l.take i).length+1) yq)) 248::(Ce++(Al++(Cb++A)))) (Ap.v ⟨.slice eo (jI (s.cut i)).length ec,.slice yr ((s.l.take i).length+1) yq,Ce,Al,Cb++A,cells++(enc s.l[i] (.slice ko s.l[i].key.length kc) (.slice xo s.l[i].data.length xc)),rfl,hx,hE,S7,wX⟩) i lY _ MS) ?_
 rintro ajK aiu ⟨rfl,rfl⟩
 refine gG ?_ (hr:=by exact ig (iw [8] rfl (aw Wt.none (ab fa rfl gO (pG hx))) fa) (ig (iw [3] rfl (aw Wt.none (ab fa rfl gO (Fj hx))) fa) jl))
 refine jy 15 [14] rfl call162 rfl (WM _ _) ax ?_
 refine az (v:=.int .i64 ((8:Int)+((iB s.l[i]).length:Int))) (congrArg (Value.int .i64) (by unfold Sum.Ed;rw[dx gz];omega)) ?_
 refine w_ [1003,16] ?_
 refine gD 17 ?_
 refine SO.h rfl Wt.none rfl (bp (e:=3) (z:=.int .i64 0) fa fa fa rfl gA fun aiC=>⟨_,rfl,?_⟩)
 refine gG ?_ (hr:=by exact ig (bI (congrArg (Value.int .i64) (by unfold Sum.Ed;rw[dx gz];omega)) (iw [14] rfl (aO Wt.none (iE.func call162 rfl) (WM _ _) ax) fa)) (ig (iw [8] rfl (aw Wt.none (ab fa rfl gO (pG hx))) fa) (ig (iw [3] rfl (aw Wt.none (ab fa rfl gO (Fj hx))) fa) jl)))
 refine gD 18 ?_
 refine SO.h rfl Wt.none rfl (bU (e:=3) (sz:=1) (bytes:=8) (zs:=[.int .i64 0]) (m:=1) fa fa rfl gz rfl rfl hE fc (cm gO) rfl (by intro u hu;rw[dH.1 hu];rfl) gz (by simp only[maxLen];omega) gz fun ajz PU SK=>⟨_,rfl,?_⟩)
 refine gG ?_ (hr:=by exact ig (iw [8] rfl (aw Wt.none (ab fa rfl gO (pG hx))) fa) jl)
 obtain ⟨yZ,yV,rfl,_⟩:=SK.form
 refine w_ [19,2026,20] ?_
 refine gD 21 ?_
 refine SO.s rfl Wt.none (aq (iT:=kG s.no s.first (ij s) (.slice yZ ((jI (s.cut i)).length+1) yV) (.slice yr ((s.l.take i).length+1) yq)) fa rfl rfl gA ir (by rw[xz hx];decide) (Kr hx _) ⟨rfl,?_⟩)
 refine gG ?_
 refine gM ?_
 refine g_ [3,703,2] ?_
 exact ai (⟨i+1,.slice yZ ((jI (s.cut i)).length+1) yV,.slice yr ((s.l.take i).length+1) yq,PU,Al,Cb++A,cells++(enc s.l[i] (.slice ko s.l[i].key.length kc) (.slice xo s.l[i].data.length xc))⟩) (show (i+1)≤s.l.length∧kQ (.slice yZ ((jI (s.cut i)).length+1) yV) (jI (s.cut (i+1))).length (ic (jI (s.cut (i+1)))) 3 1 PU∧kQ (.slice yr ((s.l.take i).length+1) yq) (s.l.take (i+1)).length (cells++(enc s.l[i] (.slice ko s.l[i].key.length kc) (.slice xo s.l[i].data.length xc))) 77 11 Al∧VL nh (Cb++A) (cells++(enc s.l[i] (.slice ko s.l[i].key.length kc) (.slice xo s.l[i].data.length xc))) (s.l.take (i+1)) from ⟨by omega,by rw[aai s lC,dr,UF];exact SK,S7,wX⟩) (show s.l.length-(i+1)<s.l.length-i by omega) (Sx.put rfl (gL)) fc
 have lY:i=s.l.length:=by omega
 subst lY
 refine g_ [12] ?_
 refine gH ((row p (kG s.no s.first (ij s) (.slice eo (jI (s.cut s.l.length)).length ec) (.slice lo (s.l.take s.l.length).length lc)) 248::(Ce++(Ca++Cb)))++H) ?_
 refine aa results94 rfl ?_
 rw[IA] at hE ⊢
 rw[eH] at hL hV ⊢
 exact ⟨p,_,rfl,⟨_,_,Ce,Ca,Cb,cells,rfl,hx,hE,hL,hV⟩,rfl⟩
theorem acZ (pj pd:Nat) (va:Value) (ps:List Nat) (ss:List gR) (D:List Ck) (hS:nJ 248 3 77 ps ss D) (hj:iM ss) (hb:(gh ss).length≤125) (Ca:List Ck) (qK:Rs va 32 (sQ ps) Ca) (H:List Ck):gC prog 95 [ptr pj,va] (row pj [ptr pd,.int .i64 32,.slice none 0 0,.int .u64 0,.bool false] 223::(D++(Ca++H))) fun r gr=>∃vs Cv,kQ vs ss.length (ps.map ptr) 229 1 Cv∧gr=row pj [ptr pd,.int .i64 32,vs,.int .u64 0,.bool false] 223::(Cv++(D++(Ca++H))):=by
 refine gC.enter func95 rfl ntmps95 rfl ?_
 intro w0 R
 have lx:=hS.len
 have uL:=hj.jW gz
 obtain ⟨vo,vc,rfl,_⟩:=qK.form
 refine g_ [9,710,229,4] ?_
 refine aC (fun z:Nat=>z≤32) (fun z:Nat=>[(4,.pointer (wg (ps.take z))),(11,.int .i64 (z:Int))]) (fun z:Nat=>row pj [ptr pd,.int .i64 32,.slice none 0 0,.int .u64 0,.bool false] 223::(D++(Ca++H))) (fun z:Nat=>32-z) (0) (show 0≤32 from dN _) (Sx.put rfl (Sx.put rfl (gL))) fc ?_
 rintro i hI
 replace hI:i≤32:=hI
 obtain hi:=hI
 change WC _ _ _ _ _ _ ([(4,.pointer (wg (ps.take i))),(11,.int .i64 (i:Int))]++_) (row pj [ptr pd,.int .i64 32,.slice none 0 0,.int .u64 0,.bool false] 223::(D++(Ca++H)))
 refine g_ [2,705,3] ?_
 refine gK rfl (fun nj=>?_) fun nj=>?_
 have gQ:i<32:=by omega
 have j6:=QJ (ps:=ps) gz gQ
 refine g_ [6] ?_
 refine bX (e:=229) fa fa fa rfl rfl (rfl) (qK.mono (Sp.sub fc)) (j6) gz rfl rfl ?_
 intro _
 refine g_ [4,517] ?_
 refine w_ [0] ?_
 refine gW 1 [0] rfl (aK underlying229 rfl rfl) fa ?_
 refine w_ [2] ?_
 refine bR (fun w8=>?_) (fun w8=>?_)
 have TU:=ae2 w8
 obtain ⟨ajD,ajH,T2c,aiU,aiN,ab1,ai8,ajm,ajv⟩:=hS.at (i) gz gz
 refine w_ [3] ?_
 refine jP 4 [3,2] 17 rfl rfl (an underlying229 rfl rfl) fa ?_
 refine w_ [5] ?_
 refine bR (fun rl=>?_) (fun rl=>?_)
 refine w_ [6,7,8,9,10,11,12,13,14,15,16] ?_
 refine gM ?_
 refine g_ [9,703,2] ?_
 rw[←N8 TU];exact ai (i+1) (show i+1≤32 by omega) (show 32-(i+1)<32-(i) by omega) (Sx.put rfl (Sx.put rfl (gL))) fc
 obtain ⟨e,rfl⟩:∃e,i=e+1:=by
   rcases Nat.eq_zero_or_pos i with h0|h0
   · subst h0;rw[fJ] at rl;cases rl
   exact ⟨i-1,by omega⟩
 obtain ⟨ajE,ajI,T2d,aiV,aiO,ab2,ai9,ajn,ajw⟩:=hS.at (e) gz gz
 refine w_ [6] ?_
 refine az (v:=ptr ps[e+1]) (congrArg Value.pointer (Hy gz)) ?_
 refine w_ [7,1000,8] ?_
 refine ki 9 [8,5] 20 rfl rfl rfl (ab fa rfl (aA fc ab1) gA) ?_
 refine w_ [10] ?_
 refine az (v:=ptr ps[e]) (congrArg Value.pointer ((N8 gz).trans (Hy gz))) ?_
 refine w_ [11,1000,12] ?_
 refine ki 13 [12,5] 20 rfl rfl rfl (ab fa rfl (aA fc ab2) gA) ?_
 refine w_ [1007,14] ?_
 refine qf (by have h1:=J6 hj (i:=e) gz;have h2:=J6 hj (i:=e+1) gz;omega) ?_
 refine w_ [15,16] ?_
 refine gM ?_
 refine g_ [9,703,2] ?_
 rw[←N8 TU];exact ai (e+1+1) (show e+1+1≤32 by omega) (show 32-(e+1+1)<32-(e+1) by omega) (Sx.put rfl (Sx.put rfl (gL))) fc
 refine w_ [3,4,5,6,7,8,9,10,11,12,13,14,15,16] ?_
 refine gM ?_
 refine g_ [6,703,2] ?_
 rw[←adU (ae1 w8)];exact ai (i+1) (show i+1≤32 by omega) (show 32-(i+1)<32-(i) by omega) (Sx.put rfl (Sx.put rfl (gL))) fc
 have lY:i=32:=by omega
 subst lY
 refine g_ [9] ?_
 refine ae rfl (an underlying229 rfl rfl) (qb (WC.cond rfl (fun uG=>?_) (fun uG=>?_)))
 have Uf:ps=[]:=N7 (by rw[dL gz] at uG;exact uG)
 refine g_ [2] ?_
 refine gH (row pj [ptr pd,.int .i64 32,.slice none 0 0,.int .u64 0,.bool false] 223::([]++(D++(Ca++H)))) ?_
 refine DN.O0 results95 ?_
 exact ⟨_,[],by rw[Uf,show ss=[] from dU (by rw[←lx,Uf];rfl)];exact kQ.nil _ _,rfl⟩
 obtain ⟨q,hq⟩:∃q,ps.length=q+1:=by
   rcases Nat.eq_zero_or_pos ps.length with h0|h0
   · rw[dU h0] at uG;cases uG
   exact ⟨ps.length-1,by omega⟩
 have hlq:=EP hq
 rw[dL gz,hlq]
 obtain ⟨ajB,ajF,T2a,aiS,aiL,abZ,ai6,ajk,ajt⟩:=hS.at (q) gz gz
 refine g_ [6] ?_
 refine WL.h rfl (bp (e:=229) (z:=.pointer none) fa fa fa rfl gA fun FZ=>⟨_,rfl,?_⟩)
 refine g_ [1,102,7,100] ?_
 refine WL.h rfl (ak fa rfl (aA fc abZ) gA ⟨_,rfl,?_⟩)
 refine af (t:=44) (v:=.int .u32 (BitVec.ofNat 32 q).toNat) rfl (congrArg (fun q:BitVec 32=>Value.int .u32 q.toNat) (Vs hj gz gz)) ?_
 refine g_ [4] ?_
 refine aC (fun z:Nat×Value×List Ck=>z.1<ss.length∧il z.2.1 (ss.length-z.1) ((ps.drop z.1).map ptr) 229 1 z.2.2) (fun z:Nat×Value×List Ck=>[(7,.int .u32 (BitVec.ofNat 32 z.1).toNat)]) (fun z:Nat×Value×List Ck=>row pj [ptr pd,.int .i64 32,z.2.1,.int .u64 0,.bool false] 223::(z.2.2++(D++(Ca++H)))) (fun z:Nat×Value×List Ck=>z.1) (⟨q,.slice (some ⟨FZ,0,none⟩) 1 1,[row FZ [ptr (ps[q]'gz)] 229]⟩) (show q<ss.length∧il (.slice (some ⟨FZ,0,none⟩) 1 1) (ss.length-q) ((ps.drop q).map ptr) 229 1 ([row FZ [ptr (ps[q]'gz)] 229]) from ⟨by omega,by rw[show ss.length-q=1 by omega,List.drop_eq_getElem_cons gz,fv gz];exact .inr ⟨FZ,1,[],rfl,dA _,by simp only[maxLen];omega,rfl,rfl,rfl⟩⟩) (Sx.put rfl (gL)) fc ?_
 rintro ⟨m,v,Cv⟩ hI
 replace hI:m<ss.length∧il v (ss.length-m) ((ps.drop m).map ptr) 229 1 Cv:=hI
 obtain ⟨hm,hO⟩:=hI
 change WC _ _ _ _ _ _ ([(7,.int .u32 (BitVec.ofNat 32 m).toNat)]++_) (row pj [ptr pd,.int .i64 32,v,.int .u64 0,.bool false] 223::(Cv++(D++(Ca++H))))
 obtain ⟨so,sc,rfl,_⟩:=hO.form
 have GX:=EZ (m:=m) gz
 refine g_ [4,707,2] ?_
 refine gK rfl (fun LY=>?_) fun LY=>?_
 obtain ⟨u,rfl⟩:∃u,m=u+1:=⟨m-1,by omega⟩
 have ym:=aez (m:=u) gz
 have nX:=EZ (m:=u) gz
 obtain ⟨ajC,ajG,T2b,aiT,aiM,ab0,ai7,ajl,aju⟩:=hS.at (u) gz gz
 have GC:=QJ (ps:=ps) gz (i:=u) gz
 rw[Hy gz] at GC
 refine g_ [8] ?_
 refine ae rfl (cN _ (1#32) rfl rfl rfl rfl) (af (t:=51) (v:=.int .u32 (BitVec.ofNat 32 u).toNat) rfl (congrArg (fun q:BitVec 32=>Value.int .u32 q.toNat) ym) ?_)
 refine ae rfl (bS _ fa fa rfl rfl) ?_
 refine g_ [2,101,1] ?_
 refine ae rfl (Yd.rem rfl rfl gz gz) ?_
 refine af (t:=57) (v:=.int .i64 (u:Int)) rfl (congrArg (Value.int .i64) gz) ?_
 refine bX (e:=229) fa fa fa rfl rfl (rfl) (qK.mono (Sp.sub fc)) (GC) gz rfl rfl ?_
 intro _
 refine g_ [7] ?_
 refine ae rfl (an underlying229 rfl rfl) (g_ [1061,3,100] ?_)
 refine aS (dj:=62) rfl rfl rfl (ak fa rfl (aA fc ab0) gA ⟨_,rfl,?_⟩)
 refine g_ [1] ?_
 refine jx 62 rfl rfl rfl (cN _ (1#32) rfl rfl rfl rfl) (jx 62 rfl rfl rfl (bZ _ _ rfl rfl rfl rfl) (j8 69 rfl (fun h=>h ((Vs hj gz gz).trans ym.symm)) ?_))
 refine g_ [5,102,1] ?_
 refine bq (dj:=71) rfl rfl rfl (iE.func call163 rfl) (ac4 ps[u] ss[u] _ (ps.drop (u+1)) (ss.drop (u+1)) _ ((hS.at u gz gz).mono (Sp.sub fc)) (by rw[eg];exact hO.rs.mono (Sp.sub fc)) (by rw[eg,eg];omega) (fun i h1 h2=>by rw[eg] at h1 h2;rw[List.getElem_drop,List.getElem_drop];exact (hS.at (u+1+i) gz gz).mono (Sp.sub fc)) (fun h=>by have:=congrArg List.length h;rw[eg] at this;simp at this;omega) (by rw[eg];omega) (fun t ht=>by obtain ⟨k,hk,rfl⟩:=List.mem_iff_getElem.1 (List.mem_of_mem_drop ht);have:=Fg hk;omega) (by have:=Fg (ss:=ss) (q:=u) gz;omega) (fun h=>by rw[List.getElem_drop];exact aeE hj gz gz) (Rn hj gz)) ?_
 refine g_ [709,1078,10,102,2] ?_
 refine WL.h rfl (bp (e:=229) (z:=.pointer none) fa fa fa rfl gA fun Iu=>⟨_,rfl,?_⟩)
 refine c_ call164 rfl (acJ (.slice so (ss.length-(u+1)) sc) (ss.length-(u+1)) ((ps.drop (u+1)).map ptr) Cv hO (by intro x hx;obtain ⟨p,_,rfl⟩:=ei.1 hx;rfl) gz 0 (dN _) Iu [ptr ps[u]] rfl (by intro x hx;rw[dH.1 hx];rfl)) ?_
 rintro r9 C9 Gv
 replace Gv:il r9 (ss.length-u) ((ps.drop u).map ptr) 229 1 C9:=by
   rw[List.drop_eq_getElem_cons gz,dY,show ss.length-u=ss.length-(u+1)+1 by omega]
   simpa using Gv
 have zk:=Gv.form
 obtain ⟨xo,xc,rfl,_⟩:=Gv.form
 refine g_ [1,102,6] ?_
 refine ae rfl (cN _ (1#32) rfl rfl rfl rfl) (af (t:=48) (v:=.int .u32 (BitVec.ofNat 32 u).toNat) rfl (congrArg (fun q:BitVec 32=>Value.int .u32 q.toNat) ym) ?_)
 refine g_ [2] ?_
 exact ai ⟨u,.slice xo (ss.length-u) xc,C9⟩ ⟨by show u<ss.length;omega,Gv⟩ (show u<u+1 by omega) (Sx.put rfl (gL)) fc
 refine g_ [4] ?_
 refine gH (row pj [ptr pd,.int .i64 32,.slice so (ss.length-m) sc,.int .u64 0,.bool false] 223::(Cv++(D++(Ca++H)))) ?_
 refine bl results95 ?_
 have kh:m=0:=by omega
 subst kh
 exact ⟨_,Cv,by rw[Nat.sub_zero,List.drop_zero] at hO;exact hO.w,rfl⟩
theorem adb {gI:List (BitVec 8)} {ss:List gR} (hj:iM ss) (hH:Holds gI ss) (hb:(gh ss).length≤125) (i:Nat) (hi:i<32) (ps:List Nat) (D:List Ck) (hS:nJ 248 3 77 ps (ss.take i) D) (H:List Ck):
    gC prog 94 [.agg (bc (slot gI i)).toArray,.int .i64 (i:Int),.int .i64 32] H fun r gr=>∃pa Br C,r=.pointer pa∧(sQ ps).set i (.pointer pa)=sQ Br∧nJ 248 3 77 Br (ss.take (i+1)) (D++C)∧gr=C++H:=by
  have uL:=hj.jW gz
  have lx:=hS.len
  by_cases h:i<ss.length
  · have hL:=hj.at i h
    have jf:=J6 hj h
    have ie:=hH.on i h
    have hc:mE ss[i].l:=by
      have:=Rn hj h
      have:=this.take ss[i].l.length
      rwa [dQ (dA _),eH] at this
    have hf:∀(h0:0<ss[i].l.length),ss[i].l[0].gF=ss[i].first:=fun h0=>by
      have e:=(BM ss i).trans (by rw[DP h])
      have h2:=hj.row.gF (gh (ss.take i)).length (by rw[e,dr,dr];omega)
      have e2:(gh ss)[(gh (ss.take i)).length]?=some ss[i].l[0]:=by
        rw[e,fD (dA _),Nat.sub_self,eT h0,dK h0]
      obtain ⟨h3,h4⟩:=dV.1 e2
      rw[h4] at h2
      exact dB (h2.trans hL.first.symm)
    have hle:=Fg h
    have hr:=ada ss[i] hL.fit gz hc hf gz H
    rw[jf,←ie] at hr
    refine hr.mono fun v gr ⟨p,C,h1,h2,h3⟩=>⟨some ⟨p,0,none⟩,ps++[p],C,h1,?_,?_,h3⟩
    · rw[dE] at lx
      unfold sQ
      rw[List.set_append_right _ _ (by rw[List.length_map];omega),List.length_map,show i-ps.length=0 by omega,show 32-ps.length=(32-(ps++[p]).length)+1 by rw[dr,dZ];omega,List.replicate_succ,fC,fW,dD]
      rfl
    rw[dJ h]
    exact hS.snoc h2
  have hr:=ade (slot gI i) (yv hH.len hi) (hH.off i gz hi) i hi H
  refine hr.mono fun v gr ⟨h1,h3⟩=>⟨none,ps,[],h1,?_,?_,h3⟩
  · rw[dE] at lx
    unfold sQ
    rw[List.set_append_right _ _ (by rw[List.length_map];omega)]
    congr 1
    apply eM
    intro k
    rw[List.getElem?_set,gj,List.getElem?_replicate]
    split
    · rename_i e
      subst e
      have e9:(ps.map ptr).length=ps.length:=List.length_map _
      simp only[e9] at*
    rfl
  rw[dL gz] at hS
  rw[dL gz,eF]
  exact hS
theorem ac7 (pd:Nat) (gI:List (BitVec 8)) (CD:List Ck) (hD:jo 97 127 129 pd gI 0 CD) (ss:List gR) (hj:iM ss) (hH:Holds gI ss) (hb:(gh ss).length≤125) (H:List Ck):gC prog 55 [ptr pd] (CD++H) fun r gr=>∃pj CJ jb,r=.tuple #[ptr pj,.int .i64 0]∧na 223 229 248 3 77 pj pd ss (js (gh ss)) CJ∧jo 97 127 129 pd gI 0 jb∧gr=CJ++(jb++H):=by
 refine gC.enter func55 rfl ntmps55 rfl ?_
 intro w0 R
 have rT:=hD.len
 have uL:=hj.jW gz
 refine g_ [10] ?_
 refine ae rfl (an underlying30 rfl rfl) (g_ [1013,9] ?_)
 refine jv call91 rfl (YK pd gI 0 CD hD []) ?_
 refine ae rfl (Yd.quo rfl rfl gz gz gz) ?_
 refine ae rfl (cg rfl rfl) (af (t:=18) (v:=.int .i64 32) rfl gA ?_)
 refine ae rfl (aj (pl:=[(0,1),(1,1),(2,1),(3,1),(4,1)]) (zs:=[.pointer none,.int .i64 0,.slice none 0 0,.int .u64 0,.bool false]) (parts:=[(0,.tmp 14),(1,.tmp 18)]) (vs:=[(0,_),(1,_)]) (cells:=[_,_,.slice none 0 0,.int .u64 0,.bool false]) fa fa rfl rfl) ?_
 refine iV fun xL=>?_
 refine g_ [8,101,1,705,1025,9] ?_
 refine jv call92 rfl (YX pd gI 0 CD hD []) ?_
 refine g_ [709,1028,9,101,1] ?_
 refine WL.h rfl (Hd.Vg (e:=229) (n:=32) (bytes:=8) (z:=.pointer none) fa fa rfl rfl rfl rfl gB gB fun BN=>⟨_,rfl,?_⟩)
 refine g_ [8,101,5] ?_
 refine aC (fun z:Nat×List Nat×List Ck=>z.1≤32∧nJ 248 3 77 z.2.1 (ss.take z.1) z.2.2) (fun z:Nat×List Nat×List Ck=>[(38,.int .i64 (z.1:Int))]) (fun z:Nat×List Nat×List Ck=>row xL [ptr pd,.int .i64 32,.slice none 0 0,.int .u64 0,.bool false] 223::(row BN (sQ z.2.1) 229::(z.2.2++(CD++H)))) (fun z:Nat×List Nat×List Ck=>32-z.1) (⟨0,[],[]⟩) (show 0≤32∧nJ 248 3 77 [] (ss.take 0) [] from ⟨dN _,by rw[fJ];exact .nil⟩) (Sx.put rfl (gL)) fc ?_
 rintro ⟨i,ps,D⟩ hI
 replace hI:i≤32∧nJ 248 3 77 ps (ss.take i) D:=hI
 obtain ⟨hi,hS⟩:=hI
 change WC _ _ _ _ _ _ ([(38,.int .i64 (i:Int))]++_) (row xL [ptr pd,.int .i64 32,.slice none 0 0,.int .u64 0,.bool false] 223::(row BN (sQ ps) 229::(D++(CD++H))))
 refine g_ [2,705,3] ?_
 refine gK rfl (fun h39=>?_) fun h39=>?_
 have Jj:i<32:=by omega
 have ED:=yv rT Jj
 have lx:=hS.len
 have acj:ps.length≤32:=by rw[lx,dE];omega
 refine g_ [12] ?_
 refine WL.h rfl (Hd.alloc (zs:=bc um) fa fun b7=>⟨_,rfl,?_⟩)
 refine g_ [9] ?_
 refine aC (fun z:Nat=>z≤16) (fun z:Nat=>[(41,.int .i64 (z:Int))]) (fun z:Nat=>row b7 (bc (mix (slot gI i) um z)) 226::(row xL [ptr pd,.int .i64 32,.slice none 0 0,.int .u64 0,.bool false] 223::(row BN (sQ ps) 229::(D++(CD++H))))) (fun z:Nat=>16-z) (0) (show 0≤16 from dN _) (Sx.put rfl (gL)) fc ?_
 rintro n hI
 replace hI:n≤16:=hI
 obtain hn:=hI
 change WC _ _ _ _ _ _ ([(41,.int .i64 (n:Int))]++_) (row b7 (bc (mix (slot gI i) um n)) 226::(row xL [ptr pd,.int .i64 32,.slice none 0 0,.int .u64 0,.bool false] 223::(row BN (sQ ps) 229::(D++(CD++H)))))
 refine g_ [2,705,3] ?_
 refine gK rfl (fun pN=>?_) fun pN=>?_
 have Ns:n<16:=by omega
 have jd:(j9 (slot gI i) n).length=64:=wJ ED Ns
 have hblk:j9 gI (i*16+n)=j9 (slot gI i) n:=by rw[←Ra rT Jj ED Ns,Fi rT Jj]
 refine g_ [14] ?_
 refine ae rfl (Yd.mul rfl rfl gz gz) ?_
 refine af (t:=47) (v:=.int .i64 ((i*16:Nat):Int)) rfl (congrArg (Value.int .i64) gz) ?_
 refine g_ [1,703] ?_
 refine af (t:=49) (v:=.int .i64 ((i*16+n:Nat):Int)) rfl (congrArg (Value.int .i64) gz) ?_
 refine c_ call93 rfl (Rc pd gI 0 CD hD (i*16+n) gz []) ?_
 rintro x50 X1 ⟨b50,rfl,rfl⟩
 rw[hblk,eF]
 refine g_ [9] ?_
 refine ae rfl (Yd.mul rfl rfl gz gz) ?_
 refine ae rfl (bY (n:=1024) (e:=5) (s:=1) (i:=64*n) fa fa rfl rfl gz gz) ?_
 refine af (t:=55) (v:=.slice (some ⟨b7,64*n,none⟩) (1024-64*n) (1024-64*n)) rfl (by rw[dp gz,eV,Nat.mul_one]) ?_
 refine g_ [1] ?_
 refine WL.h rfl (bB (e:=5) (sz:=1) (zs:=[.int .u8 0]) (bytes:=1) (q:=64) (uA:=bc (mix (slot gI i) um (n+1))) fa fa rfl rfl ir ((Bs.row jd).mono (Sp.sub fc)) (by show Nat.min (j9 (slot gI i) n).length (1024-64*n)=64;rw[jd];exact eE gz) (by rw[je,jd]) (qA _) (by rw[je,je,jd,Bm Ah ED];omega) (by rw[←On Ah ED Ns];unfold lO;rw[yP,yP,Ay,BQ,je]) ⟨_,rfl,?_⟩)
 refine g_ [4,703,2] ?_
 exact ai (n+1) (show (n+1)≤16 from by omega) (show 16-(n+1)<16-n by omega) (Sx.put rfl (gL)) fc
 have jk:n=16:=by omega
 subst jk
 rw[Om Ah ED]
 refine g_ [5,511] ?_
 refine w_ [0,1] ?_
 refine iD 2 [] rfl (aQ (n:=1024) (cs:=bc (slot gI i)) fa rfl gO (by rw[je];exact ED)) ?_
 refine w_ [3,4,5,1001,6,7] ?_
 refine gD 8 ?_
 refine iI rfl call94 rfl (adb hj hH hb i Jj ps D hS []) ?_
 rintro x67 H67 ⟨pa,Br,P6,rfl,zF,mu,rfl⟩
 refine gG ?_
 refine gW 9 [6,5,4,1,0] rfl (Yd.indexAddr (e:=229) (s:=1) fa fa rfl rfl gz gz) fa ?_
 refine gD 10 ?_
 refine SO.s rfl Wt.none (aq (iT:=sQ Br) fa rfl rfl gA ir (by rw[K1 acj];omega) (by rw[show 0+((i:Int)).toNat*1=i by omega];exact zF) ⟨rfl,?_⟩)
 refine gG ?_
 refine gM ?_
 refine g_ [3,703,2] ?_
 exact ai (⟨i+1,Br,D++P6⟩) (show (i+1)≤32∧nJ 248 3 77 Br (ss.take (i+1)) (D++P6) from ⟨by omega,mu⟩) (show 32-(i+1)<32-i by omega) (Sx.put rfl (gL)) fc
 have lY:i=32:=by omega
 subst lY
 rw[dL gz] at hS
 have lx:=hS.len
 refine g_ [9] ?_
 refine c_ call95 rfl (acZ xL pd (.slice (some ⟨BN,0,none⟩) 32 32) ps ss D hS hj hb [row BN (sQ ps) 229] (.inr ⟨BN,0,32,_,_,_,_,rfl,dA _,dy,by rw[List.drop_zero,K1 gz];exact dL (by rw[K1 gz];exact dA _)⟩) []) ?_
 rintro x72 H72 ⟨vs,Cv,kT,rfl⟩
 refine WL.fit (C:=(row xL [ptr pd,.int .i64 32,vs,.int .u64 (0#64).toNat,.bool false] 223::(Cv++D))++(CD++H)) fc ?_
 refine g_ [6] ?_
 refine c_ call96 rfl (adh xL pd ss 0#64 _ ⟨vs,ps,Cv,D,rfl,kT,hS⟩ gI 0 CD hD hj hH hb gz H) ?_
 rintro x74 H74 ⟨CJ,ml,rfl,hJ,ot,rfl⟩
 have sy:=hJ
 obtain ⟨vs2,Br,Qf,D2,rfl,Uy,mu⟩:=hJ
 obtain ⟨vo2,vc2,rfl,_⟩:=Uy.form
 refine g_ [6,702,1076,9] ?_
 refine iG call64 rfl (qM xL pd ss 0#64 _ (sy.v.mono (Sp.sub fc)) gz hj gz) ?_
 refine g_ [1,103,11] ?_
 refine gH ((row xL [ptr pd,.int .i64 32,.slice vo2 ss.length vc2,.int .u64 (js (gh ss)).toNat,.bool false] 223::(Qf++D2))++(ml++H)) ?_
 exact ay results55 rfl rfl (⟨xL,_,ml,rfl,⟨_,Br,Qf,D2,rfl,Uy,mu⟩,ot,rfl⟩)
theorem Ks (mode:Int) (H:List Ck):Reads prog 63 [.int .i64 mode] H (.bool (decide (mode=1∨mode=2))):=by
 refine gC.enter func63 rfl ntmps63 rfl ?_
 intro w0 R
 refine g_ [8,701,1] ?_
 refine ag (t:=5) rfl (fun rn=>?_) (fun rn=>?_)
 refine g_ [7] ?_
 refine gH H ?_
 refine aa results63 rfl (⟨?_,rfl⟩)
 congr 1
 rw[dM]
 simp only[dz,fR,eW]
 omega
 refine g_ [1,701,5] ?_
 refine gH H ?_
 refine aa results63 rfl (⟨?_,rfl⟩)
 congr 1
 rw[dM]
 simp only[dz,fR,eW]
 omega
theorem wx (p:Nat) (vp:Value) (pj:Nat) (seen:BitVec 32) (vr:Value) (T:TypeId) (fr:Nat×Nat) (ex:Bool) (H:List Ck) (hU:(⟨p,.cells (iN vp pj seen vr).toArray T fr,ex⟩:Ck)∈H):Reads prog 37 [ptr p] H vr:=by
 refine gC.enter func37 rfl ntmps37 rfl ?_
 intro w0 R
 refine g_ [9] ?_
 refine ae rfl (an underlying32 rfl rfl) (g_ [1004,9,103] ?_)
 refine WL.h rfl (ak (cs:=iN vp pj seen vr) fa rfl (ib hU) gA ⟨_,rfl,?_⟩)
 refine g_ [4] ?_
 refine gH H ?_
 exact aa results37 rfl (⟨rfl,rfl⟩)
theorem af8 (p pd:Nat) (ps:List (List ia)) (gN:∀q∈ps,jh q) (ss:List gR) (hj:iM ss) (hb:(gh ss).length≤125) (ie:ss.length≤1000) (seen:BitVec 32) (L:Ld) (H:List Ck) (hv:kX p pd ps ss seen none L H):Reads prog 17 [ptr p] H (.int .u32 (nV none).toNat):=by
 refine gC.enter func17 rfl ntmps17 rfl ?_
 intro w0 R
 obtain ⟨vp,pj,vr,T9,kr,km,hU,hJ,hR,hP⟩:=hv
 obtain rfl:vr=.pointer none:=hR
 refine gY (ae rfl (Yd.assign (v:=.int .u32 ((0#32).toNat:Int)) rfl) (g_ [6] ?_))
 refine iG call37 rfl (wx p vp pj seen _ T9 kr km _ (ib hU)) ?_
 refine g_ [6] ?_
 refine ae rfl (aK underlying108 rfl rfl) (g_ [1007,7] ?_)
 refine ae rfl (Yd.assign (v:=.int .u32 ((0#32).toNat:Int)) rfl) (g_ [3] ?_)
 refine gH H ?_
 exact aa results17 rfl (⟨rfl,rfl⟩)
theorem af9 (p pd:Nat) (ps:List (List ia)) (gN:∀q∈ps,jh q) (ss:List gR) (hj:iM ss) (hb:(gh ss).length≤125) (ie:ss.length≤1000) (seen:BitVec 32) (r:Rl) (L:Ld) (H:List Ck) (hv:kX p pd ps ss seen (some r) L H):Reads prog 17 [ptr p] H (.int .u32 (nV (some r)).toNat):=by
 refine gC.enter func17 rfl ntmps17 rfl ?_
 intro w0 R
 obtain ⟨vp,pj,vr,T9,kr,km,hU,hJ,hR,hP⟩:=hv
 obtain ⟨q,pl,T8,Ec,D5,rfl,pB,hL,jG⟩:=hR
 refine gY (ae rfl (Yd.assign (v:=.int .u32 ((0#32).toNat:Int)) rfl) (g_ [6] ?_))
 refine iG call37 rfl (wx p vp pj seen _ T9 kr km _ (ib hU)) ?_
 refine g_ [6] ?_
 refine ae rfl (aK underlying108 rfl rfl) (g_ [2007,7,100] ?_)
 refine WL.h rfl (ak (cs:=jO r pl) fa rfl (ib pB) gA ⟨_,rfl,?_⟩)
 refine g_ [5] ?_
 refine gH H ?_
 exact aa results17 rfl (⟨rfl,rfl⟩)
theorem wu (p pd:Nat) (ps:List (List ia)) (gN:∀q∈ps,jh q) (ss:List gR) (hj:iM ss) (hb:(gh ss).length≤125) (ie:ss.length≤1000) (seen:BitVec 32) (r:Option Rl) (L:Ld) (H:List Ck) (hv:kX p pd ps ss seen r L H):Reads prog 17 [ptr p] H (.int .u32 (nV r).toNat):=by
  cases r with
  |none=>exact af8 p pd ps gN ss hj hb ie seen L H hv
  |some r=>exact af9 p pd ps gN ss hj hb ie seen r L H hv
theorem agj (p pd:Nat) (ps:List (List ia)) (gN:∀q∈ps,jh q) (ss:List gR) (hj:iM ss) (hb:(gh ss).length≤125) (ie:ss.length≤1000) (seen:BitVec 32) (L:Ld) (H:List Ck) (hv:kX p pd ps ss seen none L H) (now:BitVec 64):Reads prog 26 [ptr p,.int .u64 now.toNat] H (.bool (lj none now)):=by
 refine gC.enter func26 rfl ntmps26 rfl ?_
 intro w0 R
 obtain ⟨vp,pj,vr,T9,kr,km,hU,hJ,hR,hP⟩:=hv
 obtain rfl:vr=.pointer none:=hR
 refine g_ [8] ?_
 refine iG call37 rfl (wx p vp pj seen _ T9 kr km _ (ib hU)) ?_
 refine g_ [6] ?_
 refine ae rfl (aK underlying108 rfl rfl) (g_ [1009,12] ?_)
 refine gH H ?_
 refine aa results26 rfl (⟨?_,rfl⟩)
 rfl
theorem agk (p pd:Nat) (ps:List (List ia)) (gN:∀q∈ps,jh q) (ss:List gR) (hj:iM ss) (hb:(gh ss).length≤125) (ie:ss.length≤1000) (seen:BitVec 32) (r:Rl) (L:Ld) (H:List Ck) (hv:kX p pd ps ss seen (some r) L H) (now:BitVec 64):Reads prog 26 [ptr p,.int .u64 now.toNat] H (.bool (lj (some r) now)):=by
 refine gC.enter func26 rfl ntmps26 rfl ?_
 intro w0 R
 obtain ⟨vp,pj,vr,T9,kr,km,hU,hJ,hR,hP⟩:=hv
 obtain ⟨q,pl,T8,Ec,D5,rfl,pB,hL,jG⟩:=hR
 refine g_ [8] ?_
 refine iG call37 rfl (wx p vp pj seen _ T9 kr km _ (ib hU)) ?_
 refine g_ [6] ?_
 refine ae rfl (aK underlying108 rfl rfl) (g_ [2009,4,101] ?_)
 refine aS (dj:=10) rfl rfl rfl (ak (cs:=jO r pl) fa rfl (ib pB) gA ⟨_,rfl,?_⟩)
 refine g_ [706,5] ?_
 refine gH H ?_
 refine aa results26 rfl (⟨?_,rfl⟩)
 show Value.bool (decide ((now.toNat:Int)≤(r.iC.toNat:Int)))=Value.bool (decide (now.toNat≤r.iC.toNat));congr 1;rw[dM,dz,dz];omega
theorem vj (p pd:Nat) (ps:List (List ia)) (gN:∀q∈ps,jh q) (ss:List gR) (hj:iM ss) (hb:(gh ss).length≤125) (ie:ss.length≤1000) (seen:BitVec 32) (r:Option Rl) (L:Ld) (H:List Ck) (hv:kX p pd ps ss seen r L H) (now:BitVec 64):Reads prog 26 [ptr p,.int .u64 now.toNat] H (.bool (lj r now)):=by
  cases r with
  |none=>exact agj p pd ps gN ss hj hb ie seen L H hv now
  |some r=>exact agk p pd ps gN ss hj hb ie seen r L H hv now
theorem afY (p pd:Nat) (ps:List (List ia)) (gN:∀q∈ps,jh q) (ss:List gR) (hj:iM ss) (hb:(gh ss).length≤125) (ie:ss.length≤1000) (seen:BitVec 32) (L:Ld) (H:List Ck) (hv:kX p pd ps ss seen none L H):Reads prog 71 [ptr p] H (.int .u64 (ng none (gh ss)).toNat):=by
 refine gC.enter func71 rfl ntmps71 rfl ?_
 intro w0 R
 obtain ⟨vp,pj,vr,T9,kr,km,hU,hJ,hR,hP⟩:=hv
 obtain rfl:vr=.pointer none:=hR
 refine gY (ae rfl (Yd.assign (v:=.int .u64 ((0#64).toNat:Int)) rfl) (g_ [5] ?_))
 refine iG call37 rfl (wx p vp pj seen _ T9 kr km _ (ib hU)) ?_
 refine g_ [7] ?_
 refine ae rfl (an underlying108 rfl rfl) (g_ [2007,5] ?_)
 refine ae rfl (Yd.assign (v:=.int .u64 ((0#64).toNat:Int)) rfl) (g_ [4] ?_)
 refine gH H ?_
 exact aa results71 rfl (⟨rfl,rfl⟩)
theorem afZ (p pd:Nat) (ps:List (List ia)) (gN:∀q∈ps,jh q) (ss:List gR) (hj:iM ss) (hb:(gh ss).length≤125) (ie:ss.length≤1000) (seen:BitVec 32) (r:Rl) (L:Ld) (H:List Ck) (hv:kX p pd ps ss seen (some r) L H):Reads prog 71 [ptr p] H (.int .u64 (ng (some r) (gh ss)).toNat):=by
 refine gC.enter func71 rfl ntmps71 rfl ?_
 intro w0 R
 obtain ⟨vp,pj,vr,T9,kr,km,hU,hJ,hR,hP⟩:=hv
 obtain ⟨q,pl,T8,Ec,D5,rfl,pB,hL,jG⟩:=hR
 refine gY (ae rfl (Yd.assign (v:=.int .u64 ((0#64).toNat:Int)) rfl) (g_ [5] ?_))
 refine iG call37 rfl (wx p vp pj seen _ T9 kr km _ (ib hU)) ?_
 refine g_ [7] ?_
 refine ae rfl (an underlying108 rfl rfl) (g_ [1007,6,515] ?_)
 refine w_ [0,1,1002,2] ?_
 refine iD 3 [2] rfl (ab (cs:=jO r pl) fa rfl (ib pB) gA) ?_
 refine w_ [4,5,1001,6] ?_
 refine iD 7 [6] rfl (ab (cs:=iN vp pj seen (ptr q)) fa rfl (ib hU) gA) ?_
 refine jy 8 [7] rfl call124 rfl (adf pj pd ss _ _ (hJ.mono hZ) ie hj gz rfl) ax ?_
 refine w_ [9,10,1006,11] ?_
 refine iD 12 [11] rfl (ab (cs:=jO r pl) fa rfl (ib pB) gA) ?_
 refine jy 13 [12,8,3] rfl call123 rfl (af0 _ _ _ _) ax ?_
 refine gD 14 ?_
 refine jm ?_
 refine gG ?_
 refine gM ?_
 refine g_ [2] ?_
 refine gH H ?_
 exact aa results71 rfl (⟨rfl,rfl⟩)
theorem Fe (p pd:Nat) (ps:List (List ia)) (gN:∀q∈ps,jh q) (ss:List gR) (hj:iM ss) (hb:(gh ss).length≤125) (ie:ss.length≤1000) (seen:BitVec 32) (r:Option Rl) (L:Ld) (H:List Ck) (hv:kX p pd ps ss seen r L H):Reads prog 71 [ptr p] H (.int .u64 (ng r (gh ss)).toNat):=by
  cases r with
  |none=>exact afY p pd ps gN ss hj hb ie seen L H hv
  |some r=>exact afZ p pd ps gN ss hj hb ie seen r L H hv
theorem ag5 (p pd:Nat) (ps:List (List ia)) (gN:∀q∈ps,jh q) (ss:List gR) (hj:iM ss) (hb:(gh ss).length≤125) (ie:ss.length≤1000) (seen:BitVec 32) (r:Option Rl) (L:Ld) (H:List Ck) (hv:kX p pd ps ss seen r L H):gC prog 34 [ptr p] H fun r0 gr=>r0=.agg (gS {jF with kind:=4,gE:=nV r} (.slice none 0 0) (.slice none 0 0)).toArray∧gr=H:=by
 refine gC.enter func34 rfl ntmps34 rfl ?_
 intro w0 R
 refine gY (iS iP fun b2=>?_)
 refine g_ [6] ?_
 refine ae rfl (an underlying32 rfl rfl) (g_ [1004,8] ?_)
 refine iG call17 rfl (wu p pd ps gN ss hj hb ie seen r L _ (hv.mono hZ)) ?_
 refine ae rfl (aj (pl:=kz) (zs:=iP) (parts:=[(0,.const (.int .i64 4)),(1,.tmp 7)]) (vs:=[(0,_),(1,_)]) (cells:=[_,_,.int .u32 0,.int .u64 0,.int .u64 0,.int .u32 0,.int .i64 0,.bool false,.int .i64 0,.slice none 0 0,.slice none 0 0]) fa fa rfl rfl) ?_
 refine g_ [311,3] ?_
 refine bH (s:=11) (H) results34 fa rfl gO gA fc ?_
 exact ⟨rfl,rfl⟩
theorem yu (p pd:Nat) (ps:List (List ia)) (gN:∀q∈ps,jh q) (ss:List gR) (hj:iM ss) (hb:(gh ss).length≤125) (ie:ss.length≤1000) (seen:BitVec 32) (r:Option Rl) (L:Ld) (H:List Ck) (hv:kX p pd ps ss seen r L H):gC prog 51 [ptr p] H fun r0 gr=>∃A,EO 77 r0 (gh ss) A∧gr=A++H:=by
 refine gC.enter func51 rfl ntmps51 rfl ?_
 intro w0 R
 obtain ⟨vp,pj,vr,T9,kr,km,hU,hJ,hR,hP⟩:=hv
 refine g_ [9,101] ?_
 refine WL.h rfl (ak (cs:=iN vp pj seen vr) fa rfl (ib hU) gA ⟨_,rfl,?_⟩)
 refine c_ call89 rfl (N1 pj pd ss _ H hJ ie gz hj.row.mG.ok 1073741824) ?_
 rintro x7 H7 ⟨A,hA,rfl⟩
 rw[dL gz] at hA
 refine g_ [4] ?_
 refine gH (A++H) ?_
 exact aa results51 rfl (⟨A,hA,rfl⟩)
theorem af7 (p pd:Nat) (ps:List (List ia)) (gN:∀q∈ps,jh q) (ss:List gR) (hj:iM ss) (hb:(gh ss).length≤125) (ie:ss.length≤1000) (seen:BitVec 32) (r:Option Rl) (L:Ld) (H:List Ck) (hv:kX p pd ps ss seen r L H):gC prog 27 [ptr p] H fun r0 gr=>∃A,EO 77 r0 (gh ss) A∧gr=A++H:=by
 refine gC.enter func27 rfl ntmps27 rfl ?_
 intro w0 R
 refine g_ [9] ?_
 refine ae rfl (an underlying32 rfl rfl) (g_ [1004,8] ?_)
 refine c_ call51 rfl (yu p pd ps gN ss hj hb ie seen r L H hv) ?_
 rintro x6 H6 ⟨A,hA,rfl⟩
 refine g_ [4] ?_
 refine gH (A++H) ?_
 exact aa results27 rfl (⟨A,hA,rfl⟩)
theorem af1 (v:Value) (ps:List (List ia)) (gN:∀q∈ps,jh q) (hl:ps.length≤8) (H:List Ck) (hv:yL v ps H):gC prog 56 [v] H fun r gr=>∃A,yL r ps A∧gr=A++H:=by
 refine gC.enter func56 rfl ntmps56 rfl ?_
 intro w0 R
 obtain ⟨ao,ac,rfl,_⟩:=VS.form hv
 refine g_ [14,710,161,4] ?_
 refine aC (fun z:Nat×Value×List Value×List Ck×List Ck=>z.1≤ps.length∧il z.2.1 z.1 z.2.2.1 161 1 z.2.2.2.1∧VL E5 z.2.2.2.2 z.2.2.1 (ps.take z.1)) (fun z:Nat×Value×List Value×List Ck×List Ck=>[(3,z.2.1),(11,.int .i64 (z.1:Int))]) (fun z:Nat×Value×List Value×List Ck×List Ck=>z.2.2.2.1++(z.2.2.2.2++H)) (fun z:Nat×Value×List Value×List Ck×List Ck=>ps.length-z.1) (⟨0,.slice none 0 0,[],[],[]⟩) (show 0≤ps.length∧il (.slice none 0 0) 0 [] 161 1 []∧VL E5 [] [] (ps.take 0) from ⟨dN _,il.nil _ _,.nil⟩) (Sx.put rfl (Sx.put rfl (gL))) fc ?_
 rintro ⟨i,u,cells,Ca,V⟩ hI
 replace hI:i≤ps.length∧il u i cells 161 1 Ca∧VL E5 V cells (ps.take i):=hI
 obtain ⟨hi,hO,hV⟩:=hI
 change WC _ _ _ _ _ _ ([(3,u),(11,.int .i64 (i:Int))]++_) (Ca++(V++H))
 obtain ⟨uo,uc,rfl,_⟩:=hO.form
 refine g_ [2,705,3] ?_
 refine gK rfl (fun nj=>?_) fun nj=>?_
 have gQ:i<ps.length:=by omega
 obtain ⟨b0,o0,nU,kK,T0,nB,nA,ie,l8,kh,c0,⟨u9,rfl,hu⟩,j6⟩:=VS.cell hv gQ gB
 simp only[dI,eD] at ie
 obtain ⟨rfl,rfl⟩:=ie
 obtain ⟨wo,wc,rfl,_⟩:=VS.form hu
 have lx:=(gN _ (dG gQ)).len
 have kE:ps.take (i+1)=ps.take i++[ps[i]]:=dJ gQ
 refine g_ [6,711,161,1] ?_
 refine WL.h rfl (ak (cs:=kK) fa rfl (ib kh) (by rw[show o0+((i:Int)).toNat*1=o0+i*1+0 by omega];exact j6 0 gB) ⟨_,rfl,?_⟩)
 refine g_ [12,710,159,4] ?_
 refine aC (fun z:Nat×Value×List Value×List Ck×List Ck=>z.1≤ps[i].length∧il z.2.1 z.1 z.2.2.1 159 6 z.2.2.2.1∧VL xB z.2.2.2.2 z.2.2.1 (ps[i].take z.1)) (fun z:Nat×Value×List Value×List Ck×List Ck=>[(6,z.2.1),(17,.int .i64 (z.1:Int))]) (fun z:Nat×Value×List Value×List Ck×List Ck=>z.2.2.2.1++(z.2.2.2.2++(Ca++(V++H)))) (fun z:Nat×Value×List Value×List Ck×List Ck=>ps[i].length-z.1) (⟨0,.slice none 0 0,[],[],[]⟩) (show 0≤ps[i].length∧il (.slice none 0 0) 0 [] 159 6 []∧VL xB [] [] (ps[i].take 0) from ⟨dN _,il.nil _ _,.nil⟩) (Sx.put rfl (Sx.put rfl (gL))) fc ?_
 rintro ⟨j,w,qB,Cb,W⟩ hI
 replace hI:j≤ps[i].length∧il w j qB 159 6 Cb∧VL xB W qB (ps[i].take j):=hI
 obtain ⟨ns,qm,wX⟩:=hI
 change WC _ _ _ _ _ _ ([(6,w),(17,.int .i64 (j:Int))]++_) (Cb++(W++(Ca++(V++H))))
 obtain ⟨ko,kc,rfl,_⟩:=qm.form
 refine g_ [2,705,3] ?_
 refine gK rfl (fun pX=>?_) fun pX=>?_
 have Nn:j<ps[i].length:=by omega
 obtain ⟨b1,o1,si,lV,T1,ra,qY,kL,zi,kM,c1,⟨vn,rfl,rj⟩,ja⟩:=VS.rowAt hu Nn gB
 simp only[dI,eD] at kL
 obtain ⟨rfl,rfl⟩:=kL
 obtain ⟨no,nc,rfl,_⟩:=rj.form
 have mv:=((gN _ (dG gQ)).one _ (dG Nn)).len
 have G8:ps[i].take (j+1)=ps[i].take j++[ps[i][j]]:=dJ Nn
 have ai1:=qm.len
 refine g_ [6,711,159,6] ?_
 refine WL.h rfl (aJ (n:=6) (vs:=kA ps[i][j] (.slice no ps[i][j].name.length nc)) fa rfl (ib kM) rfl (by rw[show o1+((j:Int)).toNat*6=o1+j*6 by omega];exact ja) ⟨_,rfl,?_⟩)
 refine iS vy fun b8=>?_
 refine g_ [306,4] ?_
 refine WL.h rfl (aU (e:=5) [] fa fa fa rfl rfl fa fun La=>⟨_,rfl,?_⟩)
 refine g_ [100,102,1] ?_
 refine WL.h rfl (aZ (e:=5) (zs:=[.int .u8 0]) fa fa rfl rfl rfl (Ob.block La [] (by simp)) fc (rj.mono hZ) (by simp;omega) fun v25 Fz NA=>⟨_,rfl,?_⟩)
 rw[eC] at NA
 obtain ⟨mo,mc,rfl,_⟩:=NA.form
 refine g_ [100,102,5] ?_
 refine WL.h rfl (aF (n:=6) (cs:=kA ps[i][j] (.slice mo ps[i][j].name.length mc)) fa rfl gO rfl ⟨_,rfl,?_⟩)
 refine WL.h rfl (aX (e:=159) (sz:=6) (zs:=vy) (vs:=kA ps[i][j] (.slice mo ps[i][j].name.length mc)) fa fa fa rfl rfl rfl fa fun b30=>⟨_,rfl,?_⟩)
 refine WL.h rfl (aT (e:=159) (sz:=6) (bytes:=64) (zs:=vy) fa fa rfl gz rfl rfl (qm) fc gO gA qd (by simp only[maxLen];omega) gz fun v31 P0 mU=>⟨_,rfl,?_⟩)
 refine g_ [5,703,2] ?_
 exact ai (⟨j+1,v31,qB++kA ps[i][j] (.slice mo ps[i][j].name.length mc),P0,W++Fz⟩) (show (j+1)≤ps[i].length∧il v31 (j+1) (qB++kA ps[i][j] (.slice mo ps[i][j].name.length mc)) 159 6 P0∧VL xB (W++Fz) (qB++kA ps[i][j] (.slice mo ps[i][j].name.length mc)) (ps[i].take (j+1)) from ⟨by omega,mU,by rw[G8];exact (wX.mono fun c hc=>dw _ hc).append (VL.one (E:=xB) ⟨_,rfl,NA.bs.mono fun c hc=>dq _ hc⟩)⟩) (show ps[i].length-(j+1)<ps[i].length-j by omega) (Sx.put rfl (Sx.put rfl (gL))) fc
 have A4:j=ps[i].length:=by omega
 subst A4
 rw[eH] at wX
 have qF:=hO.len
 refine g_ [8] ?_
 refine WL.h rfl (bp (e:=161) (z:=.slice none 0 0) fa fa fa rfl gA fun b35=>⟨_,rfl,?_⟩)
 refine WL.h rfl (aT (e:=161) (sz:=1) (bytes:=24) (zs:=[.slice none 0 0]) fa fa rfl gz rfl rfl (hO) fc gO gA qd (by simp only[maxLen];omega) gz fun Xc P1 sv=>⟨_,rfl,?_⟩)
 refine g_ [5,703,2] ?_
 exact ai (⟨i+1,Xc,cells++[.slice ko ps[i].length kc],P1,V++(Cb++W)⟩) (show (i+1)≤ps.length∧il Xc (i+1) (cells++[.slice ko ps[i].length kc]) 161 1 P1∧VL E5 (V++(Cb++W)) (cells++[.slice ko ps[i].length kc]) (ps.take (i+1)) from ⟨by omega,sv,by rw[kE];exact (hV.mono fun c hc=>dw _ hc).append (VL.one (E:=E5) ⟨_,rfl,⟨qB,qm.rs.mono fun c hc=>dq _ (dw _ hc),wX.mono fun c hc=>dq _ (dq _ hc)⟩⟩)⟩) (show ps.length-(i+1)<ps.length-i by omega) (Sx.put rfl (Sx.put rfl (gL))) fc
 have lY:i=ps.length:=by omega
 subst lY
 rw[eH] at hV
 refine g_ [12] ?_
 refine gH ((Ca++V)++H) ?_
 exact aa results56 rfl (⟨_,⟨cells,hO.rs.mono fun c hc=>dw _ hc,hV.mono fun c hc=>dq _ hc⟩,rfl⟩)
theorem ago (pd:Nat) (gI:List (BitVec 8)) (CD:List Ck) (hD:jo 97 127 129 pd gI 0 CD) (ss:List gR) (hj:iM ss) (hH:Holds gI ss) (hb:(gh ss).length≤125) (ie:ss.length≤1000) (v:Value) (ps:List (List ia)) (gN:∀q∈ps,jh q) (hl:1≤ps.length∧ps.length≤8) (L:Ld) (hL:l7 ps Ld.z (gh ss)=some L) (H:List Ck) (hv:yL v ps H):gC prog 32 [ptr pd,v] (CD++H) fun r gr=>∃p C jb D,r=.tuple #[ptr p,.int .i64 0]∧iY 115 112 179 185 223 229 248 3 77 p pd ps ss (ke (gh ss) (gh ss).length) none Ld.z C∧jo 97 127 129 pd gI 0 jb∧gr=C++(jb++(D++H)):=by
 refine gC.enter func32 rfl ntmps32 rfl ?_
 intro w0 R
 refine g_ [9] ?_
 refine c_ call55 rfl (ac7 pd gI CD hD ss hj hH hb []) ?_
 rintro Xy Qh ⟨pj,CJ,ml,rfl,hJ,ot,rfl⟩
 refine g_ [11,702,1018,8] ?_
 refine c_ call56 rfl (af1 v ps gN hl.2 H hv) ?_
 rintro HV FI ⟨V,hV,rfl⟩
 obtain ⟨po,pc,rfl,_⟩:=VS.form hV
 refine g_ [1] ?_
 refine ae rfl (aj (pl:=[(0,1),(1,1),(2,1),(3,1)]) (zs:=[.slice none 0 0,.pointer none,.int .u32 0,.pointer none]) (parts:=[(0,.tmp 21),(1,.tmp 22)]) (vs:=[(0,_),(1,_)]) (cells:=[_,_,.int .u32 0,.pointer none]) fa fa rfl rfl) ?_
 refine WL.h rfl (Hd.box rfl fun p=>⟨_,rfl,?_⟩)
 refine g_ [6] ?_
 refine c_ call51 rfl (yu p pd ps gN ss hj hb ie 0#32 none Ld.z (row p (iN (.slice po ps.length pc) pj 0#32 (.pointer none)) 115::(CJ++V)) ⟨_,pj,.pointer none,_,_,_,dy,hJ.v.mono fun c hc=>dt _ (dw _ hc),rfl,VS.mono hV fun c hc=>dt _ (dq _ hc)⟩) ?_
 rintro XA Qj ⟨A,hA,rfl⟩
 obtain ⟨eo,ec,rfl,_⟩:=VS.form (EO.ev hA)
 refine g_ [8,100] ?_
 refine WL.h rfl (ak (cs:=iN (.slice po ps.length pc) pj 0#32 (.pointer none)) fa rfl (dw _ (dq _ dy)) gA ⟨_,rfl,?_⟩)
 refine g_ [1] ?_
 refine c_ call57 rfl (WG _ _ ps gN hl (gh ss) gz hj.row.mG.ok L hL (V++A) (VS.mono hV fun c hc=>dw _ hc) (VS.mono (EO.ev hA) fun c hc=>dq _ hc)) ?_
 rintro x33 H33 ⟨pl,CL,rfl,ky,jG,rfl⟩
 refine g_ [10,702,1037,9,710,77,707,2] ?_
 refine gK rfl (fun IW=>?_) fun IW=>?_
 have gQ:(gh ss).length-1<(gh ss).length:=by omega
 obtain ⟨b0,o0,nU,kK,T0,nB,nA,ie,l8,kh,c0,⟨vk,vd,rfl,_,_⟩,j6⟩:=(EO.ev hA).cell gQ gB
 simp only[dI,eD] at ie
 obtain ⟨rfl,rfl⟩:=ie
 refine g_ [4,710,77,704] ?_
 refine af (t:=46) (v:=.int .i64 (((gh ss).length-1:Nat):Int)) rfl (congrArg (Value.int .i64) gz) ?_
 refine g_ [711,77,11,102] ?_
 refine WL.h rfl (ak (cs:=kK) fa rfl (aA fc kh) (j6 2 gB) ⟨_,rfl,?_⟩)
 refine g_ [1,102,11] ?_
 refine gH ((row p (iN (.slice po ps.length pc) pj (gh ss)[(gh ss).length-1].ep (.pointer none)) 115::(CJ++([]++V)))++(ml++((A++CL)++H))) ?_
 refine ay results32 rfl rfl (⟨p,_,ml,A++CL,rfl,?_,ot,rfl⟩)
 have es:ke (gh ss) (gh ss).length=(gh ss)[(gh ss).length-1].ep:=by
   unfold ke
   rw[dp gz,dK gQ]
   rfl
 rw[es]
 exact ⟨_,pj,_,CJ,[],V,rfl,hJ,⟨rfl,rfl⟩,hV⟩
 refine g_ [10] ?_
 refine gH ((row p (iN (.slice po ps.length pc) pj 0#32 (.pointer none)) 115::(CJ++([]++V)))++(ml++((A++CL)++H))) ?_
 refine ay results32 rfl rfl (⟨p,_,ml,A++CL,rfl,?_,ot,rfl⟩)
 have es:ke (gh ss) (gh ss).length=0#32:=by
   unfold ke
   rw[dx gz]
 rw[es]
 exact ⟨_,pj,_,CJ,[],V,rfl,hJ,⟨rfl,rfl⟩,hV⟩
theorem Oe {p:Nat} {ps:List (List ia)} {L:Ld} {H:List Ck} (hv:mN p ps L H) (hl:L.last≤1000):Reads prog 66 [ptr p] H (.int .u64 (BitVec.ofNat 64 L.last).toNat):=by
  obtain ⟨vp,vo,bm,lb,eb,mode,jg,nt,T9,kr,km,hU,rU,s7,hO,hR,hM⟩:=hv
  obtain ⟨ao,ac,rfl,_⟩:=hO.Hx
  have e:BitVec.ofNat 64 L.last=lb:=dB (by rw[fg];omega)
  rw[e]
  exact aea p vp ao L.l.length ac bm lb eb mode jg nt T9 kr km H hU
theorem Vc {p:Nat} {ps:List (List ia)} {L:Ld} {H:List Ck} (hv:mN p ps L H):Reads prog 39 [ptr p] H (.int .i64 (L.l.length:Int)):=by
  obtain ⟨vp,vo,bm,lb,eb,mode,jg,nt,T9,kr,km,hU,rU,s7,hO,hR,hM⟩:=hv
  obtain ⟨ao,ac,rfl,_⟩:=hO.Hx
  exact aeh p vp ao L.l.length ac bm lb eb mode jg nt T9 kr km H hU
def jA (l:List En) (r:Rl) (e:En):En:={e with gF:=js l+1#64,ep:=r.ep}
theorem HD (p pd:Nat) (ps:List (List ia)) (gN:∀q∈ps,jh q) (ss:List gR) (hj:iM ss) (hb:(gh ss).length≤124) (seen:BitVec 32) (r:Rl) (L:Ld) (uR:L.last=(gh ss).length) (CS:List Ck) (hS:iY 115 112 179 185 223 229 248 3 77 p pd ps ss seen (some r) L CS) (gI:List (BitVec 8)) (CD:List Ck) (hD:jo 97 127 129 pd gI 0 CD) (hH:Holds gI ss) (e:En) (he:iZ (jA (gh ss) r e)) (hc:lI ps L (jA (gh ss) r e)=0) (ja:mn (gh ss++[(jA (gh ss) r e)])) (zG:(iB (jA (gh ss) r e)).length≤30) (vk vd:Value) (H:List Ck) (hk:Bs vk e.key H) (hd:Bs vd e.data H):gC prog 40 [ptr p,.agg (enc e vk vd).toArray] (CS++(CD++H)) fun r0 gr=>r0=.int .i64 0∧∃iQ jN iH jb,iY 115 112 179 185 223 229 248 3 77 p pd ps iQ seen (some r) (nG ps L (jA (gh ss) r e)) iH∧jo 97 127 129 pd jN 0 jb∧Holds jN iQ∧iM iQ∧gh iQ=gh ss++[(jA (gh ss) r e)]∧gr=iH++(jb++H):=by
 refine gC.enter func40 rfl ntmps40 rfl ?_
 intro w0 R
 obtain ⟨vp,pj,vr,CJ,CR,V,rfl,hJ,hR,hP⟩:=hS
 obtain ⟨q,pl,CL,rfl,rfl,ky,jG⟩:=hR
 obtain ⟨ko,kc,rfl,_⟩:=hk.form
 obtain ⟨eo,ec,rfl,_⟩:=hd.form
 have hle:BitVec.ofNat 64 L.last=js (gh ss):=by rw[uR];rfl
 have EE:=Pk he hc
 have aa5:=(HJ (fun q hq=>(gN q hq).G) jG EE).1
 refine gY (iV fun b3=>?_)
 refine g_ [4,520] ?_
 refine w_ [0,1,1003,2,3,4,1004,5,6] ?_
 refine jy 7 [6] rfl call66 rfl (Oe (mN.mono (ln.v ky) (Sp.sub fc)) gz) ax ?_
 refine az (v:=.int .u64 (js (gh ss)).toNat) (by rw[hle]) ?_
 refine gW 8 [7] rfl (aY _ (1#64) rfl rfl rfl rfl) fa ?_
 refine w_ [9,10,1003,11,12,13,1000,14,15,1001,16] ?_
 refine gD 17 ?_
 refine SO.s rfl Wt.none (aq (iT:=enc {e with gF:=js (gh ss)+1#64} _ _) fa rfl rfl gA ir (by show 0+1<11;decide) rfl ⟨rfl,?_⟩)
 refine iO [0,0] ?_
 refine w_ [1002,18] ?_
 refine gD 19 ?_
 refine SO.s rfl Wt.none (aq (iT:=enc (jA (gh ss) r e) _ _) fa rfl rfl gA ir (by show 0+2<11;decide) rfl ⟨rfl,?_⟩)
 refine gG ?_
 refine gM ?_
 refine g_ [3,510] ?_
 refine w_ [0,1,1003,2,3,4,1004,5,6,2011,7] ?_
 refine jy 8 [7,6] rfl call67 rfl (Dh pl ps gN L jG (jA (gh ss) r e) (.inl he) _ _ _ (mN.mono (ln.v ky) (Sp.sub fc)) (hk.mono (Sp.sub fc)) (hd.mono (Sp.sub fc))) ax ?_
 refine w_ [1002,9] ?_
 refine lL (fun q=>q hc) ?_
 refine gM ?_
 refine g_ [5,507] ?_
 refine w_ [0,1,1001,2,3,2011,4] ?_
 refine gD 5 ?_
 refine iI rfl call68 rfl (NY pj pd ss _ CJ hJ gI 0 CD hD hj hH gz gz (jA (gh ss) r e) he ja zG _ _ H hk hd) ?_
 rintro x39 XZ ⟨iQ,jN,ob,rH,ml,rfl,rQ,ot,uJ,pO,ox,mW,rfl⟩
 have yg:(gh iQ).length≤125:=by rw[ox,dr];exact Nat.succ_le_succ hb
 have uL:=pO.jW gz
 refine gG ?_
 refine gD 6 ?_
 refine jm ?_
 refine gG ?_
 refine gM ?_
 refine g_ [5,701,2041,6,101,1] ?_
 refine c_ call69 rfl (NZ pj pd iQ _ rH rQ jN ob ml ot pO gz gz []) ?_
 rintro wD wH ⟨DJ,vA,rfl,Gu,zb,rfl⟩
 refine g_ [7,702,1048,6,509] ?_
 refine w_ [0,1,1003,2,3,4,1004,5,6,2011,7] ?_
 refine gD 8 ?_
 refine iI rfl call70 rfl (UW pl ps gN L jG (jA (gh ss) r e) he hc _ _ CL ky H hk hd) ?_
 rintro x61 X2 ⟨Qa,rfl,aaY,rfl⟩
 refine iO [0] ?_
 refine gM ?_
 refine g_ [7] ?_
 refine gH ((row p (iN vp pj seen (ptr q)) 115::(DJ++((row q (jO r pl) 112::Qa)++V)))++(vA++H)) ?_
 exact aa results40 rfl (⟨rfl,iQ,jN,_,vA,⟨vp,pj,_,DJ,_,V,rfl,Gu,⟨q,pl,Qa,rfl,rfl,aaY,aa5⟩,hP⟩,zb,uJ,pO,ox,rfl⟩)
def nR (gE:BitVec 32) (code:Int):Nt:={jF with kind:=4,gE:=gE,code:=code}
def og (r:Rl) (n:Nt) (l:List En):Option Rl:=
  if n.kind=6∧r.ep.toNat<n.gE.toNat then none
  else if n.gE=r.ep then some {r with next:=oD r.next n,iU:=if n.kind=2 then mL r.iU (n4 n.gF (js l)) else r.iU}
  else some r
theorem agW (p pd:Nat) (ps:List (List ia)) (gN:∀q∈ps,jh q) (ss:List gR) (hj:iM ss) (hb:(gh ss).length≤125) (seen:BitVec 32) (L:Ld) (CS:List Ck) (hS:iY 115 112 179 185 223 229 248 3 77 p pd ps ss seen none L CS) (mode:Int) (hm:mode=1∨mode=2) (H:List Ck):gC prog 48 [ptr p,.int .i64 mode] (CS++H) fun r0 gr=>r0=.tuple #[.agg (gS jF (.slice none 0 0) (.slice none 0 0)).toArray,.int .i64 210]∧∃iH,iY 115 112 179 185 223 229 248 3 77 p pd ps ss seen none L iH∧gr=iH++H:=by
 refine gC.enter func48 rfl ntmps48 rfl ?_
 intro w0 R
 have ie:=hj.jW gz
 obtain ⟨vp,pj,vr,CJ,CR,V,rfl,hJ,hR,hP⟩:=hS
 obtain ⟨rfl,rfl⟩:=hR
 refine gY (iS iP fun b4=>?_)
 refine g_ [6] ?_
 refine iG call37 rfl (wx p vp pj seen _ _ _ _ _ iz) (g_ [8] ?_)
 refine ae rfl (an underlying32 rfl rfl) (g_ [1011,7] ?_)
 refine iG call63 rfl (Ks mode _) (g_ [709] ?_)
 refine af (t:=16) (v:=.bool false) rfl (congrArg Value.bool (by rw[fo hm];rfl)) ?_
 refine g_ [5,519] ?_
 refine w_ [0] ?_
 refine gW 1 [0] rfl (an underlying108 rfl rfl) fa ?_
 refine w_ [9002,2,3,4,5,6,7,8,9,10,11,12,13,14,15,16,17,18] ?_
 refine gM ?_
 refine g_ [4] ?_
 refine kJ kz iP (g_ [311,6] ?_)
 refine au (s:=11) ((row p (iN vp pj seen (.pointer none)) 115::(CJ++([]++V)))++H) results48 fa rfl rfl iz gA fc ?_
 exact ⟨rfl,_,⟨vp,pj,_,CJ,_,V,rfl,hJ,⟨rfl,rfl⟩,hP⟩,rfl⟩
theorem agX (p pd:Nat) (ps:List (List ia)) (gN:∀q∈ps,jh q) (ss:List gR) (hj:iM ss) (hb:(gh ss).length≤125) (seen:BitVec 32) (r:Rl) (L:Ld) (CS:List Ck) (hS:iY 115 112 179 185 223 229 248 3 77 p pd ps ss seen (some r) L CS) (mode:Int) (hm:mode=1∨mode=2) (H:List Ck):gC prog 48 [ptr p,.int .i64 mode] (CS++H) fun r0 gr=>∃iH,((mode=1∧r.iU.toNat<(gh ss).length∧r0=.tuple #[.agg (gS jF (.slice none 0 0) (.slice none 0 0)).toArray,.int .i64 210]∧iY 115 112 179 185 223 229 248 3 77 p pd ps ss seen (some r) L iH)∨(¬(mode=1∧r.iU.toNat<(gh ss).length)∧r0=.tuple #[.agg (gS (nR r.ep mode) (.slice none 0 0) (.slice none 0 0)).toArray,.int .i64 0]∧iY 115 112 179 185 223 229 248 3 77 p pd ps ss seen (some {r with ui:=mode,mode:=1}) L iH))∧gr=iH++H:=by
 refine gC.enter func48 rfl ntmps48 rfl ?_
 intro w0 R
 have ie:=hj.jW gz
 obtain ⟨vp,pj,vr,CJ,CR,V,rfl,hJ,hR,hP⟩:=hS
 obtain ⟨q,pl,CL,rfl,rfl,ky,jG⟩:=hR
 have qJ:(js (gh ss)).toNat=(gh ss).length:=nO gz
 refine gY (iS iP fun b4=>?_)
 refine g_ [6] ?_
 refine iG call37 rfl (wx p vp pj seen _ _ _ _ _ iz) (g_ [8] ?_)
 refine ae rfl (an underlying32 rfl rfl) (g_ [1011,7] ?_)
 refine iG call63 rfl (Ks mode _) (g_ [709] ?_)
 refine af (t:=16) (v:=.bool false) rfl (congrArg Value.bool (by rw[fo hm];rfl)) ?_
 refine g_ [5,519] ?_
 refine w_ [0] ?_
 refine gW 1 [0] rfl (an underlying108 rfl rfl) fa ?_
 refine w_ [9001,2,3,1001,4,5] ?_
 refine aW (fun zn=>?_) (fun zn=>?_)
 refine w_ [6,7,1006,8,9,10,11,1001,12,13] ?_
 refine ny (iw (i:=14) [13,5] rfl (aO (aP (dj:=24) rfl rfl) (iE.func call64 rfl) (qM pj pd ss _ _ (JV.mono (na.v hJ) (Sp.sub fc)) gz hj gz) ax) fa) fa ?_
 refine w_ [1005,15,16,17,18] ?_
 refine gM ?_
 refine g_ [1] ?_
 refine gK rfl (fun pX=>?_) fun pX=>?_
 refine gY (kJ kz iP (g_ [311,6] ?_))
 refine au (s:=11) ((row p (iN vp pj seen (ptr q)) 115::(CJ++((row q (jO r pl) 112::CL)++V)))++H) results48 fa rfl rfl iz gA fc ?_
 exact ⟨_,.inl ⟨zn,by omega,rfl,⟨vp,pj,_,CJ,_,V,rfl,hJ,⟨q,pl,CL,rfl,rfl,ky,jG⟩,hP⟩⟩,rfl⟩
 refine g_ [9,103] ?_
 refine WL.s (aq (iT:=jO {r with ui:=mode} pl) fa rfl rfl gA ir (by show 0+3<7;decide) rfl ⟨rfl,?_⟩)
 refine g_ [1,102] ?_
 refine WL.s (aq (iT:=jO {r with ui:=mode,mode:=1} pl) fa rfl rfl gA ir (by show 0+2<7;decide) rfl ⟨rfl,?_⟩)
 refine g_ [6,100,2] ?_
 refine ae rfl (aj (pl:=kz) (zs:=iP) (parts:=[(0,.const (.int .i64 4)),(1,.tmp 48),(8,.tmp 49)]) (vs:=[(0,_),(1,_),(8,_)]) (cells:=[_,_,.int .u32 0,.int .u64 0,.int .u64 0,.int .u32 0,.int .i64 0,.bool false,_,.slice none 0 0,.slice none 0 0]) fa fa rfl rfl) ?_
 refine g_ [311,4] ?_
 refine au (s:=11) ((row p (iN vp pj seen (ptr q)) 115::(CJ++((row q (jO {r with ui:=mode,mode:=1} pl) 112::CL)++V)))++H) results48 fa rfl rfl iz gA fc ?_
 exact ⟨_,.inr ⟨by omega,rfl,⟨vp,pj,_,CJ,_,V,rfl,hJ,⟨q,pl,CL,rfl,rfl,ky,jG⟩,hP⟩⟩,rfl⟩
 refine w_ [6,7,8,9,10,11,12,13,14,15,16,17,18] ?_
 refine gM ?_
 refine g_ [11,103] ?_
 refine WL.s (aq (iT:=jO {r with ui:=mode} pl) fa rfl rfl gA ir (by show 0+3<7;decide) rfl ⟨rfl,?_⟩)
 refine g_ [1,102] ?_
 refine WL.s (aq (iT:=jO {r with ui:=mode,mode:=1} pl) fa rfl rfl gA ir (by show 0+2<7;decide) rfl ⟨rfl,?_⟩)
 refine g_ [6,100,2] ?_
 refine ae rfl (aj (pl:=kz) (zs:=iP) (parts:=[(0,.const (.int .i64 4)),(1,.tmp 48),(8,.tmp 49)]) (vs:=[(0,_),(1,_),(8,_)]) (cells:=[_,_,.int .u32 0,.int .u64 0,.int .u64 0,.int .u32 0,.int .i64 0,.bool false,_,.slice none 0 0,.slice none 0 0]) fa fa rfl rfl) ?_
 refine g_ [311,4] ?_
 refine au (s:=11) ((row p (iN vp pj seen (ptr q)) 115::(CJ++((row q (jO {r with ui:=mode,mode:=1} pl) 112::CL)++V)))++H) results48 fa rfl rfl iz gA fc ?_
 exact ⟨_,.inr ⟨by omega,rfl,⟨vp,pj,_,CJ,_,V,rfl,hJ,⟨q,pl,CL,rfl,rfl,ky,jG⟩,hP⟩⟩,rfl⟩
theorem agw (p pd:Nat) (ps:List (List ia)) (gN:∀q∈ps,jh q) (ss:List gR) (hj:iM ss) (hb:(gh ss).length≤125) (seen:BitVec 32) (L:Ld) (H:List Ck) (hv:kX p pd ps ss seen none L H):gC prog 44 [ptr p] H fun r0 gr=>r0=.tuple #[.agg (gS jF (.slice none 0 0) (.slice none 0 0)).toArray,.bool false]∧gr=H:=by
 refine gC.enter func44 rfl ntmps44 rfl ?_
 intro w0 R
 obtain ⟨vp,pj,vr,T9,kr,km,hU,hJ,hR,hP⟩:=hv
 obtain rfl:vr=.pointer none:=hR
 refine gY (iS iP fun b2=>?_)
 refine g_ [6] ?_
 refine iG call37 rfl (wx p vp pj seen _ T9 kr km _ (ib hU)) ?_
 refine g_ [7] ?_
 refine ae rfl (an underlying108 rfl rfl) (g_ [2008,5] ?_)
 refine kJ kz iP (g_ [311,5] ?_)
 refine au (s:=11) (H) results44 fa rfl rfl iz gA fc ?_
 exact ⟨rfl,rfl⟩
theorem agy (p pd:Nat) (ps:List (List ia)) (gN:∀q∈ps,jh q) (ss:List gR) (hj:iM ss) (hb:(gh ss).length≤125) (seen:BitVec 32) (r:Rl) (L:Ld) (H:List Ck) (hv:kX p pd ps ss seen (some r) L H) (h0:r.ep≠0#32) (i:Nat) (hi:i<(gh ss).length) (hn:r.next.toNat=i+1) (kZ:(gh ss)[i].ep.toNat≤r.ep.toNat):gC prog 44 [ptr p] H fun r0 gr=>∃vd A,r0=.tuple #[.agg (gS (j4 r.ep (ke (gh ss) (r.next-1#64).toNat) (r.next-1#64) (gh ss)[i]) (.slice none 0 0) vd).toArray,.bool true]∧Bs vd (iB (gh ss)[i]) A∧gr=A++H:=by
 refine gC.enter func44 rfl ntmps44 rfl ?_
 intro w0 R
 have ie:=hj.jW gz
 have nD:=hv
 obtain ⟨vp,pj,vr,T9,kr,km,hU,hJ,hR,hP⟩:=hv
 obtain ⟨q,pl,T8,Ec,D5,rfl,pB,hL,jG⟩:=hR
 refine gY (iS iP fun b2=>?_)
 refine g_ [6] ?_
 refine iG call37 rfl (wx p vp pj seen _ T9 kr km _ (ib hU)) ?_
 refine g_ [7] ?_
 refine ae rfl (an underlying108 rfl rfl) (g_ [1008,6,515] ?_)
 refine w_ [0,2,3,1000,4] ?_
 refine iD 5 [4] rfl (ab (cs:=jO r pl) fa rfl (ib pB) gA) ?_
 refine w_ [6,7,1005,8] ?_
 refine iD 9 [8] rfl (ab (cs:=jO r pl) fa rfl (ib pB) gA) ?_
 refine gD 1 ?_
 refine iI rfl call51 rfl (yu p pd ps gN ss hj hb gz seen _ L H nD) ?_
 rintro HU FG ⟨A,hA,rfl⟩
 refine gG ?_ (hr:=by exact ig (iw [8] rfl (aw Wt.none (ab (cs:=jO r pl) fa rfl (ib pB) gA)) fa) (ig (iw [4] rfl (aw Wt.none (ab (cs:=jO r pl) fa rfl (ib pB) gA)) fa) jl))
 refine gD 10 ?_
 refine iI rfl call84 rfl (agu _ (gh ss) gz hj.row r.ep r.next A (EO.ev hA) h0 i hi hn kZ) ?_
 rintro PF FH ⟨vd,B,rfl,hB,rfl⟩
 obtain ⟨bo,F0,rfl,_⟩:=hB.form
 refine gG ?_
 refine w_ [11,12] ?_
 refine gD 13 ?_
 refine jT 11 ?_
 refine gG ?_
 refine gD 14 ?_
 refine jm ?_
 refine gG ?_
 refine gM ?_
 refine g_ [2] ?_
 refine au (s:=11) ((B++A)++H) results44 fa rfl rfl iz gA fc ?_
 exact ⟨_,B++A,rfl,hB.mono fun c hc=>dw _ hc,rfl⟩
theorem agx (p pd:Nat) (ps:List (List ia)) (gN:∀q∈ps,jh q) (ss:List gR) (hj:iM ss) (hb:(gh ss).length≤125) (seen:BitVec 32) (r:Rl) (L:Ld) (H:List Ck) (hv:kX p pd ps ss seen (some r) L H) (hn:r.next.toNat=0∨(gh ss).length<r.next.toNat):gC prog 44 [ptr p] H fun r0 gr=>r0=.tuple #[.agg (gS jF (.slice none 0 0) (.slice none 0 0)).toArray,.bool false]∧∃A,gr=A++H:=by
 refine gC.enter func44 rfl ntmps44 rfl ?_
 intro w0 R
 have ie:=hj.jW gz
 have nD:=hv
 obtain ⟨vp,pj,vr,T9,kr,km,hU,hJ,hR,hP⟩:=hv
 obtain ⟨q,pl,T8,Ec,D5,rfl,pB,hL,jG⟩:=hR
 refine gY (iS iP fun b2=>?_)
 refine g_ [6] ?_
 refine iG call37 rfl (wx p vp pj seen _ T9 kr km _ (ib hU)) ?_
 refine g_ [7] ?_
 refine ae rfl (an underlying108 rfl rfl) (g_ [1008,6,515] ?_)
 refine w_ [0,2,3,1000,4] ?_
 refine iD 5 [4] rfl (ab (cs:=jO r pl) fa rfl (ib pB) gA) ?_
 refine w_ [6,7,1005,8] ?_
 refine iD 9 [8] rfl (ab (cs:=jO r pl) fa rfl (ib pB) gA) ?_
 refine gD 1 ?_
 refine iI rfl call51 rfl (yu p pd ps gN ss hj hb gz seen _ L H nD) ?_
 rintro HU FG ⟨A,hA,rfl⟩
 refine gG ?_ (hr:=by exact ig (iw [8] rfl (aw Wt.none (ab (cs:=jO r pl) fa rfl (ib pB) gA)) fa) (ig (iw [4] rfl (aw Wt.none (ab (cs:=jO r pl) fa rfl (ib pB) gA)) fa) jl))
 refine gD 10 ?_
 refine iI rfl call84 rfl (agt _ (gh ss) gz hj.row r.ep r.next A (EO.ev hA) hn) ?_
 rintro PF FH ⟨rfl,rfl⟩
 refine gG ?_
 refine w_ [11,12] ?_
 refine gD 13 ?_
 refine jT 11 ?_
 refine gG ?_
 refine gD 14 ?_
 refine jm ?_
 refine gG ?_
 refine gM ?_
 refine g_ [2] ?_
 refine au (s:=11) (FH++H) results44 fa rfl rfl iz gA fc ?_
 exact ⟨rfl,FH,rfl⟩
theorem agv (p pd:Nat) (ps:List (List ia)) (gN:∀q∈ps,jh q) (ss:List gR) (hj:iM ss) (hb:(gh ss).length≤125) (seen:BitVec 32) (r:Rl) (L:Ld) (CS:List Ck) (hS:iY 115 112 179 185 223 229 248 3 77 p pd ps ss seen (some r) L CS) (n:Nt) (vk vd:Value) (h1:vk.oneCell'=true) (h2:vd.oneCell'=true) (mv:n.gF.toNat<18446744073709551615) (H:List Ck):gC prog 46 [ptr p,.agg (gS n vk vd).toArray] (CS++H) fun r0 gr=>r0=.tuple #[]∧∃iH D,iY 115 112 179 185 223 229 248 3 77 p pd ps ss seen (og r n (gh ss)) L iH∧gr=iH++(D++H):=by
 refine gC.enter func46 rfl ntmps46 rfl ?_
 intro w0 R
 have ie:=hj.jW gz
 obtain ⟨vp,pj,vr,CJ,CR,V,rfl,hJ,hR,hP⟩:=hS
 obtain ⟨q,pl,CL,rfl,rfl,ky,jG⟩:=hR
 refine gY (iV fun b3=>?_)
 refine g_ [5] ?_
 refine iG call37 rfl (wx p vp pj seen _ _ _ _ _ iz) (g_ [7] ?_)
 refine ae rfl (an underlying108 rfl rfl) (g_ [1009,5,513] ?_)
 refine w_ [1000,0,1,1001,2,3] ?_
 refine aW (fun Je=>?_) (fun Je=>?_)
 refine w_ [1001,4,5,6,7,1000,8,9,1007,10,11,12] ?_
 refine gM ?_
 refine g_ [1] ?_
 refine gK rfl (fun re=>?_) fun re=>?_
 refine g_ [3,103] ?_
 refine WL.s (aq (iT:=iN vp pj seen (.pointer none)) fa rfl rfl gA ir (by show 0+3<4;decide) rfl ⟨rfl,?_⟩)
 refine g_ [2] ?_
 refine gH ((row p (iN vp pj seen (.pointer none)) 115::(CJ++([]++V)))++((row q (jO r pl) 112::CL)++H)) ?_
 refine bl results46 ?_
 have hs:og r n (gh ss)=none:=by
   unfold og
   rw[dx ⟨Je,by omega⟩]
 refine ⟨rfl,_,_,?_,rfl⟩
 rw[hs]
 exact ⟨vp,pj,_,CJ,[],V,rfl,hJ,⟨rfl,rfl⟩,hP⟩
 refine g_ [1,508] ?_
 refine w_ [1001,0,1,2,3,1000,4,5] ?_
 refine gW 6 [5,1] rfl (aD _ _ rfl rfl rfl rfl) fa ?_
 refine w_ [7] ?_
 refine gM ?_
 refine g_ [1] ?_
 refine gK rfl (fun uF=>?_) fun uF=>?_
 refine g_ [1,510] ?_
 refine w_ [0,1,2,1005,3,4,2011,5] ?_
 refine jy 6 [5,4] rfl call88 rfl (WN r.next n _ _ h1 h2 mv _) ax ?_
 refine w_ [7,1005,8] ?_
 refine gD 9 ?_
 refine SO.s rfl Wt.none (aq (iT:=jO {r with next:=oD r.next n} pl) fa rfl rfl gA ir (by show 0+5<7;decide) rfl ⟨rfl,?_⟩)
 refine gG ?_
 refine gM ?_
 refine g_ [3,100,1,701,2] ?_
 refine gK rfl (fun oO=>?_) fun oO=>?_
 refine g_ [517] ?_
 refine w_ [0,1,2,1006,3,4,1003,5,6,7,8,1001,9,10] ?_
 refine jy 11 [10] rfl call64 rfl (qM pj pd ss _ _ (JV.mono (na.v hJ) (Sp.sub fc)) gz hj gz) ax ?_
 refine gW 12 [11,6] rfl (cg rfl rfl) fa ?_
 refine az (v:=.int .u64 ((n4 n.gF (js (gh ss))).toNat:Int)) (congrArg (Value.int .u64) (J1 _ _)) (gW 13 [12,4] rfl (cF rfl rfl) fa ?_)
 refine az (v:=.int .u64 ((mL r.iU (n4 n.gF (js (gh ss)))).toNat:Int)) (congrArg (Value.int .u64) (J0 _ _)) (w_ [14,1006,15] ?_)
 refine gD 16 ?_
 refine SO.s rfl Wt.none (aq (iT:=jO {r with next:=oD r.next n,iU:=mL r.iU (n4 n.gF (js (gh ss)))} pl) fa rfl rfl gA ir (by show 0+6<7;decide) rfl ⟨rfl,?_⟩)
 refine gG ?_
 refine gM ?_
 refine g_ [1] ?_
 refine gH ((row p (iN vp pj seen (ptr q)) 115::(CJ++((row q (jO {r with next:=oD r.next n,iU:=mL r.iU (n4 n.gF (js (gh ss)))} pl) 112::CL)++V)))++([]++H)) ?_
 refine bl results46 ?_
 have hs:og r n (gh ss)=some {r with next:=oD r.next n,iU:=mL r.iU (n4 n.gF (js (gh ss)))}:=by
   unfold og
   rw[dp (fun q=>by omega),dx uF,dx oO]
 refine ⟨rfl,_,[],?_,rfl⟩
 rw[hs]
 exact ⟨vp,pj,_,CJ,_,V,rfl,hJ,⟨q,pl,CL,rfl,rfl,ky,jG⟩,hP⟩
 refine g_ [2] ?_
 refine gH ((row p (iN vp pj seen (ptr q)) 115::(CJ++((row q (jO {r with next:=oD r.next n} pl) 112::CL)++V)))++([]++H)) ?_
 refine bl results46 ?_
 have hs:og r n (gh ss)=some {r with next:=oD r.next n}:=by
   unfold og
   rw[dp (fun q=>by omega),dx uF,dp oO]
 refine ⟨rfl,_,[],?_,rfl⟩
 rw[hs]
 exact ⟨vp,pj,_,CJ,_,V,rfl,hJ,⟨q,pl,CL,rfl,rfl,ky,jG⟩,hP⟩
 refine g_ [2] ?_
 refine gH ((row p (iN vp pj seen (ptr q)) 115::(CJ++((row q (jO r pl) 112::CL)++V)))++([]++H)) ?_
 refine bl results46 ?_
 have hs:og r n (gh ss)=some r:=by
   unfold og
   rw[dp (fun q=>by omega),dp uF]
 refine ⟨rfl,_,[],?_,rfl⟩
 rw[hs]
 exact ⟨vp,pj,_,CJ,_,V,rfl,hJ,⟨q,pl,CL,rfl,rfl,ky,jG⟩,hP⟩
 refine w_ [4,5,6,7,8,9,10,11,12] ?_
 refine gM ?_
 refine g_ [3,508] ?_
 refine w_ [1001,0,1,2,3,1000,4,5] ?_
 refine gW 6 [5,1] rfl (aD _ _ rfl rfl rfl rfl) fa ?_
 refine w_ [7] ?_
 refine gM ?_
 refine g_ [1] ?_
 refine gK rfl (fun uF=>?_) fun uF=>?_
 refine g_ [1,510] ?_
 refine w_ [0,1,2,1005,3,4,2011,5] ?_
 refine jy 6 [5,4] rfl call88 rfl (WN r.next n _ _ h1 h2 mv _) ax ?_
 refine w_ [7,1005,8] ?_
 refine gD 9 ?_
 refine SO.s rfl Wt.none (aq (iT:=jO {r with next:=oD r.next n} pl) fa rfl rfl gA ir (by show 0+5<7;decide) rfl ⟨rfl,?_⟩)
 refine gG ?_
 refine gM ?_
 refine g_ [3,100,1,701,2] ?_
 refine gK rfl (fun oO=>?_) fun oO=>?_
 refine g_ [517] ?_
 refine w_ [0,1,2,1006,3,4,1003,5,6,7,8,1001,9,10] ?_
 refine jy 11 [10] rfl call64 rfl (qM pj pd ss _ _ (JV.mono (na.v hJ) (Sp.sub fc)) gz hj gz) ax ?_
 refine gW 12 [11,6] rfl (cg rfl rfl) fa ?_
 refine az (v:=.int .u64 ((n4 n.gF (js (gh ss))).toNat:Int)) (congrArg (Value.int .u64) (J1 _ _)) (gW 13 [12,4] rfl (cF rfl rfl) fa ?_)
 refine az (v:=.int .u64 ((mL r.iU (n4 n.gF (js (gh ss)))).toNat:Int)) (congrArg (Value.int .u64) (J0 _ _)) (w_ [14,1006,15] ?_)
 refine gD 16 ?_
 refine SO.s rfl Wt.none (aq (iT:=jO {r with next:=oD r.next n,iU:=mL r.iU (n4 n.gF (js (gh ss)))} pl) fa rfl rfl gA ir (by show 0+6<7;decide) rfl ⟨rfl,?_⟩)
 refine gG ?_
 refine gM ?_
 refine g_ [1] ?_
 refine gH ((row p (iN vp pj seen (ptr q)) 115::(CJ++((row q (jO {r with next:=oD r.next n,iU:=mL r.iU (n4 n.gF (js (gh ss)))} pl) 112::CL)++V)))++([]++H)) ?_
 refine bl results46 ?_
 have hs:og r n (gh ss)=some {r with next:=oD r.next n,iU:=mL r.iU (n4 n.gF (js (gh ss)))}:=by
   unfold og
   rw[dp (fun q=>by omega),dx uF,dx oO]
 refine ⟨rfl,_,[],?_,rfl⟩
 rw[hs]
 exact ⟨vp,pj,_,CJ,_,V,rfl,hJ,⟨q,pl,CL,rfl,rfl,ky,jG⟩,hP⟩
 refine g_ [2] ?_
 refine gH ((row p (iN vp pj seen (ptr q)) 115::(CJ++((row q (jO {r with next:=oD r.next n} pl) 112::CL)++V)))++([]++H)) ?_
 refine bl results46 ?_
 have hs:og r n (gh ss)=some {r with next:=oD r.next n}:=by
   unfold og
   rw[dp (fun q=>by omega),dx uF,dp oO]
 refine ⟨rfl,_,[],?_,rfl⟩
 rw[hs]
 exact ⟨vp,pj,_,CJ,_,V,rfl,hJ,⟨q,pl,CL,rfl,rfl,ky,jG⟩,hP⟩
 refine g_ [2] ?_
 refine gH ((row p (iN vp pj seen (ptr q)) 115::(CJ++((row q (jO r pl) 112::CL)++V)))++([]++H)) ?_
 refine bl results46 ?_
 have hs:og r n (gh ss)=some r:=by
   unfold og
   rw[dp (fun q=>by omega),dp uF]
 refine ⟨rfl,_,[],?_,rfl⟩
 rw[hs]
 exact ⟨vp,pj,_,CJ,_,V,rfl,hJ,⟨q,pl,CL,rfl,rfl,ky,jG⟩,hP⟩
end Go.Proofs.YtchdmlkiggdhaaaGreat
