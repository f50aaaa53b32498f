/-
  Lemmas and walks that TopOne and TopSolo stands on (part 2); no condition.
-/
import Derived.Laws.RangeString
import Derived.Laws.StructEq
import Derived.Lib.AppendZerosOnto
import Derived.Laws.CopyRow
import Derived.Lib.Overlaps
import Derived.Laws.IdiomStrings
import Derived.Deep.Quiet
import Derived.Test.YtchdmlkiggdhaaaGreatTopB1
set_option linter.unusedVariables false
set_option linter.unusedSimpArgs false
namespace Go.SL
section
variable {P:Program} {l:Sl} {H:List Ck} {d:Option Nat} {ty:TypeId} {pos:String} {gJ:Array Edge} {g:Option (Nat×Bool)}
structure Fr (H:List Ck) (x:Ck) (D:List Ck):Prop where
  p:H.Perm (x::D)
structure Sp (H C D:List Ck):Prop where
  p:H.Perm (C++D)
theorem Fr.here {x:Ck} {D:List Ck}:Fr (x::D) x D:=⟨fb _⟩
theorem bE {x y:Ck} {H D:List Ck} (h:Fr H x D):Fr (y::H) x (y::D):=⟨(List.Perm.cons y h.p).trans (List.Perm.swap x y D)⟩
theorem bC {x:Ck} {A H D:List Ck} (h:Fr H x D):Fr (A++H) x (A++D):=⟨(gf A h.p).trans List.perm_middle⟩
theorem bD {x:Ck} {A B H D:List Ck} (h:Fr (A++(B++H)) x D):Fr ((A++B)++H) x D:=⟨by rw[dD];exact h.p⟩
theorem Sp.here {C D:List Ck}:Sp (C++D) C D:=⟨fb _⟩
theorem ax {H:List Ck}:Sp H H []:=⟨by rw[eF]⟩
theorem Sp.s0 {H:List Ck}:Sp H [] H:=⟨fb _⟩
theorem Sp.sc {y:Ck} {A H D:List Ck} (h:Sp H A D):Sp (y::H) A (y::D):=⟨(List.Perm.cons y h.p).trans (List.perm_middle).symm⟩
theorem Sp.sa {A B H D:List Ck} (h:Sp H A D):Sp (B++H) A (B++D):=⟨by
  refine (gf B h.p).trans ?_
  rw[←dD,←dD]
  exact List.Perm.append_right D List.perm_append_comm⟩
theorem Sp.sx {x:Ck} {C H H1 D:List Ck} (h:Fr H x H1) (lK:Sp H1 C D):Sp H (x::C) D:=⟨h.p.trans (List.Perm.cons x lK.p)⟩
theorem Sp.s2 {A B H H1 D:List Ck} (h:Sp H A H1) (lK:Sp H1 B D):Sp H (A++B) D:=⟨by
  rw[dD]
  exact h.p.trans (gf A lK.p)⟩
theorem Sp.al {A B H C D:List Ck} (h:Sp (A++(B++H)) C D):Sp ((A++B)++H) C D:=⟨by rw[dD];exact h.p⟩
theorem Sp.all {H C:List Ck} (h:Sp H C []):H.Perm C:=by simpa using h.p
def Gr (A B:List Ck):Prop:=∀c∈A,c∈B
theorem Gr.refl {A:List Ck}:Gr A A:=fun _ h=>h
theorem Gr.cons {A B:List Ck} {x:Ck} (h:Gr A B):Gr A (x::B):=fun c hc=>dt _ (h c hc)
theorem cE {A B D:List Ck} (h:Gr A B):Gr A (D++B):=fun c hc=>dq _ (h c hc)
theorem Gr.left {A B D:List Ck} (h:Gr A B):Gr A (B++D):=fun c hc=>dw _ (h c hc)
theorem IQ (vs:List Value) (o:Nat):∀(k:Nat) (cs:List Value),o+k+vs.length≤cs.length→
    ((vs.zipIdx k).foldl (fun (cs:Array Value) (p:Value×Nat)=>cs.setIfInBounds (o+p.2) p.1) cs.toArray)=(cs.take (o+k)++(vs++cs.drop (o+k+vs.length))).toArray:=by
  induction vs with
  |nil=>intro k cs h;simp
  | cons v vs ih=>
    intro k cs h
    simp only[dF] at h
    simp only[List.zipIdx_cons,List.foldl_cons,List.setIfInBounds_toArray]
    obtain ⟨A,x,B,rfl,hA⟩:∃A x B,cs=A++x::B∧A.length=o+k:=⟨cs.take (o+k),cs[o+k],cs.drop (o+k+1),by rw[←List.drop_eq_getElem_cons gz,fz],by simp;omega⟩
    rw[ih (k+1) _ (by simp at h ⊢;omega)]
    have e:(A++x::B).set (o+k) v=A++v::B:=by rw[←hA];simp
    rw[e,show o+(k+1)=A.length+1 by omega,show o+k=A.length by omega,show A.length+1+vs.length=A.length+(vs.length+1) by omega]
    have e3:List.take (A.length+1) (A++v::B)=A++[v]:=by rw[List.take_length_add_append];rfl
    rw[e3]
    simp[dF]
variable {K:Next→List Ck→Prop}
theorem aF {T:TypeId} {x:Operand} {b n:Nat} {cs:List Value} {gV:TypeId} {fr:Nat×Nat} {ex:Bool} (hT:tm P T n=true) (hx:ev l x=some (.pointer (some ⟨b,0,none⟩)))
    (hm:(⟨b,.cells cs.toArray gV fr,ex⟩:Ck)∈H) (hn:cs.length=n) (k:K (.value (.agg cs.toArray)) H):Hd P ⟨d,.load T x,ty,pos,gJ,g⟩ l H K:=
  aJ hT hx hm hn (by subst hn;simp) k
theorem cH {T:TypeId} {x:Operand} {vs:List Value} (hx:ev l x=some (.agg vs.toArray)) (k:∀b,K (.value (.pointer (some ⟨b,0,none⟩))) (row b vs T::H)):Hd P ⟨d,.box T x,ty,pos,gJ,g⟩ l H K:=
  Hd.box hx fun b=>k b
theorem bg {T:TypeId} {x y:Operand} {b o:Nat} {cs iT:List Value} {gV:TypeId} {v:Value} {D:List Ck} (hT:me P T=some 1) (hx:ev l x=some (.pointer (some ⟨b,o,none⟩))) (hy:ev l y=some v)
    (h1:v.oneCell'=true) (hm:Fr H (row b cs gV) D) (hc:Nat.blt o cs.length=true) (he:cs.set o v=iT) (k:K .skip (row b iT gV::D)):Hd P ⟨d,.store T x y,ty,pos,gJ,g⟩ l H K:=by
  subst he
  exact cD hT hx hy h1 hm.p (by simpa using hc) k
theorem aH {T:TypeId} {x y:Operand} {b n:Nat} {cs vs:List Value} {gV:TypeId} {D:List Ck} (hT:me P T=some n) (hx:ev l x=some (.pointer (some ⟨b,0,none⟩))) (hy:ev l y=some (.agg vs.toArray))
    (hn:vs.length=n) (h1:∀u∈vs,u.oneCell'=true) (hm:Fr H (row b cs gV) D) (hc:cs.length=n) (k:K .skip (row b vs gV::D)):Hd P ⟨d,.store T x y,ty,pos,gJ,g⟩ l H K:=by
  subst hn
  refine cx hT hx hy (by simp[Value.cells]) (by simpa [Value.cells] using h1) hm.p gz ?_
  have:oZ cs 0 (Value.agg vs.toArray).cells.toList=vs:=by simp[oZ,Value.cells,←hc]
  rw[this]
  exact k
theorem bj {T:TypeId} {x y:Operand} {b o n:Nat} {cs iT vs:List Value} {gV:TypeId} {D:List Ck} (hT:me P T=some n) (hx:ev l x=some (.pointer (some ⟨b,o,none⟩))) (hy:ev l y=some (.agg vs.toArray))
    (hn:vs.length=n) (h1:∀u∈vs,u.oneCell'=true) (hm:Fr H (row b cs gV) D) (hc:o+n≤cs.length) (he:cs.take o++(vs++cs.drop (o+n))=iT) (k:K .skip (row b iT gV::D)):Hd P ⟨d,.store T x y,ty,pos,gJ,g⟩ l H K:=by
  subst hn
  refine cx hT hx hy (by simp[Value.cells]) (by simpa [Value.cells] using h1) hm.p hc ?_
  have:oZ cs o (Value.agg vs.toArray).cells.toList=iT:=by rw[←he];simp[oZ,Value.cells]
  rw[this]
  exact k
theorem aX {T e sz:TypeId} {zs:List Value} {x:Operand} {vs:List Value} (hT:lk P T=some e) (hS:me P e=some sz) (hz:zeroOf P e=some zs) (NU:zs.length=sz) (hx:ev l x=some (.agg vs.toArray)) (hn:vs.length=sz) (hs:Nat.ble (1*sz) 16777216=true)
    (k:∀b,K (.value (.slice (some ⟨b,0,none⟩) 1 1)) (row b vs e::H)):Hd P ⟨d,.buildSlice T 1 #[(0,x)],ty,pos,gJ,g⟩ l H K:=by
  refine Hd.buildSlice (parts:=[(0,x)]) (vs:=[(0,.agg vs.toArray)]) (cells:=vs) hT hS hz (by simp[hx]) hs ?_ k
  subst NU
  have hc:(Value.agg vs.toArray).cells=vs.toArray:=rfl
  have hf:=IQ vs 0 0 ((List.range zs.length).map fun i=>zs[i%zs.length]!) (by simp[hn])
  simp only[eV,fJ,eC,hn] at hf
  rw[List.drop_eq_nil_of_le (by simp),eF] at hf
  have e1:(Array.range (1*zs.length)).map (zs.toArray[·%zs.toArray.size]!)=((List.range zs.length).map fun i=>zs[i%zs.length]!).toArray:=by
    apply Array.ext'
    simp[Array.toList_range]
  have e2:vs.toArray.zipIdx=(vs.zipIdx 0).toArray:=by apply Array.ext';simp
  simp only[Instr.fill,hc,e1]
  rw[dp (by simp[hn])]
  simp only[Nat.zero_mul,eV]
  rw[e2,List.foldl_toArray,hf]
theorem aT {x y:Operand} {T e sz bytes:Nat} {zs:List Value} {v:Value} {n rb:Nat} {xs vs:List Value} {C D:List Ck} (hT:lk P T=some e) (hE:rM P e=some (sz,zs,bytes)) (hz:zs.length=sz) (mR:0<sz)
    (hx:ev l x=some v) (hy:ev l y=some (.slice (some ⟨rb,0,none⟩) 1 1)) (own:il v n xs e sz C) (hH:Sp H C D) (hm:row rb vs e∈D) (hl:vs.length=sz) (h1:∀u∈vs,u.oneCell'=true) (pZ:n+1≤maxLen) (hb:(n+1)*bytes≤140737488355328)
    (k:∀iJ gP,il iJ (n+1) (xs++vs) e sz gP→K (.value iJ) (gP++D)):Hd P ⟨d,.call ⟨.builtin .append,#[x,y],#[T,T]⟩,ty,pos,gJ,g⟩ l H K:=
  Hd.append hT hE hz mR hx hy own (m:=1) (news:=vs) (.inr ⟨rb,0,1,vs,e,(0,0),true,rfl,dA _,dq _ hm,by simp⟩) gz h1 pZ hb hH.p fun iJ gP h _=>k iJ gP h
def D6:List (Nat×Nat)→List Value→List (Nat×Value)→Option (List Value)
  |_,cs,[]=>some cs
  | pl,cs,(i,v)::r=>match pl[i]? with
    |none=>none
    |some (o,n)=>if v.cells.toList.length=n∧o+n≤cs.length then D6 pl (cs.take o++(v.cells.toList++cs.drop (o+n))) r else none
theorem R5 (pl:List (Nat×Nat)):∀(vs:List (Nat×Value)) (cs r:List Value),D6 pl cs vs=some r→Instr.fill (pl.toArray[·]?) cs.toArray vs=some r.toArray
  |[],cs,r,h=>by simp[D6] at h;simp[Instr.fill,h]
  | (i, v)::vs,cs,r,h=>by
    simp only[D6] at h
    cases hp:pl[i]? with
    |none=>simp[hp] at h
    | some on=>
      obtain ⟨o,n⟩:=on
      simp only[hp] at h
      split at h
      · rename_i hc
        obtain ⟨h1,h2⟩:=hc
        have aaS:v.cells.size=n:=by simpa using h1
        have ih:=R5 pl vs _ r h
        simp only[List.getElem?_toArray] at ih
        simp only[Instr.fill,List.getElem?_toArray,hp]
        rw[dp (by simp[aaS];omega)]
        have hf:=IQ v.cells.toList o 0 cs gz
        have hz:v.cells.zipIdx=(v.cells.toList.zipIdx 0).toArray:=by apply Array.ext';simp
        rw[hz]
        simp only[List.foldl_toArray]
        rw[hf,fG,h1]
        exact ih
      · cases h
theorem aj {T:TypeId} {zs:List Value} {pl:List (Nat×Nat)} {parts:List (Nat×Operand)} {vs:List (Nat×Value)} {cells:List Value} (hP:placesOf P T=some pl) (hz:zeroOf P T=some zs) (hp:(parts.map fun p=>(ev l p.2).map fun v=>(p.1,v))=vs.map some)
    (hf:D6 pl zs vs=some cells):Yd P ⟨d,.build T parts.toArray,ty,pos,gJ,g⟩ l (.agg cells.toArray):=
  Yd.build hP hz hp (R5 _ _ _ _ hf)
variable {n:Nat} {w0:World} {R:List Ck} {ops:Array Oper} {Q:Exit→Act→World→Prop}
theorem WL.rf {d:Nat} {op:Op} {ty:TypeId} {pos:String} {gJ:Array Edge} {rest:List Oper} {f:FuncId} {args:List Value} {C D:List Ck} {v:Value} (hd:Nat.blt d n=true)
    (he:iE P ⟨some d,op,ty,pos,gJ,none⟩ l f args) (hs:Reads P f args C v) (hH:Sp H C D) (h:WL P n w0 R ops Q rest ((d,v)::l) H):WL P n w0 R ops Q (⟨some d,op,ty,pos,gJ,none⟩::rest) l H:=
  WL.c hd he hs hH.p fun iJ gP ⟨h1,h2⟩=>by subst h1 h2;exact cT H hH.p.symm h
theorem bV {d j:Nat} {b:Bool} {dj:Nat} {op:Op} {ty:TypeId} {pos:String} {gJ:Array Edge} {rest:List Oper} {f:FuncId} {args:List Value} {C D:List Ck} {v:Value} (hj:(ops[j]?).bind (·.dst)=some dj) (hg:iF l dj=some (.bool b)) (hd:Nat.blt d n=true)
    (he:iE P ⟨some d,op,ty,pos,gJ,some (j,b)⟩ l f args) (hs:Reads P f args C v) (hH:Sp H C D) (h:WL P n w0 R ops Q rest ((d,v)::l) H):WL P n w0 R ops Q (⟨some d,op,ty,pos,gJ,some (j,b)⟩::rest) l H:=
  WL.gc hj hg hd he hs hH.p fun iJ gP ⟨h1,h2⟩=>by subst h1 h2;exact cT H hH.p.symm h
def Sx (ks:List Nat) (l r:Sl):Prop:=∀t v,ks.contains t=false→iF r t=some v→iF l t=some v
theorem Sx.refl {ks:List Nat} {l:Sl}:Sx ks l l:=fun _ _ _ h=>h
theorem Sx.skip {ks:List Nat} {l r:Sl} {d:Nat} {v:Value} (hk:(ks.contains d||(iF r d).isNone)=true) (h:Sx ks l r):Sx ks ((d,v)::l) r:=fun t u hc hr=>by
  rw[pW]
  by_cases e:d=t
  · subst e
    rw[hc,hr] at hk
    cases hk
  · rw[dp e]
    exact h t u hc hr
theorem Sx.put {ks:List Nat} {l r:Sl} {d:Nat} {v:Value} (hv:iF l d=some v) (h:Sx (d::ks) l r):Sx ks l ((d,v)::r):=fun t u hc hr=>by
  rw[pW] at hr
  by_cases e:d=t
  · subst e
    rw[dx rfl] at hr
    cases hr
    exact hv
  · rw[dp e] at hr
    exact h t u (by
      simp only[List.contains_cons,Bool.or_eq_false_iff] at*
      exact ⟨by simp;omega,hc⟩) hr
theorem At.sx {r:Sl} {a:Act} {w:World} (h:At P n w0 R l H a w) (s:Sx [] l r):At P n w0 R r H a w:=⟨h.size,h.defers,fun t v hv=>h.kn t v (s t v rfl hv),h.sat,h.kept⟩
theorem WC.Of {α:Type} (I:α→Prop) (S:α→Sl) (K:α→List Ck) (μ:α→Nat) {c:Code} (x0:α) (h0:I x0) (hl:Sx [] l (S x0++l)) (hH:H.Perm (K x0))
    (round:∀x,I x→WC P n w0 R (Exit.then (BE P n w0 R I (fun x=>S x++l) K μ (μ x)) Q) c (S x++l) (K x)):WC P n w0 R Q (.loop c) l H:=
  WC.Vb I (fun x=>S x++l) K μ x0 h0 (fun _ _ i=>(i.sx hl).perm hH) round
theorem cS {α:Type} {I:α→Prop} {S:α→Sl} {l0:Sl} {K:α→List Ck} {μ:α→Nat} {m:Nat} (z:α) (hz:I z) (hm:μ z<m) (hl:Sx [] l (S z++l0)) (hH:H.Perm (K z)):
    DN P n w0 R (Exit.then (BE P n w0 R I (fun x=>S x++l0) K μ m) Q) .normal l H:=fun _ _ i=>⟨z,hz,hm,(i.sx hl).perm hH⟩
theorem aI {α:Type} (I:α→Prop) (S:α→Sl) (K:α→List Ck) {x y:Code} (h:WC P n w0 R (Exit.then (Reach P n w0 R I (fun x=>S x++l) K) Q) x l H) (lK:∀z,I z→WC P n w0 R Q y (S z++l) (K z)):
    WC P n w0 R Q (.seq x y) l H:=WC.cut I (fun x=>S x++l) K h lK
theorem ah {α:Type} {I:α→Prop} {S:α→Sl} {l0:Sl} {K:α→List Ck} (z:α) (hz:I z) (hl:Sx [] l (S z++l0)) (hH:H.Perm (K z)):
    DN P n w0 R (Exit.then (Reach P n w0 R I (fun x=>S x++l0) K) Q) .normal l H:=fun _ _ i=>⟨z,hz,(i.sx hl).perm hH⟩
end
section
variable {P:Program} {l:Sl} {H:List Ck} {d:Option Nat} {ty:TypeId} {pos:String} {gJ:Array Edge} {g:Option (Nat×Bool)} {K:Next→List Ck→Prop}
theorem Hd.Wd {T:TypeId} {x:Operand} {s:ByteArray} (hT:P.underlying T=some .string) (hx:ev l x=some (.string s)) (k:∀b,K (.value (.pointer (some ⟨b,0,none⟩))) (⟨b,.stringIter s 0,true⟩::H)):
    Hd P ⟨d,.range T x,ty,pos,gJ,g⟩ l H K:=fun a w R kn st=>by
  refine ⟨_,_,⟨w.heap.size,.stringIter s 0,true⟩::H,?_,st.push (.stringIter s 0) true,⟨rfl,rfl,rfl,by simp,dA _⟩,k w.heap.size⟩
  simp[execOp,kn.ev hx,Instr.range,dP hT]
theorem Hd.oD {x:Operand} {b p:Nat} {s:ByteArray} {D:List Ck} (hx:ev l x=some (.pointer (some ⟨b,0,none⟩))) (hm:Fr H ⟨b,.stringIter s p,true⟩ D)
    (k1:∀(h:p<s.size),(s[p]'h).toNat<128∧K (.value (.tuple #[.bool true,.int .i64 p,.int .i32 ((s[p]'h).toNat:Int)])) (⟨b,.stringIter s (p+1),true⟩::D))
    (k2:¬p<s.size→K (.value (.tuple #[.bool false])) (⟨b,.stringIter s p,true⟩::D)):Hd P ⟨d,.next x true,ty,pos,gJ,g⟩ l H K:=fun a w R kn st=>by
  have jj:Sat w (⟨b,.stringIter s p,true⟩::(D++R)):=st.perm (hm.p.append_right R)
  have hg:=jj.holds _ dy
  by_cases h:p<s.size
  · obtain ⟨h1,h2⟩:=k1 h
    have hb:b<w.heap.size:=jj.lt (c:=⟨b,.stringIter s p,true⟩) dy
    refine ⟨_,{w with heap:=w.heap.setIfInBounds b (.stringIter s (p+1))},⟨b,.stringIter s (p+1),true⟩::D,?_,jj.write (by simp[hb]) (fun k hk=>by simp[Array.getElem?_setIfInBounds,Ne.symm hk]),⟨rfl,rfl,rfl,by simp,dA _⟩,h2⟩
    simp only[execOp,kn.ev hx,Instr.next,getObj,setObj,Sem.run_bind,Sem.run,hg,Result.andThen,h,if_true,decode_ascii s p h h1]
    simp[goInt]
  · refine ⟨_,w,⟨b,.stringIter s p,true⟩::D,?_,jj,Kept.refl w,k2 h⟩
    simp[execOp,kn.ev hx,Instr.next,getObj,Sem.run,hg,h]
end
section
variable {P:Program} {l:Sl} {H:List Ck} {d:Option Nat} {ty:TypeId} {pos:String} {gJ:Array Edge} {g:Option (Nat×Bool)} {K:Next→List Ck→Prop}
theorem DN.fit {n:Nat} {w0:World} {R:List Ck} {Q:Exit→Act→World→Prop} {e:Exit} {C D:List Ck} (h:Sp H C D) (k:DN P n w0 R Q e l C):DN P n w0 R Q e l H:=
  cy (C++D) h.p (aR C (gg _ _) k)
theorem WL.fit {n:Nat} {w0:World} {R:List Ck} {ops:Array Oper} {Q:Exit→Act→World→Prop} {rest:List Oper} {C D:List Ck} (h:Sp H C D) (k:WL P n w0 R ops Q rest l C):WL P n w0 R ops Q rest l H:=
  cT (C++D) h.p (WL.forget C (gg _ _) k)
theorem WC.fit {n:Nat} {w0:World} {R:List Ck} {Q:Exit→Act→World→Prop} {c:Code} {C D:List Ck} (h:Sp H C D) (k:WC P n w0 R Q c l C):WC P n w0 R Q c l H:=
  WC.blocks (C++D) h.p (WC.forget C (gg _ _) k)
section
variable {n:Nat} {w0:World} {R:List Ck} {Q:Exit→Act→World→Prop}
theorem aC {α:Type} (I:α→Prop) (S:α→Sl) (K:α→List Ck) (μ:α→Nat) {c:Code} (x0:α) (h0:I x0) (hl:Sx [] l (S x0++l)) {D:List Ck} (hH:Sp H (K x0) D)
    (round:∀x,I x→WC P n w0 R (Exit.then (BE P n w0 R I (fun x=>S x++l) K μ (μ x)) Q) c (S x++l) (K x)):WC P n w0 R Q (.loop c) l H:=
  WC.fit hH (WC.Of I S K μ x0 h0 hl (fb _) round)
theorem ai {α:Type} {I:α→Prop} {S:α→Sl} {l0:Sl} {K:α→List Ck} {μ:α→Nat} {m:Nat} (z:α) (hz:I z) (hm:μ z<m) (hl:Sx [] l (S z++l0)) {D:List Ck} (hH:Sp H (K z) D):
    DN P n w0 R (Exit.then (BE P n w0 R I (fun x=>S x++l0) K μ m) Q) .normal l H:=DN.fit hH (cS z hz hm hl (fb _))
theorem aV {α:Type} {I:α→Prop} {S:α→Sl} {l0:Sl} {K:α→List Ck} (z:α) (hz:I z) (hl:Sx [] l (S z++l0)) {D:List Ck} (hH:Sp H (K z) D):
    DN P n w0 R (Exit.then (Reach P n w0 R I (fun x=>S x++l0) K) Q) .normal l H:=DN.fit hH (ah z hz hl (fb _))
end
theorem au {n:Nat} {w0:World} {R:List Ck} {fn:Func} {jE:Value→List Ck→Prop} {t u T s b:Nat} {cs:List Value} {gV:TypeId} {fr:Nat×Nat} {ex:Bool} {v:Value} (gr:List Ck) (hr:fn.results=#[.cell t T,.tmp u]) (hT:tm P T s=true) (hv:iF l t=some (.pointer (some ⟨b,0,none⟩))) (hu:iF l u=some v)
    (hm:(⟨b,.cells cs.toArray gV fr,ex⟩:Ck)∈H) (hs:cs.length=s) {D:List Ck} (hH:Sp H gr D) (hp:jE (.tuple #[.agg cs.toArray,v]) gr):DN P n w0 R (bodyPost P fn (wE P w0 R jE)) .ret l H:=fun a w i=>by
  have h:=i.sat.holds _ (dw R hm)
  have hl:=gm (P:=P) w ⟨b,0,none⟩ cs (fun j v hv=>by rw[add_plain,tD h];simpa using hv)
  rw[hs] at hl
  have tV:=i.kn t _ hv
  have p6:=i.kn u _ hu
  simp only[fj] at tV p6
  have j:=i.perm hH.p
  refine bodyPost_ret (v:=.tuple #[.agg cs.toArray,v]) ?_ i.defers ⟨_,gr,rfl,hp,(j.sublist (gg _ _)).sat,i.kept⟩
  simp[results,hr,tV,p6,asAddr,loadVar,(ub hT w).1,(ub hT w).2,hl]
theorem bH {n:Nat} {w0:World} {R:List Ck} {fn:Func} {jE:Value→List Ck→Prop} {t T s b:Nat} {cs:List Value} {gV:TypeId} {fr:Nat×Nat} {ex:Bool} (gr:List Ck) (hr:fn.results=#[.cell t T]) (hT:tm P T s=true) (hv:iF l t=some (.pointer (some ⟨b,0,none⟩)))
    (hm:(⟨b,.cells cs.toArray gV fr,ex⟩:Ck)∈H) (hs:cs.length=s) {D:List Ck} (hH:Sp H gr D) (hp:jE (.agg cs.toArray) gr):DN P n w0 R (bodyPost P fn (wE P w0 R jE)) .ret l H:=fun a w i=>by
  have h:=i.sat.holds _ (dw R hm)
  have hl:=gm (P:=P) w ⟨b,0,none⟩ cs (fun j v hv=>by rw[add_plain,tD h];simpa using hv)
  rw[hs] at hl
  have tV:=i.kn t _ hv
  simp only[fj] at tV
  have j:=i.perm hH.p
  refine bodyPost_ret (v:=.agg cs.toArray) ?_ i.defers ⟨_,gr,rfl,hp,(j.sublist (gg _ _)).sat,i.kept⟩
  simp[results,hr,tV,asAddr,loadVar,(ub hT w).1,(ub hT w).2,hl]
theorem aZ {x y:Operand} {T e:TypeId} {zs:List Value} {v u:Value} {a b:List (BitVec 8)} {C D:List Ck} {K:Next→List Ck→Prop} (hT:lk P T=some e) (hE:rM P e=some (1,zs,1)) (hz:zs.length=1)
    (hx:ev l x=some v) (hy:ev l y=some u) (own:Ob e v a C) (hH:Sp H C D) (src:Bs u b H) (pZ:a.length+b.length≤140737488355328)
    (k:∀iJ gP,Ob e iJ (a++b) gP→K (.value iJ) (gP++D)):Hd P ⟨d,.call ⟨.builtin .append,#[x,y],#[T,T]⟩,ty,pos,gJ,g⟩ l H K:=
  cM hT hE hz hx hy own (src.mono fun c hc=>hH.p.mem_iff.1 hc) pZ hH.p fun iJ gP h _=>k iJ gP h
end
section
variable {P:Program} {l:Sl} {H:List Ck} {d:Option Nat} {ty:TypeId} {pos:String} {gJ:Array Edge} {g:Option (Nat×Bool)} {K:Next→List Ck→Prop}
def ES (P:Program) (t:TypeId):Option Nat:=match P.underlying t with|some (.int _)=>some 0|some .string=>some 1|some .bool=>some 2|_=>none
def JU (P:Program):Nat→List Field→Option (List Nat)
  |_,[]=>some []
  | o, f :: fs => if f.name ≠ "_" ∧ f.offset = o then (ES P f.type).bind fun k => (JU P (o + 1) fs).map (k :: ·) else none
def JW (P:Program) (T:TypeId):Option (List Nat):=match P.underlying T with
  |some (.struct fs)=>if (!P.stoodInHeld T&&!P.eqGuardType P.depth T)=true then JU P 0 fs.toList else none
  |_=>none
def yQ:Nat→Value→Value→Option Bool
  |0,.int k a,.int lS b=>if k=lS then some (decide (a=b)) else none
  |1,.string a,.string b=>some (decide (a=b))
  |2,.bool a,.bool b=>some (a==b)
  |_,_,_=>none
def tE:List Nat→List Value→List Value→Option Bool
  |[],[],[]=>some true
  |k::ks,u::us,v::vs=>(yQ k u v).bind fun b=>(tE ks us vs).map (b&& ·)
  |_,_,_=>none
theorem afL {t:TypeId} {k dd:Nat} {u v:Value} {b:Bool} {w:World} (hk:ES P t=some k) (h:yQ k u v=some b):(Op.equalIn (dd+1) t u v).run P w=.ok b w:=by
  unfold ES at hk
  split at hk
  · rename_i hu
    cases hk
    cases u<;>cases v<;>simp only[yQ,ew,reduceCtorEq] at h
    split at h
    · rename_i GR
      subst GR
      cases h
      rw[run_equalIn_int w _ _ _ _ _ _ hu]
      rfl
    · cases h
  · rename_i hu
    cases hk
    cases u<;>cases v<;>simp only[yQ,ew,reduceCtorEq] at h
    subst h
    rw[run_equalIn_string w _ _ _ _ hu,←beq_toListBytes]
    congr 1
    rename_i s jj
    obtain ⟨⟨a⟩⟩:=s
    obtain ⟨⟨b⟩⟩:=jj
    show ((⟨a⟩:Array UInt8)==⟨b⟩)=_
    rw[dM];simp
  · rename_i hu
    cases hk
    cases u<;>cases v<;>simp only[yQ,ew,reduceCtorEq] at h
    subst h
    rw[run_equalIn_bool' w _ _ _ _ hu]
  · cases hk
theorem U3 {t:TypeId} {k:Nat} (h:ES P t=some k):Io P t=some false:=by
  unfold ES at h
  unfold Io
  split at h<;>simp_all
theorem O1        {dd:Nat} {w:World} (xs ys:List Value):∀(fs:List Field) (o:Nat) (ks:List Nat) (b:Bool),JU P o fs=some ks→tE ks (xs.drop o) (ys.drop o)=some b→(Op.eqFields (dd+1) xs.toArray ys.toArray fs).run P w=.ok b w
  | [],o,ks,b,h,hb=>by
    cases h
    cases hx:xs.drop o<;>cases hy:ys.drop o<;>rw[hx,hy] at hb<;>simp[tE] at hb
    subst hb
    simp[Op.eqFields]
  | f :: fs, o, ks,b,h,hb=>by
    simp only[JU] at h
    split at h
    · rename_i hc
      cases hk:ES P f.type with
      |none=>rw[hk] at h;simp at h
      | some k=>
        rw[hk] at h
        simp only[Option.bind_some,Option.map_eq_some_iff] at h
        obtain ⟨JP,lK,rfl⟩:=h
        cases hx:xs.drop o with
        |nil=>rw[hx] at hb;cases ys.drop o<;>simp[tE] at hb
        | cons u us=>
          cases hy:ys.drop o with
          |nil=>rw[hx,hy] at hb;simp[tE] at hb
          | cons v vs=>
            rw[hx,hy] at hb
            simp only[tE] at hb
            cases MD:yQ k u v with
            |none=>rw[MD] at hb;simp at hb
            | some b1=>
              rw[MD] at hb
              simp only[Option.bind_some,Option.map_eq_some_iff] at hb
              obtain ⟨b2,Gy,rfl⟩:=hb
              have e1:us=xs.drop (o+1):=by rw[←gv,hx];rfl
              have e2:vs=ys.drop (o+1):=by rw[←gv,hy];rfl
              rw[e1,e2] at Gy
              have ih:=O1 (dd:=dd) (w:=w) xs ys fs (o+1) JP b2 lK Gy
              have p1:(part f.type xs.toArray f.offset).run P w=.ok u w:=by
                have:xs[o]?=some u:=by
                  have:=congrArg List.head? hx
                  rwa [List.head?_drop,List.head?_cons] at this
                simp[part,Wr (U3 hk),hc.2,this]
              have p2:(part f.type ys.toArray f.offset).run P w=.ok v w:=by
                have:ys[o]?=some v:=by
                  have:=congrArg List.head? hy
                  rwa [List.head?_drop,List.head?_cons] at this
                simp[part,Wr (U3 hk),hc.2,this]
              simp only[Op.eqFields,Sem.run_ite,hc.1,ne_eq,not_false_eq_true,if_true,Sem.run_bind,p1,p2,fT,afL hk MD]
              cases b1
              · simp
              · simp[ih]
    · cases h
theorem Yd.R2 {T gV:TypeId} {x y:Operand} {us vs:List Value} (ks:List Nat) {b:Bool} (hT:JW P T=some ks) (hx:ev l x=some (.agg us.toArray)) (hy:ev l y=some (.agg vs.toArray)) (hb:tE ks us vs=some b):Yd P ⟨d,.binOp .eql T x y gV,ty,pos,gJ,g⟩ l (.bool b):=fun a kn w=>by
  unfold JW at hT
  split at hT
  · rename_i fs hu
    split at hT
    · rename_i hc
      simp only[eu,fq] at hc
      have rk:P.fieldsOf T=fs:=by simp[Program.fieldsOf,hu]
      have Nb:(eqGuard .eql T x y (.agg us.toArray) (.agg vs.toArray)).run P w=.ok () w:=run_eqGuard_agg w .eql T x y _ _ hc.2
      have h:=run_equalIn_struct w 9999 T us.toArray vs.toArray (by rw[hu,rk]) hc.1
      rw[rk,O1 us vs fs.toList 0 ks b hT (by simpa using hb)] at h
      simp only[execOp,kn.ev hx,kn.ev hy,Sem.run_bind,Nb,fT]
      rw[run_eql_struct,h]
      simp
    · cases hT
  · cases hT
theorem Yd.aeC {T gV:TypeId} {x y:Operand} {us vs:List Value} (ks:List Nat) {b:Bool} (hT:JW P T=some ks) (hx:ev l x=some (.agg us.toArray)) (hy:ev l y=some (.agg vs.toArray)) (hb:tE ks us vs=some b):Yd P ⟨d,.binOp .neq T x y gV,ty,pos,gJ,g⟩ l (.bool (!b)):=fun a kn w=>by
  unfold JW at hT
  split at hT
  · rename_i fs hu
    split at hT
    · rename_i hc
      simp only[eu,fq] at hc
      have rk:P.fieldsOf T=fs:=by simp[Program.fieldsOf,hu]
      have Nb:(eqGuard .neq T x y (.agg us.toArray) (.agg vs.toArray)).run P w=.ok () w:=run_eqGuard_agg w .neq T x y _ _ hc.2
      have h:=run_equalIn_struct w 9999 T us.toArray vs.toArray (by rw[hu,rk]) hc.1
      rw[rk,O1 us vs fs.toList 0 ks b hT (by simpa using hb)] at h
      simp only[execOp,kn.ev hx,kn.ev hy,Sem.run_bind,Nb,fT]
      rw[run_neq_struct,h]
      simp
    · cases hT
  · cases hT
theorem Rs.Bj {ao:Option Addr} {n c m:Nat} {xs:List Value} (hr:Rs (.slice ao n c) m xs H) (jk:0<n):∃(b o:Nat) (cs:List Value) (T:TypeId) (fr:Nat×Nat) (ex:Bool),ao=some ⟨b,o,none⟩∧n=m∧(⟨b,.cells cs.toArray T fr,ex⟩:Ck)∈H∧(cs.drop o).take xs.length=xs:=by
  rcases hr with ⟨K4,sS,h,e1,e2⟩|⟨b,o,cap,cs,gV,fr,ex,ie,hc,hm,sA⟩
  · simp only[dI] at h;omega
  · simp only[dI] at ie
    exact ⟨b,o,cs,gV,fr,ex,ie.1,ie.2.1,hm,sA⟩
theorem Wm {cs xs vs:List Value} {o i s:Nat} (sA:(cs.drop o).take xs.length=xs) (hi:i*s+s≤xs.length) (hv:(xs.drop (i*s)).take s=vs):(cs.drop (o+(i:Int).toNat*s)).take s=vs:=by
  rw[←hv,Int.toNat_natCast]
  rw[←sA,List.drop_take,gd,gv]
  congr 1
  omega
theorem LL {α:Type} (enc:α→List Value) (k:Nat) (hk:∀x,(enc x).length=k):∀(ds:List α) (i:Nat) (h:i<ds.length),((ds.flatMap enc).drop (i*k)).take k=enc ds[i]
  | d::ds,0,h=>by
    rw[Nat.zero_mul,List.drop_zero,List.flatMap_cons,dQ (by rw[hk];omega),dL (by rw[hk];omega)]
    rfl
  | d::ds,i+1,h=>by
    rw[List.flatMap_cons,List.drop_append,fv (by rw[hk,fZ];omega),eC,hk,show (i+1)*k-k=i*k by rw[fZ];omega,LL enc k hk ds i (by simpa using h)]
    rfl
theorem cQ {x y:Operand} {T e sz bytes:Nat} {zs:List Value} {v u:Value} {n m:Nat} {xs news:List Value} {C D:List Ck} (hT:lk P T=some e) (hE:rM P e=some (sz,zs,bytes)) (hz:zs.length=sz) (mR:0<sz)
    (hx:ev l x=some v) (hy:ev l y=some u) (own:il v n xs e sz C) (hH:Sp H C D) (src:Rs u m news H) (hl:news.length=m*sz) (h1:∀u∈news,u.oneCell'=true) (pZ:n+m≤maxLen) (hb:(n+m)*bytes≤140737488355328)
    (k:∀iJ gP,il iJ (n+m) (xs++news) e sz gP→K (.value iJ) (gP++D)):Hd P ⟨d,.call ⟨.builtin .append,#[x,y],#[T,T]⟩,ty,pos,gJ,g⟩ l H K:=
  Hd.append hT hE hz mR hx hy own (src.mono fun c hc=>hH.p.mem_iff.1 hc) hl h1 pZ hb hH.p fun iJ gP h _=>k iJ gP h
theorem aq {T:TypeId} {x y:Operand} {b o:Nat} {cs iT:List Value} {gV:TypeId} {v:Value} {D:List Ck} (hT:me P T=some 1) (hx:ev l x=some (.pointer (some ⟨b,o,none⟩))) (hy:ev l y=some v)
    (h1:v.oneCell'=true) (hm:Fr H (row b cs gV) D) (hc:o<cs.length) (he:cs.set o v=iT) (k:K .skip (row b iT gV::D)):Hd P ⟨d,.store T x y,ty,pos,gJ,g⟩ l H K:=by
  subst he
  exact cD hT hx hy h1 hm.p (by simpa using hc) k
end
section
variable {P:Program} {l:Sl} {H:List Ck} {K:Next→List Ck→Prop} {d:Option Nat} {ty:TypeId} {pos:String} {gJ:Array Edge} {g:Option (Nat×Bool)}
theorem Yd.Rg {x:Operand} {T:TypeId} {e:TypeId} {ao:Option Addr} {n c:Nat} (hT:lk P T=some e) (hx:ev l x=some (.slice ao n c)):Yd P ⟨d,.call ⟨.builtin .cap,#[x],#[T]⟩,ty,pos,gJ,g⟩ l (.int .i64 c):=fun a k w=>by
  simp[execOp,resolve,invoke,builtin,k.ev hx,Builtin.cap_,dP (qR hT),goInt]
theorem bh {x y:Operand} {T e s:Nat} {b n c i:Nat} {k:IntKind} {m:Int} (hT:lk P T=some e) (hs:me P e=some s) (hx:ev l x=some (.slice (some ⟨b,0,none⟩) n c)) (hy:ev l y=some (.int k m)) (hm:m=(i:Int)) (h1:i≤n) (h2:n≤c) (h3:i<c):
    Yd P ⟨d,.slice T x (some y) none none,ty,pos,gJ,g⟩ l (.slice (some ⟨b,i*s,none⟩) (n-i) (c-i)):=by
  have h:=Yd.slice (P:=P) (l:=l) (d:=d) (ty:=ty) (pos:=pos) (gJ:=gJ) (g:=g) (lo:=some y) (hi:=none) (i:=i) (j:=n) hT hs hx ⟨k,m,hy,hm⟩ rfl h1 h2
  rw[dp gz] at h
  have e:(some (⟨b,0,none⟩:Addr)).map (·.add (i*s))=some ⟨b,i*s,none⟩:=by
    show some ((⟨b,0,none⟩:Addr).add (i*s))=_
    rw[add_plain];simp
  rw[e] at h
  exact h
theorem UI (A x E:List Value) (o:Nat) (hA:A.length=o):(A++E).take o++(x++(A++E).drop (o+x.length))=A++(x++E.drop x.length):=by
  subst hA
  simp
theorem UJ (A x E Y:List Value) (o:Nat) (hA:A.length+x.length=o):(A++(x++E)).take o++(Y++(A++(x++E)).drop (o+Y.length))=A++(x++(Y++E.drop Y.length)):=by
  subst hA
  rw[←dD A x E,←dr,List.take_left,fH,dD]
theorem UK (A x E Y:List Value) (o oe:Nat) (hA:A.length=o) (ho:o+x.length=oe) (hE:oe+Y.length≤A.length+(Y.length+E.length)):
    ((A++(Y++E)).take oe++(Y++(A++(Y++E)).drop (oe+Y.length))).take o++(x++((A++(Y++E)).take oe++(Y++(A++(Y++E)).drop (oe+Y.length))).drop (o+x.length))=A++(x++(Y++E.drop x.length)):=by
  subst hA ho
  have e1:((A++(Y++E)).take (A.length+x.length)).length=A.length+x.length:=by
    rw[dE,dr,dr];omega
  have e2:((A++(Y++E)).take (A.length+x.length)++(Y++(A++(Y++E)).drop (A.length+x.length+Y.length))).take A.length=A:=by
    rw[dQ gz,gd,eE gz,List.take_left]
  have e3:((A++(Y++E)).take (A.length+x.length)++(Y++(A++(Y++E)).drop (A.length+x.length+Y.length))).drop (A.length+x.length)=Y++E.drop x.length:=by
    rw[eN gz,fv gz,eC]
    congr 1
    rw[←dD,show A.length+x.length+Y.length=(A++Y).length+x.length by rw[dr];omega,fH]
  rw[e2,e3]
theorem Wp {w:World} {sz q:Nat} {u:Value} {m:Nat} {xs:List Value} {A R:List Ck} (src:Rs u m xs A) (s:Sat w (A++R)) (hl:xs.length=q*sz):
    (Builtin.firstCells sz q u).run P w=.ok xs.toArray w:=by
  rcases Rs.cells src s with ⟨ao,cap,rfl,rfl,rfl⟩|⟨a,c,rfl,sZ⟩
  · have h0:q*sz=0:=by simpa using hl.symm
    cases ao<;>simp[Builtin.firstCells,loadCells,h0,loadCellsFrom]
  · have:=gm (P:=P) w a xs sZ
    simp only[Builtin.firstCells,←hl,this]
theorem bB {x y:Operand} {T e sz bytes:Nat} {zs:List Value} {u:Value} {b o dl dc m q:Nat} {cells uA news:List Value} {gV:TypeId} {D:List Ck} (hT:lk P T=some e) (hE:rM P e=some (sz,zs,bytes))
    (hx:ev l x=some (.slice (some ⟨b,o,none⟩) dl dc)) (hy:ev l y=some u) (hm:Fr H (row b cells gV) D) (src:Rs u m news H) (hq:Nat.min m dl=q) (hl:news.length=q*sz) (h1:∀u∈news,u.oneCell'=true) (lA:o+news.length≤cells.length)
    (he:cells.take o++(news++cells.drop (o+news.length))=uA) (k:K (.value (.int .i64 q)) (row b uA gV::D)):Hd P ⟨d,.call ⟨.builtin .copy,#[x,y],#[T,T]⟩,ty,pos,gJ,g⟩ l H K:=fun a w R kn s=>by
  subst he
  obtain ⟨i,z,hi,tX,rfl,rfl,rfl⟩:=BT hE
  have hu:=qR hT
  have jj:Sat w (row b cells gV::(D++R)):=s.perm (hm.p.append_right R)
  have hg:=jj.holds _ dy
  have hf:=Wp (P:=P) src s hl
  have hlen:(Builtin.lenOf u).run P w=.ok m w:=by
    obtain ⟨ao,cap,rfl,_⟩:=src.form
    rfl
  have jB:=run_storeCells_at P b o gV news 0 cells.toArray w hg (by simpa using lA) h1
  simp only[fG] at jB
  refine ⟨_,_,row b (cells.take o++(news++cells.drop (o+news.length))) gV::D,?_,Sat.setRow jj,EM _ _ _,k⟩
  have acu:(storeCells ⟨b,o,none⟩ news).run P w=.ok () (w.setRow b (cells.take o++(news++cells.drop (o+news.length))).toArray):=by
    rw[jB]
    simp
  simp[execOp,resolve,invoke,builtin,kn.ev hx,kn.ev hy,Builtin.copy_,dP hu,sizeOf,typeInfo,hi,hlen,hq,hf,acu,goInt]
theorem c8 {x y:Operand} {T TN e sz bytes:Nat} {zs:List Value} {ao:Option Addr} {i cap k:Nat} {kq UU:IntKind} {zS:List Value} (hT:lk P T=some e) (hTN:P.underlying TN=some (.int UU)) (hE:rM P e=some (sz,zs,bytes)) (hz:zs.length=sz) (mR:0<sz)
    (hx:ev l x=some (.slice ao i cap)) (hy:ev l y=some (.int kq k)) (src:Rs (.slice ao i cap) i zS H) (hl:zS.length=i*sz) (h0:0<k) (hc:cap<i+k) (pZ:i+k≤maxLen) (hb:(i+k)*bytes≤140737488355328)
    (kk:∀(b c:Nat) (extra:List Value),i+k≤c→c≤maxLen→extra.length=(c-i)*sz→K (.value (.slice (some ⟨b,0,none⟩) (i+k) c)) (row b (zS++extra) e::H)):Hd P ⟨d,.call ⟨.builtin .append,#[x,y],#[T,TN]⟩,ty,pos,gJ,g⟩ l H K:=fun a w R kn s=>by
  obtain ⟨inf,z,hi,tX,rfl,rfl,rfl⟩:=BT hE
  have hu:=qR hT
  have sd:Sat w.drew (H++R):=s.heap rfl
  have hf:=Wp (P:=P) src sd hl
  have hr:=Go.Lib.run_append_grow_zeros (P:=P) w T TN ty e inf z kq UU hu hTN hi tX ao i cap zS hf k h0 mR hc (by simp only[maxLen] at pZ;omega)
    (by have:=fM inf.bytes (show k≤i+k by omega);omega) (growslice_fits hc hb)
  have e1:(zS.toArray++Builtin.zeroCells z.cells k++Builtin.zeroCells z.cells (grownCap w (i+k) cap e-(i+k)))=(zS++((Builtin.zeroCells z.cells k).toList++(Builtin.zeroCells z.cells (grownCap w (i+k) cap e-(i+k))).toList)).toArray:=by
    apply Array.ext'
    simp
  rw[e1] at hr
  have nC:=grownCap_ge w (i+k) cap e
  have tM:grownCap w (i+k) cap e≤maxLen:=grownCap_le_maxLen w (i+k) cap e pZ
  refine ⟨_,_,row w.heap.size (zS++((Builtin.zeroCells z.cells k).toList++(Builtin.zeroCells z.cells (grownCap w (i+k) cap e-(i+k))).toList)) e::H,(by simp[execOp,resolve,invoke,builtin,kn.ev hx,kn.ev hy,hr];rfl),sd.push _ true,⟨rfl,rfl,rfl,by simp,by first|exact dA _|exact eh _⟩,kk _ _ _ nC tM ?_⟩
  · rw[dr,Kt,Kt,←fZ]
    simp only[Array.length_toList] at*
    congr 1
    omega
theorem Hd.ofStr {x:Operand} {S T e:TypeId} {bs:List (BitVec 8)} (hS:P.underlying S=some .string) (hT:lk P T=some e) (he:qw P e=some .u8) (hx:ev l x=some (.string (str bs)))
    (k:∀(b c:Nat) (j9:Ck),Bs (.slice (some ⟨b,0,none⟩) bs.length c) bs [j9]→K (.value (.slice (some ⟨b,0,none⟩) bs.length c)) (j9::H)):Hd P ⟨d,.convert S T x,ty,pos,gJ,g⟩ l H K:=fun a w R kn s=>by
  have hr:=run_bytes_of_string (P:=P) w S T e (str bs) hS (qR hT) (Bz he)
  have sd:Sat w.drew (H++R):=s.heap rfl
  rw[show (str bs).size=bs.length by simp[str,ByteArray.size]] at hr
  have nC:=grownCap_ge w bs.length 0 e
  have e1:bytesRow (str bs) (grownCap w bs.length 0 e)=(bc bs++List.replicate (grownCap w bs.length 0 e-bs.length) (Value.int .u8 0)).toArray:=by
    apply Array.ext'
    have:∀x:BitVec 8,(UInt8.ofNat x.toNat).toNat=x.toNat:=fun x=>by
      have:=x.isLt
      simp[UInt8.toNat_ofNat]
    simp[bytesRow,str,bc,ByteArray.size,this,Function.comp_def]
  rw[e1] at hr
  have kg:∀o,Kept w (w.drew.alloc o):=fun o=>⟨rfl,rfl,rfl,by simp,by first|exact dA _|exact eh _⟩
  refine ⟨_,_,_,(by simp only[execOp,kn.ev hx,Sem.run_bind,hr,fT];rfl),sd.push _ true,kg _,k _ _ _ (.inr ⟨_,0,_,bc bs++List.replicate (grownCap w bs.length 0 e-bs.length) (Value.int .u8 0),e,_,true,rfl,nC,dy,by simp⟩)⟩
theorem Hd.VK {x y : Operand} {tS tR e sz : TypeId} {f : FuncId} {fn : Func} {qz : Array TypeId} {rb b o la ca lb cb : Nat} {xs cells : List Value} {TA TB : TypeId} {D E : List Ck} (hf : P.funcs[f]? = some fn) (Nu : (fn.name == "runtime.NumGoroutine") = false)
    (hb:fn.body.isNone=true) (hn:Extern.findNext fn=none) (he:Extern.find fn=some (Extern.SlicesOverlaps.overlaps #[tS,tS] #[tR])) (hT:lk P tS=some e) (hs:me P e=some sz)
    (hx:ev l x=some (.slice (some ⟨rb,0,none⟩) la ca)) (hy:ev l y=some (.slice (some ⟨b,o,none⟩) lb cb)) (hA:Fr H (row rb xs TA) D) (hB:Fr D (row b cells TB) E) (hc:cells≠[])
    (k:K (.value (.bool false)) H):Hd P ⟨d,.call ⟨.value (.func f),#[x,y],qz⟩,ty,pos,gJ,g⟩ l H K:=fun a w R kn s=>by
  refine ⟨_,w,H,?_,s,.refl w,k⟩
  have s1:Sat w (row rb xs TA::(row b cells TB::(E++R))):=s.perm ((hA.p.trans (List.Perm.cons _ hB.p)).append_right R)
  have g1:=s1.holds _ dy
  have g2:=s1.holds (row b cells TB) (dt _ dy)
  have jk:rb≠b:=(List.pairwise_cons.1 s1.apart).1 (row b cells TB) dy (.inl rfl)
  have hz:∀w,(Go.sizeOf e).run P w=.ok sz w:=run_sizeOf hs
  have h:=Go.Lib.run_overlaps_apart (P:=P) w tS tR e (qR hT) sz hz ⟨rb,0,none⟩ ⟨b,o,none⟩ la ca lb cb jk TA TB xs.length cells.length
    (by simp[World.shape?,g1,row]) (by simp[World.shape?,g2,row]) (by simpa using hc) (by simp[World.frozen?,g1,row]) (by simp[World.frozen?,g1,row])
  have GA:=run_callFunc_extern (P:=P) (f:=f) hf Nu hb hn he #[.slice (some ⟨rb,0,none⟩) la ca,.slice (some ⟨b,o,none⟩) lb cb] w
  rw[h] at GA
  have w6:a.eval (.func f)=Value.func (Fn.func f) #[] #[]:=rfl
  simp[execOp,resolve,Deferred.ofValue,w6,invoke,kn.ev hx,kn.ev hy,GA]
theorem bd {n:Nat} {w0:World} {R:List Ck} {fn:Func} {jE:Value→List Ck→Prop} {t u q T s b:Nat} {cs:List Value} {gV:TypeId} {fr:Nat×Nat} {ex:Bool} {v z:Value} (gr:List Ck) (hr:fn.results=#[.tmp q,.cell t T,.tmp u]) (hT:tm P T s=true) (hz:iF l q=some z) (hv:iF l t=some (.pointer (some ⟨b,0,none⟩))) (hu:iF l u=some v)
    (hm:(⟨b,.cells cs.toArray gV fr,ex⟩:Ck)∈H) (hs:cs.length=s) {D:List Ck} (hH:Sp H gr D) (hp:jE (.tuple #[z,.agg cs.toArray,v]) gr):DN P n w0 R (bodyPost P fn (wE P w0 R jE)) .ret l H:=fun a w i=>by
  have h:=i.sat.holds _ (dw R hm)
  have hl:=gm (P:=P) w ⟨b,0,none⟩ cs (fun j v hv=>by rw[add_plain,tD h];simpa using hv)
  rw[hs] at hl
  have Hi:=i.kn q _ hz
  have tV:=i.kn t _ hv
  have p6:=i.kn u _ hu
  simp only[fj] at Hi tV p6
  have j:=i.perm hH.p
  refine bodyPost_ret (v:=.tuple #[z,.agg cs.toArray,v]) ?_ i.defers ⟨_,gr,rfl,hp,(j.sublist (gg _ _)).sat,i.kept⟩
  simp[results,hr,Hi,tV,p6,asAddr,loadVar,(ub hT w).1,(ub hT w).2,hl]
theorem hZ {A B:List Ck} (h:Gr A B:=by repeat (first|exact Gr.refl|exact Gr.left Gr.refl|exact Gr.left (Gr.left Gr.refl)|exact Gr.left (cE Gr.refl)|exact Gr.left (cE (cE Gr.refl))|exact Gr.left (cE (Gr.left Gr.refl))|exact Gr.left (Gr.left (Gr.left Gr.refl))|exact Gr.nil|exact cE (Gr.left Gr.refl)|refine Gr.cons ?_|refine cE ?_|refine Gr.both ?_ ?_|refine Gr.put (by repeat (first|exact dy|apply dt|apply dq)) ?_)):∀c∈A,c∈B:=h
theorem fc {H C D:List Ck} (h:Sp H C D:=by repeat (first|exact Sp.here|exact ax|exact Sp.s0|exact Fr.here|apply Sp.s2|apply Sp.sx|apply bE|apply bD|apply bC|apply Sp.sc|apply Sp.al|apply Sp.sa)):Sp H C D:=h
theorem ir {H:List Ck} {x:Ck} {D:List Ck} (h:Fr H x D:=by repeat (first|exact Fr.here|apply bE|apply bD|apply bC)):Fr H x D:=h
theorem gO {x:Ck} {H:List Ck} (h:x∈H:=by repeat (first|exact dy|apply dt|apply dq)):x∈H:=h
theorem qd {vs:List Value} (h:∀u∈vs,u.oneCell'=true:=by repeat (first|exact fun _ h=>absurd h ej|refine List.forall_mem_cons.2 ⟨by first|rfl|assumption,?_⟩)):∀u∈vs,u.oneCell'=true:=h
theorem gL {ks:List Nat} {l r:Sl} (h:Sx ks l r:=by repeat (first|exact Sx.refl|refine Sx.skip rfl ?_)):Sx ks l r:=h
theorem fa {α:Sort _} {a b:α} (h:a=b:=by kernel_rfl):a=b:=h
end
section
variable {P:Program} {n:Nat} {w0:World} {R:List Ck} {Q:Exit→Act→World→Prop} {l:Sl} {H:List Ck} {ops:Array Oper} {m r:Nat}
def Rd (P:Program) (o:Oper) (l:Sl) (H:List Ck) (v:Value):Prop:=∀a w R,Kn a l→Sat w (H++R)→(execOp a.eval o).run P w=.ok (.value v) w
variable {d:Option Nat} {ty:TypeId} {pos:String} {gJ:Array Edge} {g:Option (Nat×Bool)}
theorem ab {T:TypeId} {x:Operand} {b o:Nat} {cs:List Value} {gV:TypeId} {fr:Nat×Nat} {ex:Bool} {v:Value} (hT:sP P T=false) (hx:ev l x=some (.pointer (some ⟨b,o,none⟩)))
    (hm:(⟨b,.cells cs.toArray gV fr,ex⟩:Ck)∈H) (hc:cs[o]?=some v):Rd P ⟨d,.load T x,ty,pos,gJ,g⟩ l H v:=fun a w R kn s=>by
  have h:=s.holds _ (dw R hm)
  have j6:w.cell? ⟨b,o,none⟩=some v:=by rw[tD h];simpa using hc
  simp[execOp,kn.ev hx,Instr.loadAt,Instr.sureAddr,loadVar,Wq hT,j6]
theorem aE {T:TypeId} {x:Operand} {b o n:Nat} {cs:List Value} {gV:TypeId} {fr:Nat×Nat} {ex:Bool} {vs:List Value} (hT:tm P T n=true) (hx:ev l x=some (.pointer (some ⟨b,o,none⟩)))
    (hm:(⟨b,.cells cs.toArray gV fr,ex⟩:Ck)∈H) (hn:vs.length=n) (hc:(cs.drop o).take n=vs):Rd P ⟨d,.load T x,ty,pos,gJ,g⟩ l H (.agg vs.toArray):=fun a w R kn s=>by
  have h:=s.holds _ (dw R hm)
  have hl:=gm (P:=P) w ⟨b,o,none⟩ vs (fun j v hv=>by
    rw[add_plain,tD h]
    subst hc
    rw[fF] at hv
    split at hv
    · simpa using hv
    · cases hv)
  rw[hn] at hl
  simp[execOp,kn.ev hx,Instr.loadAt,Instr.sureAddr,loadVar,(ub hT w).1,(ub hT w).2,hl]
theorem aQ {T:TypeId} {x:Operand} {b n:Nat} {cs:List Value} {gV:TypeId} {fr:Nat×Nat} {ex:Bool} (hT:tm P T n=true) (hx:ev l x=some (.pointer (some ⟨b,0,none⟩)))
    (hm:(⟨b,.cells cs.toArray gV fr,ex⟩:Ck)∈H) (hn:cs.length=n):Rd P ⟨d,.load T x,ty,pos,gJ,g⟩ l H (.agg cs.toArray):=
  aE hT hx hm hn (by subst hn;simp)
end
section
variable {P:Program} {l:Sl} {H:List Ck} {d:Option Nat} {ty:TypeId} {pos:String} {gJ:Array Edge} {g:Option (Nat×Bool)} {K:Next→List Ck→Prop}
structure Kk (κ:Type) [DecidableEq κ] where
  kv:κ→Value
  fits:TypeDesc→Prop
  same:∀T,fits T→∀a b,Instr.sameNow T (kv a) (kv b)=some (decide (a=b))
  check:∀{P:Program} {w:World} {KT:TypeId} {T:TypeDesc} {b:Bool} {a:κ},P.underlying KT=some T→fits T→(Instr.checkKey b 10000 KT (kv a)).run P w=.ok () w
  bits:∀a,Instr.sameBits 10000 (kv a) (kv a)=true
  inj:∀a b,kv a=kv b→a=b
def uV:Kk (BitVec 32) where
  kv o:=.int .u32 o.toNat
  fits T:=∃k,T=.int k
  same:=by
    rintro T ⟨k,rfl⟩ a b
    simp only[Instr.sameNow,if_true,ew]
    rw[dM,dz,beq_iff_eq]
    exact ⟨fun h=>dB gz,fun h=>by rw[h]⟩
  check:=by
    rintro P w KT T b a hK ⟨k,rfl⟩
    show (Instr.checkKey b (9999+1) KT _).run P w=_
    rw[Instr.checkKey]
    simp[dP hK]
  bits a:=by
    show Instr.sameBits (9999+1) _ _=true
    simp[Instr.sameBits]
  inj a b h:=by
    simp only[Value.int.injEq,eD] at h
    exact dB gz
theorem Q7 (a b:ByteArray):(a==b)=decide (a=b):=by
  obtain ⟨⟨x⟩⟩:=a
  obtain ⟨⟨y⟩⟩:=b
  show ((⟨x⟩:Array UInt8)==⟨y⟩)=_
  rw[dM];simp
def kU:Kk ByteArray where
  kv s:=.string s
  fits T:=T=.string
  same:=by
    rintro T rfl a b
    simp only[Instr.sameNow,Q7]
  check:=by
    rintro P w KT T b a hK rfl
    show (Instr.checkKey b (9999+1) KT _).run P w=_
    rw[Instr.checkKey]
    simp[dP hK]
  bits a:=by
    show Instr.sameBits (9999+1) _ _=true
    simp[Instr.sameBits,Q7]
  inj a b h:=by simpa using h
section
variable {κ:Type} [DecidableEq κ] (k0:Kk κ)
def pk:List (κ×Value)→κ→Nat→Option (Nat×Value)
  |[],_,_=>none
  |p::m,n,i=>if n=p.1 then some (i,p.2) else pk m n (i+1)
def kB (m:List (κ×Value)) (n:κ):Option Value:=(m.find? fun p=>decide (n=p.1)).map (·.2)
def pF (m:List (κ×Value)) (n:κ) (v:Value):List (κ×Value):=if (kB m n).isSome then m.map (fun p=>if n=p.1 then (p.1,v) else p) else m++[(n,v)]
def xQ (m:List (κ×Value)) (n:κ):List (κ×Value):=m.filter fun p=>decide (n≠p.1)
theorem D8 (m:List (κ×Value)) (n:κ):∀i,(pk m n i).map (·.2)=kB m n:=by
  induction m with
  |nil=>intro i;rfl
  | cons p m ih=>
    intro i
    by_cases h:n=p.1
    · simp[pk,kB,h]
    · have:=ih (i+1)
      simp only[pk,dp h,this]
      simp[kB,h]
def wF (es:Array MapEntry) (m:List (κ×Value)):Prop:=es.toList.map (fun e=>(e.key,e.val))=m.map fun p=>(k0.kv p.1,p.2)
theorem wF.size {es:Array MapEntry} {m:List (κ×Value)} (h:wF k0 es m):es.size=m.length:=by
  have:=congrArg List.length h
  simpa using this
theorem R9 {T:TypeDesc} (hT:k0.fits T) (n:κ):∀(es:List MapEntry) (m:List (κ×Value)) (i:Nat),es.map (fun e=>(e.key,e.val))=m.map (fun p=>(k0.kv p.1,p.2))→Instr.findNow T (k0.kv n) es i=some (pk m n i)
  |[],[],i,_=>rfl
  |[],_::_,i,h=>by simp at h
  |_::_,[],i,h=>by simp at h
  | e ::es,p::m,i,h=>by
    simp only[dY,fI,Prod.mk.injEq] at h
    obtain ⟨⟨h1,h2⟩,h3⟩:=h
    rw[Instr.findNow,h1,k0.same T hT]
    by_cases hn:n=p.1
    · simp[pk,hn,h2]
    · simp only[decide_eq_false hn,pk,dp hn]
      exact R9 hT n es m (i+1) h3
theorem zW {w:World} {KT:TypeId} {T:TypeDesc} {n:κ} {es:Array MapEntry} {m:List (κ×Value)} (hK:P.underlying KT=some T) (hT:k0.fits T) (h:wF k0 es m):
    (Instr.findKey KT (k0.kv n) es.toList).run P w=.ok (pk m n 0) w:=by
  simp[Instr.findKey,dP hK,R9 k0 hT n _ _ 0 h]
def mO (b:Nat) (m:List (κ×Value)) (C:List Ck):Prop:=∃es clock,C=[⟨b,.map es clock,true⟩]∧wF k0 es m∧(∀e∈es.toList,e.born<clock)∧(es.toList.map (·.born)).Nodup
theorem bW {T:TypeId} (k:∀b C,mO k0 b [] C→K (.value (.map (some b))) (C++H)):Hd P ⟨d,.makeMap T none,ty,pos,gJ,g⟩ l H K:=fun a w R kn s=>by
  refine ⟨_,_,⟨w.heap.size,.map #[] 0,true⟩::H,?_,s.push (.map #[] 0) true,⟨rfl,rfl,rfl,by simp,by first|exact dA _|exact eh _⟩,k w.heap.size [⟨w.heap.size,.map #[] 0,true⟩] ⟨#[],0,rfl,rfl,by simp,by simp⟩⟩
  simp[execOp,Instr.makeMap]
variable {k0}
theorem mO.holds {w:World} {b:Nat} {m:List (κ×Value)} {C R:List Ck} (h:mO k0 b m C) (s:Sat w (C++R)):∃es clock,w.heap[b]?=some (.map es clock)∧wF k0 es m:=by
  obtain ⟨es,clock,rfl,h1,_⟩:=h
  exact ⟨es,clock,s.holds _ (dw R dy),h1⟩
theorem bf {T KT ET:TypeId} {TD:TypeDesc} {x y:Operand} {b:Nat} {n:κ} {m:List (κ×Value)} {z u:Value} {C D:List Ck} {two:Bool} (hT:mapOf P T=some (KT,ET)) (hK:P.underlying KT=some TD) (oP:k0.fits TD) (Hj:(P.info? ET).bind (·.zero)=some z)
    (hx:ev l x=some (.map (some b))) (hy:ev l y=some (k0.kv n)) (hm:mO k0 b m C) (hH:Sp H C D) (hu:(if two then Value.tuple #[(kB m n).getD z,.bool (kB m n).isSome] else (kB m n).getD z)=u) (k:K (.value u) H):
    Hd P ⟨d,.lookup T x y two,ty,pos,gJ,g⟩ l H K:=fun a w R kn s=>by
  subst hu
  have hz:∀w,(zeroValue ET).run P w=.ok z w:=fun w=>by
    obtain ⟨i,hi,Hl⟩:=Option.bind_eq_some_iff.1 Hj
    simp[zeroValue,typeInfo,hi,Hl]
  obtain ⟨es,clock,h1,h2⟩:=hm.holds (by have:=s.perm (hH.p.append_right R);simpa using this:Sat w (C++(D++R)))
  refine ⟨_,w,H,?_,s,Kept.refl w,k⟩
  have hg:=D8 m n 0
  cases hf:pk m n 0 with
  | none=>
    have w7:kB m n=none:=by rw[←hg,hf];rfl
    cases two<;>simp[execOp,kn.ev hx,kn.ev hy,Instr.lookup,dP (ug hT),tt h1 ⟨_,_,rfl⟩,k0.check hK oP,zW k0 hK oP h2,hf,hz,w7]
  | some p=>
    have w7:kB m n=some p.2:=by rw[←hg,hf];rfl
    cases two<;>simp[execOp,kn.ev hx,kn.ev hy,Instr.lookup,dP (ug hT),tt h1 ⟨_,_,rfl⟩,k0.check hK oP,zW k0 hK oP h2,hf,w7]
theorem Ea (m:List (κ×Value)) (n:κ):∀i j v,pk m n i=some (j,v)→i≤j∧j<i+m.length∧∃p,m[j-i]?=some p∧n=p.1∧v=p.2:=by
  induction m with
  |nil=>intro i j v h;cases h
  | cons p m ih=>
    intro i j v h
    by_cases hn:n=p.1
    · simp only[pk,dx hn,ew,Prod.mk.injEq] at h
      obtain ⟨rfl,rfl⟩:=h
      exact ⟨dA _,by simp,p,by simp,hn,rfl⟩
    · simp only[pk,dp hn] at h
      obtain ⟨h1,h2,q,h3,h4⟩:=ih (i+1) j v h
      refine ⟨by omega,by simp;omega,q,?_,h4⟩
      rw[show j-i=(j-(i+1))+1 by omega]
      simpa using h3
theorem Pc (n:κ) (v:Value):∀(m:List (κ×Value)) (k i:Nat) (u:Value),pk m n k=some (i,u)→(m.map (·.1)).Nodup→(m.map fun p=>if n=p.1 then (p.1,v) else p)=m.modify (i-k) fun p=>(p.1,v)
  |[],k,i,u,h,_=>by cases h
  | p ::m,k,i,u,h,hn=>by
    simp only[dY,fX] at hn
    by_cases e:n=p.1
    · simp only[pk,dx e,ew,Prod.mk.injEq] at h
      obtain ⟨rfl,rfl⟩:=h
      have hm:(m.map fun p=>if n=p.1 then (p.1,v) else p)=m:=by
        rw[List.map_congr_left (g:=id) (fun q hq=>?_),List.map_id]
        rw[dp]; ·rfl
        intro e2
        exact hn.1 (ei.2 ⟨q,hq,by rw[←e2,e]⟩)
      rw[dY,dx e,hm,Nat.sub_self]
      rfl
    · simp only[pk,dp e] at h
      have ih:=Pc n v m (k+1) i u h hn.2
      obtain ⟨h1,_⟩:=Ea m n (k+1) i u h
      rw[dY,dp e,ih,show i-k=(i-(k+1))+1 by omega]
      rfl
theorem Ry (n:κ):∀(m:List (κ×Value)) (k i:Nat) (v:Value),pk m n k=some (i,v)→(m.map (·.1)).Nodup→xQ m n=m.eraseIdx (i-k)
  |[],k,i,v,h,_=>by cases h
  | p ::m,k,i,v,h,hn=>by
    simp only[dY,fX] at hn
    by_cases e:n=p.1
    · simp only[pk,dx e,ew,Prod.mk.injEq] at h
      obtain ⟨rfl,rfl⟩:=h
      rw[Nat.sub_self]
      have hm:∀q∈m,decide (n≠q.1)=true:=by
        intro q hq
        simp only[dz]
        intro e2
        exact hn.1 (ei.2 ⟨q,hq,by rw[←e2,e]⟩)
      simp only[xQ,List.eraseIdx_zero,List.tail_cons]
      rw[eI (by simp[e]),List.filter_eq_self.2 hm]
    · simp only[pk,dp e] at h
      have ih:=Ry n m (k+1) i v h hn.2
      obtain ⟨h1,_⟩:=Ea m n (k+1) i v h
      have:xQ (p::m) n=p::xQ m n:=by
        simp only[xQ]
        rw[ez (by simp[e])]
      rw[this,ih,show i-k=(i-(k+1))+1 by omega]
      rfl
theorem Wu {w:World} (a:κ):(Instr.keyThatStays (k0.kv a) (k0.kv a)).run P w=.ok (k0.kv a) w:=by
  simp[Instr.keyThatStays,k0.bits]
theorem bL {T KT ET:TypeId} {TD:TypeDesc} {x y z:Operand} {b:Nat} {n:κ} {v:Value} {m:List (κ×Value)} {C D:List Ck} (hT:mapOf P T=some (KT,ET)) (hK:P.underlying KT=some TD) (oP:k0.fits TD)
    (hx:ev l x=some (.map (some b))) (hy:ev l y=some (k0.kv n)) (hz:ev l z=some v) (hm:mO k0 b m C) (nu:(m.map (·.1)).Nodup) (hH:Sp H C D) (k:∀gP,mO k0 b (pF m n v) gP→K .skip (gP++D)):
    Hd P ⟨d,.mapUpdate T x y z,ty,pos,gJ,g⟩ l H K:=fun a w R kn s=>by
  obtain ⟨es,clock,rfl,h2,h3,h4⟩:=hm
  have jj:Sat w (⟨b,.map es clock,true⟩::(D++R)):=by have:=s.perm (hH.p.append_right R);simpa using this
  have h1:=jj.holds _ dy
  have hg:=D8 m n 0
  cases hf:pk m n 0 with
  | none=>
    rw[hf] at hg
    have e:pF m n v=m++[(n,v)]:=by unfold pF;rw[←hg];rfl
    refine ⟨.skip,{w with heap:=w.heap.setIfInBounds b (.map (es.push {key:=k0.kv n,val:=v,born:=clock}) (clock+1))},[⟨b,.map (es.push {key:=k0.kv n,val:=v,born:=clock}) (clock+1),true⟩]++D,?_,jj.zZ,zL _ _ _,k _ ⟨_,_,rfl,?_,?_,?_⟩⟩
    · simp only[execOp,kn.ev hx,kn.ev hy,kn.ev hz,Instr.mapUpdate]
      simp[dP (ug hT),tt h1 ⟨_,_,rfl⟩,k0.check hK oP,zW k0 hK oP h2,hf,zX _ h1]
    · rw[e]
      unfold wF at h2 ⊢
      simp[h2]
    · intro e he
      simp at he
      rcases he with he|rfl
      · have:=h3 e (by simpa using he);omega
      · simp
    · simp only[Array.toList_push,fW,dY,List.map_nil]
      rw[List.nodup_append]
      refine ⟨h4,by simp,?_⟩
      intro x hx y hy
      simp at hx hy
      obtain ⟨e,he,rfl⟩:=hx
      have:=h3 e (by simpa using he)
      omega
  | some p=>
    obtain ⟨i,u⟩:=p
    rw[hf] at hg
    obtain ⟨_,hi,q,hq,CW,Uv⟩:=Ea m n 0 i u hf
    have mR:=h2.size
    have jV:i<es.size:=by omega
    have e:pF m n v=m.modify i fun p=>(p.1,v):=by
      unfold pF;rw[←hg]
      have:=Pc n v m 0 i u hf nu
      rw[Nat.sub_zero] at this
      exact this
    have Jl:es[i].key=k0.kv n:=by
      have h5:=congrArg (fun l=>l[i]?) h2
      simp only[gw,gi] at h5
      rw[Nat.sub_zero] at hq
      rw[hq,fh jV] at h5
      simp only[Option.map_some,ew,Prod.mk.injEq] at h5
      rw[h5.1,CW]
    refine ⟨.skip,{w with heap:=w.heap.setIfInBounds b (.map (es.modify i fun e=>{e with key:=k0.kv n,val:=v}) clock)},[⟨b,.map (es.modify i fun e=>{e with key:=k0.kv n,val:=v}) clock,true⟩]++D,?_,jj.zZ,zL _ _ _,k _ ⟨_,clock,rfl,?_,?_,?_⟩⟩
    · simp only[execOp,kn.ev hx,kn.ev hy,kn.ev hz,Instr.mapUpdate]
      simp[dP (ug hT),tt h1 ⟨_,_,rfl⟩,k0.check hK oP,zW k0 hK oP h2,hf,zX _ h1,jV,Jl,Wu]
    · rw[e]
      unfold wF at h2 ⊢
      apply eM
      intro j
      have h5:=congrArg (fun l=>l[j]?) h2
      simp only[gw,gi] at h5
      simp only[gw,gi,Array.getElem?_modify,List.getElem?_modify]
      rw[Nat.sub_zero] at hq
      by_cases A0:i=j
      · subst A0
        simp only[if_true,hq,fh jV,Option.map_some,CW]
        rfl
      · simp only[dp A0]
        simpa using h5
    · intro e he
      obtain ⟨j,hj,rfl⟩:=fu he
      have pO:j<es.size:=by simpa using hj
      have h6:=h3 es[j] (by simp)
      simp only[Array.getElem_toList,Array.getElem_modify]
      split
      · exact h6
      · exact h6
    · have:((es.modify i fun e=>{e with key:=k0.kv n,val:=v}).toList.map (·.born))=es.toList.map (·.born):=by
        apply eM
        intro j
        simp only[gw,gi,Array.getElem?_modify]
        split
        · cases es[j]?<;>rfl
        · rfl
      rw[this];exact h4
theorem Hd.ZO {T KT ET:TypeId} {TD:TypeDesc} {Ts:Array TypeId} {x y:Operand} {b:Nat} {n:κ} {m:List (κ×Value)} {C D:List Ck} (hT:mapOf P T=some (KT,ET)) (hK:P.underlying KT=some TD) (oP:k0.fits TD) (Gx:Ts[0]?=some T)
    (hx:ev l x=some (.map (some b))) (hy:ev l y=some (k0.kv n)) (hm:mO k0 b m C) (nu:(m.map (·.1)).Nodup) (hH:Sp H C D) (k:∀gP,mO k0 b (xQ m n) gP→K (.value (.tuple #[])) (gP++D)):
    Hd P ⟨d,.call ⟨.builtin .delete,#[x,y],Ts⟩,ty,pos,gJ,g⟩ l H K:=fun a w R kn s=>by
  obtain ⟨es,clock,rfl,h2,h3,h4⟩:=hm
  have jj:Sat w (⟨b,.map es clock,true⟩::(D++R)):=by have:=s.perm (hH.p.append_right R);simpa using this
  have h1:=jj.holds _ dy
  cases hf:pk m n 0 with
  | none=>
    have hd:xQ m n=m:=by
      unfold xQ
      apply List.filter_eq_self.2
      intro p hp
      have hg:=D8 m n 0
      rw[hf] at hg
      have:m.find? (fun p=>decide (n=p.1))=none:=by
        unfold kB at hg
        cases h:m.find? (fun p=>decide (n=p.1)) with
        |none=>rfl
        |some q=>rw[h] at hg;cases hg
      have:=List.find?_eq_none.1 this p hp
      simpa using this
    refine ⟨_,{w with heap:=w.heap.setIfInBounds b (.map es clock)},[⟨b,.map es clock,true⟩]++D,?_,jj.zZ,zL _ _ _,k _ ⟨es,clock,rfl,by rw[hd];exact h2,h3,h4⟩⟩
    simp only[execOp,resolve,invoke,builtin,kn.ev hx,kn.ev hy,Builtin.delete_]
    simp[Gx,dP (ug hT),tt h1 ⟨_,_,rfl⟩,k0.check hK oP,zW k0 hK oP h2,hf,zX _ h1,kn.ev hx,kn.ev hy]
  | some p=>
    obtain ⟨i,v⟩:=p
    obtain ⟨_,hi,q,hq,CW,_⟩:=Ea m n 0 i v hf
    have mR:=h2.size
    have jV:i<es.size:=by omega
    have mh:=Ry n m 0 i v hf nu
    rw[Nat.sub_zero] at mh
    refine ⟨_,{w with heap:=w.heap.setIfInBounds b (.map (es.eraseIdxIfInBounds i) clock)},[⟨b,.map (es.eraseIdxIfInBounds i) clock,true⟩]++D,?_,jj.zZ,zL _ _ _,k _ ⟨_,clock,rfl,?_,?_,?_⟩⟩
    · simp only[execOp,resolve,invoke,builtin,kn.ev hx,kn.ev hy,Builtin.delete_]
      simp[Gx,dP (ug hT),tt h1 ⟨_,_,rfl⟩,k0.check hK oP,zW k0 hK oP h2,hf,zX _ h1,kn.ev hx,kn.ev hy]
    · unfold wF at h2 ⊢
      rw[toList_erase es i jV,mh,Hu,Hu,h2]
    · intro e he
      rw[toList_erase es i jV] at he
      exact h3 e (List.mem_of_mem_eraseIdx he)
    · rw[toList_erase es i jV]
      exact h4.sublist ((List.eraseIdx_sublist _ _).map _)
end
end
section
variable {P:Program} {n:Nat} {w0:World} {R:List Ck} {Q:Exit→Act→World→Prop} {l:Sl} {H:List Ck} {ops:Array Oper}
theorem J7 {rs:List (Nat×Nat×Value)} {f:Nat×Nat×Value→Nat} (hn:(rs.map f).Nodup) {a b:Nat×Nat×Value} (ha:a∈rs) (hb:b∈rs) (e:f a=f b):a=b:=by
  induction rs with
  |nil=>cases ha
  | cons r rs ih=>
    simp only[dY,fX] at hn
    rcases eS.1 ha with h1|h1
    · rcases eS.1 hb with h2|h2
      · rw[h1,h2]
      · exact absurd (ei.2 ⟨b,h2,by rw[←e,h1]⟩) hn.1
    · rcases eS.1 hb with h2|h2
      · exact absurd (ei.2 ⟨a,h1,by rw[e,h2]⟩) hn.1
      · exact ih hn.2 h1 h2
end
section
variable {P:Program} {l:Sl} {H:List Ck} {d:Option Nat} {ty:TypeId} {pos:String} {gJ:Array Edge} {g:Option (Nat×Bool)} {K:Next→List Ck→Prop} {κ:Type} [DecidableEq κ] {k0:Kk κ}
def Qs (k0:Kk κ) (b:Nat) (m:List (κ×Value)) (n:κ) (bo:Nat) (C:List Ck):Prop:=∃es clock i u,C=[⟨b,.map es clock,true⟩]∧wF k0 es m∧(∀e∈es.toList,e.born<clock)∧(es.toList.map (·.born)).Nodup∧pk m n 0=some (i,u)∧(es[i]?).map (·.born)=some bo
theorem Hd.mapEntry {T KT ET:TypeId} {TD:TypeDesc} {x y:Operand} {b:Nat} {n:κ} {m:List (κ×Value)} {u:Value} {C D:List Ck} (hT:mapOf P T=some (KT,ET)) (hK:P.underlying KT=some TD) (oP:k0.fits TD)
    (hx:ev l x=some (.map (some b))) (hy:ev l y=some (k0.kv n)) (hm:mO k0 b m C) (hu:kB m n=some u) (hH:Sp H C D) (k:∀bo gP,Qs k0 b m n bo gP→K (.value (.tuple #[u,.int .i64 (bo:Int)])) (gP++D)):
    Hd P ⟨d,.mapEntry T x y,ty,pos,gJ,g⟩ l H K:=fun a w R kn s=>by
  obtain ⟨es,clock,rfl,h2,h3,h4⟩:=hm
  have jj:Sat w (⟨b,.map es clock,true⟩::(D++R)):=by have:=s.perm (hH.p.append_right R);simpa using this
  have h1:=jj.holds _ dy
  have hg:=D8 m n 0
  cases hf:pk m n 0 with
  |none=>rw[hf,hu] at hg;cases hg
  | some p=>
    obtain ⟨i,jn⟩:=p
    rw[hf,hu] at hg
    simp only[Option.map_some,ew] at hg
    subst hg
    obtain ⟨_,hi,q,hq,CW,Uv⟩:=Ea m n 0 i jn hf
    have mR:=h2.size
    have jV:i<es.size:=by omega
    have Jl:es[i].key=k0.kv n:=by
      have h5:=congrArg (fun l=>l[i]?) h2
      simp only[gw,gi] at h5
      rw[Nat.sub_zero] at hq
      rw[hq,fh jV] at h5
      simp only[Option.map_some,ew,Prod.mk.injEq] at h5
      rw[h5.1,CW]
    have hes:(es.modify i fun e=>{e with key:=k0.kv n})=es:=by
      apply Array.ext
      · simp
      · intro j h5 h6
        rw[Array.getElem_modify]
        split
        · rename_i e
          subst e
          have:∀e:MapEntry,e.key=k0.kv n→({key:=k0.kv n,val:=e.val,born:=e.born}:MapEntry)=e:=fun e h=>by cases e;simp only at h;subst h;rfl
          exact this _ Jl
        · rfl
    refine ⟨_,{w with heap:=w.heap.setIfInBounds b (.map es clock)},[⟨b,.map es clock,true⟩]++D,?_,jj.zZ,zL _ _ _,k es[i].born _ ⟨es,clock,i,jn,rfl,h2,h3,h4,hf,by rw[fh jV];rfl⟩⟩
    simp only[execOp,kn.ev hx,kn.ev hy,Instr.mapEntry]
    simp[dP (ug hT),tt h1 ⟨_,_,rfl⟩,k0.check hK oP,zW k0 hK oP h2,hf,zX _ h1,jV,Jl,Wu,hes,goInt]
theorem Hd.entryStore {T:TypeId} {x y z:Operand} {b bo:Nat} {n:κ} {v:Value} {m:List (κ×Value)} {C D:List Ck} (hx:ev l x=some (.map (some b))) (hy:ev l y=some (.int .i64 (bo:Int))) (hz:ev l z=some v) (hm:Qs k0 b m n bo C) (nu:(m.map (·.1)).Nodup) (hH:Sp H C D) (k:∀gP,mO k0 b (pF m n v) gP→K .skip (gP++D)):
    Hd P ⟨d,.entryStore T x y z,ty,pos,gJ,g⟩ l H K:=fun a w R kn s=>by
  obtain ⟨es,clock,i,u,rfl,h2,h3,h4,hf,hb⟩:=hm
  have jj:Sat w (⟨b,.map es clock,true⟩::(D++R)):=by have:=s.perm (hH.p.append_right R);simpa using this
  have h1:=jj.holds _ dy
  have hg:=D8 m n 0
  rw[hf] at hg
  obtain ⟨_,hi,q,hq,CW,Uv⟩:=Ea m n 0 i u hf
  have mR:=h2.size
  have jV:i<es.size:=by omega
  have Gz:es[i].born=bo:=by
    rw[fh jV] at hb
    simpa using hb
  have e:pF m n v=m.modify i fun p=>(p.1,v):=by
    unfold pF;rw[←hg]
    have:=Pc n v m 0 i u hf nu
    rw[Nat.sub_zero] at this
    exact this
  have GG:es.findIdx? (fun e=>(e.born:Int)==(bo:Int))=some i:=by
    rw[Array.findIdx?_eq_some_iff_getElem]
    refine ⟨jV,by rw[Gz];simp,fun j hj=>?_⟩
    have h5:=fN.1 h4 j i (by simp;omega) (by simpa using jV) hj
    simp only[List.getElem_map,Array.getElem_toList,ne_eq,Gz] at h5
    simp only[Bool.not_eq_true,beq_eq_false_iff_ne,ne_eq]
    omega
  refine ⟨.skip,{w with heap:=w.heap.setIfInBounds b (.map (es.modify i fun e=>{e with val:=v}) clock)},[⟨b,.map (es.modify i fun e=>{e with val:=v}) clock,true⟩]++D,?_,jj.zZ,zL _ _ _,k _ ⟨_,clock,rfl,?_,?_,?_⟩⟩
  · simp only[execOp,kn.ev hx,kn.ev hy,kn.ev hz,Instr.entryStore]
    simp[tt h1 ⟨_,_,rfl⟩,asInt,asIntOf,GG,zX _ h1]
  · rw[e]
    unfold wF at h2 ⊢
    apply eM
    intro j
    have h5:=congrArg (fun l=>l[j]?) h2
    simp only[gw,gi] at h5
    simp only[gw,gi,Array.getElem?_modify,List.getElem?_modify]
    rw[Nat.sub_zero] at hq
    by_cases A0:i=j
    · subst A0
      simp only[if_true,hq,fh jV,Option.map_some] at h5 ⊢
      simp only[ew,Prod.mk.injEq] at h5
      rw[h5.1]
      rfl
    · simp only[dp A0]
      simpa using h5
  · intro e he
    obtain ⟨j,hj,rfl⟩:=fu he
    have pO:j<es.size:=by simpa using hj
    have h6:=h3 es[j] (by simp)
    simp only[Array.getElem_toList,Array.getElem_modify]
    split
    · exact h6
    · exact h6
  · have:((es.modify i fun e=>{e with val:=v}).toList.map (·.born))=es.toList.map (·.born):=by
      apply eM
      intro j
      simp only[gw,gi,Array.getElem?_modify]
      split
      · cases es[j]?<;>rfl
      · rfl
    rw[this];exact h4
end
theorem jl {α:Type} {p:α→Prop}:∀x∈([]:List α),p x:=fun _ h=>absurd h ej
theorem ig {α:Type} {p:α→Prop} {a:α} {l:List α} (h:p a) (k:∀x∈l,p x):∀x∈a::l,p x:=List.forall_mem_cons.2 ⟨h,k⟩
abbrev Pn:=List (Nat×Nat×Value)
def l6 (N:Nat) (B:List Nat) (pn:Pn) (p:Nat→Bool):Array Bool:=((List.range N).map fun i=>B.contains i||(p i&&pn.any fun q=>q.1==i)).toArray
def lM (pn:Pn) (p:Nat→Bool):Sl:=(pn.filter fun q=>p q.1).map (·.2)
def sJ (pn:Pn) (p:Nat→Bool):Nat:=(pn.filter fun q=>!p q.1).length
def pI (ops:Array Oper) (i k:Nat):Bool:=match ops[i]? with|some o=>o.after.any fun e=>Region.binds .any e&&e.on==k|none=>false
def BX (ops:Array Oper) (B:List Nat) (pd:List (Nat×Nat)) (oE:List (Nat×List Nat)):Bool:=
  ((List.range ops.size).all fun i=>match ops[i]? with|some o=>o.after.all fun e=>!Region.binds .any e||decide (e.on<i)|none=>true)
  &&(decide ((pd.map (·.1)).Nodup)&&(decide ((pd.map (·.2)).Nodup)&&((pd.all fun q=>!B.contains q.1&&decide (q.1<ops.size))
  &&(((List.range ops.size).all fun i=>B.contains i||(pd.any (fun q=>q.1==i)||(oE.any (fun e=>e.1==i)||!(match ops[i]? with|some o=>o.after.all fun e=>!Region.binds .any e||(B.contains e.on||pd.any (fun q=>q.1==e.on))|none=>true))))
  &&(oE.all fun e=>e.2.all (fun k=>pI ops e.1 k)&&(match ops[e.1]? with|some o=>pd.all (fun q=>o.dst !=some q.2)|none=>true))))))
section
variable {P:Program} {n:Nat} {w0:World} {R:List Ck} {Q:Exit→Act→World→Prop} {l:Sl} {H:List Ck} {ops:Array Oper} {pn:Pn} {r:Nat} {B:List Nat}
def qU (P:Program) (w0:World) (R:List Ck) (ops:Array Oper) (Q:Exit→Act→World→Prop) (o:Oper) (lu:Sl) (H:List Ck) (v:Value):Prop:=
  ∀a w,Kn a lu→Sat w (H++R)→Kept w0 w→(Region.wanted o (yielded ops a.tmps)=true∧o.wp P a w (fun gX jq=>gX=a.put o.dst v∧Sat jq (H++R)∧Kept w0 jq) Q)∨(Region.wanted o (yielded ops a.tmps)=false∧v=undef)
def QF (P:Program) (n:Nat) (w0:World) (R:List Ck) (ops:Array Oper) (Q:Exit→Act→World→Prop) (pn:Pn) (l:Sl) (H:List Ck) (q:Nat×Nat×Value):Prop:=
  ∃(o:Oper) (ks:List Nat),ops[q.1]?=some o∧o.dst=some q.2.1∧Nat.blt q.2.1 n=true∧(ks.all fun k=>pI ops q.1 k)=true∧qU P w0 R ops Q o (lM pn ks.contains++l) H q.2.2
def tz (P:Program) (n:Nat) (w0:World) (R:List Ck) (ops:Array Oper) (Q:Exit→Act→World→Prop) (pn:Pn) (r:Nat) (B:List Nat) (l:Sl) (H:List Ck):Prop:=
  ∀(p:Nat→Bool) (fuel:Nat),r+sJ pn p≤fuel→WA P n w0 R ops Q fuel (l6 ops.size B pn p) (lM pn p++l) H
def SO (P:Program) (n:Nat) (w0:World) (R:List Ck) (ops:Array Oper) (Q:Exit→Act→World→Prop) (j:Nat) (lu:Sl) (H:List Ck) (K:Sl→List Ck→Prop):Prop:=
  ∃ o,ops[j]?=some o∧∀a w,a.tmps.size=n→a.defers=[]→Kn a lu→Sat w (H++R)→Kept w0 w→
    wpOp P ops Q j (fun gX jq=>∃dv gr,K dv gr∧((dv=[]∧gX=a)∨∃d v,o.dst=some d∧Nat.blt d n=true∧dv=[(d,v)]∧gX=a.put (some d) v)∧Sat jq (gr++R)∧Kept w0 jq) a w
theorem At.agY {mK:Sl} {a:Act} {w:World} (h:At P n w0 R l H a w) (k:Kn a mK):At P n w0 R mK H a w:=⟨h.size,h.defers,k,h.sat,h.kept⟩
theorem y6 {p:Nat→Bool} {t:Nat} {v:Value} (h:iF (lM pn p++l) t=some v):(∃q∈pn,p q.1=true∧q.2=(t,v))∨iF l t=some v:=by
  unfold lM at h
  induction pn with
  |nil=>exact .inr h
  | cons q pn ih=>
    by_cases hc:p q.1=true
    · rw[ez (p:=fun q:Nat×Nat×Value=>p q.1) hc,dY,fp] at h
      have lK:iF ((q.2.1,q.2.2)::(List.map (fun x=>x.2) (List.filter (fun q=>p q.1) pn)++l)) t=some v:=h
      rw[pW] at lK
      by_cases e:q.2.1=t
      · rw[dx e,ew] at lK
        exact .inl ⟨q,dy,hc,Prod.ext e lK⟩
      · rw[dp e] at lK
        rcases ih lK with ⟨ua,h1,h2⟩|h2
        · exact .inl ⟨ua,dt _ h1,h2⟩
        · exact .inr h2
    · rw[eI (p:=fun q:Nat×Nat×Value=>p q.1) hc] at h
      rcases ih h with ⟨ua,h1,h2⟩|h2
      · exact .inl ⟨ua,dt _ h1,h2⟩
      · exact .inr h2
theorem AK {p:Nat→Bool} {t:Nat} {v:Value} (yd:(pn.map fun q=>q.2.1).Nodup) {q:Nat×Nat×Value} (hq:q∈pn) (hp:p q.1=true) (e:q.2=(t,v)):iF (lM pn p++l) t=some v:=by
  unfold lM
  induction pn with
  |nil=>cases hq
  | cons x pn ih=>
    simp only[dY,fX] at yd
    rcases eS.1 hq with rfl|hq
    · rw[ez (p:=fun q:Nat×Nat×Value=>p q.1) hp,dY,fp]
      show iF ((q.2.1,q.2.2)::_) t=_
      rw[pW,dx (by rw[e]),e]
    · have ih:=ih yd.2 hq
      by_cases hc:p x.1=true
      · rw[ez (p:=fun q:Nat×Nat×Value=>p q.1) hc,dY,fp]
        show iF ((x.2.1,x.2.2)::_) t=_
        rw[pW,dp (fun e2=>yd.1 (ei.2 ⟨q,hq,by rw[e2,e]⟩))]
        exact ih
      · rw[eI (p:=fun q:Nat×Nat×Value=>p q.1) hc]
        exact ih
theorem Si {p:Nat→Bool} {t:Nat} (h:∀q∈pn,q.2.1≠t):iF (lM pn p++l) t=iF l t:=by
  unfold lM
  induction pn with
  |nil=>rfl
  | cons q pn ih=>
    have ih:=ih fun x hx=>h x (dt _ hx)
    by_cases hc:p q.1=true
    · rw[ez (p:=fun q:Nat×Nat×Value=>p q.1) hc,dY,fp]
      show iF ((q.2.1,q.2.2)::_) t=_
      rw[pW,dp (h q dy)]
      exact ih
    · rw[eI (p:=fun q:Nat×Nat×Value=>p q.1) hc]
      exact ih
theorem AL {p:Nat→Bool} {t:Nat} {v:Value} (rR:∀q∈pn,iF l q.2.1=none) (h:iF l t=some v):iF (lM pn p++l) t=some v:=by
  rw[Si fun q hq e=>by rw[←e,rR q hq] at h;cases h]
  exact h
theorem Kn.R4 {a:Act} {p VN:Nat→Bool} (yd:(pn.map fun q=>q.2.1).Nodup) (rR:∀q∈pn,iF l q.2.1=none) (h:∀q∈pn,VN q.1=true→p q.1=true) (k:Kn a (lM pn p++l)):Kn a (lM pn VN++l):=fun t v hv=>by
  rcases y6 hv with ⟨q,hq,h1,h2⟩|h1
  · exact k t v (AK yd hq (h q hq h1) h2)
  · exact k t v (AL rR h1)
theorem uD {N:Nat} {p:Nat→Bool} {i:Nat} (d:Bool) (h:i<N):(l6 N B pn p).getD i d=(B.contains i||(p i&&pn.any fun q=>q.1==i)):=by
  unfold l6
  simp[h]
theorem As {i:Nat}:(pn.any fun q=>q.1==i)=true↔∃q∈pn,q.1=i:=by simp
structure An (ops:Array Oper) (B:List Nat) (pn:Pn) (oE:List (Nat×List Nat)):Prop where
  back:∀i o,ops[i]?=some o→∀e∈o.after,Region.binds .any e=true→e.on<i
  Oz:(pn.map (·.1)).Nodup
  r5:(pn.map fun q=>q.2.1).Nodup
  new:∀q∈pn,B.contains q.1=false∧q.1<ops.size
  next:∀i o,ops[i]?=some o→B.contains i=false→(∀q∈pn,q.1≠i)→(∀e∈o.after,Region.binds .any e=true→B.contains e.on=true∨∃q∈pn,q.1=e.on)→∃e∈oE,e.1=i
  ZP:∀e∈oE,∀k∈e.2,pI ops e.1 k=true
  dst:∀e∈oE,∀o,ops[e.1]?=some o→∀q∈pn,o.dst≠some q.2.1
theorem An.of {pd:List (Nat×Nat)} {oE:List (Nat×List Nat)} (xg:pn.map (fun q=>(q.1,q.2.1))=pd) (h:BX ops B pd oE=true):An ops B pn oE:=by
  subst xg
  simp only[BX,eu] at h
  obtain ⟨h1,h2,h3,h4,h5,h6⟩:=h
  refine ⟨fun i o ho e he hb=>?_,?_,?_,fun q hq=>?_,fun i o ho hB hn hd=>?_,fun e he k hk=>?_,fun e he o ho q hq=>?_⟩
  · have gQ:i<ops.size:=(fU.1 ho).1
    have:=fy.1 h1 i (List.mem_range.2 gQ)
    rw[ho] at this
    have:=Array.all_eq_true_iff_forall_mem.1 this e he
    rw[hb] at this
    simpa using this
  · have:=eR h2
    rw[List.map_map] at this
    exact this
  · have:=eR h3
    rw[List.map_map] at this
    exact this
  · have:=fy.1 h4 (q.1,q.2.1) (ei.2 ⟨q,hq,rfl⟩)
    simp only[eu,fq,dz] at this
    exact this
  · have gQ:i<ops.size:=(fU.1 ho).1
    have:=fy.1 h5 i (List.mem_range.2 gQ)
    rw[ho,hB] at this
    simp only[Bool.false_or,eP] at this
    rcases this with h|h|h
    · obtain ⟨y,hy,e⟩:=List.any_eq_true.1 h
      obtain ⟨q,hq,rfl⟩:=ei.1 hy
      exact absurd (by simpa using e) (hn q hq)
    · obtain ⟨e,he,h⟩:=List.any_eq_true.1 h
      exact ⟨e,he,by simpa using h⟩
    · exfalso
      rw[fq,gx] at h
      refine h (Array.all_eq_true_iff_forall_mem.2 fun e he=>?_)
      cases hb:Region.binds .any e
      · rfl
      · rcases hd e he hb with h7|⟨q,hq,h7⟩
        · rw[h7];rfl
        · rw[show (List.any (pn.map fun q=>(q.1,q.2.1)) fun q=>q.1==e.on)=true from List.any_eq_true.2 ⟨(q.1,q.2.1),ei.2 ⟨q,hq,rfl⟩,by simpa using h7⟩]
          simp
  · have:=fy.1 h6 e he
    rw[eu] at this
    exact fy.1 this.1 k hk
  · have:=fy.1 h6 e he
    rw[eu,ho] at this
    have:=fy.1 this.2 (q.1,q.2.1) (ei.2 ⟨q,hq,rfl⟩)
    simpa using this
theorem YT {i k:Nat} {o:Oper} (ho:ops[i]?=some o) (h:pI ops i k=true):∃e∈o.after,Region.binds .any e=true∧e.on=k:=by
  unfold pI at h
  rw[ho] at h
  obtain ⟨e,he,hb⟩:=Array.any_eq_true'.1 h
  simp only[eu,beq_iff_eq] at hb
  exact ⟨e,he,hb⟩
theorem Wf {p:Nat→Bool} {i k:Nat} {oE:List (Nat×List Nat)} (F:An ops B pn oE) (hi:i∈Region.ready .any ops (l6 ops.size B pn p)) (hk:pI ops i k=true) (hq:∃q∈pn,q.1=k):p k=true:=by
  obtain ⟨_,o,ho,jM⟩:=mem_ready.1 hi
  obtain ⟨e,he,hb,rfl⟩:=YT ho hk
  obtain ⟨q,hq,h1⟩:=hq
  have h2:=jM e he hb
  have h3:=F.new q hq
  rw[h1] at h3
  rw[uD _ h3.2,h3.1] at h2
  simp only[Bool.false_or,eu] at h2
  exact h2.1
theorem Wg {p:Nat→Bool} {oE:List (Nat×List Nat)} (F:An ops B pn oE) {i:Nat} (hi:i<ops.size) (hu:(l6 ops.size B pn p).getD i true=false):Region.ready .any ops (l6 ops.size B pn p)≠[]:=by
  have key:∀m i,i<ops.size→i≤m→(l6 ops.size B pn p).getD i true=false→∃j,j∈Region.ready .any ops (l6 ops.size B pn p):=by
    intro m
    induction m with
    | zero=>
      intro i hi him hu
      refine ⟨i,mem_ready.2 ⟨hu,ops[i],fh hi,fun e he hb=>?_⟩⟩
      have:=F.back i _ (fh hi) e he hb
      omega
    | succ m ih=>
      intro i hi him hu
      by_cases h:∀e∈ops[i].after,Region.binds .any e=true→(l6 ops.size B pn p).getD e.on false=true
      · exact ⟨i,mem_ready.2 ⟨hu,ops[i],fh hi,h⟩⟩
      · have ⟨e,he,hb,hn⟩:∃e∈ops[i].after,Region.binds .any e=true∧¬(l6 ops.size B pn p).getD e.on false=true:=by
          refine dW fun h2=>h fun e he hb=>dW fun h3=>h2 ⟨e,he,hb,h3⟩
        have gQ:=F.back i _ (fh hi) e he hb
        refine ih e.on gz gz ?_
        rw[uD _ gz] at hn ⊢
        exact gx.2 hn
  obtain ⟨j,hj⟩:=key i i hi (dA _) hu
  exact fun e=>by rw[e] at hj;cases hj
theorem aas {N:Nat} {p:Nat→Bool} {i:Nat} (hi:∃q∈pn,q.1=i):(l6 N B pn p).setIfInBounds i true=l6 N B pn (fun j=>p j||j==i):=by
  apply Array.ext
  · simp[l6]
  · intro j h1 h2
    have hN:j<N:=by simpa [l6] using h2
    have g1:=uD (B:=B) (pn:=pn) (p:=p) (i:=j) false hN
    have g2:=uD (B:=B) (pn:=pn) (p:=fun j=>p j||j==i) (i:=j) false hN
    rw[fj,fh (by simpa [l6] using hN)] at g1 g2
    simp only[Option.getD_some] at g1 g2
    rw[g2,Array.getElem_setIfInBounds (by simpa [l6] using hN),g1]
    by_cases e:i=j
    · subst e
      rw[dx rfl,As.2 hi]
      simp
    · rw[dp e]
      have:(j==i)=false:=by simpa using fun x=>e x.symm
      rw[this,Bool.or_false]
theorem W9 {p:Nat→Bool} (hn:(pn.map (·.1)).Nodup) {q:Nat×Nat×Value} (hq:q∈pn) (hp:p q.1=false):sJ pn p=sJ pn (fun j=>p j||j==q.1)+1:=by
  unfold sJ
  induction pn with
  |nil=>cases hq
  | cons x pn ih=>
    simp only[dY,fX] at hn
    rcases eS.1 hq with rfl|hq
    · rw[ez (by simp[hp]),eI (by simp),dF]
      congr 1
      congr 1
      refine List.filter_congr fun y hy=>?_
      have:(y.1==q.1)=false:=by simpa using fun e:y.1=q.1=>hn.1 (ei.2 ⟨y,hy,e⟩)
      simp only[this,Bool.or_false]
    · have ih:=ih hn.2 hq
      have hx:(x.1==q.1)=false:=by simpa using fun e:x.1=q.1=>hn.1 (ei.2 ⟨q,hq,e.symm⟩)
      by_cases Jw:p x.1=true
      · rw[eI (by simp[Jw]),eI (by simp[Jw])]
        exact ih
      · rw[ez (by simpa using Jw),ez (by simpa [hx] using Jw),dF,dF,ih]
theorem ahG {p:Nat→Bool} (h:sJ pn p=0):∀q∈pn,p q.1=true:=fun q hq=>by
  cases e:p q.1 with
  |true=>rfl
  | false=>
    have:q∈pn.filter fun q=>!p q.1:=fO.2 ⟨hq,by rw[e];rfl⟩
    rw[dU h] at this
    cases this
theorem Sh {fuel:Nat} {p:Nat→Bool} {oE:List (Nat×List Nat)} (F:An ops B pn oE) (rR:∀q∈pn,iF l q.2.1=none) {q:Nat×Nat×Value} (hq:q∈pn) (hf:QF P n w0 R ops Q pn l H q)
    (hr:q.1∈Region.ready .any ops (l6 ops.size B pn p)) {a:Act} {w:World} (at_:At P n w0 R (lM pn p++l) H a w)
    (k:WA P n w0 R ops Q fuel (l6 ops.size B pn (fun j=>p j||j==q.1)) (lM pn (fun j=>p j||j==q.1)++l) H):
    wpOp P ops Q q.1 (wpAny P .any ops Q fuel ((l6 ops.size B pn p).setIfInBounds q.1 true)) a w:=by
  obtain ⟨o,ks,ho,ND,hd,hks,Eo⟩:=hf
  have Nk:Kn a (lM pn ks.contains++l):=at_.kn.R4 F.r5 rR fun x hx hc=>Wf F hr (fy.1 hks _ (List.contains_iff_mem.1 hc)) ⟨x,hx,rfl⟩
  have gQ:q.2.1<a.tmps.size:=by rw[at_.size];exact Nat.le_of_ble_eq_true hd
  have after:∀jq,Sat jq (H++R)→Kept w0 jq→wpAny P .any ops Q fuel ((l6 ops.size B pn p).setIfInBounds q.1 true) (a.put o.dst q.2.2) jq:=fun jq hs hk=>by
    rw[aas ⟨q,hq,rfl⟩,ND]
    refine k _ _ ⟨by simp[Act.put,at_.size],by simpa [Act.put] using at_.defers,fun t v hv=>?_,hs,hk⟩
    have G0:=at_.kn.put q.2.2 gQ
    refine G0 t v ?_
    rw[pW]
    rcases y6 hv with ⟨x,hx,h1,h2⟩|h1
    · by_cases e:q.2.1=t
      · rw[dx e]
        have:x=q:=J7 F.r5 hx hq (by rw[h2];exact e.symm)
        subst this
        rw[h2]
      · rw [dp e]
        have h3:p x.1=true:=by
          simp only[eP,beq_iff_eq] at h1
          rcases h1 with h1|h1
          · exact h1
          · have:x=q:=J7 F.Oz hx hq h1
            subst this
            rw[h2] at e
            exact absurd rfl e
        exact AK F.r5 hx h3 h2
    · rw[dp (fun e=>by rw[←e,rR q hq] at h1;cases h1)]
      exact AL rR h1
  unfold wpOp
  simp only[ho]
  rcases Eo a w Nk at_.sat at_.kept with ⟨h1,h2⟩|⟨h1,h2⟩
  · rw[dx h1]
    exact .inl (Oper.wp_mono (fun gX jq ⟨e,hs,hk⟩=>by subst e;exact after jq hs hk) h2)
  · rw[dp (by rw[h1];simp),←h2]
    exact after w at_.sat at_.kept
theorem WA.float {N:Nat} (hN:ops.size=N) (h:tz P n w0 R ops Q [] N [] l H):WA P n w0 R ops Q N (Array.replicate N false) l H:=by
  have:=h (fun _=>false) N (by simp[sJ])
  have e:l6 ops.size [] [] (fun _=>false)=Array.replicate N false:=by
    subst hN
    apply Array.ext
    · simp[l6]
    · intro j h1 h2
      simp[l6]
  rw[e] at this
  exact this
theorem tz.add {i d:Nat} {v:Value} (uS:(pn.all fun q=>!(q.1==i))=true) (hq:QF P n w0 R ops Q pn l H (i,d,v)) (k:tz P n w0 R ops Q ((i,d,v)::pn) r B l H):tz P n w0 R ops Q pn (r+1) B l H:=fun p fuel hf=>by
  have jk:∀q∈pn,q.1≠i:=fun q hq e=>by
    have:=fy.1 uS q hq
    simp[e] at this
  have:=k (fun j=>p j&&!(j==i)) fuel (by
    unfold sJ at hf ⊢
    rw[ez (by simp),dF]
    rw[show (pn.filter fun q=>!(p q.1&&!(q.1==i)))=pn.filter fun q=>!p q.1 from List.filter_congr fun q hq=>by simp[jk q hq]]
    omega)
  have e1:l6 ops.size B ((i,d,v)::pn) (fun j=>p j&&!(j==i))=l6 ops.size B pn p:=by
    unfold l6
    congr 1
    refine List.map_congr_left fun j _=>?_
    congr 1
    by_cases e:j=i
    · subst e
      have:(pn.any fun q=>q.1==j)=false:=by
        rw[gx]
        intro h
        obtain ⟨q,hq,e⟩:=As.1 h
        exact jk q hq e
      simp[this]
    · have h1:(j==i)=false:=by simpa using e
      have h2:(i==j)=false:=by simpa using fun h=>e h.symm
      simp[h1,h2]
  have e2:lM ((i,d,v)::pn) (fun j=>p j&&!(j==i))=lM pn p:=by
    unfold lM
    rw[eI (by simp)]
    congr 1
    exact List.filter_congr fun q hq=>by simp[jk q hq]
  rw[e1,e2] at this
  exact this
theorem tz.step { pd:List (Nat×Nat)} (oE:List (Nat×List Nat)) (xg:pn.map (fun q=>(q.1,q.2.1))=pd) (mI:BX ops B pd oE=true) (xi:((List.range ops.size).any fun i=>!(B.contains i||pd.any fun q=>q.1==i))=true) (rR:∀q∈pn,iF l q.2.1=none)
    (hq:∀q∈pn,QF P n w0 R ops Q pn l H q)
    (hs:∀e∈oE,SO P n w0 R ops Q e.1 (lM pn e.2.contains++l) H fun dv gr=>tz P n w0 R ops Q (pn.filter fun q=>!e.2.contains q.1) r (e.1::((pn.map (·.1)).filter e.2.contains++B)) (dv++(lM pn e.2.contains++l)) gr):tz P n w0 R ops Q pn (r+1) B l H:=by
  have F:=An.of xg mI
  have key : ∀ (t : Nat) (p:Nat→Bool) (fuel:Nat),sJ pn p=t→r+1+t≤fuel→WA P n w0 R ops Q fuel (l6 ops.size B pn p) (lM pn p++l) H:=by
    intro t
    induction t using Nat.strongRecOn with
    | _ t ih=>
      intro p fuel ht hf
      obtain ⟨fuel,rfl⟩:∃f,fuel=f+1:=⟨fuel-1,by omega⟩
      intro a w at_
      have jk:Region.ready .any ops (l6 ops.size B pn p)≠[]:=by
        obtain ⟨i,hi,hn⟩:=List.any_eq_true.1 xi
        have hi:=List.mem_range.1 hi
        refine Wg F hi ?_
        rw[uD _ hi]
        subst xg
        simp only[fq,Bool.or_eq_false_iff] at hn
        rw[hn.1,show (pn.any fun q=>q.1==i)=false from by
          rw[gx]
          intro h
          obtain ⟨q,hq,e⟩:=As.1 h
          have:(List.any (pn.map fun q=>(q.1,q.2.1)) fun q=>q.1==i)=true:=List.any_eq_true.2 ⟨(q.1,q.2.1),ei.2 ⟨q,hq,rfl⟩,by simpa using e⟩
          rw[hn.2] at this
          cases this]
        simp
      refine ⟨fun h0=>absurd h0 jk,fun i hi=>?_⟩
      obtain ⟨xj,oi,xe,jM⟩:=mem_ready.1 hi
      have gQ:i<ops.size:=(fU.1 xe).1
      rw[uD _ gQ,Bool.or_eq_false_iff] at xj
      by_cases hU:∃q∈pn,q.1=i
      · obtain ⟨q,j7,rfl⟩:=hU
        have hp:p q.1=false:=by
          have:=xj.2
          rw[As.2 ⟨q,j7,rfl⟩,Bool.and_true] at this
          exact this
        have hu:=W9 F.Oz j7 hp
        exact Sh F rR j7 (hq q j7) hi at_ (ih (sJ pn fun j=>p j||j==q.1) gz _ fuel rfl gz)
      · obtain ⟨e,he,rfl⟩:=F.next i oi xe xj.1 (fun q j7 e=>hU ⟨q,j7,e⟩) (fun e he hb=>by
          have h1:=jM e he hb
          have h2:=F.back i oi xe e he hb
          rw[uD _ gz,eP,eu] at h1
          exact h1.imp id fun h=>As.1 h.2)
        obtain ⟨o,ho,JA⟩:=hs e he
        obtain rfl:oi=o:=by rw[xe] at ho;exact eQ ho
        have I9:∀q∈pn,e.2.contains q.1=true→p q.1=true:=fun q j7 hc=>Wf F hi (F.ZP e he q.1 (List.contains_iff_mem.1 hc)) ⟨q,j7,rfl⟩
        have Nk:=at_.kn.R4 F.r5 rR I9
        refine wpOp_mono (fun gX jq ⟨dv,gr,hK,ze,oT,pP⟩=>?_) (JA a w at_.size at_.defers Nk at_.sat at_.kept)
        have eA : (l6 ops.size B pn p).setIfInBounds e.1 true=l6 ops.size (e.1::((pn.map (·.1)).filter e.2.contains++B)) (pn.filter fun q=>!e.2.contains q.1) p:=by
          apply Array.ext
          · simp[l6]
          · intro j h1 h2
            have hN:j<ops.size:=by simpa [l6] using h2
            have g1:=uD (B:=B) (pn:=pn) (p:=p) (i:=j) false hN
            have g2:=uD (B:=e.1::((pn.map (·.1)).filter e.2.contains++B)) (pn:=pn.filter fun q=>!e.2.contains q.1) (p:=p) (i:=j) false hN
            rw[fj,fh (by simpa [l6] using hN)] at g1 g2
            simp only[Option.getD_some] at g1 g2
            rw[g2,Array.getElem_setIfInBounds (by simpa [l6] using hN),g1]
            by_cases A4:e.1=j
            · rw[dx A4,List.contains_cons,show (j==e.1)=true by simp[A4]]
              simp
            · rw [dp A4,List.contains_cons,show (j==e.1)=false by simpa using fun h=>A4 h.symm]
              rw[dM]
              simp only[eP,eu,List.contains_iff_mem,dT,fO,ei,Bool.false_or,List.any_eq_true,beq_iff_eq,fq,eB,false_or]
              constructor
              · rintro (h|⟨h3,q,j7,h4⟩)
                · exact .inl (.inr h)
                · by_cases hc:j∈e.2
                  · exact .inl (.inl ⟨⟨q,j7,h4⟩,hc⟩)
                  · refine .inr ⟨h3,q,⟨j7,?_⟩,h4⟩
                    rw[gx,ne_eq,List.contains_iff_mem,h4]
                    exact hc
              · rintro ((⟨⟨q,j7,h4⟩,hc⟩|h)|⟨h3,q,⟨j7,_⟩,h4⟩)
                · refine .inr ⟨?_,q,j7,h4⟩
                  rw[←h4] at hc ⊢
                  exact I9 q j7 (List.contains_iff_mem.2 hc)
                · exact .inl h
                · exact .inr ⟨h3,q,j7,h4⟩
        rw[eA]
        have eU:sJ (pn.filter fun q=>!e.2.contains q.1) p=sJ pn p:=by
          unfold sJ
          rw[List.filter_filter]
          congr 1
          refine List.filter_congr fun q j7=>?_
          cases hc:e.2.contains q.1 with
          |false=>simp
          |true=>rw[I9 q j7 hc];rfl
        refine hK p fuel gz gX jq ?_
        have hold:∀t v,iF (lM (pn.filter fun q=>!e.2.contains q.1) p++(lM pn e.2.contains++l)) t=some v→iF (lM pn p++l) t=some v:=fun t v hv=>by
          rcases y6 hv with ⟨q,j7,h1,h2⟩|h1
          · exact AK F.r5 (fO.1 j7).1 h1 h2
          · rcases y6 h1 with ⟨q,j7,h1,h2⟩|h1
            · exact AK F.r5 j7 (I9 q j7 h1) h2
            · exact AL rR h1
        rcases ze with ⟨rfl,rfl⟩|⟨d,v,ND,hd,rfl,rfl⟩
        · exact ⟨at_.size,at_.defers,fun t v hv=>at_.kn t v (hold t v hv),oT,pP⟩
        · have abj:d<a.tmps.size:=by rw[at_.size];exact Nat.le_of_ble_eq_true hd
          refine ⟨by simp[Act.put,at_.size],by simpa [Act.put] using at_.defers,fun t u hu=>?_,oT,pP⟩
          refine at_.kn.put v abj t u ?_
          rw[pW]
          by_cases e2:d=t
          · rw[dx e2]
            subst e2
            rw[Si (fun q j7 e3=>F.dst e he oi xe q (fO.1 j7).1 (by rw[ND,e3]))] at hu
            rw[List.singleton_append,pW,dx rfl] at hu
            exact hu
          · rw [dp e2]
            refine hold t u ?_
            rcases y6 hu with ⟨q,j7,h1,h2⟩|h1
            · refine AK ?_ j7 h1 h2
              exact F.r5.sublist (List.Sublist.map _ List.filter_sublist)
            · rw [List.singleton_append,pW,dp e2] at h1
              refine AL (fun q j7=>?_) h1
              cases h9:iF (lM pn e.2.contains++l) q.2.1 with
              |none=>rfl
              | some v9=>
                exfalso
                rcases y6 h9 with ⟨x,hx,h3,h4⟩|h3
                · have:x=q:=J7 F.r5 hx (fO.1 j7).1 (by rw[h4])
                  subst this
                  have:=(fO.1 j7).2
                  rw[h3] at this
                  cases this
                · rw[rR q (fO.1 j7).1] at h3
                  cases h3
  exact fun p fuel hf=>key (sJ pn p) p fuel rfl gz
theorem tz.done {pd:List (Nat×Nat)} (xg:pn.map (fun q=>(q.1,q.2.1))=pd) (mI:BX ops B pd []=true) (jM:((List.range ops.size).all fun i=>B.contains i||pd.any fun q=>q.1==i)=true) (rR:∀q∈pn,iF l q.2.1=none)
    (hq:∀q∈pn,QF P n w0 R ops Q pn l H q) (h:DN P n w0 R Q .normal (lM pn (fun _=>true)++l) H):tz P n w0 R ops Q pn r B l H:=by
  have F:=An.of xg mI
  have key:∀(t:Nat) (p:Nat→Bool) (fuel:Nat),sJ pn p=t→t≤fuel→WA P n w0 R ops Q fuel (l6 ops.size B pn p) (lM pn p++l) H:=by
    intro t
    induction t using Nat.strongRecOn with
    | _ t ih=>
      intro p fuel ht hf
      by_cases jk:Region.ready .any ops (l6 ops.size B pn p)=[]
      · intro a w at_
        refine wpAny_done jk (h a w (at_.agY ?_)) fuel
        have aci:∀q∈pn,p q.1=true:=fun q j7=>by
          cases hp:p q.1 with
          |true=>rfl
          | false=>
            refine absurd jk (Wg F (F.new q j7).2 ?_)
            rw[uD _ (F.new q j7).2,(F.new q j7).1,hp]
            rfl
        have e:lM pn p=lM pn fun _=>true:=by
          unfold lM
          rw[List.filter_congr fun q j7=>aci q j7]
        rw[←e]
        exact at_.kn
      · have CX:t≠0:=by
          rintro rfl
          have hp:=ahG ht
          refine jk (List.eq_nil_iff_forall_not_mem.2 fun i hi=>?_)
          obtain ⟨xj,oi,xe,_⟩:=mem_ready.1 hi
          have gQ:i<ops.size:=(fU.1 xe).1
          have h1:=fy.1 jM i (List.mem_range.2 gQ)
          rw[uD _ gQ,Bool.or_eq_false_iff] at xj
          rw[xj.1,Bool.false_or] at h1
          subst xg
          obtain ⟨y,hy,e⟩:=List.any_eq_true.1 h1
          obtain ⟨q,j7,rfl⟩:=ei.1 hy
          have e:q.1=i:=by simpa using e
          have h2:=xj.2
          rw[As.2 ⟨q,j7,e⟩,Bool.and_true,←e,hp q j7] at h2
          cases h2
        obtain ⟨fuel,rfl⟩:∃f,fuel=f+1:=⟨fuel-1,by omega⟩
        intro a w at_
        refine ⟨fun h0=>absurd h0 jk,fun i hi=>?_⟩
        obtain ⟨xj,oi,xe,MA⟩:=mem_ready.1 hi
        have gQ:i<ops.size:=(fU.1 xe).1
        rw[uD _ gQ,Bool.or_eq_false_iff] at xj
        by_cases hU:∃q∈pn,q.1=i
        · obtain ⟨q,j7,rfl⟩:=hU
          have hp:p q.1=false:=by
            have:=xj.2
            rw[As.2 ⟨q,j7,rfl⟩,Bool.and_true] at this
            exact this
          have hu:=W9 F.Oz j7 hp
          exact Sh F rR j7 (hq q j7) hi at_ (ih (sJ pn fun j=>p j||j==q.1) gz _ fuel rfl gz)
        · obtain ⟨e,he,rfl⟩:=F.next i oi xe xj.1 (fun q j7 e=>hU ⟨q,j7,e⟩) (fun e he hb=>by
            have h1:=MA e he hb
            have h2:=F.back i oi xe e he hb
            rw[uD _ gz,eP,eu] at h1
            exact h1.imp id fun h=>As.1 h.2)
          cases he
  exact fun p fuel hf=>key (sJ pn p) p fuel rfl gz
theorem bI {i d:Nat} {u v:Value} (e:u=v) (h:QF P n w0 R ops Q pn l H (i,d,u)):QF P n w0 R ops Q pn l H (i,d,v):=by
  subst e;exact h
variable {lu:Sl}
theorem qU.y {d:Nat} {op:Op} {ty:TypeId} {pos:String} {gJ:Array Edge} {g:Option (Nat×Bool)} {v:Value} (hw:Wt ops lu ⟨some d,op,ty,pos,gJ,g⟩) (hy:Yd P ⟨some d,op,ty,pos,gJ,g⟩ lu v):qU P w0 R ops Q ⟨some d,op,ty,pos,gJ,g⟩ lu H v:=fun a w kn hs hk=>
  .inl ⟨hw a kn,by unfold Oper.wp;rw[hy a kn w];exact ⟨rfl,hs,hk⟩⟩
theorem aw {d:Nat} {op:Op} {ty:TypeId} {pos:String} {gJ:Array Edge} {g:Option (Nat×Bool)} {v:Value} (hw:Wt ops lu ⟨some d,op,ty,pos,gJ,g⟩) (hr:Rd P ⟨some d,op,ty,pos,gJ,g⟩ lu H v):qU P w0 R ops Q ⟨some d,op,ty,pos,gJ,g⟩ lu H v:=fun a w kn hs hk=>
  .inl ⟨hw a kn,by unfold Oper.wp;rw[hr a w R kn hs];exact ⟨rfl,hs,hk⟩⟩
theorem aO {d:Nat} {op:Op} {ty:TypeId} {pos:String} {gJ:Array Edge} {g:Option (Nat×Bool)} {f:FuncId} {args:List Value} {C D:List Ck} {v:Value} (hw:Wt ops lu ⟨some d,op,ty,pos,gJ,g⟩) (he:iE P ⟨some d,op,ty,pos,gJ,g⟩ lu f args) (hs:Reads P f args C v) (hH:Sp H C D):
    qU P w0 R ops Q ⟨some d,op,ty,pos,gJ,g⟩ lu H v:=fun a w kn zE hk=>
  .inl ⟨hw a kn,by
    unfold Oper.wp
    rw[he a kn w,Oper.upon_enter]
    have NN:Sat w (C++(D++R)):=by
      have:=zE.perm (hH.p.append_right R)
      simpa using this
    refine (hs w (D++R) NN).mono fun e jq ⟨iJ,gP,vS,⟨h1,h2⟩,oT,pP⟩=>?_
    subst vS h1 h2
    refine ⟨rfl,?_,hk.trans pP⟩
    have h4:Sat jq ((gP++D)++R):=by simpa using oT
    exact h4.perm (hH.p.symm.append_right R)⟩
theorem qU.gn {d j dj:Nat} {b oJ:Bool} {op:Op} {ty:TypeId} {pos:String} {gJ:Array Edge} (hj:(ops[j]?).bind (·.dst)=some dj) (hg:iF lu dj=some (.bool oJ)) (hb:oJ=!b):qU P w0 R ops Q ⟨some d,op,ty,pos,gJ,some (j,b)⟩ lu H undef:=fun a w kn hs hk=>
  .inr ⟨by rw[Fv hj (kn dj _ hg),hb];cases b<;>rfl,rfl⟩
theorem qU.gu {d j dj:Nat} {b:Bool} {op:Op} {ty:TypeId} {pos:String} {gJ:Array Edge} (hj:(ops[j]?).bind (·.dst)=some dj) (hg:iF lu dj=some undef):qU P w0 R ops Q ⟨some d,op,ty,pos,gJ,some (j,b)⟩ lu H undef:=fun a w kn hs hk=>
  .inr ⟨Xa hj (kn dj _ hg),rfl⟩
variable {K:Sl→List Ck→Prop} {j:Nat}
theorem SO.run {o:Oper} (hi:ops[j]?=some o) (hw:Wt ops lu o)
    (h:∀a w,a.tmps.size=n→a.defers=[]→Kn a lu→Sat w (H++R)→Kept w0 w→o.wp P a w (fun gX jq=>∃dv gr,K dv gr∧((dv=[]∧gX=a)∨∃d v,o.dst=some d∧Nat.blt d n=true∧dv=[(d,v)]∧gX=a.put (some d) v)∧Sat jq (gr++R)∧Kept w0 jq) Q):SO P n w0 R ops Q j lu H K:=
  ⟨o,hi,fun a w h1 h2 kn hs hk=>by
    unfold wpOp
    simp only[hi,hw a kn,if_true]
    exact .inl (h a w h1 h2 kn hs hk)⟩
theorem SO.y {d:Nat} {op:Op} {ty:TypeId} {pos:String} {gJ:Array Edge} {g:Option (Nat×Bool)} {v:Value} (hi:ops[j]?=some ⟨some d,op,ty,pos,gJ,g⟩) (hw:Wt ops lu ⟨some d,op,ty,pos,gJ,g⟩) (hd:Nat.blt d n=true) (hy:Yd P ⟨some d,op,ty,pos,gJ,g⟩ lu v)
    (h:K [(d,v)] H):SO P n w0 R ops Q j lu H K:=SO.run hi hw fun a w _ _ kn hs hk=>by
  unfold Oper.wp
  rw[hy a kn w]
  exact ⟨_,_,h,.inr ⟨d,v,rfl,hd,rfl,rfl⟩,hs,hk⟩
theorem SO.h {d:Nat} {op:Op} {ty:TypeId} {pos:String} {gJ:Array Edge} {g:Option (Nat×Bool)} (hi:ops[j]?=some ⟨some d,op,ty,pos,gJ,g⟩) (hw:Wt ops lu ⟨some d,op,ty,pos,gJ,g⟩) (hd:Nat.blt d n=true)
    (hh:Hd P ⟨some d,op,ty,pos,gJ,g⟩ lu H fun r gr=>∃v,r=.value v∧K [(d,v)] gr):SO P n w0 R ops Q j lu H K:=SO.run hi hw fun a w _ _ kn hs hk=>by
  obtain ⟨r,jq,gr,hr,oT,pP,v,rfl,hK⟩:=hh a w R kn hs
  unfold Oper.wp
  rw[hr]
  exact ⟨_,_,hK,.inr ⟨d,v,rfl,hd,rfl,rfl⟩,oT,hk.trans pP⟩
theorem SO.s {op:Op} {ty:TypeId} {pos:String} {gJ:Array Edge} {g:Option (Nat×Bool)} (hi:ops[j]?=some ⟨none,op,ty,pos,gJ,g⟩) (hw:Wt ops lu ⟨none,op,ty,pos,gJ,g⟩)
    (hh:Hd P ⟨none,op,ty,pos,gJ,g⟩ lu H fun r gr=>r=.skip∧K [] gr):SO P n w0 R ops Q j lu H K:=SO.run hi hw fun a w _ _ kn hs hk=>by
  obtain ⟨r,jq,gr,hr,oT,pP,rfl,hK⟩:=hh a w R kn hs
  unfold Oper.wp
  rw[hr]
  exact ⟨_,_,hK,.inl ⟨rfl,rfl⟩,oT,hk.trans pP⟩
theorem SO.c {d:Nat} {op:Op} {ty:TypeId} {pos:String} {gJ:Array Edge} {g:Option (Nat×Bool)} {f:FuncId} {args:List Value} {C D:List Ck} {jE:Value→List Ck→Prop} (hi:ops[j]?=some ⟨some d,op,ty,pos,gJ,g⟩) (hw:Wt ops lu ⟨some d,op,ty,pos,gJ,g⟩) (hd:Nat.blt d n=true)
    (he:iE P ⟨some d,op,ty,pos,gJ,g⟩ lu f args) (hs:gC P f args C jE) (hH:H.Perm (C++D))
    (h:∀v gP,jE v gP→K [(d,v)] (gP++D)):SO P n w0 R ops Q j lu H K:=SO.run hi hw fun a w _ _ kn zE hk=>by
  unfold Oper.wp
  rw[he a kn w,Oper.upon_enter]
  have NN:Sat w (C++(D++R)):=by
    have:=zE.perm (hH.append_right R)
    simpa using this
  refine (hs w (D++R) NN).mono fun e jq ⟨v,gP,vS,hp,oT,pP⟩=>?_
  subst vS
  exact ⟨_,_,h v gP hp,.inr ⟨d,v,rfl,hd,rfl,rfl⟩,by simpa using oT,hk.trans pP⟩
end
def pick:Pn→List Nat→Sl
  |[],_=>[]
  |(i,d,v)::pn,ks=>bif ks.contains i then (d,v)::pick pn ks else pick pn ks
def r5:Pn→Sl
  |[]=>[]
  |(_,d,v)::pn=>(d,v)::r5 pn
theorem VR (pn:Pn) (ks:List Nat):pick pn ks=lM pn ks.contains:=by
  induction pn with
  |nil=>rfl
  | cons q pn ih=>
    obtain ⟨i,d,v⟩:=q
    unfold lM at ih ⊢
    rw[pick,ih]
    cases h:ks.contains i
    · rw[eI (p:=fun q:Nat×Nat×Value=>ks.contains q.1) (by rw[h];decide)];rfl
    · rw[ez (p:=fun q:Nat×Nat×Value=>ks.contains q.1) h];rfl
theorem agn (pn:Pn):r5 pn=lM pn fun _=>true:=by
  induction pn with
  |nil=>rfl
  | cons q pn ih=>
    obtain ⟨i,d,v⟩:=q
    unfold lM at ih ⊢
    rw[r5,ih,ez rfl];rfl
section
variable {P:Program} {n:Nat} {w0:World} {R:List Ck} {Q:Exit→Act→World→Prop} {l:Sl} {H:List Ck} {ops:Array Oper} {pn:Pn} {r:Nat} {B:List Nat} {Y:List Nat}
def iX (P:Program) (n:Nat) (w0:World) (R:List Ck) (ops:Array Oper) (Q:Exit→Act→World→Prop) (pn:Pn) (r:Nat) (B:List Nat) (l:Sl) (H:List Ck) (Y:List Nat):Prop:=
  (pn.map (·.1)).Nodup→(pn.map fun q=>q.2.1).Nodup→(∀q∈pn,iF l q.2.1=none)→(∀q∈pn,Y.contains q.1=true→∀H,QF P n w0 R ops Q pn l H q)→tz P n w0 R ops Q pn r B l H
def gZ (P:Program) (n:Nat) (w0:World) (R:List Ck) (ops:Array Oper) (Q:Exit→Act→World→Prop) (pn:Pn) (r:Nat) (B:List Nat) (l:Sl) (H:List Ck) (Y:List Nat):Prop:=
  (pn.map (·.1)).Nodup→(pn.map fun q=>q.2.1).Nodup→(∀q∈pn,iF l q.2.1=none)→(∀q∈pn,Y.contains q.1=true→∀H,QF P n w0 R ops Q pn l H q)→(∀q∈pn,QF P n w0 R ops Q pn l H q)→tz P n w0 R ops Q pn r B l H
theorem QF.sub {oF:Pn} {mK:Sl} {q:Nat×Nat×Value} (h:∀(ks:List Nat) t v,iF (lM pn ks.contains++l) t=some v→iF (lM oF ks.contains++mK) t=some v) (hq:QF P n w0 R ops Q pn l H q):QF P n w0 R ops Q oF mK H q:=by
  obtain ⟨o,ks,h1,h2,h3,h4,h5⟩:=hq
  exact ⟨o,ks,h1,h2,h3,h4,fun a w kn=>h5 a w fun t v e=>kn t v (h ks t v e)⟩
def sn (ops:Array Oper) (pn:Pn) (l:Sl) (n i d:Nat) (ks:List Nat):Bool:=
  (pn.all fun q=>!(q.1==i)&&!(q.2.1==d))&&((iF l d).isNone&&(Nat.blt d n&&ks.all fun k=>pI ops i k))
theorem IJ {i d:Nat} {ks:List Nat} (h:sn ops pn l n i d ks=true):(∀q∈pn,q.1≠i∧q.2.1≠d)∧iF l d=none∧Nat.blt d n=true∧(ks.all fun k=>pI ops i k)=true:=by
  simp only[sn,eu] at h
  obtain ⟨h1,h2,h3,h4⟩:=h
  refine ⟨fun q hq=>?_,by simpa using h2,h3,h4⟩
  have:=fy.1 h1 q hq
  simpa using this
theorem gZ.Qw {i d:Nat} {v:Value} {Aq:List Nat} (hc:(∀q∈pn,q.1≠i∧q.2.1≠d)∧iF l d=none) (hY:Aq=Y∨Aq=i::Y∧∀H,QF P n w0 R ops Q pn l H (i,d,v)) (hYi:Aq=Y→True) (hq:QF P n w0 R ops Q pn l H (i,d,v))
    (hYn:Aq=Y→Y.contains i=false) (k:gZ P n w0 R ops Q ((i,d,v)::pn) r B l H Aq):gZ P n w0 R ops Q pn (r+1) B l H Y:=fun h1 h2 h3 h4 h5=>by
  obtain ⟨hc,hd⟩:=hc
  have s1:(((i,d,v)::pn).map (·.1)).Nodup:=fX.2 ⟨fun h=>by obtain ⟨q,hq,e⟩:=ei.1 h;exact (hc q hq).1 e,h1⟩
  have s2:(((i,d,v)::pn).map fun q=>q.2.1).Nodup:=fX.2 ⟨fun h=>by obtain ⟨q,hq,e⟩:=ei.1 h;exact (hc q hq).2 e,h2⟩
  have s3:∀q∈(i,d,v)::pn,iF l q.2.1=none:=fun q hq=>by
    rcases eS.1 hq with rfl|hq
    · exact hd
    · exact h3 q hq
  have sub:∀(ks:List Nat) t u,iF (lM pn ks.contains++l) t=some u→iF (lM ((i,d,v)::pn) ks.contains++l) t=some u:=fun ks t u h=>by
    rcases y6 h with ⟨q,hq,e1,e2⟩|h1
    · exact AK s2 (dt _ hq) e1 e2
    · exact AL s3 h1
  refine tz.add (fy.2 fun q hq=>by simpa using (hc q hq).1) hq (k s1 s2 s3 (fun q hm hy H=>?_) (fun q hm=>?_))
  · rcases eS.1 hm with rfl|hm
    · rcases hY with e|⟨e,h⟩
      · rw[e,hYn e] at hy;cases hy
      · exact (h H).sub sub
    · refine (h4 q hm ?_ H).sub sub
      rcases hY with e|⟨e,h⟩
      · rw[e] at hy;exact hy
      · rw[e,List.contains_cons,eP] at hy
        rcases hy with hy|hy
        · exact absurd (by simpa using hy) (hc q hm).1
        · exact hy
  · rcases eS.1 hm with rfl|hq9
    · exact hq.sub sub
    · exact (h5 q hq9).sub sub
theorem gZ.add {i d:Nat} {v:Value} (hc:(∀q∈pn,q.1≠i∧q.2.1≠d)∧iF l d=none) (hq:∀H,QF P n w0 R ops Q pn l H (i,d,v)) (k:gZ P n w0 R ops Q ((i,d,v)::pn) r B l H (i::Y)):gZ P n w0 R ops Q pn (r+1) B l H Y:=
  gZ.Qw hc (.inr ⟨rfl,hq⟩) (fun _=>eX) (hq H) (fun e=>absurd (congrArg List.length e) (by simp)) k
theorem gZ.Yg {i d:Nat} {v:Value} (hc:(∀q∈pn,q.1≠i∧q.2.1≠d)∧iF l d=none) (hY:Y.contains i=false) (hq:QF P n w0 R ops Q pn l H (i,d,v)) (k:gZ P n w0 R ops Q ((i,d,v)::pn) r B l H Y):gZ P n w0 R ops Q pn (r+1) B l H Y:=
  gZ.Qw hc (.inl rfl) (fun _=>eX) hq (fun _=>hY) k
theorem ny {i d:Nat} {v:Value} (hq:QF P n w0 R ops Q pn l H (i,d,v)) (hc:((pn.all fun q=>!(q.1==i)&&!(q.2.1==d))&&((iF l d).isNone&&!Y.contains i))=true) (k:gZ P n w0 R ops Q ((i,d,v)::pn) r B l H Y):gZ P n w0 R ops Q pn (r+1) B l H Y:=by
  simp only[eu] at hc
  obtain ⟨h1,h2,h3⟩:=hc
  exact gZ.Yg ⟨fun q hq=>by simpa using fy.1 h1 q hq,by simpa using h2⟩ (by simpa using h3) hq k
variable {d:Nat} {op:Op} {ty:TypeId} {pos:String} {gJ:Array Edge} {g:Option (Nat×Bool)} {v:Value}
theorem QF.of {i:Nat} {o:Oper} (ks:List Nat) (hi:ops[i]?=some o) (ho:o.dst=some d) (hd:Nat.blt d n=true) (hk:(ks.all fun k=>pI ops i k)=true) (h:qU P w0 R ops Q o (pick pn ks++l) H v):QF P n w0 R ops Q pn l H (i,d,v):=by
  rw[VR] at h
  exact ⟨o,ks,hi,ho,hd,hk,h⟩
theorem gW (i:Nat) (ks:List Nat) (hi:ops[i]?=some ⟨some d,op,ty,pos,gJ,none⟩) (hy:Yd P ⟨some d,op,ty,pos,gJ,none⟩ (pick pn ks++l) v) (hc:sn ops pn l n i d ks=true) (k:gZ P n w0 R ops Q ((i,d,v)::pn) r B l H (i::Y)):gZ P n w0 R ops Q pn (r+1) B l H Y:=by
  obtain ⟨h1,h2,h3,h4⟩:=IJ hc
  exact gZ.add ⟨h1,h2⟩ (fun H=>QF.of ks hi rfl h3 h4 (qU.y Wt.none hy)) k
theorem jP (i:Nat) (ks:List Nat) (dj:Nat) {j:Nat} {b:Bool} (hi:ops[i]?=some ⟨some d,op,ty,pos,gJ,some (j,b)⟩) (hg:((ops[j]?).bind (·.dst),iF (pick pn ks++l) dj)=(some dj,some (.bool b))) (hy:Yd P ⟨some d,op,ty,pos,gJ,some (j,b)⟩ (pick pn ks++l) v) (hc:sn ops pn l n i d ks=true) (k:gZ P n w0 R ops Q ((i,d,v)::pn) r B l H (i::Y)):gZ P n w0 R ops Q pn (r+1) B l H Y:=by
  obtain ⟨h1,h2,h3,h4⟩:=IJ hc
  obtain ⟨g1,g2⟩:=Prod.mk.inj hg
  exact gZ.add ⟨h1,h2⟩ (fun H=>QF.of ks hi rfl h3 h4 (qU.y (aP g1 g2) hy)) k
theorem wn_ (i:Nat) (ks:List Nat) (dj:Nat) {j:Nat} {b:Bool} (hi:ops[i]?=some ⟨some d,op,ty,pos,gJ,some (j,b)⟩) (hg:((ops[j]?).bind (·.dst),iF (pick pn ks++l) dj)=(some dj,some (.bool (!b)))) (hc:sn ops pn l n i d ks=true) (k:gZ P n w0 R ops Q ((i,d,undef)::pn) r B l H (i::Y)):gZ P n w0 R ops Q pn (r+1) B l H Y:=by
  obtain ⟨h1,h2,h3,h4⟩:=IJ hc
  obtain ⟨g1,g2⟩:=Prod.mk.inj hg
  exact gZ.add ⟨h1,h2⟩ (fun H=>QF.of ks hi rfl h3 h4 (qU.gn g1 g2 rfl)) k
theorem wu_ (i:Nat) (ks:List Nat) (dj:Nat) {j:Nat} {b:Bool} (hi:ops[i]?=some ⟨some d,op,ty,pos,gJ,some (j,b)⟩) (hg:((ops[j]?).bind (·.dst),iF (pick pn ks++l) dj)=(some dj,some undef)) (hc:sn ops pn l n i d ks=true) (k:gZ P n w0 R ops Q ((i,d,undef)::pn) r B l H (i::Y)):gZ P n w0 R ops Q pn (r+1) B l H Y:=by
  obtain ⟨h1,h2,h3,h4⟩:=IJ hc
  obtain ⟨g1,g2⟩:=Prod.mk.inj hg
  exact gZ.add ⟨h1,h2⟩ (fun H=>QF.of ks hi rfl h3 h4 (qU.gu g1 g2)) k
theorem iw {i:Nat} (ks:List Nat) (hi:ops[i]?=some ⟨some d,op,ty,pos,gJ,g⟩) (h:qU P w0 R ops Q ⟨some d,op,ty,pos,gJ,g⟩ (pick pn ks++l) H v) (hc:(Nat.blt d n&&ks.all fun k=>pI ops i k)=true):QF P n w0 R ops Q pn l H (i,d,v):=by
  obtain ⟨h3,h4⟩:=(eu _ _).mp hc
  exact QF.of ks hi rfl h3 h4 h
theorem gZ.start {N:Nat} (hN:ops.size=N) (h:gZ P n w0 R ops Q [] N [] l H []):WA P n w0 R ops Q N (Array.replicate N false) l H:=
  WA.float hN (h List.nodup_nil List.nodup_nil jl jl jl)
theorem wd_ (lu:Sl) (hl:r5 pn=lu) (hc:(BX ops B (pn.map fun q=>(q.1,q.2.1)) []&&((List.range ops.size).all fun i=>B.contains i||(pn.map fun q=>(q.1,q.2.1)).any fun q=>q.1==i))=true) (h:DN P n w0 R Q .normal (lu++l) H):gZ P n w0 R ops Q pn r B l H Y:=fun h1 h2 h3 h4 h5=>by
  obtain ⟨c1,c2⟩:=(eu _ _).mp hc
  rw[←hl,agn] at h
  exact tz.done rfl c1 c2 h3 h5 h
theorem SO.aev {j:Nat} {lu:Sl} {K Qr:Sl→List Ck→Prop} (h:∀o dv gr,ops[j]?=some o→(dv=[]∨∃d v,o.dst=some d∧dv=[(d,v)])→K dv gr→Qr dv gr) (s:SO P n w0 R ops Q j lu H K):SO P n w0 R ops Q j lu H Qr:=by
  obtain ⟨o,ho,s⟩:=s
  refine ⟨o,ho,fun a w a1 a2 a3 a4 a5=>wpOp_mono (fun gX jq ⟨dv,gr,hK,ha,rest⟩=>⟨dv,gr,h o dv gr ho ?_ hK,ha,rest⟩) (s a w a1 a2 a3 a4 a5)⟩
  rcases ha with ⟨e,_⟩|⟨d,v,e1,_,e2,_⟩
  · exact .inl e
  · exact .inr ⟨d,v,e1,e2⟩
theorem so_ {j:Nat} {lu:Sl} {K:Sl→List Ck→Prop} (EX:Sl) (e:lu=EX) (h:SO P n w0 R ops Q j (EX++l) H K):SO P n w0 R ops Q j (lu++l) H K:=by subst e;exact h
def JG (ops:Array Oper) (j:Nat):Bool:=match ops[j]? with|some o=>(match o.op with| .assign _=>true|_=>false)|none=>false
def JL (ops:Array Oper) (j:Nat) (Y:List Nat):List Nat:=bif JG ops j then [] else Y
def O5 (ops:Array Oper) (B:List Nat) (pn:Pn) (oE:List (Nat×List Nat)) (l:Sl):Bool:=
  BX ops B (pn.map fun q=>(q.1,q.2.1)) oE&&(((List.range ops.size).any fun i=>!(B.contains i||(pn.map fun q=>(q.1,q.2.1)).any fun q=>q.1==i))
  &&oE.all fun e=>JG ops e.1||match ops[e.1]? with|some o=>(match o.dst with|some d=>(iF l d).isNone|none=>true)|none=>true)
theorem pe (oE:List (Nat×List Nat)) (hc:O5 ops B pn oE l=true)
    (hs:∀e∈oE,SO P n w0 R ops Q e.1 (pick pn e.2++l) H fun dv gr=>iX P n w0 R ops Q (pn.filter fun q=>!e.2.contains q.1) r (e.1::((pn.map (·.1)).filter e.2.contains++B)) (dv++(pick pn e.2++l)) gr (JL ops e.1 Y)):gZ P n w0 R ops Q pn (r+1) B l H Y:=fun h1 h2 h3 h4 h5=>by
  simp only[O5,eu] at hc
  obtain ⟨c1,c2,c3⟩:=hc
  have F:=An.of rfl c1
  refine tz.step oE rfl c1 c2 h3 h5 fun e he=>?_
  have:=hs e he
  simp only[VR] at this
  refine SO.aev (fun o dv gr ho MQ hK=>?_) this
  have sB:JG ops e.1=false→∀t u,iF l t=some u→iF dv t=none:=fun GW t u hu=>by
    rcases MQ with rfl|⟨d,v,e1,rfl⟩
    · rfl
    · rw[pW]
      have:=fy.1 c3 e he
      simp only[GW,ho,e1,Bool.false_or] at this
      by_cases e2:d=t
      · subst e2;rw[hu] at this;cases this
      · rw[dp e2];rfl
  have Tn:∀q∈pn,iF dv q.2.1=none:=fun q hq=>by
    rcases MQ with rfl|⟨d,v,e1,rfl⟩
    · rfl
    · rw[pW,dp (fun e2=>F.dst e he o ho q hq (by rw[e1,e2]))];rfl
  have MC:∀(x y:Sl) t,iF x t=none→iF (x++y) t=iF y t:=fun x y t h=>by
    rcases MQ with _|_
    all_goals
      induction x with
      |nil=>rfl
      | cons z x ih=>
        rw[fp]
        obtain ⟨z1,z2⟩:=z
        rw[pW] at h ⊢
        by_cases e2:z1=t
        · rw[dx e2] at h;cases h
        · rw[dp e2] at h ⊢;exact ih h
  have s2:((pn.filter fun q=>!e.2.contains q.1).map fun q=>q.2.1).Nodup:=h2.sublist (List.Sublist.map _ List.filter_sublist)
  have s3:∀q∈pn.filter fun q=>!e.2.contains q.1,iF (dv++(lM pn e.2.contains++l)) q.2.1=none:=fun q hq=>by
    obtain ⟨rX,yn⟩:=fO.1 hq
    rw[MC _ _ _ (Tn q rX)]
    cases h9:iF (lM pn e.2.contains++l) q.2.1 with
    |none=>rfl
    | some v9=>
      exfalso
      rcases y6 h9 with ⟨x,hx,IV,aaV⟩|IV
      · have:x=q:=J7 h2 hx rX (by rw[aaV])
        subst this
        rw[IV] at yn;cases yn
      · rw[h3 q rX] at IV;cases IV
  refine hK (h1.sublist (List.Sublist.map _ List.filter_sublist)) s2 s3 fun q hq hy H=>?_
  cases GW:JG ops e.1 with
  |true=>unfold JL at hy;rw[GW] at hy;cases hy
  |false=>
  unfold JL at hy;rw[GW] at hy
  refine (h4 q (fO.1 hq).1 hy H).sub fun ks t u hu=>?_
  rcases y6 hu with ⟨x,hx,e1,e2⟩|hu
  · by_cases hc:e.2.contains x.1=true
    · refine AL s3 ?_
      rw[MC _ _ _ (by have:=Tn x hx;rw[e2] at this;exact this)]
      exact AK h2 hx hc e2
    · exact AK s2 (fO.2 ⟨hx,by rw[gx.2 hc];rfl⟩) e1 e2
  · refine AL s3 ?_
    rw[MC _ _ _ (sB GW t u hu)]
    exact AL h3 hu
theorem Xr (oF:Pn) (mK:Sl) (e1:pn=oF) (e2:l=mK) (hr:∀q∈oF.filter fun q=>!Y.contains q.1,QF P n w0 R ops Q oF mK H q) (h:gZ P n w0 R ops Q oF r B mK H Y):iX P n w0 R ops Q pn r B l H Y:=by
  subst e1;subst e2
  exact fun a b c d=>h a b c d fun q hq=>by
    cases hy:Y.contains q.1
    · exact hr q (fO.2 ⟨hq,by rw[hy];rfl⟩)
    · exact d q hq hy H
theorem az {i:Nat} {u:Value} (e:u=v) (h:gZ P n w0 R ops Q ((i,d,v)::pn) r B l H Y):gZ P n w0 R ops Q ((i,d,u)::pn) r B l H Y:=by subst e;exact h
theorem bR {i:Nat} {b:Bool} (h1:b=true→gZ P n w0 R ops Q ((i,d,.bool true)::pn) r B l H Y) (h2:b=false→gZ P n w0 R ops Q ((i,d,.bool false)::pn) r B l H Y):gZ P n w0 R ops Q ((i,d,.bool b)::pn) r B l H Y:=by
  cases b with
  |true=>exact h1 rfl
  |false=>exact h2 rfl
theorem aW {i:Nat} {p:Prop} [Decidable p] (h1:p→gZ P n w0 R ops Q ((i,d,.bool true)::pn) r B l H Y) (h2:¬p→gZ P n w0 R ops Q ((i,d,.bool false)::pn) r B l H Y):gZ P n w0 R ops Q ((i,d,.bool (decide p))::pn) r B l H Y:=
  bR (fun e=>h1 (eR e)) (fun e=>h2 (fV e))
end
section
variable {P:Program} {n:Nat} {w0:World} {R:List Ck} {Q:Exit→Act→World→Prop} {l:Sl} {H:List Ck} {ops:Array Oper} {rest:List Oper} {ty:TypeId} {pos:String} {gJ:Array Edge} {d:Nat} {op:Op}
theorem m_ {x:Operand} {v:Value} (hx:ev l x=some v) (hd:Nat.blt d n=true) (h:WL P n w0 R ops Q rest ((d,v)::l) H):WL P n w0 R ops Q (⟨some d,.move x,ty,pos,gJ,none⟩::rest) l H:=ae hd (Yd.move hx) h
theorem a_ {x:Operand} {v:Value} (hx:ev l x=some v) (hd:Nat.blt d n=true) (h:WL P n w0 R ops Q rest ((d,v)::l) H):WL P n w0 R ops Q (⟨some d,.assign x,ty,pos,gJ,none⟩::rest) l H:=ae hd (Yd.assign hx) h
theorem x_ {x:Operand} {i:Nat} {vs:Array Value} {v:Value} (hx:ev l x=some (.tuple vs)) (hv:vs[i]?=some v) (hd:Nat.blt d n=true) (h:WL P n w0 R ops Q rest ((d,v)::l) H):WL P n w0 R ops Q (⟨some d,.extract x i,ty,pos,gJ,none⟩::rest) l H:=ae hd (Yd.extract hx hv) h
theorem n_ {x:Operand} {p:Addr} (hx:ev l x=some (.pointer (some p))) (hd:Nat.blt d n=true) (h:WL P n w0 R ops Q rest ((d,.pointer (some p))::l) H):WL P n w0 R ops Q (⟨some d,.nilCheck x,ty,pos,gJ,none⟩::rest) l H:=ae hd (cC hx) h
theorem f_ (k:Nat) {x:Operand} {S f b o:Nat} (hf:AI P S f=some k) (hx:ev l x=some (.pointer (some ⟨b,o,none⟩))) (hd:Nat.blt d n=true) (h:WL P n w0 R ops Q rest ((d,.pointer (some ⟨b,o+k,none⟩))::l) H):
    WL P n w0 R ops Q (⟨some d,.fieldAddr S x f,ty,pos,gJ,none⟩::rest) l H:=ae hd (Yd.fieldAddr hf hx) h
theorem gn_ (dj:Nat) {j:Nat} {b oJ:Bool} (hj:(ops[j]?).bind (·.dst)=some dj) (hg:iF l dj=some (.bool oJ)) (hb:oJ=!b) (hd:Nat.blt d n=true) (h:WL P n w0 R ops Q rest ((d,undef)::l) H):
    WL P n w0 R ops Q (⟨some d,op,ty,pos,gJ,some (j,b)⟩::rest) l H:=WL.gn hj hg hb hd h
theorem gu_ (dj:Nat) {j:Nat} {b:Bool} (hj:(ops[j]?).bind (·.dst)=some dj) (hg:iF l dj=some undef) (hd:Nat.blt d n=true) (h:WL P n w0 R ops Q rest ((d,undef)::l) H):
    WL P n w0 R ops Q (⟨some d,op,ty,pos,gJ,some (j,b)⟩::rest) l H:=WL.gu hj hg hd h
theorem jx (dj:Nat) {j:Nat} {b:Bool} {v:Value} (hj:(ops[j]?).bind (·.dst)=some dj) (hg:iF l dj=some (.bool b)) (hd:Nat.blt d n=true) (hy:Yd P ⟨some d,op,ty,pos,gJ,some (j,b)⟩ l v) (h:WL P n w0 R ops Q rest ((d,v)::l) H):
    WL P n w0 R ops Q (⟨some d,op,ty,pos,gJ,some (j,b)⟩::rest) l H:=WL.gy hj hg hd hy h
theorem d_ {T:TypeId} {x:Operand} {b o:Nat} {cs:List Value} {gV:TypeId} {fr:Nat×Nat} {ex:Bool} {v:Value} (hT:sP P T=false) (hx:ev l x=some (.pointer (some ⟨b,o,none⟩)))
    (hm:(⟨b,.cells cs.toArray gV fr,ex⟩:Ck)∈H) (hc:cs[o]?=some v) (hd:Nat.blt d n=true) (h:WL P n w0 R ops Q rest ((d,v)::l) H):
    WL P n w0 R ops Q (⟨some d,.load T x,ty,pos,gJ,none⟩::rest) l H:=WL.h hd (ak hT hx hm hc ⟨_,rfl,h⟩)
theorem qb {y:Code} (h:WC P n w0 R Q y l H):WL P n w0 R ops (Exit.then (y.wp P Q) Q) [] l H:=WL.nil (ct h)
theorem gY {id:Nat} {os:List Oper} {y:Code} (h:WL P n w0 R os.toArray (Exit.then (y.wp P Q) Q) os l H):WC P n w0 R Q (.seq (.region id os.toArray false) y) l H:=WC.seq (WC.region h)
theorem E1 {id:Nat} {os:List Oper} {y:Code} (h:WL P n w0 R os.toArray (Exit.then (y.wp P Q) Q) os l H):WL P n w0 R ops (Exit.then ((Code.seq (.region id os.toArray false) y).wp P Q) Q) [] l H:=WL.nil (ct (WC.seq (WC.region h)))
end
end Go.SL
