/-
  Lemmas and walks that TopOne and TopSolo stands on (part 3); no condition.
-/
import Derived.Test.YtchdmlkiggdhaaaGreatTopB2
set_option linter.unusedVariables false
set_option linter.unusedSimpArgs false
namespace Go.SL
section
variable {P:Program} {n:Nat} {w0:World} {R:List Ck} {Q:Exit→Act→World→Prop} {l:Sl} {H:List Ck} {ops:Array Oper} {rest:List Oper} {ty:TypeId} {pos:String} {gJ:Array Edge} {d:Nat} {op:Op}
theorem xw {x:Ck} {H D:List Ck} (h:Fr H x D):x∈H:=h.p.symm.subset dy
structure l5 (ks:List Nat) (Z Y:Prop):Prop where
  f:Z→Y
section
variable {c k:Nat} {ks:List Nat} {Z Y Aq:Prop}
theorem r0_:l5 [] Y Y:=⟨id⟩
theorem rz_ (r:l5 ks Z Y):l5 (0::ks) Z Y:=⟨r.f⟩
theorem nP (h:Aq→Y) (r:l5 (c::ks) Z Aq):l5 ((c+1)::ks) Z Y:=⟨fun q=>h (r.f q)⟩
theorem rf_ {x:Operand} {S f b o:Nat} (hx:ev l x=some (.pointer (some ⟨b,o,none⟩))) (hd:Nat.blt d n=true) (hf:AI P S f=some k) (r:l5 ks Z (WL P n w0 R ops Q rest ((d,.pointer (some ⟨b,o+k,none⟩))::l) H)):
    l5 ((k+100)::ks) Z (WL P n w0 R ops Q (⟨some d,.fieldAddr S x f,ty,pos,gJ,none⟩::rest) l H):=⟨fun q=>f_ k hf hx hd (r.f q)⟩
theorem afy {x:Operand} {S f b o dj j:Nat} {t:Bool} (hj:(ops[j]?).bind (·.dst)=some dj) (hg:iF l dj=some (.bool t)) (hd:Nat.blt d n=true) (hx:ev l x=some (.pointer (some ⟨b,o,none⟩))) (hf:AI P S f=some k) (r:l5 ks Z (WL P n w0 R ops Q rest ((d,.pointer (some ⟨b,o+k,none⟩))::l) H)):
    l5 ((k+100)::ks) Z (WL P n w0 R ops Q (⟨some d,.fieldAddr S x f,ty,pos,gJ,some (j,t)⟩::rest) l H):=⟨fun q=>WL.gy hj hg hd (Yd.fieldAddr hf hx) (r.f q)⟩
theorem afE {t:Nat} {b:Bool} (ht:iF l t=some (.bool b)) (e:b=false) (r:l5 ks Z (WL P n w0 R ops Q rest ((t,.bool false)::l) H)):l5 ((t+1000)::ks) Z (WL P n w0 R ops Q rest l H):=⟨fun q=>af ht (congrArg Value.bool e) (r.f q)⟩
theorem afF {t:Nat} {b:Bool} (ht:iF l t=some (.bool b)) (e:b=true) (r:l5 ks Z (WL P n w0 R ops Q rest ((t,.bool true)::l) H)):l5 ((t+2000)::ks) Z (WL P n w0 R ops Q rest l H):=⟨fun q=>af ht (congrArg Value.bool e) (r.f q)⟩
theorem afr {id N:Nat} {os:Array Oper} (hN:os.size=N) (hm:P.follows .mixedOrders=true) (r:l5 ks Z (gZ P n w0 R os Q [] N [] l H [])):l5 ((N+500)::ks) Z (WC P n w0 R Q (.region id os true) l H):=⟨fun q=>WC.draw N hm hN (gZ.start hN (r.f q))⟩
theorem rd_ {T:TypeId} {x:Operand} {b o:Nat} {cs:List Value} {gV:TypeId} {fr:Nat×Nat} {ex:Bool} {v:Value} (hx:ev l x=some (.pointer (some ⟨b,o,none⟩))) (hd:Nat.blt d n=true) (hT:sP P T=false)
    (hm:(⟨b,.cells cs.toArray gV fr,ex⟩:Ck)∈H) (hc:cs[o]?=some v) (r:l5 (c::ks) Z (WL P n w0 R ops Q rest ((d,v)::l) H)):
    l5 ((c+1)::ks) Z (WL P n w0 R ops Q (⟨some d,.load T x,ty,pos,gJ,none⟩::rest) l H):=⟨fun q=>d_ hT hx hm hc hd (r.f q)⟩
theorem afx {T:TypeId} {x:Operand} {b o dj j:Nat} {t:Bool} {cs:List Value} {gV:TypeId} {fr:Nat×Nat} {ex:Bool} {v:Value} (hj:(ops[j]?).bind (·.dst)=some dj) (hg:iF l dj=some (.bool t)) (hx:ev l x=some (.pointer (some ⟨b,o,none⟩))) (hd:Nat.blt d n=true) (hT:sP P T=false)
    (hm:(⟨b,.cells cs.toArray gV fr,ex⟩:Ck)∈H) (hc:cs[o]?=some v) (r:l5 (c::ks) Z (WL P n w0 R ops Q rest ((d,v)::l) H)):
    l5 ((c+1)::ks) Z (WL P n w0 R ops Q (⟨some d,.load T x,ty,pos,gJ,some (j,t)⟩::rest) l H):=⟨fun q=>aS hj hg hd (ak hT hx hm hc ⟨_,rfl,r.f q⟩)⟩
theorem zY (k:Nat) {v:Value} (hd:Nat.blt d n=true) (hy:Yd P ⟨some d,op,ty,pos,gJ,none⟩ l v) (r:l5 ks Z (WL P n w0 R ops Q rest ((d,v)::l) H)):l5 (k::ks) Z (WL P n w0 R ops Q (⟨some d,op,ty,pos,gJ,none⟩::rest) l H):=⟨fun q=>ae hd hy (r.f q)⟩
theorem zU (k:Nat) {v:Value} {dj j:Nat} {t:Bool} (hj:(ops[j]?).bind (·.dst)=some dj) (hg:iF l dj=some (.bool t)) (hd:Nat.blt d n=true) (hy:Yd P ⟨some d,op,ty,pos,gJ,some (j,t)⟩ l v) (r:l5 ks Z (WL P n w0 R ops Q rest ((d,v)::l) H)):l5 (k::ks) Z (WL P n w0 R ops Q (⟨some d,op,ty,pos,gJ,some (j,t)⟩::rest) l H):=⟨fun q=>WL.gy hj hg hd hy (r.f q)⟩
theorem afG {T:TypeId} {x y:Operand} {b o:Nat} {cs iT:List Value} {gV:TypeId} {v:Value} {D:List Ck} (hx:ev l x=some (.pointer (some ⟨b,o,none⟩))) (hy:ev l y=some v) (hT:me P T=some 1)
    (h1:v.oneCell'=true) (hm:Fr H (row b cs gV) D) (hc:Nat.blt o cs.length=true) (he:cs.set o v=iT) (r:l5 (c::ks) Z (WL P n w0 R ops Q rest l (row b iT gV::D))):l5 ((c+1)::ks) Z (WL P n w0 R ops Q (⟨none,.store T x y,ty,pos,gJ,none⟩::rest) l H):=
  ⟨fun q=>WL.s (bg hT hx hy h1 hm hc he ⟨rfl,r.f q⟩)⟩
theorem afH {T:TypeId} {x y:Operand} {b:Nat} {cs vs:List Value} {gV:TypeId} {D:List Ck} (hx:ev l x=some (.pointer (some ⟨b,0,none⟩))) (hy:ev l y=some (.agg vs.toArray)) (hT:me P T=some k)
    (hn:vs.length=k) (h1:∀u∈vs,u.oneCell'=true) (hm:Fr H (row b cs gV) D) (hc:cs.length=k) (r:l5 ks Z (WL P n w0 R ops Q rest l (row b vs gV::D))):l5 ((k+300)::ks) Z (WL P n w0 R ops Q (⟨none,.store T x y,ty,pos,gJ,none⟩::rest) l H):=
  ⟨fun q=>WL.s (aH hT hx hy hn h1 hm hc ⟨rfl,r.f q⟩)⟩
theorem afB {T:TypeId} {x:Operand} {b:Nat} {cs:List Value} {gV:TypeId} {fr:Nat×Nat} {ex:Bool} (hx:ev l x=some (.pointer (some ⟨b,0,none⟩))) (hd:Nat.blt d n=true) (hT:tm P T k=true)
    (hm:(⟨b,.cells cs.toArray gV fr,ex⟩:Ck)∈H) (hn:cs.length=k) (r:l5 ks Z (WL P n w0 R ops Q rest ((d,.agg cs.toArray)::l) H)):l5 ((k+400)::ks) Z (WL P n w0 R ops Q (⟨some d,.load T x,ty,pos,gJ,none⟩::rest) l H):=⟨fun q=>WL.h hd (aF hT hx hm hn ⟨_,rfl,r.f q⟩)⟩
theorem afC {x:Operand} {T:TypeId} {e:TypeId} {ao:Option Addr} {m c:Nat} (hx:ev l x=some (.slice ao m c)) (hd:Nat.blt d n=true) (hT:lk P T=some e) (r:l5 ks Z (WL P n w0 R ops Q rest ((d,.int .i64 m)::l) H)):
    l5 (710::e::ks) Z (WL P n w0 R ops Q (⟨some d,.call ⟨.builtin .len,#[x],#[T]⟩,ty,pos,gJ,none⟩::rest) l H):=⟨fun q=>ae hd (Yd.len hT hx) (r.f q)⟩
theorem afz {x:Operand} {T:TypeId} {e:TypeId} {ao:Option Addr} {m c dj j:Nat} {t:Bool} (hj:(ops[j]?).bind (·.dst)=some dj) (hg:iF l dj=some (.bool t)) (hx:ev l x=some (.slice ao m c)) (hd:Nat.blt d n=true) (hT:lk P T=some e) (r:l5 ks Z (WL P n w0 R ops Q rest ((d,.int .i64 m)::l) H)):
    l5 (710::e::ks) Z (WL P n w0 R ops Q (⟨some d,.call ⟨.builtin .len,#[x],#[T]⟩,ty,pos,gJ,some (j,t)⟩::rest) l H):=⟨fun q=>WL.gy hj hg hd (Yd.len hT hx) (r.f q)⟩
theorem afA {x y:Operand} {T e s b o m c:Nat} {k1:IntKind} {i:Int} (hx:ev l x=some (.slice (some ⟨b,o,none⟩) m c)) (hy:ev l y=some (.int k1 i)) (hd:Nat.blt d n=true) (hT:lk P T=some e) (hs:me P e=some s) (h0:0≤i) (hm:i<m) (r:l5 ks Z (WL P n w0 R ops Q rest ((d,.pointer (some ⟨b,o+i.toNat*s,none⟩))::l) H)):
    l5 (711::e::s::ks) Z (WL P n w0 R ops Q (⟨some d,.indexAddr T x y,ty,pos,gJ,none⟩::rest) l H):=⟨fun q=>ae hd (Yd.indexAddr hT hs hx hy h0 hm) (r.f q)⟩
end
theorem g_ (ks:List Nat) {Z Y:Prop} (q:Z) (r:l5 ks Z Y:=by
  repeat (first
    |exact r0_
    |apply rz_
    |(apply afE rfl;focus first|with_reducible rfl|(refine decide_eq_false ?_;omega)|rfl|decide)
    |(apply afF rfl;focus first|with_reducible rfl|(refine fo ?_;omega)|rfl|decide)
    |apply nP (m_ rfl rfl)
    |apply nP (a_ rfl rfl)
    |(apply rf_ rfl rfl;focus kernel_rfl)
    |apply nP WL.nil
    |apply nP ct
    |apply nP WC.seq
    |apply nP WC.region
    |(apply afr;(focus rfl);(focus kernel_rfl))
    |apply nP (x_ rfl rfl rfl)
    |apply nP (n_ rfl rfl)
    |(apply afB rfl rfl;(focus kernel_rfl);(focus first|((repeat (first|exact dy|apply dt|apply dq));done)|(apply xw;(repeat (first|exact Fr.here|apply bE|apply bD|apply bC));done));(focus rfl))
    |(apply rd_ rfl rfl;(focus kernel_rfl);(focus first|((repeat (first|exact dy|apply dt|apply dq));done)|(apply xw;(repeat (first|exact Fr.here|apply bE|apply bD|apply bC));done));(focus rfl))
    |apply nP WC.skip
    |apply nP WC.ret
    |apply nP (WC.no rfl)
    |apply nP (WC.yes rfl)
    |apply nP DN.ahf
    |apply nP cY
    |apply nP DN.Y1
    |apply nP WC.block
    |apply nP WC.exit
    |apply nP DN.Y0
    |apply nP DN.ahe
    |apply nP (gn_ _ rfl rfl rfl rfl)
    |apply nP (gu_ _ rfl rfl rfl)
    |apply nP (jx _ rfl rfl rfl (Yd.move rfl))
    |(apply afy rfl rfl rfl rfl;focus kernel_rfl)
    |apply nP (ae rfl (cO rfl rfl))
    |apply nP (ae rfl (cK rfl rfl))
    |(apply afx rfl rfl rfl rfl;(focus kernel_rfl);(focus first|((repeat (first|exact dy|apply dt|apply dq));done)|(apply xw;(repeat (first|exact Fr.here|apply bE|apply bD|apply bC));done));(focus rfl))
    |(apply afH rfl rfl;(focus kernel_rfl);(focus rfl);(focus ((repeat (first|exact fun _ h=>absurd h ej|(refine List.forall_mem_cons.2 ⟨?_,?_⟩;(focus first|rfl|assumption))));done));(focus ((repeat (first|exact Fr.here|apply bE|apply bD|apply bC));done));(focus rfl))
    |(apply afG rfl rfl;(focus kernel_rfl);(focus rfl);(focus ((repeat (first|exact Fr.here|apply bE|apply bD|apply bC));done));(focus rfl);(focus first|(simp only[fC,ff,eV,fG,Nat.reduceAdd];rfl)|rfl))
    |(apply zY 701;(focus rfl);(focus exact Yd.eql rfl rfl))
    |(apply zU 701;(focus rfl);(focus rfl);(focus rfl);(focus exact Yd.eql rfl rfl))
    |(apply zY 702;(focus rfl);(focus exact Yd.neq rfl rfl))
    |(apply zU 702;(focus rfl);(focus rfl);(focus rfl);(focus exact Yd.neq rfl rfl))
    |(apply zY 705;(focus rfl);(focus exact Yd.lss rfl rfl))
    |(apply zU 705;(focus rfl);(focus rfl);(focus rfl);(focus exact Yd.lss rfl rfl))
    |(apply zY 706;(focus rfl);(focus exact Yd.leq rfl rfl))
    |(apply zU 706;(focus rfl);(focus rfl);(focus rfl);(focus exact Yd.leq rfl rfl))
    |(apply zY 707;(focus rfl);(focus exact Yd.gtr rfl rfl))
    |(apply zU 707;(focus rfl);(focus rfl);(focus rfl);(focus exact Yd.gtr rfl rfl))
    |(apply zY 708;(focus rfl);(focus exact Yd.geq rfl rfl))
    |(apply zU 708;(focus rfl);(focus rfl);(focus rfl);(focus exact Yd.geq rfl rfl))
    |(apply zY 709;(focus rfl);(focus exact Yd.J8 rfl))
    |(apply zU 709;(focus rfl);(focus rfl);(focus rfl);(focus exact Yd.J8 rfl))
    |(apply zY 703;(focus rfl);(focus (refine Yd.add rfl rfl ?_ ?_<;>omega)))
    |(apply zU 703;(focus rfl);(focus rfl);(focus rfl);(focus (refine Yd.add rfl rfl ?_ ?_<;>omega)))
    |(apply zY 704;(focus rfl);(focus (refine Yd.sub rfl rfl ?_ ?_<;>omega)))
    |(apply zU 704;(focus rfl);(focus rfl);(focus rfl);(focus (refine Yd.sub rfl rfl ?_ ?_<;>omega)))
    |(apply afC rfl rfl;(focus kernel_rfl))
    |(apply afz rfl rfl rfl rfl;(focus kernel_rfl))
    |(apply afA rfl rfl rfl;(focus kernel_rfl);(focus kernel_rfl);(focus omega);(focus omega))
    |apply nP (jx _ rfl rfl rfl (cO rfl rfl))
    |apply nP (jx _ rfl rfl rfl (cK rfl rfl))
    |apply nP (jx _ rfl rfl rfl (cC rfl)))):Y:=r.f q
inductive Kx:List Edge→List Nat→Prop
  |n:Kx [] []
  |t {a:Nat} {x:Departure} {es:List Edge} {ks:List Nat} (h:Kx es ks):Kx (⟨a,.textOnly x⟩::es) ks
  |g {a:Nat} {x:Departure} {es:List Edge} {ks:List Nat} (h:Kx es ks):Kx (⟨a,.gcOnly x⟩::es) ks
  |c {a:Nat} {x:Ground} {es:List Edge} {ks:List Nat} (h:Kx es ks):Kx (⟨a,x⟩::es) (a::ks)
structure Rw (L:List Nat) (Z X:Prop):Prop where
  f:Z→X
section
variable {pn:Pn} {r i k dj j:Nat} {B Y ks:List Nat} {es:List Edge} {t:Bool} {v:Value} {L:List Nat} {Z X:Prop} {g:Option (Nat×Bool)}
theorem w0_:Rw [] X X:=⟨id⟩
theorem aim (hi:ops[i]?=some ⟨some d,op,ty,pos,es.toArray,none⟩) (hk:Kx es ks) (hy:Yd P ⟨some d,op,ty,pos,es.toArray,none⟩ (pick pn ks++l) v) (hc:sn ops pn l n i d ks=true) (r9:Rw L Z (gZ P n w0 R ops Q ((i,d,v)::pn) r B l H (i::Y))):Rw (i::L) Z (gZ P n w0 R ops Q pn (r+1) B l H Y):=⟨fun q=>gW i ks hi hy hc (r9.f q)⟩
theorem Ae (k:Nat) (hi:ops[i]?=some ⟨some d,op,ty,pos,es.toArray,none⟩) (hk:Kx es ks) (hy:Yd P ⟨some d,op,ty,pos,es.toArray,none⟩ (pick pn ks++l) v) (hc:sn ops pn l n i d ks=true) (r9:Rw L Z (gZ P n w0 R ops Q ((i,d,v)::pn) r B l H (i::Y))):Rw (k::i::L) Z (gZ P n w0 R ops Q pn (r+1) B l H Y):=⟨fun q=>gW i ks hi hy hc (r9.f q)⟩
theorem ah9 {x:Operand} {S f b o:Nat} (hi:ops[i]?=some ⟨some d,.fieldAddr S x f,ty,pos,es.toArray,none⟩) (hf:AI P S f=some k) (hk:Kx es ks) (hx:ev (pick pn ks++l) x=some (.pointer (some ⟨b,o,none⟩))) (hc:sn ops pn l n i d ks=true)
    (r9:Rw L Z (gZ P n w0 R ops Q ((i,d,.pointer (some ⟨b,o+k,none⟩))::pn) r B l H (i::Y))):Rw ((k+1000)::i::L) Z (gZ P n w0 R ops Q pn (r+1) B l H Y):=⟨fun q=>gW i ks hi (Yd.fieldAddr hf hx) hc (r9.f q)⟩
theorem aia (hi:ops[i]?=some ⟨some d,op,ty,pos,es.toArray,some (j,t)⟩) (hk:Kx es ks) (hg:((ops[j]?).bind (·.dst),iF (pick pn ks++l) dj)=(some dj,some (.bool t))) (hy:Yd P ⟨some d,op,ty,pos,es.toArray,some (j,t)⟩ (pick pn ks++l) v) (hc:sn ops pn l n i d ks=true)
    (r9:Rw L Z (gZ P n w0 R ops Q ((i,d,v)::pn) r B l H (i::Y))):Rw (i::L) Z (gZ P n w0 R ops Q pn (r+1) B l H Y):=⟨fun q=>jP i ks dj hi hg hy hc (r9.f q)⟩
theorem Ad (k:Nat) (hi:ops[i]?=some ⟨some d,op,ty,pos,es.toArray,some (j,t)⟩) (hk:Kx es ks) (hg:((ops[j]?).bind (·.dst),iF (pick pn ks++l) dj)=(some dj,some (.bool t))) (hy:Yd P ⟨some d,op,ty,pos,es.toArray,some (j,t)⟩ (pick pn ks++l) v) (hc:sn ops pn l n i d ks=true)
    (r9:Rw L Z (gZ P n w0 R ops Q ((i,d,v)::pn) r B l H (i::Y))):Rw (k::i::L) Z (gZ P n w0 R ops Q pn (r+1) B l H Y):=⟨fun q=>jP i ks dj hi hg hy hc (r9.f q)⟩
theorem aib {x:Operand} {S f b o:Nat} (hi:ops[i]?=some ⟨some d,.fieldAddr S x f,ty,pos,es.toArray,some (j,t)⟩) (hf:AI P S f=some k) (hk:Kx es ks) (hg:((ops[j]?).bind (·.dst),iF (pick pn ks++l) dj)=(some dj,some (.bool t))) (hx:ev (pick pn ks++l) x=some (.pointer (some ⟨b,o,none⟩))) (hc:sn ops pn l n i d ks=true)
    (r9:Rw L Z (gZ P n w0 R ops Q ((i,d,.pointer (some ⟨b,o+k,none⟩))::pn) r B l H (i::Y))):Rw ((k+1000)::i::L) Z (gZ P n w0 R ops Q pn (r+1) B l H Y):=⟨fun q=>jP i ks dj hi hg (Yd.fieldAddr hf hx) hc (r9.f q)⟩
theorem aii (hi:ops[i]?=some ⟨some d,op,ty,pos,es.toArray,some (j,t)⟩) (hk:Kx es ks) (hg:((ops[j]?).bind (·.dst),iF (pick pn ks++l) dj)=(some dj,some (.bool (!t)))) (hc:sn ops pn l n i d ks=true) (r9:Rw L Z (gZ P n w0 R ops Q ((i,d,undef)::pn) r B l H (i::Y))):Rw (i::L) Z (gZ P n w0 R ops Q pn (r+1) B l H Y):=⟨fun q=>wn_ i ks dj hi hg hc (r9.f q)⟩
theorem ail (hi:ops[i]?=some ⟨some d,op,ty,pos,es.toArray,some (j,t)⟩) (hk:Kx es ks) (hg:((ops[j]?).bind (·.dst),iF (pick pn ks++l) dj)=(some dj,some undef)) (hc:sn ops pn l n i d ks=true) (r9:Rw L Z (gZ P n w0 R ops Q ((i,d,undef)::pn) r B l H (i::Y))):Rw (i::L) Z (gZ P n w0 R ops Q pn (r+1) B l H Y):=⟨fun q=>wu_ i ks dj hi hg hc (r9.f q)⟩
theorem aid {T:TypeId} {x:Operand} {b o:Nat} {cs:List Value} {gV:TypeId} {fr:Nat×Nat} {ex:Bool} (hi:ops[i]?=some ⟨some d,.load T x,ty,pos,es.toArray,none⟩) (hk:Kx es ks) (hx:ev (pick pn ks++l) x=some (.pointer (some ⟨b,o,none⟩))) (hT:sP P T=false) (hm:(⟨b,.cells cs.toArray gV fr,ex⟩:Ck)∈H) (hv:cs[o]?=some v)
    (h1:(Nat.blt d n&&ks.all fun k=>pI ops i k)=true) (h2:((pn.all fun q=>!(q.1==i)&&!(q.2.1==d))&&((iF l d).isNone&&!Y.contains i))=true) (r9:Rw L Z (gZ P n w0 R ops Q ((i,d,v)::pn) r B l H Y)):Rw (i::L) Z (gZ P n w0 R ops Q pn (r+1) B l H Y):=⟨fun q=>ny (iw ks hi (aw Wt.none (ab hT hx hm hv)) h1) h2 (r9.f q)⟩
theorem aif {T:TypeId} {x:Operand} {b o:Nat} {cs:List Value} {gV:TypeId} {fr:Nat×Nat} {ex:Bool} (hi:ops[i]?=some ⟨some d,.load T x,ty,pos,es.toArray,some (j,t)⟩) (hk:Kx es ks) (hj:(ops[j]?).bind (·.dst)=some dj) (hg:iF (pick pn ks++l) dj=some (.bool t)) (hx:ev (pick pn ks++l) x=some (.pointer (some ⟨b,o,none⟩))) (hT:sP P T=false) (hm:(⟨b,.cells cs.toArray gV fr,ex⟩:Ck)∈H) (hv:cs[o]?=some v)
    (h1:(Nat.blt d n&&ks.all fun k=>pI ops i k)=true) (h2:((pn.all fun q=>!(q.1==i)&&!(q.2.1==d))&&((iF l d).isNone&&!Y.contains i))=true) (r9:Rw L Z (gZ P n w0 R ops Q ((i,d,v)::pn) r B l H Y)):Rw (i::L) Z (gZ P n w0 R ops Q pn (r+1) B l H Y):=⟨fun q=>ny (iw ks hi (aw (aP hj hg) (ab hT hx hm hv)) h1) h2 (r9.f q)⟩
theorem aie {m:Nat} {T:TypeId} {x:Operand} {b:Nat} {cs:List Value} {gV:TypeId} {fr:Nat×Nat} {ex:Bool} (hi:ops[i]?=some ⟨some d,.load T x,ty,pos,es.toArray,none⟩) (hk:Kx es ks) (hx:ev (pick pn ks++l) x=some (.pointer (some ⟨b,0,none⟩))) (hT:tm P T m=true) (hm:(⟨b,.cells cs.toArray gV fr,ex⟩:Ck)∈H) (hv:cs.length=m)
    (h1:(Nat.blt d n&&ks.all fun k=>pI ops i k)=true) (h2:((pn.all fun q=>!(q.1==i)&&!(q.2.1==d))&&((iF l d).isNone&&!Y.contains i))=true) (r9:Rw L Z (gZ P n w0 R ops Q ((i,d,.agg cs.toArray)::pn) r B l H Y)):Rw ((m+2000)::i::L) Z (gZ P n w0 R ops Q pn (r+1) B l H Y):=⟨fun q=>ny (iw ks hi (aw Wt.none (aQ hT hx hm hv)) h1) h2 (r9.f q)⟩
theorem aih {x:Operand} {T:TypeId} {e:TypeId} {ao:Option Addr} {m c:Nat} (hi:ops[i]?=some ⟨some d,.call ⟨.builtin .len,#[x],#[T]⟩,ty,pos,es.toArray,none⟩) (hk:Kx es ks) (hx:ev (pick pn ks++l) x=some (.slice ao m c)) (hT:lk P T=some e) (hc:sn ops pn l n i d ks=true)
    (r9:Rw L Z (gZ P n w0 R ops Q ((i,d,.int .i64 m)::pn) r B l H (i::Y))):Rw ((e+3000)::i::L) Z (gZ P n w0 R ops Q pn (r+1) B l H Y):=⟨fun q=>gW i ks hi (Yd.len hT hx) hc (r9.f q)⟩
theorem aic {x:Operand} {T:TypeId} {e:TypeId} {ao:Option Addr} {m c:Nat} (hi:ops[i]?=some ⟨some d,.call ⟨.builtin .len,#[x],#[T]⟩,ty,pos,es.toArray,some (j,t)⟩) (hk:Kx es ks) (hg:((ops[j]?).bind (·.dst),iF (pick pn ks++l) dj)=(some dj,some (.bool t))) (hx:ev (pick pn ks++l) x=some (.slice ao m c)) (hT:lk P T=some e) (hc:sn ops pn l n i d ks=true)
    (r9:Rw L Z (gZ P n w0 R ops Q ((i,d,.int .i64 m)::pn) r B l H (i::Y))):Rw ((e+3000)::i::L) Z (gZ P n w0 R ops Q pn (r+1) B l H Y):=⟨fun q=>jP i ks dj hi hg (Yd.len hT hx) hc (r9.f q)⟩
theorem aij {b:Bool} (e:b=false) (r9:Rw L Z (gZ P n w0 R ops Q ((i,d,.bool false)::pn) r B l H Y)):Rw (9001::L) Z (gZ P n w0 R ops Q ((i,d,.bool b)::pn) r B l H Y):=⟨fun q=>az (congrArg Value.bool e) (r9.f q)⟩
theorem aik {b:Bool} (e:b=true) (r9:Rw L Z (gZ P n w0 R ops Q ((i,d,.bool true)::pn) r B l H Y)):Rw (9002::L) Z (gZ P n w0 R ops Q ((i,d,.bool b)::pn) r B l H Y):=⟨fun q=>az (congrArg Value.bool e) (r9.f q)⟩
theorem w_ (L:List Nat) {Z X:Prop} (q:Z) (r:Rw L Z X:=by
  repeat (first
    |exact w0_
    |(apply aij;(focus first|with_reducible rfl|(refine decide_eq_false ?_;omega)|rfl|decide))
    |(apply aik;(focus first|with_reducible rfl|(refine fo ?_;omega)|rfl|decide))
    |(apply aii;(focus rfl);(focus (repeat (first|exact Kx.n|apply Kx.t|apply Kx.g|apply Kx.c)));(focus rfl);(focus kernel_rfl))
    |(apply ail;(focus rfl);(focus (repeat (first|exact Kx.n|apply Kx.t|apply Kx.g|apply Kx.c)));(focus rfl);(focus kernel_rfl))
    |(apply ah9;(focus rfl);(focus kernel_rfl);(focus (repeat (first|exact Kx.n|apply Kx.t|apply Kx.g|apply Kx.c)));(focus rfl);(focus kernel_rfl))
    |(apply aie;(focus rfl);(focus (repeat (first|exact Kx.n|apply Kx.t|apply Kx.g|apply Kx.c)));(focus rfl);(focus kernel_rfl);(focus first|((repeat (first|exact dy|apply dt|apply dq));done)|(apply xw;(repeat (first|exact Fr.here|apply bE|apply bD|apply bC));done));(focus rfl);(focus kernel_rfl);(focus kernel_rfl))
    |(apply aid;(focus rfl);(focus (repeat (first|exact Kx.n|apply Kx.t|apply Kx.g|apply Kx.c)));(focus rfl);(focus kernel_rfl);(focus first|((repeat (first|exact dy|apply dt|apply dq));done)|(apply xw;(repeat (first|exact Fr.here|apply bE|apply bD|apply bC));done));(focus rfl);(focus kernel_rfl);(focus kernel_rfl))
    |(apply aim;(focus rfl);(focus (repeat (first|exact Kx.n|apply Kx.t|apply Kx.g|apply Kx.c)));(focus first|exact Yd.move rfl|exact cC rfl|exact Yd.assign rfl|exact Yd.extract rfl rfl|exact cO rfl rfl|exact cK rfl rfl);(focus kernel_rfl))
    |(apply aih;(focus rfl);(focus (repeat (first|exact Kx.n|apply Kx.t|apply Kx.g|apply Kx.c)));(focus rfl);(focus kernel_rfl);(focus kernel_rfl))
    |(apply aic;(focus rfl);(focus (repeat (first|exact Kx.n|apply Kx.t|apply Kx.g|apply Kx.c)));(focus rfl);(focus rfl);(focus kernel_rfl);(focus kernel_rfl))
    |(apply Ae 1001;(focus rfl);(focus (repeat (first|exact Kx.n|apply Kx.t|apply Kx.g|apply Kx.c)));(focus exact Yd.eql rfl rfl);(focus kernel_rfl))
    |(apply Ae 1002;(focus rfl);(focus (repeat (first|exact Kx.n|apply Kx.t|apply Kx.g|apply Kx.c)));(focus exact Yd.neq rfl rfl);(focus kernel_rfl))
    |(apply Ae 1003;(focus rfl);(focus (repeat (first|exact Kx.n|apply Kx.t|apply Kx.g|apply Kx.c)));(focus (refine Yd.add rfl rfl ?_ ?_<;>omega));(focus kernel_rfl))
    |(apply Ae 1004;(focus rfl);(focus (repeat (first|exact Kx.n|apply Kx.t|apply Kx.g|apply Kx.c)));(focus (refine Yd.sub rfl rfl ?_ ?_<;>omega));(focus kernel_rfl))
    |(apply Ae 1005;(focus rfl);(focus (repeat (first|exact Kx.n|apply Kx.t|apply Kx.g|apply Kx.c)));(focus exact Yd.lss rfl rfl);(focus kernel_rfl))
    |(apply Ae 1006;(focus rfl);(focus (repeat (first|exact Kx.n|apply Kx.t|apply Kx.g|apply Kx.c)));(focus exact Yd.leq rfl rfl);(focus kernel_rfl))
    |(apply Ae 1007;(focus rfl);(focus (repeat (first|exact Kx.n|apply Kx.t|apply Kx.g|apply Kx.c)));(focus exact Yd.gtr rfl rfl);(focus kernel_rfl))
    |(apply Ae 1008;(focus rfl);(focus (repeat (first|exact Kx.n|apply Kx.t|apply Kx.g|apply Kx.c)));(focus exact Yd.geq rfl rfl);(focus kernel_rfl))
    |(apply Ae 1009;(focus rfl);(focus (repeat (first|exact Kx.n|apply Kx.t|apply Kx.g|apply Kx.c)));(focus exact Yd.J8 rfl);(focus kernel_rfl))
    |(apply aib;(focus rfl);(focus kernel_rfl);(focus (repeat (first|exact Kx.n|apply Kx.t|apply Kx.g|apply Kx.c)));(focus rfl);(focus rfl);(focus kernel_rfl))
    |(apply aif;(focus rfl);(focus (repeat (first|exact Kx.n|apply Kx.t|apply Kx.g|apply Kx.c)));(focus rfl);(focus rfl);(focus rfl);(focus kernel_rfl);(focus first|((repeat (first|exact dy|apply dt|apply dq));done)|(apply xw;(repeat (first|exact Fr.here|apply bE|apply bD|apply bC));done));(focus rfl);(focus kernel_rfl);(focus kernel_rfl))
    |(apply aia;(focus rfl);(focus (repeat (first|exact Kx.n|apply Kx.t|apply Kx.g|apply Kx.c)));(focus rfl);(focus first|exact Yd.move rfl|exact cC rfl|exact Yd.assign rfl|exact Yd.extract rfl rfl|exact cO rfl rfl|exact cK rfl rfl);(focus kernel_rfl))
    |(apply Ad 1001;(focus rfl);(focus (repeat (first|exact Kx.n|apply Kx.t|apply Kx.g|apply Kx.c)));(focus rfl);(focus exact Yd.eql rfl rfl);(focus kernel_rfl))
    |(apply Ad 1002;(focus rfl);(focus (repeat (first|exact Kx.n|apply Kx.t|apply Kx.g|apply Kx.c)));(focus rfl);(focus exact Yd.neq rfl rfl);(focus kernel_rfl))
    |(apply Ad 1003;(focus rfl);(focus (repeat (first|exact Kx.n|apply Kx.t|apply Kx.g|apply Kx.c)));(focus rfl);(focus (refine Yd.add rfl rfl ?_ ?_<;>omega));(focus kernel_rfl))
    |(apply Ad 1004;(focus rfl);(focus (repeat (first|exact Kx.n|apply Kx.t|apply Kx.g|apply Kx.c)));(focus rfl);(focus (refine Yd.sub rfl rfl ?_ ?_<;>omega));(focus kernel_rfl))
    |(apply Ad 1005;(focus rfl);(focus (repeat (first|exact Kx.n|apply Kx.t|apply Kx.g|apply Kx.c)));(focus rfl);(focus exact Yd.lss rfl rfl);(focus kernel_rfl))
    |(apply Ad 1006;(focus rfl);(focus (repeat (first|exact Kx.n|apply Kx.t|apply Kx.g|apply Kx.c)));(focus rfl);(focus exact Yd.leq rfl rfl);(focus kernel_rfl))
    |(apply Ad 1007;(focus rfl);(focus (repeat (first|exact Kx.n|apply Kx.t|apply Kx.g|apply Kx.c)));(focus rfl);(focus exact Yd.gtr rfl rfl);(focus kernel_rfl))
    |(apply Ad 1008;(focus rfl);(focus (repeat (first|exact Kx.n|apply Kx.t|apply Kx.g|apply Kx.c)));(focus rfl);(focus exact Yd.geq rfl rfl);(focus kernel_rfl))
    |(apply Ad 1009;(focus rfl);(focus (repeat (first|exact Kx.n|apply Kx.t|apply Kx.g|apply Kx.c)));(focus rfl);(focus exact Yd.J8 rfl);(focus kernel_rfl)))):X:=r.f q
theorem agh:r5 []=[]:=rfl
theorem agi {mK:Sl} (h:r5 pn=mK):r5 ((i,d,v)::pn)=(d,v)::mK:=by rw[←h];rfl
theorem VT:pick [] ks=[]:=rfl
theorem VV {mK:Sl} (h:ks.contains i=true) (e:pick pn ks=mK):pick ((i,d,v)::pn) ks=(d,v)::mK:=by rw[←e,pick,h];rfl
theorem VU {mK:Sl} (h:ks.contains i=false) (e:pick pn ks=mK):pick ((i,d,v)::pn) ks=mK:=by rw[←e,pick,h];rfl
theorem Sd {p:Nat×Nat×Value→Bool}:([]:Pn).filter p=[]:=rfl
theorem Sj {p:Nat×Nat×Value→Bool} {a:Nat×Nat×Value} {oF:Pn} (h:p a=true) (e:pn.filter p=oF):(a::pn).filter p=a::oF:=by rw[ez h,e]
theorem Se {p:Nat×Nat×Value→Bool} {a:Nat×Nat×Value} {oF:Pn} (h:p a=false) (e:pn.filter p=oF):(a::pn).filter p=oF:=by rw[eI (by rw[h];decide),e]
theorem QM {a:Nat×Value} {x:Sl}:[a]++x=a::x:=rfl
theorem gM {lu:Sl} (h:DN P n w0 R Q .normal (lu++l) H) (hl:r5 pn=lu:=by repeat (first|exact agh|apply agi))
    (hc:(BX ops B (pn.map fun q=>(q.1,q.2.1)) []&&((List.range ops.size).all fun i=>B.contains i||(pn.map fun q=>(q.1,q.2.1)).any fun q=>q.1==i))=true:=by kernel_rfl):gZ P n w0 R ops Q pn r B l H Y:=wd_ lu hl hc h
theorem gD (j:Nat) {lu:Sl} (h:SO P n w0 R ops Q j (lu++l) H fun dv gr=>iX P n w0 R ops Q (pn.filter fun q=>!ks.contains q.1) r (j::((pn.map (·.1)).filter ks.contains++B)) (dv++(lu++l)) gr (JL ops j Y))
    (he:(ops[j]?).map (·.after)=some es.toArray:=by rfl) (hk:Kx es ks:=by (repeat (first|exact Kx.n|apply Kx.t|apply Kx.g|apply Kx.c)))
    (e:pick pn ks=lu:=by repeat (first|exact VT|(apply VV;(focus rfl))|(apply VU;(focus rfl)))) (hc:O5 ops B pn [(j,ks)] l=true:=by kernel_rfl):gZ P n w0 R ops Q pn (r+1) B l H Y:=pe [(j,ks)] hc (by subst e;exact ig h jl)
theorem kP {lu EX:Sl} {K:Sl→List Ck→Prop} (h:SO P n w0 R ops Q j (EX++l) H K) (e:lu=EX:=by repeat (first|exact VT|(apply VV;(focus rfl))|(apply VU;(focus rfl)))):SO P n w0 R ops Q j (lu++l) H K:=so_ EX e h
theorem gG {oF:Pn} {mK:Sl} (h:gZ P n w0 R ops Q oF r B mK H Y) (e1:pn=oF:=by repeat (first|exact Sd|(apply Sj;(focus rfl))|(apply Se;(focus rfl)))) (e2:l=mK:=by first|exact QM|exact Yr)
    (hr:∀q∈oF.filter fun q=>!Y.contains q.1,QF P n w0 R ops Q oF mK H q:=by exact jl):iX P n w0 R ops Q pn r B l H Y:=Xr oF mK e1 e2 hr h
theorem iS (zs:List Value) {T:TypeId} (h:∀b,WL P n w0 R ops Q rest ((d,.pointer (some ⟨b,0,none⟩))::l) (row b zs T::H)) (hz:zeroOf P T=some zs:=by kernel_rfl) (hd:Nat.blt d n=true:=by rfl):WL P n w0 R ops Q (⟨some d,.alloc T,ty,pos,gJ,none⟩::rest) l H:=WL.h hd (Hd.alloc hz fun b=>⟨_,rfl,h b⟩)
theorem iV {T:TypeId} {x:Operand} {vs:List Value} (h:∀b,WL P n w0 R ops Q rest ((d,.pointer (some ⟨b,0,none⟩))::l) (row b vs T::H)) (hx:ev l x=some (.agg vs.toArray):=by rfl) (hd:Nat.blt d n=true:=by rfl):WL P n w0 R ops Q (⟨some d,.box T x,ty,pos,gJ,none⟩::rest) l H:=WL.h hd (cH hx fun b=>⟨_,rfl,h b⟩)
theorem gK {x y:Code} {c:Operand} {p:Prop} [Decidable p] (hc:ev l c=some (.bool (decide p))) (ht:p→WC P n w0 R Q x l H) (hf:¬p→WC P n w0 R Q y l H):WC P n w0 R Q (.cond c x y) l H:=WC.ite hc ht hf
theorem nQ (zs:List Value) {lu:Sl} {K:Sl→List Ck→Prop} {T:TypeId} (h:∀b,K [(d,.pointer (some ⟨b,0,none⟩))] (row b zs T::H)) (hi:ops[j]?=some ⟨some d,.alloc T,ty,pos,gJ,none⟩:=by rfl) (hz:zeroOf P T=some zs:=by kernel_rfl) (hd:Nat.blt d n=true:=by rfl):SO P n w0 R ops Q j lu H K:=SO.h hi Wt.none hd (Hd.alloc hz fun b=>⟨_,rfl,h b⟩)
theorem jm {lu:Sl} {K:Sl→List Ck→Prop} {x:Operand} {v:Value} (h:K [(d,v)] H) (hi:ops[j]?=some ⟨some d,.assign x,ty,pos,gJ,none⟩:=by rfl) (hx:ev lu x=some v:=by rfl) (hd:Nat.blt d n=true:=by rfl):SO P n w0 R ops Q j lu H K:=SO.y hi Wt.none hd (Yd.assign hx) h
theorem jT (m:Nat) {lu:Sl} {K:Sl→List Ck→Prop} {T:TypeId} {x y:Operand} {b:Nat} {cs vs:List Value} {gV:TypeId} {D:List Ck} (h:K [] (row b vs gV::D)) (hi:ops[j]?=some ⟨none,.store T x y,ty,pos,gJ,none⟩:=by rfl) (hx:ev lu x=some (.pointer (some ⟨b,0,none⟩)):=by rfl) (hy:ev lu y=some (.agg vs.toArray):=by rfl) (hT:me P T=some m:=by kernel_rfl)
    (hn:vs.length=m:=by rfl) (h1:∀u∈vs,u.oneCell'=true:=by repeat (first|exact fun _ h=>absurd h ej|(refine List.forall_mem_cons.2 ⟨?_,?_⟩;(focus first|rfl|assumption)))) (hm:Fr H (row b cs gV) D:=by repeat (first|exact Fr.here|apply bE|apply bD|apply bC)) (hc:cs.length=m:=by rfl):SO P n w0 R ops Q j lu H K:=
  SO.s hi Wt.none (aH hT hx hy hn h1 hm hc ⟨rfl,h⟩)
end
abbrev iP:List Value:=[.int .i64 0,.int .u32 0,.int .u32 0,.int .u64 0,.int .u64 0,.int .u32 0,.int .i64 0,.bool false,.int .i64 0,.slice none 0 0,.slice none 0 0]
abbrev kz:List (Nat×Nat):=[(0,1),(1,1),(2,1),(3,1),(4,1),(5,1),(6,1),(7,1),(8,1),(9,1),(10,1)]
abbrev lh:List Value:=[.int .i64 0,.int .u64 0,.int .u32 0,.int .u32 0,.int .i64 0,.bool false,.int .i64 0,.int .i64 0,.int .u64 0,.slice none 0 0,.slice none 0 0]
abbrev lG:List Value:=[.int .u32 0,.int .i64 0,.bool false,.slice none 0 0,.int .i64 0,.slice none 0 0]
abbrev pE:List (Nat×Nat):=[(0,1),(1,1),(2,1),(3,1),(4,1),(5,1)]
abbrev rG:List Value:=[.int .u32 0,.int .i64 0,.int .u64 0,.int .i64 0]
abbrev tw:List Value:=[.int .i64 0,.int .i64 0,.int .i64 0,.bool false,.int .i64 0,.bool false,.int .i64 0]
abbrev vy:List Value:=[.int .i64 0,.int .i64 0,.slice none 0 0,.int .i64 0,.int .i64 0,.bool false]
abbrev xD:List Value:=[.int .u32 0,.slice none 0 0,.slice none 0 0,.int .i64 0,.int .i64 0,.int .i64 0,.bool false,.int .i64 0,.bool false,.int .i64 0,.bool false]
abbrev Ag:List Value:=[.int .u32 0,.slice none 0 0,.slice none 0 0,.int .i64 0,.int .i64 0,.int .i64 0,.bool false,.int .i64 0,.bool false,.int .i64 0]
theorem afR {C:List Ck}:∀y,y∈C→y∈C:=fun _ h=>h
theorem afS {C D:List Ck}:∀y,y∈C→y∈C++D:=fun _ h=>dw _ h
theorem afT {A C D:List Ck}:∀y,y∈C→y∈(A++C)++D:=fun _ h=>dw _ (dq _ h)
theorem afW {A C:List Ck}:∀y,y∈C→y∈A++C:=fun _ h=>dq _ h
theorem afU {x:Ck} {C D:List Ck} (h:∀y,y∈C→y∈D):∀y,y∈C→y∈x::D:=fun y m=>dt _ (h y m)
theorem afV {A C D:List Ck} (h:∀y,y∈C→y∈D):∀y,y∈C→y∈A++D:=fun y m=>dq _ (h y m)
theorem ib {x:Ck} {C H:List Ck} (h:x∈C) (i:∀y,y∈C→y∈H:=by repeat (first|exact afR|exact afS|exact afT|exact afW|apply afU|apply afV)):x∈H:=i x h
theorem kl (t:Nat) {p:Prop} {ip:Decidable p} (ht:iF l t=some (.bool (decide p))) (h:p) (q:WL P n w0 R ops Q rest ((t,.bool true)::l) H):WL P n w0 R ops Q rest l H:=af ht (congrArg Value.bool (fo h)) q
theorem j8 (t:Nat) {p:Prop} {ip:Decidable p} (ht:iF l t=some (.bool (decide p))) (h:¬p) (q:WL P n w0 R ops Q rest ((t,.bool false)::l) H):WL P n w0 R ops Q rest l H:=af ht (congrArg Value.bool (decide_eq_false h)) q
section
variable {es:List Edge} {pn oF:Pn} {r i dj j:Nat} {B Y ks:List Nat} {t:Bool} {v:Value} {g:Option (Nat×Bool)} {lu mK:Sl} {K:Sl→List Ck→Prop} {T:TypeId} {x:Operand} {b o:Nat} {cs:List Value} {gV:TypeId} {fr:Nat×Nat} {ex:Bool}
theorem qf {p:Prop} {ip:Decidable p} (h:p) (q:gZ P n w0 R ops Q ((i,d,.bool true)::pn) r B l H Y):gZ P n w0 R ops Q ((i,d,.bool (decide p))::pn) r B l H Y:=az (congrArg Value.bool (fo h)) q
theorem lL {p:Prop} {ip:Decidable p} (h:¬p) (q:gZ P n w0 R ops Q ((i,d,.bool false)::pn) r B l H Y):gZ P n w0 R ops Q ((i,d,.bool (decide p))::pn) r B l H Y:=az (congrArg Value.bool (decide_eq_false h)) q
theorem c_ {f:FuncId} {xs:List Operand} {qz:Array TypeId} {vs:List Value} {C D:List Ck} {jE:Value→List Ck→Prop} (hc:∀(args:Array Value) (w:World),(callFunc f args).run P w=.ok (.enter f args) w) (hv:rN l xs=some vs) (hs:gC P f vs C jE)
    (h:∀v gP,jE v gP→WL P n w0 R ops Q rest ((d,v)::l) (gP++D)) (hH:Sp H C D:=by repeat (first|exact Sp.here|exact ax|exact Sp.s0|exact Fr.here|apply Sp.s2|apply Sp.sx|apply bE|apply bD|apply bC|apply Sp.sc|apply Sp.al|apply Sp.sa)) (hd:Nat.blt d n=true:=by rfl):WL P n w0 R ops Q (⟨some d,.call ⟨.value (.func f),xs.toArray,qz⟩,ty,pos,gJ,none⟩::rest) l H:=WL.c hd (iE.func hc hv) hs hH.p h
theorem iG {f:FuncId} {xs:List Operand} {qz:Array TypeId} {vs:List Value} (hc:∀(args:Array Value) (w:World),(callFunc f args).run P w=.ok (.enter f args) w) (hv:rN l xs=some vs) (hs:Reads P f vs H v)
    (h:WL P n w0 R ops Q rest ((d,v)::l) H) (hd:Nat.blt d n=true:=by rfl):WL P n w0 R ops Q (⟨some d,.call ⟨.value (.func f),xs.toArray,qz⟩,ty,pos,gJ,none⟩::rest) l H:=WL.r hd (iE.func hc hv) hs h
theorem jv {f:FuncId} {xs:List Operand} {qz:Array TypeId} {vs:List Value} {C D:List Ck} (hc:∀(args:Array Value) (w:World),(callFunc f args).run P w=.ok (.enter f args) w) (hv:rN l xs=some vs) (hs:Reads P f vs C v)
    (h:WL P n w0 R ops Q rest ((d,v)::l) H) (hH:Sp H C D:=by repeat (first|exact Sp.here|exact ax|exact Sp.s0|exact Fr.here|apply Sp.s2|apply Sp.sx|apply bE|apply bD|apply bC|apply Sp.sc|apply Sp.al|apply Sp.sa)) (hd:Nat.blt d n=true:=by rfl):WL P n w0 R ops Q (⟨some d,.call ⟨.value (.func f),xs.toArray,qz⟩,ty,pos,gJ,none⟩::rest) l H:=WL.rf hd (iE.func hc hv) hs hH h
theorem iI {f:FuncId} {xs:List Operand} {qz:Array TypeId} {vs:List Value} {C D:List Ck} {jE:Value→List Ck→Prop} (hi:ops[j]?=some ⟨some d,.call ⟨.value (.func f),xs.toArray,qz⟩,ty,pos,gJ,none⟩) (hc:∀(args:Array Value) (w:World),(callFunc f args).run P w=.ok (.enter f args) w) (hv:rN lu xs=some vs) (hs:gC P f vs C jE)
    (h:∀v gP,jE v gP→K [(d,v)] (gP++D)) (hH:Sp H C D:=by repeat (first|exact Sp.here|exact ax|exact Sp.s0|exact Fr.here|apply Sp.s2|apply Sp.sx|apply bE|apply bD|apply bC|apply Sp.sc|apply Sp.al|apply Sp.sa)) (hd:Nat.blt d n=true:=by rfl):SO P n w0 R ops Q j lu H K:=SO.c hi Wt.none hd (iE.func hc hv) hs hH.p h
theorem l1_ (cs:List Value) {jR:Option Nat} (hx:ev l x=some (.pointer (some ⟨b,o,none⟩)):=by rfl) (hT:sP P T=false:=by kernel_rfl) (hm:(⟨b,.cells cs.toArray gV fr,ex⟩:Ck)∈H:=by first|((repeat (first|exact dy|apply dt|apply dq));done)|(apply xw;(repeat (first|exact Fr.here|apply bE|apply bD|apply bC));done)) (hc:cs[o]?=some v:=by rfl):Rd P ⟨jR,.load T x,ty,pos,gJ,g⟩ l H v:=ab hT hx hm hc
theorem UZ (cs:List Value) (h:WL P n w0 R ops Q rest ((d,v)::l) H) (hx:ev l x=some (.pointer (some ⟨b,o,none⟩)):=by rfl) (hT:sP P T=false:=by kernel_rfl) (hm:(⟨b,.cells cs.toArray gV fr,ex⟩:Ck)∈H:=by first|((repeat (first|exact dy|apply dt|apply dq));done)|(apply xw;(repeat (first|exact Fr.here|apply bE|apply bD|apply bC));done)) (hc:cs[o]?=some v:=by rfl) (hd:Nat.blt d n=true:=by rfl):
    WL P n w0 R ops Q (⟨some d,.load T x,ty,pos,gJ,none⟩::rest) l H:=WL.h hd (ak hT hx hm hc ⟨_,rfl,h⟩)
theorem iD (i:Nat) (ks:List Nat) (hi:ops[i]?=some ⟨some d,op,ty,pos,gJ,none⟩) (hr:Rd P ⟨some d,op,ty,pos,gJ,none⟩ (pick pn ks++l) H v) (q:gZ P n w0 R ops Q ((i,d,v)::pn) r B l H Y)
    (h1:(Nat.blt d n&&ks.all fun k=>pI ops i k)=true:=by kernel_rfl) (h2:((pn.all fun q=>!(q.1==i)&&!(q.2.1==d))&&((iF l d).isNone&&!Y.contains i))=true:=by kernel_rfl):gZ P n w0 R ops Q pn (r+1) B l H Y:=ny (iw ks hi (aw Wt.none hr) h1) h2 q
theorem ki (i:Nat) (ks:List Nat) (dj:Nat) (hi:ops[i]?=some ⟨some d,op,ty,pos,gJ,some (j,t)⟩) (hj:(ops[j]?).bind (·.dst)=some dj) (hg:iF (pick pn ks++l) dj=some (.bool t)) (hr:Rd P ⟨some d,op,ty,pos,gJ,some (j,t)⟩ (pick pn ks++l) H v) (q:gZ P n w0 R ops Q ((i,d,v)::pn) r B l H Y)
    (h1:(Nat.blt d n&&ks.all fun k=>pI ops i k)=true:=by kernel_rfl) (h2:((pn.all fun q=>!(q.1==i)&&!(q.2.1==d))&&((iF l d).isNone&&!Y.contains i))=true:=by kernel_rfl):gZ P n w0 R ops Q pn (r+1) B l H Y:=ny (iw ks hi (aw (aP hj hg) hr) h1) h2 q
theorem jy (i:Nat) (ks:List Nat) {f:FuncId} {xs:List Operand} {qz:Array TypeId} {vs:List Value} {C D:List Ck} (hi:ops[i]?=some ⟨some d,.call ⟨.value (.func f),xs.toArray,qz⟩,ty,pos,gJ,none⟩) (hc:∀(args:Array Value) (w:World),(callFunc f args).run P w=.ok (.enter f args) w) (hv:rN (pick pn ks++l) xs=some vs) (hs:Reads P f vs C v) (hH:Sp H C D) (q:gZ P n w0 R ops Q ((i,d,v)::pn) r B l H Y)
    (h1:(Nat.blt d n&&ks.all fun k=>pI ops i k)=true:=by kernel_rfl) (h2:((pn.all fun q=>!(q.1==i)&&!(q.2.1==d))&&((iF l d).isNone&&!Y.contains i))=true:=by kernel_rfl):gZ P n w0 R ops Q pn (r+1) B l H Y:=ny (iw ks hi (aO Wt.none (iE.func hc hv) hs hH) h1) h2 q
structure Kq (L:List Nat) (A:Pn) (p:Nat×Nat×Value→Prop):Prop where
  f:∀q∈A,p q
theorem adN {L:List Nat} {A:Pn} {a:Nat×Nat×Value} {p:Nat×Nat×Value→Bool} {X:Nat×Nat×Value→Prop} (e:p a=false) (q:Kq L (A.filter p) X):Kq L ((a::A).filter p) X:=⟨by rw[eI (by rw[e];decide)];exact q.f⟩
theorem adM {p:Nat×Nat×Value→Bool} {X:Nat×Nat×Value→Prop}:Kq [] (([]:Pn).filter p) X:=⟨jl⟩
theorem adO {L:List Nat} {A:Pn} {a:Nat×Nat×Value} {c:Nat} {p:Nat×Nat×Value→Bool} {X:Nat×Nat×Value→Prop} (e:p a=true) (h:X a) (q:Kq L (A.filter p) X):Kq (c::L) ((a::A).filter p) X:=⟨by rw[ez e];exact ig h q.f⟩
structure Kc (c:Nat) (X:Prop):Prop where
  f:X
theorem adk (hi:ops[i]?=some ⟨some d,.load T x,ty,pos,es.toArray,none⟩) (hk:Kx es ks) (hx:ev (pick pn ks++l) x=some (.pointer (some ⟨b,o,none⟩))) (hT:sP P T=false) (hm:(⟨b,.cells cs.toArray gV fr,ex⟩:Ck)∈H) (hc:cs[o]?=some v) (h1:(Nat.blt d n&&ks.all fun k=>pI ops i k)=true):Kc 0 (QF P n w0 R ops Q pn l H (i,d,v)):=⟨iw ks hi (aw Wt.none (ab hT hx hm hc)) h1⟩
theorem adl (hi:ops[i]?=some ⟨some d,.load T x,ty,pos,es.toArray,some (j,t)⟩) (hk:Kx es ks) (hj:(ops[j]?).bind (·.dst)=some dj) (hg:iF (pick pn ks++l) dj=some (.bool t)) (hx:ev (pick pn ks++l) x=some (.pointer (some ⟨b,o,none⟩))) (hT:sP P T=false) (hm:(⟨b,.cells cs.toArray gV fr,ex⟩:Ck)∈H) (hc:cs[o]?=some v) (h1:(Nat.blt d n&&ks.all fun k=>pI ops i k)=true):Kc 0 (QF P n w0 R ops Q pn l H (i,d,v)):=⟨iw ks hi (aw (aP hj hg) (ab hT hx hm hc)) h1⟩
theorem adm {k:Nat} (hi:ops[i]?=some ⟨some d,.load T x,ty,pos,es.toArray,none⟩) (hk:Kx es ks) (hx:ev (pick pn ks++l) x=some (.pointer (some ⟨b,0,none⟩))) (hT:tm P T k=true) (hm:(⟨b,.cells cs.toArray gV fr,ex⟩:Ck)∈H) (hc:cs.length=k) (h1:(Nat.blt d n&&ks.all fun k=>pI ops i k)=true):Kc (k+100) (QF P n w0 R ops Q pn l H (i,d,.agg cs.toArray)):=⟨iw ks hi (aw Wt.none (aQ hT hx hm hc)) h1⟩
theorem adn {k S f:Nat} (hi:ops[i]?=some ⟨some d,.fieldAddr S x f,ty,pos,es.toArray,none⟩) (hk:Kx es ks) (hf:AI P S f=some k) (hx:ev (pick pn ks++l) x=some (.pointer (some ⟨b,o,none⟩))) (h1:(Nat.blt d n&&ks.all fun k=>pI ops i k)=true):Kc (k+1000) (QF P n w0 R ops Q pn l H (i,d,.pointer (some ⟨b,o+k,none⟩))):=⟨iw ks hi (qU.y Wt.none (Yd.fieldAddr hf hx)) h1⟩
theorem ado (hi:ops[i]?=some ⟨some d,.move x,ty,pos,es.toArray,none⟩) (hk:Kx es ks) (hx:ev (pick pn ks++l) x=some v) (h1:(Nat.blt d n&&ks.all fun k=>pI ops i k)=true):Kc 1 (QF P n w0 R ops Q pn l H (i,d,v)):=⟨iw ks hi (qU.y Wt.none (Yd.move hx)) h1⟩
theorem adp {parts:List (Nat×Operand)} {cells:List Value} (hi:ops[i]?=some ⟨some d,.build T parts.toArray,ty,pos,es.toArray,none⟩) (hk:Kx es ks) (hP:placesOf P T=some kz) (hz:zeroOf P T=some iP)
    (hp:(parts.map fun p=>(ev (pick pn ks++l) p.2).map fun v=>(p.1,v))=(parts.filterMap fun p=>(ev (pick pn ks++l) p.2).map fun v=>(p.1,v)).map some)
    (hf:D6 kz iP (parts.filterMap fun p=>(ev (pick pn ks++l) p.2).map fun v=>(p.1,v))=some cells) (h1:(Nat.blt d n&&ks.all fun k=>pI ops i k)=true):Kc 2 (QF P n w0 R ops Q pn l H (i,d,.agg cells.toArray)):=⟨iw ks hi (qU.y Wt.none (aj hP hz hp hf)) h1⟩
theorem adL {L:List Nat} {A:Pn} {a:Nat×Nat×Value} {c:Nat} {p:Nat×Nat×Value→Bool} {X:Nat×Nat×Value→Prop} (e:p a=true) (h:Kc c (X a)) (q:Kq L (A.filter p) X):Kq (c::L) ((a::A).filter p) X:=adO e h.f q
theorem iO (L:List Nat) (h:gZ P n w0 R ops Q oF r B mK H Y) (e1:pn=oF:=by repeat (first|exact Sd|(apply Sj;(focus rfl))|(apply Se;(focus rfl)))) (e2:l=mK:=by first|exact QM|exact Yr)
    (hr :Kq L (oF.filter fun q=>!Y.contains q.1) (QF P n w0 R ops Q oF mK H):=by
      repeat (first
        |exact adM
        |(apply adN;focus rfl)
        |(apply adL;(focus rfl);(focus first
            |(apply adp;(focus rfl);(focus (repeat (first|exact Kx.n|apply Kx.t|apply Kx.g|apply Kx.c)));(focus kernel_rfl);(focus kernel_rfl);(focus rfl);(focus rfl);(focus kernel_rfl))
            |(apply ado;(focus rfl);(focus (repeat (first|exact Kx.n|apply Kx.t|apply Kx.g|apply Kx.c)));(focus rfl);(focus kernel_rfl))
            |(apply adn;(focus rfl);(focus (repeat (first|exact Kx.n|apply Kx.t|apply Kx.g|apply Kx.c)));(focus kernel_rfl);(focus rfl);(focus kernel_rfl))
            |(apply adm;(focus rfl);(focus (repeat (first|exact Kx.n|apply Kx.t|apply Kx.g|apply Kx.c)));(focus rfl);(focus kernel_rfl);(focus first|((repeat (first|exact dy|apply dt|apply dq));done)|(apply xw;(repeat (first|exact Fr.here|apply bE|apply bD|apply bC));done));(focus rfl);(focus kernel_rfl))
            |(apply adk;(focus rfl);(focus (repeat (first|exact Kx.n|apply Kx.t|apply Kx.g|apply Kx.c)));(focus rfl);(focus kernel_rfl);(focus first|((repeat (first|exact dy|apply dt|apply dq));done)|(apply xw;(repeat (first|exact Fr.here|apply bE|apply bD|apply bC));done));(focus rfl);(focus kernel_rfl))
            |(apply adl;(focus rfl);(focus (repeat (first|exact Kx.n|apply Kx.t|apply Kx.g|apply Kx.c)));(focus rfl);(focus rfl);(focus rfl);(focus kernel_rfl);(focus first|((repeat (first|exact dy|apply dt|apply dq));done)|(apply xw;(repeat (first|exact Fr.here|apply bE|apply bD|apply bC));done));(focus rfl);(focus kernel_rfl)))))):iX P n w0 R ops Q pn r B l H Y:=Xr oF mK e1 e2 hr.f h
theorem gH {e:Exit} (C:List Ck) {D:List Ck} (k:DN P n w0 R Q e l C) (h:Sp H C D:=by repeat (first|exact Sp.here|exact ax|exact Sp.s0|exact Fr.here|apply Sp.s2|apply Sp.sx|apply bE|apply bD|apply bC|apply Sp.sc|apply Sp.al|apply Sp.sa)):DN P n w0 R Q e l H:=DN.fit h k
theorem kJ (pl:List (Nat×Nat)) (zs:List Value) (h:WL P n w0 R ops Q rest ((d,.agg zs.toArray)::l) H) (hP:placesOf P T=some pl:=by kernel_rfl) (hz:zeroOf P T=some zs:=by kernel_rfl) (hd:Nat.blt d n=true:=by rfl):WL P n w0 R ops Q (⟨some d,.build T #[],ty,pos,gJ,none⟩::rest) l H:=ae hd (aj (parts:=[]) (vs:=[]) hP hz rfl rfl) h
end
end
section
variable {α:Type}
structure Rec (α:Type) where
  s:Nat
  at_:List Ck→List Value→α→Prop
  len:∀{H c a},at_ H c a→c.length=s
  mono:∀{A B:List Ck} {c a},at_ A c a→(∀x∈A,x∈B)→at_ B c a
inductive VL (E:Rec α) (H:List Ck):List Value→List α→Prop
  |nil:VL E H [] []
  |cons {c cs:List Value} {a:α} {l:List α}:E.at_ H c a→VL E H cs l→VL E H (c++cs) (a::l)
theorem VL.len {E:Rec α} {H:List Ck} {cs:List Value} {l:List α} (h:VL E H cs l):cs.length=l.length*E.s:=by
  induction h with
  |nil=>simp
  |cons h1 _ ih=>rw[dr,E.len h1,ih,dF,fZ];omega
theorem VL.mono {E:Rec α} {A B:List Ck} {cs:List Value} {l:List α} (h:VL E A cs l) (s:∀c∈A,c∈B):VL E B cs l:=by
  induction h with
  |nil=>exact .nil
  |cons h1 _ ih=>exact .cons (E.mono h1 s) ih
theorem VL.at {E:Rec α} {H:List Ck} {cs:List Value} {l:List α} (h:VL E H cs l):∀(i:Nat) (hi:i<l.length),∃c,(cs.drop (i*E.s)).take E.s=c∧E.at_ H c l[i]:=by
  induction h with
  |nil=>intro i hi;simp at hi
  | @cons c cs a l h1 h2 ih=>
    intro i hi
    cases i with
    |zero=>exact ⟨c,by rw[Nat.zero_mul,List.drop_zero,←E.len h1,List.take_left],h1⟩
    | succ i=>
      obtain ⟨tC,g1,g2⟩:=ih i (by simpa using hi)
      refine ⟨tC,?_,g2⟩
      rw[show (i+1)*E.s=c.length+i*E.s by rw[E.len h1,fZ];omega,fH]
      exact g1
theorem VL.append {E:Rec α} {H:List Ck} {cs iT:List Value} {l mK:List α} (h:VL E H cs l) (k:VL E H iT mK):VL E H (cs++iT) (l++mK):=by
  induction h with
  |nil=>exact k
  |cons h1 _ ih=>rw[dD];exact .cons h1 ih
theorem VL.one {E:Rec α} {H:List Ck} {c:List Value} {a:α} (h:E.at_ H c a):VL E H c [a]:=by
  have:=VL.cons h (VL.nil (E:=E) (H:=H))
  rwa [eF] at this
def VS (E:Rec α) (v:Value) (l:List α) (H:List Ck):Prop:=∃cs,Rs v l.length cs H∧VL E H cs l
theorem VS.mono {E:Rec α} {v:Value} {l:List α} {A B:List Ck} (h:VS E v l A) (s:∀c∈A,c∈B):VS E v l B:=by
  obtain ⟨cs,h1,h2⟩:=h
  exact ⟨cs,h1.mono s,h2.mono s⟩
theorem VS.form {E:Rec α} {v:Value} {l:List α} {A:List Ck} (h:VS E v l A):∃ao cap,v=.slice ao l.length cap∧l.length≤cap:=by
  obtain ⟨cs,h1,_⟩:=h
  exact h1.form
theorem VS.cell {E:Rec α} {v:Value} {l:List α} {H:List Ck} (h:VS E v l H) {i:Nat} (hi:i<l.length) (hs:0<E.s):
    ∃(b o cap:Nat) (cs:List Value) (T:TypeId) (fr:Nat×Nat) (ex:Bool),v=.slice (some ⟨b,o,none⟩) l.length cap∧l.length≤cap∧(⟨b,.cells cs.toArray T fr,ex⟩:Ck)∈H∧∃c,E.at_ H c l[i]∧∀j,j<E.s→cs[o+i*E.s+j]?=c[j]?:=by
  obtain ⟨xs,h1,h2⟩:=h
  have hl:=h2.len
  obtain ⟨c,g1,g2⟩:=h2.at i hi
  rcases h1 with ⟨_,_,_,h0,_⟩|⟨b,o,cap,cs,T,fr,ex,hv,hc,hm,hx⟩
  · omega
  · refine ⟨b,o,cap,cs,T,fr,ex,hv,hc,hm,c,g2,fun j hj=>?_⟩
    have gQ:i*E.s+j<xs.length:=by
      rw[hl]
      have:(i+1)*E.s≤l.length*E.s:=fM _ hi
      rw[fZ] at this
      omega
    have e1:xs[i*E.s+j]?=c[j]?:=by
      rw[←g1,fw hj,ft]
    rw[←e1,←hx,fw gQ,ft,Nat.add_assoc]
theorem VS.nil (E:Rec α) (H:List Ck):VS E (.slice none 0 0) [] H:=⟨[],.inl ⟨_,_,rfl,rfl,rfl⟩,.nil⟩
end
end Go.SL
namespace Go.SL.Top
section
variable {α:Type}
structure xI where
  ep:Nat
  iC:Nat
  pS:Bool
  iU:Nat
structure Ws (α:Type) where
  J:Bool→List α
  R:Bool→Option xI
  seen:Bool→Nat
  now:Nat
  e:Nat
  h:Bool
  iC:Nat
  pS:Bool
  C:List α
def hX {β:Type} (f:Bool→β) (k:Bool) (v:β):Bool→β:=fun j=>if j=k then v else f j
@[simp] theorem jJ {β:Type} (f:Bool→β) (k:Bool) (v:β):hX f k v k=v:=by simp[hX]
theorem Xb {β:Type} (f:Bool→β) {k j:Bool} (v:β) (h:j≠k):hX f k v j=f j:=by simp[hX,h]
@[simp] theorem ll {β:Type} (f:Bool→β) (k:Bool) (v:β):hX f k v (!k)=f (!k):=Xb f v (by cases k<;>simp)
@[simp] theorem uh {β:Type} (f:Bool→β) (k:Bool) (v:β):hX f (!k) v k=f k:=Xb f v (by cases k<;>simp)
theorem two {k j:Bool}:j=k∨j=!k:=by cases k<;>cases j<;>simp
def Match (ep:α→Nat) (a b:List α):Prop:=∀(i:Nat) (x y:α),a[i]?=some x→b[i]?=some y→ep x=ep y→a.take (i+1)=b.take (i+1)
theorem Match.symm {ep:α→Nat} {a b:List α} (m:Match ep a b):Match ep b a:=fun i x y h1 h2 h3=>(m i y x h2 h1 h3.symm).symm
structure Inv (ep:α→Nat) (s:Ws α):Prop where
  low:∀k,∀x∈s.J k,ep x≤s.seen k
  zero:s.e=0→(∀k,s.J k=[])∧(∀k,s.R k=none)∧s.C=[]∧s.pS=false
  top:0<s.e→∃l x,s.J s.h=l++[x]∧ep x=s.e
  uZ:Match ep (s.J s.h) (s.J (!s.h))
  own:∀(i:Nat) (x:α),(s.J (!s.h))[i]?=some x→ep x=s.e→i<(s.J s.h).length
  ue:s.seen s.h=s.e
  wq:s.seen (!s.h)≤s.e
  role:∀r,s.R s.h=some r→r.ep=s.e∧r.iC≤s.iC∧r.iU≤(s.J s.h).length∧(s.J (!s.h)).take r.iU=(s.J s.h).take r.iU∧(r.pS=true→s.pS=true)
  vm:∀r,s.R (!s.h)=some r→r.ep<s.e∧r.iC<s.now
  Ch:s.C<+:s.J s.h
  Co:s.pS=false→s.C<+:s.J (!s.h)
def uX (ep:α→Nat) (l:List α):Nat:=match l.getLast? with|some x=>ep x|none=>0
theorem acU {ep:α→Nat} {s:Ws α} (v:Inv ep s) {n:Nat} (h:s.now≤n):Inv ep {s with now:=n}:=
  ⟨v.low,v.zero,v.top,v.uZ,v.own,v.ue,v.wq,v.role,fun r hr=>⟨(v.vm r hr).1,Nat.lt_of_lt_of_le (v.vm r hr).2 h⟩,v.Ch,v.Co⟩
def X9 (s:Ws α) (k:Bool):Prop:=∃r,s.R k=some r∧s.now≤r.iC
theorem aeU {ep:α→Nat} {s:Ws α} (v:Inv ep s) {k:Bool} (h:X9 s k):k=s.h:=by
  rcases two (k:=s.h) (j:=k) with e|e
  · exact e
  · obtain ⟨r,hr,ht⟩:=h
    rw[e] at hr
    have:=(v.vm r hr).2
    omega
theorem NW {ep:α→Nat} {s:Ws α} (v:Inv ep s) (k:Bool):Inv ep {s with R:=hX s.R k none}:=by
  refine ⟨v.low,fun h=>⟨(v.zero h).1,fun j=>?_,(v.zero h).2.2⟩,v.top,v.uZ,v.own,v.ue,v.wq,fun r hr=>?_,fun r hr=>?_,v.Ch,v.Co⟩
  · rcases two (k:=k) (j:=j) with e|e
    · simp[e]
    · simp[e,(v.zero h).2.1]
  · rcases two (k:=k) (j:=s.h) with e|e
    · simp[e] at hr
    · refine v.role r ?_
      rw[e] at hr ⊢
      simpa using hr
  · rcases two (k:=k) (j:=!s.h) with e|e
    · have mX:hX s.R k none (!s.h)=some r:=hr
      rw[e] at mX;simp at mX
    · refine v.vm r ?_
      have mX:hX s.R k none (!s.h)=some r:=hr
      rw[e] at mX ⊢
      simpa using mX
theorem acP {ep:α→Nat} {s:Ws α} (v:Inv ep s) (k:Bool) (hs:∀x∈s.J k,ep x≤uX ep (s.J k)):Inv ep {s with R:=hX s.R k none,seen:=hX s.seen k (uX ep (s.J k))}:=by
  have w:=NW v k
  have hle:uX ep (s.J k)≤s.seen k:=by
    unfold uX
    cases h:(s.J k).getLast? with
    |none=>exact dN _
    |some x=>exact v.low k x (List.mem_of_getLast? h)
  refine ⟨fun j x hx=>?_,w.zero,w.top,w.uZ,w.own,?_,?_,w.role,w.vm,w.Ch,w.Co⟩
  · rcases two (k:=k) (j:=j) with e|e
    · subst e;simpa using hs x hx
    · rw[e] at hx ⊢;simpa using v.low (!k) x hx
  · show hX s.seen k (uX ep (s.J k)) s.h=s.e
    rcases two (k:=k) (j:=s.h) with e|e
    · rw[←e,jJ]
      rcases Nat.eq_zero_or_pos s.e with h0|h0
      · rw[h0];unfold uX;rw[(v.zero h0).1];rfl
      · obtain ⟨l,x,h1,h2⟩:=v.top h0
        unfold uX;rw[h1];simpa using h2
    · rw[e,ll,←e];exact v.ue
  · show hX s.seen k (uX ep (s.J k)) (!s.h)≤s.e
    rcases two (k:=k) (j:=!s.h) with e|e
    · rw[e,jJ]
      refine eJ hle ?_
      rw[←e];exact v.wq
    · rw[e,ll,←e];exact v.wq
theorem Match.snoc {ep:α→Nat} {a b:List α} (m:Match ep a b) {x:α} (h:∀i y,b[i]?=some y→ep y=ep x→i<a.length):Match ep (a++[x]) b:=by
  intro i u w h1 h2 h3
  by_cases hi:i<a.length
  · rw[eT hi] at h1
    rw[dQ gz]
    exact m i u w h1 h2 h3
  · have:i=a.length:=by
      have:=(dV.1 h1).1
      simp at this
      omega
    subst this
    have e:u=x:=by simpa using h1.symm
    subst e
    have:=h _ w h2 h3.symm
    omega
theorem acO {ep:α→Nat} {s:Ws α} (v:Inv ep s) (k:Bool) {x:α} {t:Nat} (hx:ep x=s.e+1) (abp:s.e=0∨s.iC<s.now) (acs:s.pS=true→s.h=k):
    Inv ep {s with e:=s.e+1,h:=k,iC:=t,J:=hX s.J k (s.J k++[x]),seen:=hX s.seen k (s.e+1),R:=hX s.R k (some ⟨s.e+1,t,s.pS,0⟩)}:=by
  have NO:∀j,s.seen j≤s.e:=fun j=>by
    rcases two (k:=s.h) (j:=j) with e|e
    · rw[e,v.ue];exact dA _
    · rw[e];exact v.wq
  have tT:∀j,∀y∈s.J j,ep y≤s.e:=fun j y hy=>eJ (v.low j y hy) (NO j)
  have hC:s.C<+:s.J k:=by
    rcases two (k:=s.h) (j:=k) with e|e
    · rw[e];exact v.Ch
    · rw[e]
      refine v.Co ?_
      cases hs:s.pS
      · rfl
      · have:=acs hs;rw[e] at this;cases hh:s.h<;>rw[hh] at this<;>cases this
  have ab3:Match ep (s.J k) (s.J (!k)):=by
    rcases two (k:=s.h) (j:=k) with e|e
    · rw[e];exact v.uZ
    · rw[e,Bool.not_not];exact v.uZ.symm
  refine ⟨fun j y hy=>?_,fun h=>absurd h (Nat.succ_ne_zero _),fun _=>⟨s.J k,x,by simp,hx⟩,?_,fun i y hy he=>?_,by simp,?_,fun r hr=>?_,fun r hr=>?_,?_,fun hs=>?_⟩
  · rcases two (k:=k) (j:=j) with e|e
    · subst e
      simp only[jJ] at hy ⊢
      rcases dT.1 hy with hy|hy
      · exact fL (tT _ y hy)
      · rw[dH.1 hy,hx];exact dA _
    · rw[e] at hy ⊢
      simp only[ll] at hy ⊢
      exact v.low _ y hy
  · show Match ep (hX s.J k (s.J k++[x]) k) (hX s.J k (s.J k++[x]) (!k))
    rw[jJ,ll]
    refine ab3.snoc fun i y hy he=>?_
    have:=tT (!k) y (List.mem_of_getElem? hy)
    omega
  · have nN:(hX s.J k (s.J k++[x]) (!k))[i]?=some y:=hy
    rw[ll] at nN
    have:=tT (!k) y (List.mem_of_getElem? nN)
    have vS:ep y=s.e+1:=he
    omega
  · show hX s.seen k (s.e+1) (!k)≤s.e+1
    rw[ll];exact fL (NO _)
  · have mX:hX s.R k (some ⟨s.e+1,t,s.pS,0⟩) k=some r:=hr
    rw[jJ,ew] at mX
    subst mX
    exact ⟨rfl,dA _,dN _,by simp,fun h=>h⟩
  · have mX:hX s.R k (some ⟨s.e+1,t,s.pS,0⟩) (!k)=some r:=hr
    rw[ll] at mX
    show r.ep<s.e+1∧r.iC<s.now
    rcases two (k:=s.h) (j:=!k) with e|e
    · rw[e] at mX
      obtain ⟨h1,h2,_⟩:=v.role r mX
      rcases abp with h0|h0
      · rw[(v.zero h0).2.1] at mX;cases mX
      · exact ⟨by omega,by omega⟩
    · rw[e] at mX
      obtain ⟨h1,h2⟩:=v.vm r mX
      exact ⟨by omega,h2⟩
  · show s.C<+:hX s.J k (s.J k++[x]) k
    rw[jJ];exact hC.trans (List.prefix_append _ _)
  · show s.C<+:hX s.J k (s.J k++[x]) (!k)
    rw[ll]
    rcases two (k:=s.h) (j:=!k) with e|e
    · rw[e];exact v.Ch
    · rw[e];exact v.Co hs
end
structure ia where
  iA:Int
  n:Int
  name:List (BitVec 8)
  tries:Int
  wait:Int
  back:Bool
structure Sg where
  phase:Int
  step:Int
  tr:Int
  asked:Bool
  left:Int
  cancel:Bool
  code:Int
deriving DecidableEq
def Sg.start:Sg:=⟨1,0,0,false,0,false,0⟩
def Dr (c:Int):Sg:=⟨3,0,0,false,0,false,c⟩
def qh (p:List ia):Nat→Sg
  |0=>Dr 2
  |n+1=>if (p[n]?.map (·.back))=some true then ⟨2,n,0,false,0,false,0⟩ else qh p n
def FU (s:Sg):Sg:={s with asked:=false,left:=0}
def tv (p:List ia) (s:Sg):Int:=(p[s.step.toNat]?.map (·.tries)).getD 0
def Ab (p:List ia) (s:Sg):Int:=(p[s.step.toNat]?.map (·.wait)).getD 0
def rO (p:List ia) (s:Sg) (code:Int):Sg:=
  if code=2 then qh p s.step.toNat
  else if code=3∧s.cancel=false∧s.tr<tv p s then FU s
  else if code=3∨s.cancel=true then qh p (s.step.toNat+1)
  else if s.step=(p.length:Int)-1 then Dr 1
  else ⟨1,s.step+1,0,false,0,false,0⟩
def BA (p:List ia) (s:Sg) (code:Int):Sg:=
  if code=1 then qh p s.step.toNat
  else if s.tr=tv p s then Dr 3
  else FU s
def rD (p:List ia) (s:Sg) (step:Int) (iy:Bool) (code:Int):Sg:=
  if s.asked=false∨step≠s.step∨iy≠decide (s.phase=2) then s
  else if iy then BA p s code else rO p s code
def uy (p:List ia) (s:Sg):Sg:={s with tr:=s.tr+1,asked:=true,left:=Ab p s}
def pD (s:Sg):Option (Int×Bool×Int):=if s.phase=3∨s.asked=true then none else some (s.step,decide (s.phase=2),s.tr+1)
def qO (p:List ia) (s:Sg):Prop:=
  (s.phase=3∧1≤s.code∧s.code≤3∧s=Dr s.code)∨
  ((s.phase=1∨s.phase=2)∧0≤s.step∧s.step<p.length∧s.code=0∧(if s.asked then 1≤s.tr∧s.tr≤tv p s∧1≤s.left∧s.left≤Ab p s else 0≤s.tr∧s.tr<tv p s∧s.left=0)
    ∧(s.phase=2→(p[s.step.toNat]?.map (·.back))=some true∧s.cancel=false))
def vi (p:List ia):Prop:=1≤p.length∧p.length≤16∧∀x∈p,1≤x.tries∧x.tries≤255∧1≤x.wait∧x.wait≤10000
theorem vi.at {p:List ia} (h:vi p) {i:Nat} (hi:i<p.length):1≤p[i].tries∧p[i].tries≤255∧1≤p[i].wait∧p[i].wait≤10000:=h.2.2 _ (dG hi)
theorem Dz {p:List ia} {s:Sg} (hi:s.step.toNat<p.length):tv p s=p[s.step.toNat].tries:=by simp[tv,hi]
theorem Pt {p:List ia} {s:Sg} (hi:s.step.toNat<p.length):Ab p s=p[s.step.toNat].wait:=by simp[Ab,hi]
theorem agK {p:List ia} (h:vi p):qO p Sg.start:=by
  have h0:0<p.length:=h.1
  have:=h.at h0
  refine .inr ⟨.inl rfl,Int.le_refl _,by show (0:Int)<p.length;omega,rfl,?_,fun h=>absurd h gB⟩
  rw[dp gB]
  refine ⟨Int.le_refl _,?_,rfl⟩
  rw[Dz (s:=Sg.start) h0]
  show (0:Int)<p[0].tries
  omega
theorem OI {p:List ia} {c:Int} (h:1≤c∧c≤3):qO p (Dr c):=.inl ⟨rfl,h.1,h.2,rfl⟩
theorem Iv {p:List ia} (h:vi p):∀n,n≤p.length→qO p (qh p n)
  |0,_=>OI gz
  | n +1,hn=>by
    unfold qh
    by_cases hb:(p[n]?.map (·.back))=some true
    · rw[dx hb]
      have:=h.at (i:=n) gz
      refine .inr ⟨.inr rfl,by show (0:Int)≤(n:Int);omega,by show (n:Int)<p.length;omega,rfl,?_,fun _=>⟨hb,rfl⟩⟩
      rw[dp (by simp)]
      refine ⟨Int.le_refl _,?_,rfl⟩
      rw[Dz (by show ((n:Int)).toNat<_;omega)]
      show (0:Int)<(p[((n:Int)).toNat]'_).tries
      simp only[Int.toNat_natCast]
      omega
    · rw[dp hb]
      exact Iv h n gz
theorem QB {p:List ia} {s:Sg} (h:qO p s) (ha:s.asked=true) (hp:s.phase≠3) (ht:s.tr<tv p s):qO p (FU s):=by
  rcases h with ⟨h1,_⟩|⟨h1,h2,h3,h4,h5,h6⟩
  · exact absurd h1 hp
  · rw[ha,dx rfl] at h5
    refine .inr ⟨h1,h2,h3,h4,?_,h6⟩
    rw[dp (by simp[FU])]
    exact ⟨by show 0≤s.tr;omega,ht,rfl⟩
theorem ahb     {p:List ia} (hp:vi p) {s:Sg} (h:qO p s) {step:Int} {iy:Bool} {code:Int} (hc:1≤code∧code≤3):qO p (rD p s step iy code):=by
  unfold rD
  by_cases h0:s.asked=false∨step≠s.step∨iy≠decide (s.phase=2)
  · rw[dx h0];exact h
  · rw [dp h0]
    have ha:s.asked=true:=by cases h9:s.asked<;>simp_all
    rcases h with ⟨h1,h2,h3,h4⟩|⟨h1,h2,h3,h4,h5,h6⟩
    · rw[h4] at ha;cases ha
    · have hr : qO p s:=.inr ⟨h1,h2,h3,h4,h5,h6⟩
      have tg:s.phase≠3:=by omega
      rw[ha,dx rfl] at h5
      cases iy with
      | true=>
        rw[dx rfl]
        unfold BA
        by_cases c1:code=1
        · rw[dx c1];exact Iv hp _ gz
        · rw[dp c1]
          by_cases c2:s.tr=tv p s
          · rw[dx c2];exact OI gz
          · rw[dp c2];exact QB hr ha tg gz
      | false =>
        rw[dp gB]
        unfold rO
        by_cases c1:code=2
        · rw[dx c1];exact Iv hp _ gz
        · rw [dp c1]
          by_cases c2:code=3∧s.cancel=false∧s.tr<tv p s
          · rw[dx c2];exact QB hr ha tg c2.2.2
          · rw [dp c2]
            by_cases c3:code=3∨s.cancel=true
            · rw[dx c3];exact Iv hp _ gz
            · rw[dp c3]
              by_cases c4:s.step=(p.length:Int)-1
              · rw[dx c4];exact OI gz
              · rw[dp c4]
                have:=hp.at (i:=(s.step+1).toNat) gz
                refine .inr ⟨.inl rfl,by show 0≤s.step+1;omega,by show s.step+1<p.length;omega,rfl,?_,fun h=>absurd h (by simp)⟩
                rw[dp (by simp)]
                refine ⟨Int.le_refl _,?_,rfl⟩
                rw[Dz (by show (s.step+1).toNat<_;omega)]
                show (0:Int)<(p[(s.step+1).toNat]'_).tries
                omega
theorem Yw {p:List ia} (hp:vi p) {s:Sg} (h:qO p s) (hn:(pD s).isSome=true):qO p (uy p s):=by
  unfold pD at hn
  by_cases h0:s.phase=3∨s.asked=true
  · rw[dx h0] at hn;cases hn
  · rcases h with ⟨h1,_⟩|⟨h1,h2,h3,h4,h5,h6⟩
    · exact absurd (.inl h1) h0
    · have ha:s.asked=false:=by cases h9:s.asked<;>simp_all
      rw[ha,dp gB] at h5
      have hi:s.step.toNat<p.length:=by omega
      have:=hp.at hi
      refine .inr ⟨h1,h2,h3,h4,?_,h6⟩
      rw[dx gA]
      show 1≤s.tr+1∧s.tr+1≤tv p s∧1≤Ab p s∧Ab p s≤Ab p s
      rw[Pt hi]
      omega
structure En where
  kind:Int
  gF:BitVec 64
  ep:BitVec 32
  order:BitVec 32
  step:Int
  iy:Bool
  tr:Int
  code:Int
  mark:BitVec 64
  key:List (BitVec 8)
  data:List (BitVec 8)
deriving DecidableEq
def En.z:En:=⟨0,0#64,0#32,0#32,0,false,0,0,0#64,[],[]⟩
def iZ (e:En):Prop:=e.gF≠0#64∧e.ep≠0#32∧
  ((e={En.z with kind:=1,gF:=e.gF,ep:=e.ep})∨
   (e={En.z with kind:=2,gF:=e.gF,ep:=e.ep,order:=e.order,key:=e.key,data:=e.data}∧e.order≠0#32∧0<e.key.length∧e.key.length≤32∧e.data.length≤200)∨
   (e={En.z with kind:=3,gF:=e.gF,ep:=e.ep,order:=e.order,step:=e.step,iy:=e.iy,tr:=e.tr}∧e.order≠0#32∧0≤e.step∧e.step<16∧1≤e.tr∧e.tr≤255)∨
   (e={En.z with kind:=4,gF:=e.gF,ep:=e.ep,order:=e.order,step:=e.step,iy:=e.iy,tr:=e.tr,code:=e.code}∧e.order≠0#32∧0≤e.step∧e.step<16∧1≤e.tr∧e.tr≤255∧1≤e.code∧e.code≤3)∨
   (e={En.z with kind:=5,gF:=e.gF,ep:=e.ep,order:=e.order,code:=e.code}∧e.order≠0#32∧1≤e.code∧e.code≤3))
instance (e:En):Decidable (iZ e):=by unfold iZ;infer_instance
structure Lo where
  key:List (BitVec 8)
  data:List (BitVec 8)
  sg:Sg
  told:Bool
structure Ld where
  l:List Lo
  last:Nat
  ep:Nat
def Ld.z:Ld:=⟨[],0,0⟩
section
variable (ps:List (List ia))
def jD (d:List (BitVec 8)):List ia:=match d with|[]=>[]|b::_=>(ps[b.toNat]?).getD []
def jC (L:Ld) (o:BitVec 32):Option Lo:=if o=0#32 then none else L.l[o.toNat-1]?
def setAt (L:Ld) (o:BitVec 32) (x:Lo):List Lo:=L.l.set (o.toNat-1) x
def nH (L:Ld) (e:En):Option Ld:=
  if ¬(iZ e∧e.gF.toNat=L.last+1∧L.ep≤e.ep.toNat) then none
  else if e.kind=2 then (if e.order.toNat=L.l.length+1∧L.l.length<500∧(∀o∈L.l,o.key≠e.key)∧jD ps e.data≠[] then some ⟨L.l++[⟨e.key,e.data,Sg.start,false⟩],e.gF.toNat,e.ep.toNat⟩ else none)
  else if e.kind=3 then (match jC L e.order with
    |none=>none
    |some o=>if pD o.sg=some (e.step,e.iy,e.tr) then some ⟨setAt L e.order {o with sg:=uy (jD ps o.data) o.sg},e.gF.toNat,e.ep.toNat⟩ else none)
  else if e.kind=4 then (match jC L e.order with
    |none=>none
    |some o=>if o.sg.asked=true∧o.sg.step=e.step∧decide (o.sg.phase=2)=e.iy∧o.sg.tr=e.tr then some ⟨setAt L e.order {o with sg:=rD (jD ps o.data) o.sg e.step e.iy e.code},e.gF.toNat,e.ep.toNat⟩ else none)
  else if e.kind=5 then (match jC L e.order with
    |none=>none
    |some o=>if o.sg.phase=3∧o.sg.code=e.code∧o.told=false then some ⟨setAt L e.order {o with told:=true},e.gF.toNat,e.ep.toNat⟩ else none)
  else some ⟨L.l,e.gF.toNat,e.ep.toNat⟩
def l7 (L:Ld):List En→Option Ld
  |[]=>some L
  |e::l=>(nH ps L e).bind fun jc=>l7 jc l
theorem IP {L:Ld} {a b:List En}:l7 ps L (a++b)=(l7 ps L a).bind fun jc=>l7 ps jc b:=by
  induction a generalizing L with
  |nil=>rfl
  | cons e a ih=>
    show (nH ps L e).bind (fun jc=>l7 ps jc (a++b))=_
    cases h:nH ps L e with
    |none=>simp[l7,h]
    |some jc=>simp[l7,h,ih]
def Folds (l:List En):Prop:=∃L,l7 ps Ld.z l=some L
theorem Folds.take {l:List En} (h:Folds ps l) (n:Nat):Folds ps (l.take n):=by
  obtain ⟨L,h⟩:=h
  rw[←fz n l,IP] at h
  cases e:l7 ps Ld.z (l.take n) with
  |none=>rw[e] at h;cases h
  |some jc=>exact ⟨jc,e⟩
theorem Folds.nil:Folds ps []:=⟨_,rfl⟩
theorem Folds.snoc {l:List En} {L:Ld} {e:En} {jc:Ld} (h:l7 ps Ld.z l=some L) (he:nH ps L e=some jc):l7 ps Ld.z (l++[e])=some jc:=by
  rw[IP,h]
  show (nH ps L e).bind (fun jc=>l7 ps jc [])=some jc
  rw[he];rfl
structure l4 (L:Ld):Prop where
  keys:L.l.Pairwise fun a b=>a.key≠b.key
  many:L.l.length≤500
  one:∀o∈L.l,jD ps o.data≠[]∧qO (jD ps o.data) o.sg∧0<o.key.length∧o.key.length≤32∧o.data.length≤200
variable {ps}
theorem tp {d:List (BitVec 8)} (h:jD ps d≠[]):jD ps d∈ps:=by
  unfold jD at h ⊢
  cases d with
  |nil=>exact absurd rfl h
  | cons b d=>
    simp only at h ⊢
    cases e:ps[b.toNat]? with
    |none=>rw[e] at h;exact absurd rfl h
    |some p=>exact List.mem_of_getElem? e
theorem qN {L:Ld} {o:BitVec 32} {x:Lo} (h:jC L o=some x):0<o.toNat∧L.l[o.toNat-1]?=some x∧x∈L.l:=by
  unfold jC at h
  by_cases h0:o=0#32
  · rw[dx h0] at h;cases h
  · rw[dp h0] at h
    refine ⟨gp fun e=>h0 (dB e),h,List.mem_of_getElem? h⟩
theorem ae3 {β:Type} {R:β→β→Prop} {l:List β} (h:l.Pairwise R) {i:Nat} {x y:β} (hx:l[i]?=some x) (hl:∀z,R z x→R z y) (hr:∀z,R x z→R y z):(l.set i y).Pairwise R:=by
  induction l generalizing i with
  |nil=>cases hx
  | cons a l ih=>
    rw[List.pairwise_cons] at h
    cases i with
    | zero=>
      have e:a=x:=by simpa using hx
      subst e
      exact List.pairwise_cons.2 ⟨fun z hz=>hr z (h.1 z hz),h.2⟩
    | succ i=>
      refine List.pairwise_cons.2 ⟨fun z hz=>?_,ih h.2 (by simpa using hx)⟩
      rcases List.mem_or_eq_of_mem_set hz with hz|hz
      · exact h.1 z hz
      · subst hz;exact hl _ (h.1 x (List.mem_of_getElem? (by simpa using hx)))
theorem l4.set {L:Ld} (v:l4 ps L) {o:BitVec 32} {x y:Lo} (hx:jC L o=some x) (hk:y.key=x.key) (hd:y.data=x.data) (hs:qO (jD ps x.data) y.sg) {a b:Nat}:l4 ps ⟨setAt L o y,a,b⟩:=by
  obtain ⟨h0,h1,h2⟩:=qN hx
  refine ⟨ae3 v.keys h1 (fun z h=>by rw[hk];exact h) (fun z h=>by rw[hk];exact h),by show (L.l.set _ y).length≤500;rw[List.length_set];exact v.many,fun q hq=>?_⟩
  rcases List.mem_or_eq_of_mem_set hq with hq|hq
  · exact v.one q hq
  · subst hq
    obtain ⟨a1,a2,a3⟩:=v.one x h2
    rw[hk,hd]
    exact ⟨a1,hs,a3⟩
theorem HJ (gN:∀p∈ps,vi p) {L jc:Ld} {e:En} (v:l4 ps L) (h:nH ps L e=some jc):l4 ps jc∧jc.last=L.last+1∧jc.last=e.gF.toNat∧jc.ep=e.ep.toNat∧L.ep≤jc.ep∧iZ e:=by
  unfold nH at h
  by_cases h0:iZ e∧e.gF.toNat=L.last+1∧L.ep≤e.ep.toNat
  · rw [dp (    fK h0)] at h
    obtain ⟨w5,hl,kZ⟩:=h0
    have fin:∀l,l4 ps ⟨l,e.gF.toNat,e.ep.toNat⟩→some (⟨l,e.gF.toNat,e.ep.toNat⟩:Ld)=some jc→l4 ps jc∧jc.last=L.last+1∧jc.last=e.gF.toNat∧jc.ep=e.ep.toNat∧L.ep≤jc.ep∧iZ e:=fun l hv hh=>by
      obtain rfl:=eQ hh
      exact ⟨hv,hl,rfl,rfl,kZ,w5⟩
    by_cases k2:e.kind=2
    · rw [dx k2] at h
      split at h
      · rename_i hc
        obtain ⟨c1,c2,c3,c4⟩:=hc
        refine fin _ ⟨?_,?_,?_⟩ h
        · refine List.pairwise_append.2 ⟨v.keys,List.pairwise_singleton _ _,fun a ha b hb=>?_⟩
          rw[dH.1 hb];exact c3 a ha
        · show (L.l++[_]).length≤500
          rw[dr];exact c2
        · intro q hq
          rcases dT.1 hq with hq|hq
          · exact v.one q hq
          · rw[dH.1 hq]
            have hk:0<e.key.length∧e.key.length≤32∧e.data.length≤200:=by
              rcases w5.2.2 with h9|⟨h9,a⟩|⟨h9,a⟩|⟨h9,a⟩|⟨h9,a⟩
              · rw[h9] at k2;exact absurd k2 (by simp)
              · exact a.2
              all_goals (rw[h9] at k2;exact absurd k2 (by simp))
            exact ⟨c4,agK (gN _ (tp c4)),hk⟩
      · cases h
    · rw [dp k2] at h
      by_cases k3:e.kind=3
      · rw [dx k3] at h
        cases ho:jC L e.order with
        |none=>rw[ho] at h;cases h
        | some o=>
          rw[ho] at h
          simp only at h
          split at h
          · rename_i hc
            obtain ⟨a1,a2,_⟩:=v.one o (qN ho).2.2
            exact fin _ (v.set (y:={o with sg:=uy (jD ps o.data) o.sg}) ho rfl rfl (Yw (gN _ (tp a1)) a2 (by rw[hc];rfl))) h
          · cases h
      · rw [dp k3] at h
        by_cases k4:e.kind=4
        · rw [dx k4] at h
          cases ho:jC L e.order with
          |none=>rw[ho] at h;cases h
          | some o=>
            rw[ho] at h
            simp only at h
            split at h
            · obtain ⟨a1,a2,_⟩:=v.one o (qN ho).2.2
              have Cy:1≤e.code∧e.code≤3:=by
                rcases w5.2.2 with h9|⟨h9,a⟩|⟨h9,a⟩|⟨h9,a⟩|⟨h9,a⟩
                · rw[h9] at k4;exact absurd k4 (by simp)
                · rw[h9] at k4;exact absurd k4 (by simp)
                · rw[h9] at k4;exact absurd k4 (by simp)
                · exact a.2.2.2.2.2
                · rw[h9] at k4;exact absurd k4 (by simp)
              exact fin _ (v.set (y:={o with sg:=rD (jD ps o.data) o.sg e.step e.iy e.code}) ho rfl rfl (ahb (gN _ (tp a1)) a2 Cy)) h
            · cases h
        · rw [dp k4] at h
          by_cases k5:e.kind=5
          · rw [dx k5] at h
            cases ho:jC L e.order with
            |none=>rw[ho] at h;cases h
            | some o=>
              rw[ho] at h
              simp only at h
              split at h
              · obtain ⟨a1,a2,_⟩:=v.one o (qN ho).2.2
                exact fin _ (v.set (y:={o with told:=true}) ho rfl rfl a2) h
              · cases h
          · rw[dp k5] at h
            exact fin _ ⟨v.keys,v.many,v.one⟩ h
  · rw[dx h0] at h;cases h
theorem l4.z:l4 ps Ld.z:=⟨List.Pairwise.nil,dN _,fun _ h=>absurd h ej⟩
end
end Go.SL.Top
namespace Go.SL
open Top
def mb (s:Sg):List Value:=[.int .i64 s.phase,.int .i64 s.step,.int .i64 s.tr,.bool s.asked,.int .i64 s.left,.bool s.cancel,.int .i64 s.code]
def kA (x:ia) (vn:Value):List Value:=[.int .i64 x.iA,.int .i64 x.n,vn,.int .i64 x.tries,.int .i64 x.wait,.bool x.back]
def xB:Rec ia where
  s:=6
  at_ H c x:=∃vn,c=kA x vn∧Bs vn x.name H
  len:=by rintro H c a ⟨vn,rfl,_⟩;rfl
  mono:=by rintro A B c a ⟨vn,h,hb⟩ s;exact ⟨vn,h,hb.mono s⟩
def PV (v:Value) (p:List ia) (H:List Ck):Prop:=VS xB v p H
theorem YH {p:List ia} {q:Nat} (h:q<p.length) (hb:p[q].back=false):qh p (q+1)=qh p q:=by
  rw[qh,dp (by rw[dK h];simp[hb])]
theorem YI {p:List ia} {q:Nat} (h:q<p.length) (hb:p[q].back=true):qh p (q+1)=⟨2,q,0,false,0,false,0⟩:=by
  rw[qh,dx (by rw[dK h];simp[hb])]
end Go.SL
namespace Go.SL
section
variable {P:Program} {l:Sl} {H:List Ck} {d:Option Nat} {ty:TypeId} {pos:String} {gJ:Array Edge} {g:Option (Nat×Bool)}
theorem agU {l:List (BitVec 8)} {i:Nat} (h:i<l.length):(str l)[i]?=some (UInt8.ofNat (l[i]).toNat):=by
  have hs:i<(str l).size:=by rw[show (str l).size=l.length by simp[str,ByteArray.size]];exact h
  rw[getElem?_pos (str l) i hs]
  congr 1
  show (str l).data[i]'_=_
  simp[str]
end
namespace Top
def Ot (l:List (BitVec 8)):Prop:=l≠[]∧l.length≤32∧∀b∈l,97≤b.toNat∧b.toNat≤122
structure Fo (x:ia):Prop where
  iA:1≤x.iA∧x.iA≤6
  n1:x.iA=1∨x.iA=3∨x.iA=5→1≤x.n∧x.n≤1000000
  n0:¬(x.iA=1∨x.iA=3∨x.iA=5)→x.n=0
  m1:x.iA=1∨x.iA=3∨x.iA=6→Ot x.name
  m0:¬(x.iA=1∨x.iA=3∨x.iA=6)→x.name=[]
  tries:1≤x.tries∧x.tries≤255
  wait:1≤x.wait∧x.wait≤10000
theorem Fo.len {x:ia} (h:Fo x):x.name.length≤32:=by
  by_cases q:x.iA=1∨x.iA=3∨x.iA=6
  · exact (h.m1 q).2.1
  · rw[h.m0 q];exact dN _
structure jh (p:List ia):Prop where
  len:1≤p.length∧p.length≤16
  one:∀x∈p,Fo x
theorem jh.G {p:List ia} (h:jh p):vi p:=⟨h.len.1,h.len.2,fun x hx=>by
  have:=h.one x hx
  have h1:=this.tries
  have h2:=this.wait
  omega⟩
end Top
theorem WR {l:List (BitVec 8)} {i:Nat} (h:i<(str l).size) (h2:i<l.length):((str l)[i]'h).toNat=(l[i]).toNat:=by
  have e:=agU h2
  rw[getElem?_pos (str l) i h] at e
  have e2:=eQ e
  rw[e2,UInt8.toNat_ofNat']
  have:=(l[i]).isLt
  omega
theorem agV {l:List (BitVec 8)}:(str l=⟨#[]⟩)↔l=[]:=by simp[str]
structure Nt where
  kind:Int
  gE:BitVec 32
  gT:BitVec 32
  gF:BitVec 64
  tick:BitVec 64
  order:BitVec 32
  step:Int
  iy:Bool
  code:Int
  key:List (BitVec 8)
  data:List (BitVec 8)
def gS (n:Nt) (vk vd:Value):List Value:=
  [.int .i64 n.kind,.int .u32 n.gE.toNat,.int .u32 n.gT.toNat,.int .u64 n.gF.toNat,.int .u64 n.tick.toNat,.int .u32 n.order.toNat,.int .i64 n.step,.bool n.iy,.int .i64 n.code,vk,vd]
def nm (k:Int):List Nat:=
  if k=1 then [69,80,76,68] else if k=2 then [69,76] else if k=3 then [69,76] else if k=4 then [69,67] else if k=6 then [69,67] else if k=5 then [69,84,67] else if k=7 then [69,79,83,85,68]
  else if k=8 then [69,79,83,85,67,68] else if k=9 then [69,79,83,85] else if k=10 then [75,68] else if k=11 then [75] else if k=12 then [75] else if k=13 then [79,67,75,68] else []
def nw (k:Int):ByteArray:=⟨((nm k).map UInt8.ofNat).toArray⟩
theorem acV {p:Prop} [Decidable p] {a b:List Nat} {f:Nat→Bool} (h:a.all f=true) (k:b.all f=true):(if p then a else b).all f=true:=by
  split<;>assumption
theorem Vr (k:Int):∀x∈nm k,x<128:=by
  have h:(nm k).all (fun x=>decide (x<128))=true:=by
    unfold nm
    repeat (first|rfl|refine acV rfl ?_)
  intro x hx
  simpa using fy.1 h x hx
theorem J4 (k:Int):(nw k).size=(nm k).length:=by simp[nw,ByteArray.size]
theorem Vp (k:Int) (i:Nat) (h:i<(nw k).size):((nw k)[i]'h).toNat=(nm k).getD i 0:=by
  have h2:i<(nm k).length:=by rw[J4] at h;exact h
  have e:(nw k)[i]'h=UInt8.ofNat ((nm k)[i]):=by
    show (nw k).data[i]'_=_
    simp[nw]
  rw[e]
  have:=Vr k _ (dG h2)
  simp only[List.getD,dK h2,Option.getD_some]
  simp
  omega
theorem aeH (k:Int) (i:Nat) (h:i<(nw k).size):((nw k)[i]'h).toNat<128:=by
  rw[Vp]
  have h2:i<(nm k).length:=by rw[J4] at h;exact h
  simp only[List.getD,dK h2,Option.getD_some]
  exact Vr k _ (dG h2)
theorem aeK {m:Nt} {vk vd:Value} (h1:vk.oneCell'=true) (h2:vd.oneCell'=true):∀u∈gS m vk vd,u.oneCell'=true:=by
  intro u hu
  simp only[gS,eS,ej,or_false] at hu
  rcases hu with rfl|rfl|rfl|rfl|rfl|rfl|rfl|rfl|rfl|rfl|rfl<;>first|rfl|exact h1|exact h2
theorem Vq (k:Int):(nw k=⟨#[]⟩)↔nm k=[]:=by
  simp[nw]
def wo (n:Nt) (c:Int):Nt:=
  if c=69 then {n with gE:=0#32} else if c=80 then {n with gT:=0#32} else if c=76 then {n with gF:=0#64} else if c=84 then {n with tick:=0#64} else if c=79 then {n with order:=0#32}
  else if c=83 then {n with step:=0} else if c=85 then {n with iy:=false} else if c=67 then {n with code:=0} else if c=75 then {n with key:=[]} else if c=68 then {n with data:=[]} else n
def sb (vk:Value) (c:Int):Value:=if c=75 then .slice none 0 0 else vk
def r8 (vd:Value) (c:Int):Value:=if c=68 then .slice none 0 0 else vd
def oG (n:Nt) (i:Nat):Nt:=((nm n.kind).take i).foldl (fun m (c:Nat)=>wo m (c:Int)) n
theorem afw (n:Nt) (i:Nat) (h:i<(nm n.kind).length):oG n (i+1)=wo (oG n i) ((nm n.kind).getD i 0:Nat):=by
  unfold oG
  rw[dJ h,List.foldl_append]
  simp[List.getD,h]
def rest (n:Nt):Nt:=oG n (nm n.kind).length
def qx (m:Nt):Bool:=decide (0<(m.gE.toNat:Int))||(decide (0<(m.gT.toNat:Int))||(decide (0<(m.gF.toNat:Int))||(decide (0<(m.tick.toNat:Int))||(decide (0<(m.order.toNat:Int))||(decide (m.step≠0)||(m.iy||(decide (m.code≠0)||(decide (0<(m.key.length:Int))||decide (0<(m.data.length:Int))))))))))
def qE (n:Nt):Bool:=decide (n.step<0)||(decide (16≤n.step)||(decide (n.code<0)||(decide (255<n.code)||(decide (32<(n.key.length:Int))||decide (255<(n.data.length:Int))))))
def mS (n:Nt):Bool:=decide (nm n.kind=[])||(qx (rest n)||(qE n||(decide (10≤n.kind)&&(decide (n.kind≤12)&&decide ((n.key.length:Int)=0)))))
def mm (v:Value) (n:Nat):Prop:=∃ao c,v=.slice ao n c
theorem mm.one {v:Value} {n:Nat} (h:mm v n):v.oneCell'=true:=by obtain ⟨_,_,rfl⟩:=h;rfl
theorem mm.sb {v:Value} {n:Nt} (h:mm v n.key.length) (c:Int):mm (sb v c) (wo n c).key.length:=by
  by_cases Gm:c=75
  · subst Gm;exact ⟨none,0,rfl⟩
  · have e:(wo n c).key=n.key:=by
      unfold wo
      repeat' split
      all_goals first|rfl|exact absurd ‹_› Gm
    rw[Go.SL.sb,dp Gm,e];exact h
theorem mm.r8 {v:Value} {n:Nt} (h:mm v n.data.length) (c:Int):mm (r8 v c) (wo n c).data.length:=by
  by_cases Gk:c=68
  · subst Gk;exact ⟨none,0,rfl⟩
  · have e:(wo n c).data=n.data:=by
      unfold wo
      repeat' split
      all_goals first|rfl|exact absurd ‹_› Gk
    rw[Go.SL.r8,dp Gk,e];exact h
end Go.SL
namespace Go.SL
open Top
def enc (e:En) (vk vd:Value):List Value:=[.int .i64 e.kind,.int .u64 e.gF.toNat,.int .u32 e.ep.toNat,.int .u32 e.order.toNat,.int .i64 e.step,.bool e.iy,.int .i64 e.tr,.int .i64 e.code,.int .u64 e.mark.toNat,vk,vd]
def nh:Rec En where
  s:=11
  at_ H c e:=∃vk vd,c=enc e vk vd∧Bs vk e.key H∧Bs vd e.data H
  len:=by rintro H c a ⟨vk,vd,rfl,_⟩;rfl
  mono:=by rintro A B c a ⟨vk,vd,h,h1,h2⟩ s;exact ⟨vk,vd,h,h1.mono s,h2.mono s⟩
def EV (v:Value) (l:List En) (H:List Ck):Prop:=VS nh v l H
def mL (a b:BitVec 64):BitVec 64:=if a.toNat≤b.toNat then b else a
def n4 (a b:BitVec 64):BitVec 64:=if a.toNat≤b.toNat then a else b
theorem J0 (a b:BitVec 64):max (a.toNat:Int) (b.toNat:Int)=((mL a b).toNat:Int):=by unfold mL;split<;>omega
theorem J1 (a b:BitVec 64):min (a.toNat:Int) (b.toNat:Int)=((n4 a b).toNat:Int):=by unfold n4;split<;>omega
def oD (next:BitVec 64) (n:Nt):BitVec 64:=if n.kind=2 then mL next (n.gF+1#64) else if n.kind=3 then n4 next (n.gF+1#64) else next
def yS (mode:Int) (safe iU:BitVec 64):BitVec 64:=if mode=2 then safe else if mode=1 then n4 safe iU else 0#64
def vO (l:List En):BitVec 64:=match l.head? with|some e=>e.gF|none=>1#64
def zM (l:List En):BitVec 64:=match l.getLast? with|some e=>e.gF|none=>0#64
def ke (l:List En) (n:Nat):BitVec 32:=if n=0 then 0#32 else ((l[n-1]?).map (·.ep)).getD 0#32
end Go.SL
namespace Go.Sum
abbrev qg:=BitVec 32
abbrev B8:=BitVec 8
def Iz (r:qg):qg:=if r&&& 1#32=1#32 then r>>>1 ^^^ 0xedb88320#32 else r>>>1
def Lr:Nat→qg→qg
  |0,r=>r
  |k+1,r=>Iz (Lr k r)
def Rr (r:qg) (c:B8):qg:=Lr 8 (r ^^^ c.setWidth 32)
def xO (r:qg) (l:List B8):qg:=l.foldl Rr r
def wL (s:qg) (l:List B8):qg:= ~~~ (xO (~~~ s) l)
def wM (l:List B8):qg:=wL 0#32 l
theorem ZE (r:qg) (l:List B8) (k:Nat) (h:k<l.length):xO r (l.take (k+1))=Rr (xO r (l.take k)) l[k]:=by
  unfold xO
  rw[dJ h,List.foldl_append]
  rfl
end Go.Sum
namespace Go.Sum
theorem ZD (r:qg) (a b:List B8):xO r (a++b)=xO (xO r a) b:=by simp[xO,List.foldl_append]
theorem Rt (s:qg) (a b:List B8):wL (wL s a) b=wL s (a++b):=by
  simp only[wL,BitVec.not_not,ZD]
def iu (n:BitVec 64) (k:Nat):List B8:=(List.range k).map fun i=>(n>>>(8*(k-1-i))).setWidth 8
theorem ju (n:BitVec 64) (k:Nat):(iu n k).length=k:=by simp[iu]
def kj (l:List B8):BitVec 64:=l.foldl (fun n c=>(n<<<8)|||c.setWidth 64) 0#64
def kO (bs:List B8) (sh:Bool) (k:Nat):Bool:=sh||decide (bs.length<k)
def mj (bs:List B8) (sh:Bool) (k:Nat):List B8:=if kO bs sh k then [] else bs.take k
def my (bs:List B8) (sh:Bool) (k:Nat):List B8:=if kO bs sh k then bs else bs.drop k
def xM (n:Nat):List B8:=iu (BitVec.ofNat 16 n|>.setWidth 64) 2
def DV (s:qg):List B8:=iu (s.setWidth 64) 4
theorem QZ (n:Nat):(xM n).length=2:=ju _ _
theorem YO (s:qg):(DV s).length=4:=ju _ _
def j5 (l:List B8):List B8:=[215#8,166#8]++xM l.length++DV (wM (xM l.length++l))++l
theorem Gc (l:List B8):(j5 l).length=l.length+8:=by simp[j5,QZ,YO];omega
def Hz (l:List B8):List B8:=if l.length≤2000 then j5 l else []
def OR (l:List B8):Int:=if l.length≤2000 then 0 else 3
def Ed (n:Int):Int:=if 0≤n∧n≤2000 then n+8 else 0
def wK (b:List B8):Option (List B8):=
  let n:=(b.getD 2 0#8).toNat*256+(b.getD 3 0#8).toNat
  if 8+n≤b.length∧n≤2000∧j5 ((b.drop 8).take n)=b.take (8+n) then some ((b.drop 8).take n) else none
def lv (b:List B8) (at_:Int):List B8×Int×Int:=
  if at_<0∨(b.length:Int)<at_ then ([],0,2)
  else if at_=b.length∨b.getD at_.toNat 0#8=0#8 then ([],0,30)
  else match wK (b.drop at_.toNat) with
    |some l=>(l,at_+8+l.length,0)
    |none=>([],0,31)
theorem Q4 (n:Nat):xM n=[(BitVec.ofNat 16 n>>>8).setWidth 8,(BitVec.ofNat 16 n).setWidth 8]:=by
  have h1:(BitVec.setWidth 64 (BitVec.ofNat 16 n)>>>8).setWidth 8=(BitVec.ofNat 16 n>>>8).setWidth 8:=by
    apply BitVec.eq_of_getLsbD_eq
    intro i hi
    simp only[BitVec.getLsbD_setWidth,BitVec.getLsbD_ushiftRight,hi,decide_true,Bool.true_and]
    simp
    try (intro h;omega)
  have h2:(BitVec.setWidth 64 (BitVec.ofNat 16 n)>>>0).setWidth 8=(BitVec.ofNat 16 n).setWidth 8:=by
    apply BitVec.eq_of_getLsbD_eq
    intro i hi
    simp[BitVec.getLsbD_setWidth,hi]
  show [(BitVec.setWidth 64 (BitVec.ofNat 16 n)>>>8).setWidth 8,(BitVec.setWidth 64 (BitVec.ofNat 16 n)>>>0).setWidth 8]=_
  rw[h1,h2]
theorem NX {α:Type} {p q:Prop} [Decidable p] [Decidable q] (h:p↔q) (x y:α):(if p then x else y)=if q then x else y:=by
  by_cases hp:p
  · rw[dx hp,dx (h.1 hp)]
  · rw[dp hp,dp (fun hq=>hp (h.2 hq))]
theorem vq (n:BitVec 64) (c:B8) (h:n.toNat<72057594037927936):((n<<<8)|||c.setWidth 64).toNat=n.toNat*256+c.toNat:=by
  have hc:c.toNat<256:=c.isLt
  have h1:(n<<<8).toNat=n.toNat*256:=by
    rw[BitVec.toNat_shiftLeft,Nat.shiftLeft_eq]
    omega
  rw[BitVec.toNat_or,h1,ey]
  rw[Nat.mod_eq_of_lt gz]
  have:=Nat.shiftLeft_add_eq_or_of_lt (i:=8) (b:=c.toNat) gz n.toNat
  rw[Nat.shiftLeft_eq] at this
  exact this.symm
theorem F2 (a b:B8):(kj [a,b]).toNat=a.toNat*256+b.toNat:=by
  have ha:=a.isLt
  have h1:((0#64<<<8)|||a.setWidth 64).toNat=a.toNat:=by rw[vq _ _ gB];simp
  show (((0#64<<<8|||a.setWidth 64)<<<8)|||b.setWidth 64).toNat=_
  rw[vq _ _ gz,h1]
theorem DX (a b c d:B8):(kj [a,b,c,d]).toNat=((a.toNat*256+b.toNat)*256+c.toNat)*256+d.toNat:=by
  have ha:=a.isLt
  have hb:=b.isLt
  have hc:=c.isLt
  have h2:=F2 a b
  have h3:(((kj [a,b])<<<8)|||c.setWidth 64).toNat=(a.toNat*256+b.toNat)*256+c.toNat:=by rw[vq _ _ gz,h2]
  show ((((kj [a,b])<<<8|||c.setWidth 64)<<<8)|||d.setWidth 64).toNat=_
  rw[vq _ _ gz,h3]
theorem DW (s:qg):DV s=[(s>>>24).setWidth 8,(s>>>16).setWidth 8,(s>>>8).setWidth 8,s.setWidth 8]:=by
  have h:∀k,k≤24→((s.setWidth 64)>>>k).setWidth 8=(s>>>k).setWidth 8:=by
    intro k hk
    apply BitVec.eq_of_getLsbD_eq
    intro i hi
    simp only[BitVec.getLsbD_setWidth,BitVec.getLsbD_ushiftRight,hi,decide_true,Bool.true_and]
    simp
    intro h9;omega
  show [(s.setWidth 64>>>24).setWidth 8,(s.setWidth 64>>>16).setWidth 8,(s.setWidth 64>>>8).setWidth 8,(s.setWidth 64>>>0).setWidth 8]=_
  rw[h 24 gz,h 16 gz,h 8 gz,h 0 gz]
  simp
theorem Q1 (s:qg) (a b c d:B8):DV s=[a,b,c,d]↔(kj [a,b,c,d]).setWidth 32=s:=by
  rw[DW]
  have ha:=a.isLt
  have hb:=b.isLt
  have hc:=c.isLt
  have hd:=d.isLt
  have hs:=s.isLt
  constructor
  · intro h
    simp only[fI,and_true] at h
    obtain ⟨h1,h2,h3,h4⟩:=h
    subst h1 h2 h3 h4
    apply dB
    rw[ey,DX]
    simp only[ey,fe,eZ]
    omega
  · intro h
    have lK:=congrArg BitVec.toNat h
    rw[ey,DX] at lK
    simp only[fI,and_true]
    refine ⟨?_,?_,?_,?_⟩<;>apply dB<;>simp only[ey,fe,eZ]<;>omega
theorem Q0 (a b:B8):xM (a.toNat*256+b.toNat)=[a,b]:=by
  rw[Q4]
  have ha:=a.isLt
  have hb:=b.isLt
  simp only[fI,and_true]
  refine ⟨?_,?_⟩<;>apply dB<;>simp only[ey,fe,eZ,fg]<;>omega
theorem YM (n:Nat) (h:n≤2000):∃a b:B8,xM n=[a,b]∧a.toNat*256+b.toNat=n:=by
  refine ⟨_,_,Q4 n,?_⟩
  simp only[ey,fe,eZ,fg]
  omega
theorem eight {l:List B8} (h:8≤l.length):∃a b c d e f g i t,l=a::b::c::d::e::f::g::i::t:=by
  match l,h with
  |a::b::c::d::e::f::g::i::t,_=>exact ⟨a,b,c,d,e,f,g,i,t,rfl⟩
def uB (b:List B8):Option (List B8):=
  let n:=((kj ((b.drop 2).take 2)).setWidth 16).toNat
  if 8≤b.length∧(kj (b.take 2)).setWidth 16=55206#16∧n≤2000∧8+n≤b.length∧wL (wM ((b.drop 2).take 2)) ((b.drop 8).take n)=(kj ((b.drop 4).take 4)).setWidth 32 then some ((b.drop 8).take n) else none
theorem Rp (b:List B8):uB b=wK b:=by
  by_cases h8:8≤b.length
  · obtain ⟨a0,a1,a2,a3,a4,a5,a6,a7,t,rfl⟩:=eight h8
    have hn:((kj [a2,a3]).setWidth 16).toNat=a2.toNat*256+a3.toNat:=by
      rw[ey,F2]
      have:=a2.isLt
      have:=a3.isLt
      omega
    obtain ⟨n,mW⟩:∃n,n=a2.toNat*256+a3.toNat:=⟨_,rfl⟩
    have hm:((kj [a0,a1]).setWidth 16=55206#16)↔(a0=215#8∧a1=166#8):=by
      have h0:=a0.isLt
      have h1:=a1.isLt
      constructor
      · intro h
        have lK:=congrArg BitVec.toNat h
        rw[ey,F2] at lK
        have e:(55206#16).toNat=55206:=rfl
        rw[e] at lK
        constructor<;>apply dB<;>simp<;>omega
      · rintro ⟨rfl,rfl⟩;decide
    have hc:uB (a0::a1::a2::a3::a4::a5::a6::a7::t)=if (a0=215#8∧a1=166#8)∧n≤2000∧n≤t.length∧wM ([a2,a3]++t.take n)=(kj [a4,a5,a6,a7]).setWidth 32 then some (t.take n) else none:=by
      unfold uB
      simp only[List.drop_succ_cons,List.drop_zero,List.take_succ_cons,fJ,dF]
      rw[hn,←mW,show ∀x y,wL (wM x) y=wM (x++y) from fun x y=>Rt 0#32 x y]
      refine NX ?_ _ _
      constructor
      · rintro ⟨_,h2,h3,h4,h5⟩;exact ⟨hm.1 h2,h3,by omega,h5⟩
      · rintro ⟨h2,h3,h4,h5⟩;exact ⟨by omega,hm.2 h2,h3,by omega,h5⟩
    have hb:wK (a0::a1::a2::a3::a4::a5::a6::a7::t)=if n≤t.length∧n≤2000∧j5 (t.take n)=a0::a1::a2::a3::a4::a5::a6::a7::t.take n then some (t.take n) else none:=by
      unfold wK
      have e2:((a0::a1::a2::a3::a4::a5::a6::a7::t).getD 2 0#8)=a2:=rfl
      have e3:((a0::a1::a2::a3::a4::a5::a6::a7::t).getD 3 0#8)=a3:=rfl
      simp only[e2,e3,←mW]
      have e8:((a0::a1::a2::a3::a4::a5::a6::a7::t).drop 8)=t:=rfl
      have et:((a0::a1::a2::a3::a4::a5::a6::a7::t).take (8+n))=a0::a1::a2::a3::a4::a5::a6::a7::t.take n:=by
        rw[Nat.add_comm];rfl
      rw[e8,et]
      refine NX ?_ _ _
      constructor
      · rintro ⟨h1,h2⟩;exact ⟨by simp only[dF] at*;omega,h2⟩
      · rintro ⟨h1,h2⟩;exact ⟨by simp only[dF] at*;omega,h2⟩
    rw[hc,hb]
    refine NX ?_ _ _
    constructor
    · rintro ⟨⟨rfl,rfl⟩,h3,h4,h5⟩
      refine ⟨h4,h3,?_⟩
      have hl:(t.take n).length=n:=by simp;omega
      rw[j5,hl,mW,Q0,←mW,h5]
      rw[(Q1 _ a4 a5 a6 a7).2 rfl]
      rfl
    · rintro ⟨h3,h4,h5⟩
      have hl:(t.take n).length=n:=by simp;omega
      rw[j5,hl,mW,Q0,←mW] at h5
      obtain ⟨b0,b1,b2,b3,Tf⟩:∃b0 b1 b2 b3,DV (wM ([a2,a3]++t.take n))=[b0,b1,b2,b3]:=⟨_,_,_,_,DW _⟩
      rw[Tf] at h5
      simp only[fp,eC,fI] at h5
      obtain ⟨h6,h7,_,_,L3,h9,re,oN,_⟩:=h5
      subst L3 h9 re oN
      exact ⟨⟨h6.symm,h7.symm⟩,h4,h3,((Q1 _ _ _ _ _).1 Tf).symm⟩
  · unfold uB wK
    rw[dp (fun h=>h8 h.1),dp (fun h=>h8 (by have:=h.1;omega))]
theorem OX (bs:List B8) (sh:Bool) (k:Nat):(my bs sh k).length≤bs.length:=by
  unfold my;split<;>simp
def s1 (p:List B8):Bool:=kO p false 2
def r1 (p:List B8):List B8:=my p false 2
def s2 (p:List B8):Bool:=kO (r1 p) (s1 p) 2
def r2 (p:List B8):List B8:=my (r1 p) (s1 p) 2
def s3 (p:List B8):Bool:=kO (r2 p) (s2 p) 4
def r3 (p:List B8):List B8:=my (r2 p) (s2 p) 4
def uC (p:List B8):Int:=if s3 p then 10 else if 0<(r3 p).length then 11 else 0
theorem Tp (p:List B8) (h:p.length≤8):uC p=0↔p.length=8:=by
  by_cases h2:p.length<2
  · have e1:s1 p=true:=by simp[s1,kO,h2]
    have e2:s2 p=true:=by simp[s2,kO,e1]
    have e3:s3 p=true:=by simp[s3,kO,e2]
    rw[uC,dx e3]
    omega
  · have e1:s1 p=false:=by simp[s1,kO];omega
    have l1:(r1 p).length=p.length-2:=by
      rw[r1,my]
      have:kO p false 2=false:=e1
      rw[this];simp
    by_cases h4:p.length<4
    · have e2:s2 p=true:=by simp[s2,kO,e1];omega
      have e3:s3 p=true:=by simp[s3,kO,e2]
      rw[uC,dx e3]
      omega
    · have e2:s2 p=false:=by simp[s2,kO,e1];omega
      have l2:(r2 p).length=p.length-4:=by
        rw[r2,my]
        have:kO (r1 p) (s1 p) 2=false:=e2
        rw[this];simp;omega
      by_cases h8:p.length<8
      · have e3:s3 p=true:=by simp[s3,kO,e2];omega
        rw[uC,dx e3]
        omega
      · have e3:s3 p=false:=by simp[s3,kO,e2];omega
        have l3:(r3 p).length=0:=by
          rw[r3,my]
          have:kO (r2 p) (s2 p) 4=false:=e3
          rw[this];simp;omega
        rw[uC,e3,l3]
        simp
        omega
theorem OL (rest:List B8):(rest.take 8).length≤8:=by simp;omega
theorem F7 {rest p:List B8} (hp:p=rest.take 8) (h:uC p=0):8≤rest.length∧mj p false 2=rest.take 2∧mj (r1 p) (s1 p) 2=(rest.drop 2).take 2∧mj (r2 p) (s2 p) 4=(rest.drop 4).take 4:=by
  subst hp
  have h8:=(Tp _ (OL rest)).1 h
  have hl:8≤rest.length:=by simp at h8;omega
  obtain ⟨a0,a1,a2,a3,a4,a5,a6,a7,t,rfl⟩:=eight hl
  exact ⟨hl,rfl,rfl,rfl⟩
theorem Zt {rest p:List B8} (hp:p=rest.take 8) (h:uC p≠0):uB rest=none:=by
  subst hp
  have h8:¬(rest.take 8).length=8:=fun e=>h ((Tp _ (OL rest)).2 e)
  unfold uB
  rw[dp]
  intro h9
  have:=h9.1
  simp at h8
  omega
theorem Gg {b:List B8} {k:Nat} (h:k<b.length) (h0:b[k]≠0#8) (hb:uB (b.drop k)=none):lv b k=([],0,31):=by
  rw[Rp] at hb
  rw[lv,dp gz,dp (by
    rintro (e|e)
    · omega
    · apply h0;simpa [List.getD,h] using e)]
  simp[hb]
theorem aaP {b l:List B8} {k:Nat} (h:k<b.length) (h0:b[k]≠0#8) (hb:uB (b.drop k)=some l):lv b k=(l,(k:Int)+8+l.length,0):=by
  rw[Rp] at hb
  rw[lv,dp gz,dp (by
    rintro (e|e)
    · omega
    · apply h0;simpa [List.getD,h] using e)]
  simp[hb]
theorem ae7 (b:List B8) (k:Nat) (h:k≤b.length):(b.drop k).take (min b.length (k+8)-k)=(b.drop k).take 8:=by
  apply List.take_eq_take_iff.2
  simp
  omega
def tA (b:List B8):Nat→Nat→List (List B8)×Nat×Int
  |0,k=>([],k,31)
  |f+1,k=>if (lv b k).2.2=0 then ((lv b k).1::(tA b f (lv b k).2.1.toNat).1,(tA b f (lv b k).2.1.toNat).2) else if (lv b k).2.2=30 then ([],k,0) else ([],k,31)
def vD (b:List B8):List (List B8)×Nat×Int:=tA b (b.length+1) 0
theorem Y4 {b l:List B8} (h:wK b=some l):8+l.length≤b.length∧l.length≤2000∧j5 l=b.take (8+l.length):=by
  unfold wK at h
  simp only at h
  split at h
  · rename_i hh
    obtain ⟨h1,h2,h3⟩:=hh
    simp only[ew] at h
    have hl:l.length=(b.getD 2 0#8).toNat*256+(b.getD 3 0#8).toNat:=by rw[←h];simp only[dE,eg];omega
    rw[←hl] at h1 h2 h3 h
    rw[h] at h3
    exact ⟨h1,h2,h3⟩
  · cases h
theorem aaQ {b:List B8} {k:Nat} (h:(lv b k).2.2=0):k<b.length∧wK (b.drop k)=some (lv b k).1∧(lv b k).2.1=(k:Int)+8+(lv b k).1.length∧k+8+(lv b k).1.length≤b.length∧(lv b k).1.length≤2000:=by
  unfold lv at h ⊢
  by_cases h1:(k:Int)<0∨(b.length:Int)<k
  · rw[dx h1] at h;cases h
  · rw [dp h1] at h ⊢
    by_cases h2:(k:Int)=b.length∨b.getD (k:Int).toNat 0#8=0#8
    · rw[dx h2] at h;cases h
    · rw[dp h2] at h ⊢
      simp only[Int.toNat_natCast] at h ⊢
      cases hb:wK (b.drop k) with
      |none=>rw[hb] at h;cases h
      | some l=>
        have:=Y4 hb
        simp only[eg] at this
        exact ⟨by omega,rfl,rfl,by simp only;omega,this.2.1⟩
structure wG (b:List B8) (acc:List (List B8)) (f k:Nat):Prop where
  all:vD b=(acc++(tA b f k).1,(tA b f k).2)
  here:k≤b.length
  fuel:b.length-k<f
  jW:acc.length≤k
theorem wG.start (b:List B8):wG b [] (b.length+1) 0:=⟨by simp[vD],dN _,by omega,dA _⟩
theorem wG.next {b:List B8} {acc:List (List B8)} {f k:Nat} (h:wG b acc f k) (h0:(lv b k).2.2=0):∃lS sm,(lv b k).2.1=(lS:Nat)∧f=sm+1∧wG b (acc++[(lv b k).1]) sm lS∧k<lS:=by
  obtain ⟨h1,h2,h3,h4,h5⟩:=aaQ h0
  obtain ⟨sm,rfl⟩:∃sm,f=sm+1:=⟨f-1,by have:=h.fuel;omega⟩
  refine ⟨k+8+(lv b k).1.length,sm,by rw[h3];omega,rfl,⟨?_,h4,by have:=h.fuel;omega,by have:=h.jW;simp;omega⟩,by omega⟩
  rw[h.all]
  have e:(lv b k).2.1.toNat=k+8+(lv b k).1.length:=by rw[h3];omega
  simp only[tA,dx h0,e,dD,fp,eC]
theorem wG.stop {b:List B8} {acc:List (List B8)} {f k:Nat} (h:wG b acc f k) (h0:(lv b k).2.2=30):vD b=(acc,k,0):=by
  obtain ⟨sm,rfl⟩:∃sm,f=sm+1:=⟨f-1,by have:=h.fuel;omega⟩
  rw[h.all]
  simp[tA,h0]
theorem wG.bad {b:List B8} {acc:List (List B8)} {f k:Nat} (h:wG b acc f k) (h0:¬(lv b k).2.2=0) (h1:¬(lv b k).2.2=30):vD b=(acc,k,31):=by
  obtain ⟨sm,rfl⟩:∃sm,f=sm+1:=⟨f-1,by have:=h.fuel;omega⟩
  rw[h.all]
  simp[tA,h0,h1]
def flat (jL:List (List B8)):List B8:=(jL.map j5).flatten
theorem LK:flat []=[]:=rfl
theorem LI (l:List B8) (jL:List (List B8)):flat (l::jL)=j5 l++flat jL:=rfl
theorem LH (a b:List (List B8)):flat (a++b)=flat a++flat b:=by simp[flat]
theorem IM (l:List B8):flat [l]=j5 l:=by simp[flat]
theorem LJ (l:List B8) (jL:List (List B8)):(flat (l::jL)).length=l.length+8+(flat jL).length:=by rw[LI,dr,Gc]
theorem aar (jL:List (List B8)):8*jL.length≤(flat jL).length:=by
  induction jL with
  |nil=>simp
  |cons l g ih=>rw[LJ,dF];omega
def AH (jL:List (List B8)):List Int:=(List.range jL.length).map fun i=>((flat (jL.take (i+1))).length:Int)
theorem aae (jL:List (List B8)):(AH jL).length=jL.length:=by simp[AH]
theorem aaf (jL:List (List B8)) (l:List B8):AH (jL++[l])=AH jL++[((flat jL++j5 l).length:Int)]:=by
  unfold AH
  rw[dr,dZ,List.range_succ,fW]
  congr 1
  · apply List.map_congr_left
    intro i hi
    have:=List.mem_range.1 hi
    rw[dQ gz]
  · simp only[dY,List.map_nil]
    rw[dL (by simp),LH,IM]
theorem aad (jL:List (List B8)) (i:Nat) (h:i<jL.length):(AH jL)[i]?=some ((flat (jL.take (i+1))).length:Int):=by simp[AH,h]
def Qt (jL:List (List B8)):Prop:=∀l∈jL,l.length≤2000
theorem SD {α:Type} (a b:List α) (d:α):(a++b).getD a.length d=b.getD 0 d:=by simp only[List.getD];rw[fD (dA _),Nat.sub_self]
theorem WW {α:Type} (a b:List α) (n:Nat) (h:n=a.length):(a++b).take n=a:=by subst h;simp
theorem ZV {α:Type} (a b:List α) (n:Nat) (h:n=a.length):(a++b).drop n=b:=by subst h;simp
theorem Sq (l:List B8) (hl:l.length≤2000):∃a b c d e f,j5 l=215#8::166#8::a::b::c::d::e::f::l∧a.toNat*256+b.toNat=l.length:=by
  obtain ⟨a,b,h1,h2⟩:=YM l.length hl
  obtain ⟨c,d,e,f,h4⟩:∃c d e f,DV (wM (xM l.length++l))=[c,d,e,f]:=⟨_,_,_,_,DW _⟩
  exact ⟨a,b,c,d,e,f,by rw[j5,h4,h1];rfl,h2⟩
theorem Y3 (l rest:List B8) (hl:l.length≤2000):wK (j5 l++rest)=some l:=by
  obtain ⟨a,b,c,d,e,f,h1,h2⟩:=Sq l hl
  have hlen:=Gc l
  have g2:(j5 l++rest).getD 2 0#8=a:=by rw[h1];rfl
  have g3:(j5 l++rest).getD 3 0#8=b:=by rw[h1];rfl
  have hd:(j5 l++rest).drop 8=l++rest:=by rw[h1];rfl
  unfold wK
  simp only[g2,g3,h2,hd]
  rw[WW l rest _ rfl,WW (j5 l) rest _ gz,dx]
  exact ⟨by rw[dr];omega,hl,rfl⟩
theorem aau (l rest:List B8) (hl:l.length≤2000):(j5 l++rest).getD 0 0#8=215#8:=by
  obtain ⟨a,b,c,d,e,f,h1,h2⟩:=Sq l hl
  rw[h1];rfl
theorem aaO (pre l rest:List B8) (hl:l.length≤2000):lv (pre++(j5 l++rest)) pre.length=(l,((pre.length+(l.length+8):Nat):Int),0):=by
  have hlen:=Gc l
  have hz:(pre++(j5 l++rest)).getD (pre.length:Int).toNat 0#8=215#8:=by
    rw[←aau l rest hl,Int.toNat_natCast,SD]
  rw[lv,dp (by simp only[dr];omega),dp (by
    rintro (h|h)
    · simp only[dr] at h;omega
    · rw[hz] at h;exact absurd h gB)]
  simp only[Int.toNat_natCast]
  rw[ZV pre _ _ rfl,Y3 l rest hl]
  simp only
  congr 2
  omega
theorem QG (rest:List B8):∀(jL:List (List B8)) (pre:List B8) (f:Nat),Qt jL→
    tA (pre++(flat jL++rest)) (jL.length+f) pre.length=(jL++(tA (pre++(flat jL++rest)) f (pre.length+(flat jL).length)).1,(tA (pre++(flat jL++rest)) f (pre.length+(flat jL).length)).2)
  |[],pre,f,_=>by simp[LK]
  | l::jL,pre,f,h=>by
    have hl:l.length≤2000:=h l dy
    have e:pre++(flat (l::jL)++rest)=pre++(j5 l++(flat jL++rest)):=by rw[LI,dD]
    have hg:=aaO pre l (flat jL++rest) hl
    rw[←e] at hg
    have ih:=QG rest jL (pre++j5 l) f (fun m hm=>h m (dt _ hm))
    have e2:(pre++j5 l)++(flat jL++rest)=pre++(flat (l::jL)++rest):=by rw[LI];simp
    rw[e2] at ih
    have hn:(pre++j5 l).length=pre.length+(l.length+8):=by rw[dr,Gc]
    rw[hn] at ih
    rw[dF,show jL.length+1+f=(jL.length+f)+1 by omega,tA,hg]
    simp only[if_true,Int.toNat_natCast]
    rw[ih,LJ]
    simp only[fp,Nat.add_assoc]
theorem Yl {b:List B8} {f k:Nat} (hk:k≤b.length) (h:k=b.length∨b.getD k 0#8=0#8):tA b (f+1) k=([],k,0):=by
  have:lv b k=([],0,30):=by
    rw[lv,dp gz,dx]
    rcases h with h|h
    · left;omega
    · right;simpa using h
  rw[tA,this]
  simp
theorem QH (jL:List (List B8)) (rest:List B8) (h:Qt jL) (hr:rest=[]∨rest.getD 0 0#8=0#8):vD (flat jL++rest)=(jL,(flat jL).length,0):=by
  have hf:=aar jL
  have:=QG rest jL [] ((flat jL++rest).length+1-jL.length) h
  simp only[eC,dR,eV] at this
  rw[vD,show (flat jL++rest).length+1=jL.length+((flat jL++rest).length+1-jL.length) by simp only[dr];omega,this]
  obtain ⟨f,AY⟩:∃f,(flat jL++rest).length+1-jL.length=f+1:=⟨(flat jL++rest).length-jL.length,by simp only[dr];omega⟩
  rw[AY,Yl (by simp) (by
    rcases hr with rfl|hr
    · left;simp
    · right;rw[SD];exact hr)]
  simp
end Go.Sum
namespace Go.SL
def iu (n:BitVec 64) (k:Nat):List (BitVec 8):=(List.range k).map fun i=>(n>>>(8*(k-1-i))).setWidth 8
theorem ju (n:BitVec 64) (k:Nat):(iu n k).length=k:=by simp[iu]
theorem Q5 (n:BitVec 64) (k i:Nat) (h:i<k):(iu n k).take (i+1)=(iu n k).take i++[(n>>>(8*(k-1-i))).setWidth 8]:=by
  rw[dJ (by rw[ju];exact h)]
  simp[iu]
theorem Q6 (n:BitVec 8):iu (n.setWidth 64) 1=[n]:=by
  simp[iu]
def kj (l:List (BitVec 8)):BitVec 64:=l.foldl (fun n c=>(n<<<8)|||c.setWidth 64) 0#64
theorem Q2 (l:List (BitVec 8)) (i:Nat) (h:i<l.length):kj (l.take (i+1))=((kj (l.take i))<<<8)|||l[i].setWidth 64:=by
  unfold kj
  rw[dJ h,List.foldl_append]
  rfl
theorem Q3 (b:BitVec 8):(kj [b]).setWidth 8=b:=by
  apply BitVec.eq_of_getLsbD_eq
  intro i hi
  simp[kj,BitVec.getLsbD_setWidth,hi]
theorem vq (n:BitVec 64) (c:BitVec 8) (h:n.toNat<72057594037927936):((n<<<8)|||c.setWidth 64).toNat=n.toNat*256+c.toNat:=by
  have hc:=c.isLt
  have e1:(n<<<8).toNat=2 ^ 8*n.toNat:=by
    simp[BitVec.toNat_shiftLeft,Nat.shiftLeft_eq]
    omega
  have e2:(c.setWidth 64).toNat=c.toNat:=by
    rw[ey]
    omega
  rw[BitVec.toNat_or,e1,e2,←Nat.two_pow_add_eq_or_of_lt (by simpa using hc)]
  omega
theorem DW (s:BitVec 32):iu (s.setWidth 64) 4=[(s>>>24).setWidth 8,(s>>>16).setWidth 8,(s>>>8).setWidth 8,s.setWidth 8]:=by
  have h:∀k,k≤24→((s.setWidth 64)>>>k).setWidth 8=(s>>>k).setWidth 8:=fun k hk=>by
    apply BitVec.eq_of_getLsbD_eq
    intro i hi
    simp only[BitVec.getLsbD_setWidth,BitVec.getLsbD_ushiftRight,hi,decide_true,Bool.true_and]
    simp
    try (intro h;omega)
  show [((s.setWidth 64)>>>24).setWidth 8,((s.setWidth 64)>>>16).setWidth 8,((s.setWidth 64)>>>8).setWidth 8,((s.setWidth 64)>>>0).setWidth 8]=_
  rw[h 24 gz,h 16 gz,h 8 gz,h 0 gz,BitVec.ushiftRight_zero]
theorem F2 (a b:BitVec 8):(kj [a,b]).toNat=a.toNat*256+b.toNat:=by
  have ha:=a.isLt
  have h1:((0#64<<<8)|||a.setWidth 64).toNat=a.toNat:=by rw[vq _ _ gB];simp
  show (((0#64<<<8|||a.setWidth 64)<<<8)|||b.setWidth 64).toNat=_
  rw[vq _ _ gz,h1]
theorem DX (a b c d:BitVec 8):(kj [a,b,c,d]).toNat=((a.toNat*256+b.toNat)*256+c.toNat)*256+d.toNat:=by
  have ha:=a.isLt
  have hb:=b.isLt
  have hc:=c.isLt
  have h2:=F2 a b
  have h3:(((kj [a,b])<<<8)|||c.setWidth 64).toNat=(a.toNat*256+b.toNat)*256+c.toNat:=by rw[vq _ _ gz,h2]
  show ((((kj [a,b])<<<8|||c.setWidth 64)<<<8)|||d.setWidth 64).toNat=_
  rw[vq _ _ gz,h3]
theorem Lf (s:BitVec 32):(kj (iu (s.setWidth 64) 4)).setWidth 32=s:=by
  rw[DW]
  apply dB
  rw[ey,DX]
  have:=s.isLt
  simp only[ey,fe,eZ]
  omega
theorem YN (a b c d:BitVec 8):iu (((kj [a,b,c,d]).setWidth 32).setWidth 64) 4=[a,b,c,d]:=by
  rw[DW]
  have h:=DX a b c d
  have ha:=a.isLt;have hb:=b.isLt;have hc:=c.isLt;have hd:=d.isLt
  have e:((kj [a,b,c,d]).setWidth 32).toNat=((a.toNat*256+b.toNat)*256+c.toNat)*256+d.toNat:=by
    rw[ey,h];omega
  congr 1
  · apply dB
    simp only[ey,fe,eZ] at e ⊢
    omega
  congr 1
  · apply dB
    simp only[ey,fe,eZ] at e ⊢
    omega
  congr 1
  · apply dB
    simp only[ey,fe,eZ] at e ⊢
    omega
  congr 1
  apply dB
  simp only[ey] at e ⊢
  omega
def kO (bs:List (BitVec 8)) (sh:Bool) (k:Nat):Bool:=sh||decide (bs.length<k)
def mj (bs:List (BitVec 8)) (sh:Bool) (k:Nat):List (BitVec 8):=if kO bs sh k then [] else bs.take k
def my (bs:List (BitVec 8)) (sh:Bool) (k:Nat):List (BitVec 8):=if kO bs sh k then bs else bs.drop k
theorem OW (bs:List (BitVec 8)) (sh:Bool) (k:Nat):(mj bs sh k).length≤k:=by
  unfold mj;split<;>simp;omega
theorem afq (bs:List (BitVec 8)) (sh:Bool) (k:Nat):(my bs sh k).length≤bs.length:=by
  unfold my;split<;>simp
def oh (bs:List (BitVec 8)):Nat:=1+(bs.headD 0#8).toNat
theorem W8 (bs:List (BitVec 8)):oh bs≤256:=by
  unfold oh
  have:=(bs.headD 0#8).isLt
  omega
def HK (bs:List (BitVec 8)) (sh:Bool):List (BitVec 8):=(mj bs sh (oh bs)).drop 1
theorem W7 (bs:List (BitVec 8)) (sh:Bool):(HK bs sh).length≤255:=by
  unfold HK
  have:=OW bs sh (oh bs)
  have:=W8 bs
  rw[eg];omega
structure jQ where
  bs:List (BitVec 8)
  sh:Bool
def jQ.lQ (r:jQ) (k:Nat):List (BitVec 8):=mj r.bs r.sh k
def jQ.on (r:jQ) (k:Nat):jQ:=⟨my r.bs r.sh k,kO r.bs r.sh k⟩
def jQ.u8 (r:jQ):BitVec 8:=(kj (r.lQ 1)).setWidth 8
def jQ.u32 (r:jQ):BitVec 32:=(kj (r.lQ 4)).setWidth 32
def jQ.text (r:jQ):List (BitVec 8):=HK r.bs r.sh
def jQ.Hw (r:jQ):jQ:=r.on (oh r.bs)
theorem jQ.VD (r:jQ) (k:Nat):(r.on k).bs.length≤r.bs.length:=afq _ _ _
def tb (s:List (BitVec 8)):List (BitVec 8):=BitVec.ofInt 8 s.length::s
theorem cv {a b:List (BitVec 8)} {k:Nat} (h:a.length=k):(jQ.mk (a++b) false).lQ k=a∧(jQ.mk (a++b) false).on k=⟨b,false⟩:=by
  have hs:kO (a++b) false k=false:=by simp[kO];omega
  constructor
  · show mj _ _ _=_
    unfold mj
    rw[hs,dp gB,dQ gz,dL gz]
  · show jQ.mk (my _ _ _) (kO _ _ _)=_
    unfold my
    rw[hs,dp gB,eN gz,fv gz]
    rfl
theorem jQ.ahz (x:BitVec 8) (b:List (BitVec 8)):(jQ.mk (x::b) false).u8=x∧(jQ.mk (x::b) false).on 1=⟨b,false⟩:=by
  have h:=cv (a:=[x]) (b:=b) (k:=1) rfl
  rw[List.singleton_append] at h
  refine ⟨?_,h.2⟩
  unfold jQ.u8
  rw[h.1,Q3]
theorem jQ.ahw (x:BitVec 32) (b:List (BitVec 8)):(jQ.mk (iu (x.setWidth 64) 4++b) false).u32=x∧(jQ.mk (iu (x.setWidth 64) 4++b) false).on 4=⟨b,false⟩:=by
  have h:=cv (a:=iu (x.setWidth 64) 4) (b:=b) (k:=4) (ju _ _)
  refine ⟨?_,h.2⟩
  unfold jQ.u32
  rw[h.1,Lf]
theorem len8 {s:List (BitVec 8)} (h:s.length≤255):(BitVec.ofInt 8 (s.length:Int)).toNat=s.length:=by
  rw[dX]
  omega
theorem jQ.ahd {s:List (BitVec 8)} (hs:s.length≤255) (b:List (BitVec 8)):(jQ.mk (tb s++b) false).text=s∧(jQ.mk (tb s++b) false).Hw=⟨b,false⟩:=by
  have hn:oh (tb s++b)=1+s.length:=by
    unfold oh tb
    rw[fp,List.headD_cons,len8 hs]
  have h:=cv (a:=tb s) (b:=b) (k:=1+s.length) (by simp[tb];omega)
  constructor
  · show (mj _ _ (oh _)).drop 1=s
    rw[hn]
    have h1:=h.1
    unfold jQ.lQ at h1
    simp only at h1
    rw[h1]
    rfl
  · show (jQ.mk (tb s++b) false).on (oh (tb s++b))=_
    rw[hn]
    exact h.2
theorem cB {r:jQ} {k:Nat} (h:(r.on k).sh=false):r.sh=false∧r.bs=r.lQ k++(r.on k).bs∧(r.lQ k).length=k:=by
  have lK:kO r.bs r.sh k=false:=h
  have h1:r.sh=false∧¬r.bs.length<k:=by
    simpa [kO] using lK
  refine ⟨h1.1,?_,?_⟩
  · show r.bs=mj _ _ _++my _ _ _
    unfold mj my
    rw[lK,dp gB,dp gB,fz]
  · show (mj _ _ _).length=k
    unfold mj
    rw[lK,dp gB,dE]
    omega
theorem jQ.ahA {r:jQ} (h:(r.on 1).sh=false):r.sh=false∧r.bs=r.u8::(r.on 1).bs:=by
  obtain ⟨h1,h2,h3⟩:=cB h
  refine ⟨h1,?_⟩
  obtain ⟨x,hx⟩:∃x,r.lQ 1=[x]:=by
    match hg:r.lQ 1,h3 with
    |[x],_=>exact ⟨x,rfl⟩
  rw[hx] at h2
  unfold jQ.u8
  rw[hx,Q3]
  exact h2
theorem jQ.ahx {r:jQ} (h:(r.on 4).sh=false):r.sh=false∧r.bs=iu (r.u32.setWidth 64) 4++(r.on 4).bs:=by
  obtain ⟨h1,h2,h3⟩:=cB h
  refine ⟨h1,?_⟩
  unfold jQ.u32
  generalize r.lQ 4=g at h2 h3 ⊢
  match g,h3 with
  |[a,b,c,d],_=>rw[YN];exact h2
theorem di {r:jQ} (h:r.Hw.sh=false):r.sh=false∧r.bs=tb r.text++r.Hw.bs∧r.text.length≤255:=by
  obtain ⟨h1,h2,h3⟩:=cB (k:=oh r.bs) h
  refine ⟨h1,?_,W7 _ _⟩
  have e:r.lQ (oh r.bs)=tb r.text:=by
    have e1:r.text=(r.lQ (oh r.bs)).drop 1:=rfl
    unfold tb
    rw[e1]
    generalize hg:r.lQ (oh r.bs)=g at h2 h3 ⊢
    cases g with
    | nil=>
      simp[oh] at h3
      omega
    | cons x g=>
      simp only[List.drop_one,List.tail_cons]
      congr 1
      have hx:(r.bs.headD 0#8)=x:=by rw[h2];rfl
      have hl:g.length=x.toNat:=by
        unfold oh at h3
        rw[hx] at h3
        simp at h3
        omega
      rw[hl]
      apply dB
      rw[dX]
      have:=x.isLt
      omega
  rw[←e]
  exact h2
end Go.SL
