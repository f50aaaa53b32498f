/-
  Lemmas and walks that TopOne and TopSolo stands on (part 4); no condition.
-/
import Derived.Test.YtchdmlkiggdhaaaGreatTopB3
set_option linter.unusedVariables false
set_option linter.unusedSimpArgs false
namespace Go.SL
open Top
def qW (b:Bool):BitVec 8:=if b then 1#8 else 0#8
def b8 (n:Int):BitVec 8:=BitVec.ofInt 8 n
theorem BP {n:Int} (h0:0≤n) (h:n≤255):((b8 n).toNat:Int)=n:=by
  unfold b8;rw[dX];omega
theorem BO {a b:Int} (ha:0≤a∧a≤255) (hb:0≤b∧b≤255) (h:b8 a=b8 b):a=b:=by
  rw[←BP ha.1 ha.2,←BP hb.1 hb.2,h]
theorem Q8 {a b:Bool} (h:qW a=qW b):a=b:=by cases a<;>cases b<;>first|rfl|exact absurd h gB
def qe (e:En):List (BitVec 8):=
  if e.kind=2 then iu (e.order.setWidth 64) 4++(tb e.key++tb e.data)
  else if e.kind=3 then iu (e.order.setWidth 64) 4++[b8 e.step,qW e.iy,b8 e.tr]
  else if e.kind=4 then iu (e.order.setWidth 64) 4++[b8 e.step,qW e.iy,b8 e.tr,b8 e.code]
  else if e.kind=5 then iu (e.order.setWidth 64) 4++[b8 e.code]
  else []
def iB (e:En):List (BitVec 8):=b8 e.kind::(iu e.gF 8++(iu (e.ep.setWidth 64) 4++qe e))
theorem YP (s:BitVec 64):iu s 8=[(s>>>56).setWidth 8,(s>>>48).setWidth 8,(s>>>40).setWidth 8,(s>>>32).setWidth 8,(s>>>24).setWidth 8,(s>>>16).setWidth 8,(s>>>8).setWidth 8,s.setWidth 8]:=by
  show [(s>>>56).setWidth 8,(s>>>48).setWidth 8,(s>>>40).setWidth 8,(s>>>32).setWidth 8,(s>>>24).setWidth 8,(s>>>16).setWidth 8,(s>>>8).setWidth 8,(s>>>0).setWidth 8]=_
  rw[BitVec.ushiftRight_zero]
theorem YR (a b c d e f g i:BitVec 8):(kj [a,b,c,d,e,f,g,i]).toNat=((((((a.toNat*256+b.toNat)*256+c.toNat)*256+d.toNat)*256+e.toNat)*256+f.toNat)*256+g.toNat)*256+i.toNat:=by
  have ha:=a.isLt;have hb:=b.isLt;have hc:=c.isLt;have hd:=d.isLt;have he:=e.isLt;have hf:=f.isLt;have hg:=g.isLt
  have h4:=DX a b c d
  have h5:(kj [a,b,c,d,e]).toNat=(kj [a,b,c,d]).toNat*256+e.toNat:=vq (kj [a,b,c,d]) e gz
  have h6:(kj [a,b,c,d,e,f]).toNat=(kj [a,b,c,d,e]).toNat*256+f.toNat:=vq (kj [a,b,c,d,e]) f gz
  have h7:(kj [a,b,c,d,e,f,g]).toNat=(kj [a,b,c,d,e,f]).toNat*256+g.toNat:=vq (kj [a,b,c,d,e,f]) g gz
  have h8:(kj [a,b,c,d,e,f,g,i]).toNat=(kj [a,b,c,d,e,f,g]).toNat*256+i.toNat:=vq (kj [a,b,c,d,e,f,g]) i gz
  rw[h8,h7,h6,h5,h4]
theorem Lg (s:BitVec 64):kj (iu s 8)=s:=by
  rw[YP]
  apply dB
  rw[YR]
  have:=s.isLt
  simp only[ey,fe,eZ]
  omega
theorem YQ {a b:BitVec 64} (h:iu a 8=iu b 8):a=b:=by rw[←Lg a,h,Lg]
theorem F1 {a b:BitVec 32} (h:iu (a.setWidth 64) 4=iu (b.setWidth 64) 4):a=b:=by rw[←Lf a,h,Lf]
theorem jQ.ahy (x:BitVec 64) (b:List (BitVec 8)):kj ((jQ.mk (iu x 8++b) false).lQ 8)=x∧(jQ.mk (iu x 8++b) false).on 8=⟨b,false⟩:=by
  have h:=cv (a:=iu x 8) (b:=b) (k:=8) (ju _ _)
  refine ⟨?_,h.2⟩
  rw[h.1,Lg]
theorem WY {a b c d:List (BitVec 8)} (ha:a.length≤255) (hb:b.length≤255) (h:tb a++c=tb b++d):a=b∧c=d:=by
  unfold tb at h
  rw[fp,fp,fI] at h
  have h1:=congrArg BitVec.toNat h.1
  rw[len8 ha,len8 hb] at h1
  exact List.append_inj h.2 h1
theorem RT {e:En} (h:iZ e):1≤e.kind∧e.kind≤5:=by
  rcases h.2.2 with h|⟨h,_⟩|⟨h,_⟩|⟨h,_⟩|⟨h,_⟩<;>(have k9:=congrArg En.kind h;simp only at k9;omega)
theorem Z7 {a b:En} (ha:iZ a) (hb:iZ b) (h:iB a=iB b):a=b:=by
  have ka:=RT ha
  have kb:=RT hb
  unfold iB at h
  rw[fI] at h
  have hk:a.kind=b.kind:=BO gz gz h.1
  obtain ⟨h1,h2⟩:=List.append_inj h.2 (by rw[ju,ju])
  obtain ⟨h3,h4⟩:=List.append_inj h2 (by rw[ju,ju])
  have hl:=YQ h1
  have he:=F1 h3
  unfold qe at h4
  rw[←hk] at h4
  rcases ha.2.2 with ea|⟨ea,_,_,a3,a4⟩|⟨ea,_,a2,a3,a4,a5⟩|⟨ea,_,a2,a3,a4,a5,a6,a7⟩|⟨ea,_,a6,a7⟩
  all_goals have k9:=congrArg En.kind ea
  all_goals simp only at k9
  all_goals rw[k9] at hk
  all_goals rcases hb.2.2 with eb|⟨eb,_,_,b3,b4⟩|⟨eb,_,b2,b3,b4,b5⟩|⟨eb,_,b2,b3,b4,b5,b6,b7⟩|⟨eb,_,b6,b7⟩
  all_goals have k8:=congrArg En.kind eb
  all_goals simp only at k8
  all_goals rw[k8] at hk
  all_goals first|exact absurd hk gB|skip
  · rw[ea,eb,hl,he]
  · rw[k9,dx rfl,dx rfl] at h4
    obtain ⟨h5,h6⟩:=List.append_inj h4 (by rw[ju,ju])
    obtain ⟨h7,h8⟩:=WY gz gz h6
    have L3:tb a.data++[]=tb b.data++[]:=by rw[h8]
    have h9:=(WY gz gz L3).1
    rw[ea,eb,hl,he,F1 h5,h7,h9]
  · rw[k9,dp gB,dx rfl,dp gB,dx rfl] at h4
    obtain ⟨h5,h6⟩:=List.append_inj h4 (by rw[ju,ju])
    simp only[fI,and_true] at h6
    rw[ea,eb,hl,he,F1 h5,BO gz gz h6.1,Q8 h6.2.1,BO gz gz h6.2.2]
  · rw[k9,dp gB,dp gB,dx rfl,dp gB,dp gB,dx rfl] at h4
    obtain ⟨h5,h6⟩:=List.append_inj h4 (by rw[ju,ju])
    simp only[fI,and_true] at h6
    rw[ea,eb,hl,he,F1 h5,BO gz gz h6.1,Q8 h6.2.1,BO gz gz h6.2.2.1,BO gz gz h6.2.2.2]
  · rw[k9,dp gB,dp gB,dp gB,dx rfl,dp gB,dp gB,dp gB,dx rfl] at h4
    obtain ⟨h5,h6⟩:=List.append_inj h4 (by rw[ju,ju])
    simp only[fI,and_true] at h6
    rw[ea,eb,hl,he,F1 h5,BO gz gz h6]
theorem BU {e:En} (h:iZ e):13≤(iB e).length∧(iB e).length≤255:=by
  have hr:(qe e).length≤240:=by
    unfold qe
    rcases h.2.2 with ea|⟨ea,_,_,a3,a4⟩|⟨ea,_⟩|⟨ea,_⟩|⟨ea,_⟩
    all_goals have k9:=congrArg En.kind ea
    all_goals simp only at k9
    all_goals rw[k9]
    all_goals simp[ju,tb]
    omega
  unfold iB
  simp only[dF,dr,ju]
  omega
def yF (a b:En):Prop:=b.gF.toNat=a.gF.toNat+1∧(b.ep=a.ep∨(b.kind=1∧a.ep.toNat<b.ep.toNat))
structure mE (l:List En):Prop where
  ok:∀e∈l,iZ e
  nx:∀(i:Nat) (h:i+1<l.length),yF l[i] l[i+1]
structure mn (l:List En):Prop where
  mG:mE l
  one:∀(h:0<l.length),l[0].gF.toNat=1
theorem mn.gF {l:List En} (r:mn l):∀(i:Nat) (h:i<l.length),l[i].gF.toNat=i+1
  |0,h=>r.one h
  |i+1,h=>by rw[(r.mG.nx i h).1,r.gF i gz]
theorem mE.nil:mE []:=⟨fun _ h=>absurd h ej,fun i h=>absurd h (by simp)⟩
theorem mn.nil:mn []:=⟨mE.nil,fun h=>absurd h (gl _)⟩
theorem mE.take {l:List En} (c:mE l) (n:Nat):mE (l.take n):=
  ⟨fun e h=>c.ok e (fY h),fun i h=>by
    rw[dE] at h
    rw[List.getElem_take,List.getElem_take]
    exact c.nx i gz⟩
theorem mE.drop {l:List En} (c:mE l) (n:Nat):mE (l.drop n):=
  ⟨fun e h=>c.ok e (List.mem_of_mem_drop h),fun i h=>by
    rw[eg] at h
    rw[List.getElem_drop,List.getElem_drop]
    exact c.nx (n+i) gz⟩
theorem mn.take {l:List En} (r:mn l) (n:Nat):mn (l.take n):=
  ⟨r.mG.take n,fun h=>by rw[dE] at h;rw[List.getElem_take];exact r.one gz⟩
theorem mE.snoc {l:List En} (c:mE l) {e:En} (he:iZ e) (ha:∀x,l.getLast?=some x→yF x e):mE (l++[e]):=by
  refine ⟨fun x h=>?_,fun i h=>?_⟩
  · rcases dT.1 h with h|h
    · exact c.ok x h
    · rw[dH.1 h];exact he
  · simp only[dr,dZ] at h
    by_cases h9:i+1<l.length
    · rw[eY gz,eY h9]
      exact c.nx i h9
    · have h8:i+1=l.length:=by omega
      rw[eY gz,List.getElem_append_right gz]
      simp only[h8,Nat.sub_self,List.getElem_cons_zero]
      refine ha _ ?_
      rw[fE,show l.length-1=i by omega,dK gz]
theorem mn.snoc {l:List En} (r:mn l) {e:En} (he:iZ e) (hl:e.gF.toNat=l.length+1) (ha:∀x,l.getLast?=some x→e.ep=x.ep∨(e.kind=1∧x.ep.toNat<e.ep.toNat)):mn (l++[e]):=by
  refine ⟨r.mG.snoc he fun x hx=>⟨?_,ha x hx⟩,fun h=>?_⟩
  · rw[fE] at hx
    obtain ⟨h1,h2⟩:=dV.1 hx
    rw[hl,←h2,r.gF _ h1]
    omega
  · cases l with
    |nil=>exact hl
    |cons a l=>exact r.one (by simp)
structure gR where
  no:BitVec 32
  first:BitVec 64
  l:List En
def oR (no:BitVec 32) (first:BitVec 64):List (BitVec 8):=83#8::(iu (no.setWidth 64) 4++iu first 8)
def pJ (s:gR):List (List (BitVec 8)):=oR s.no s.first::s.l.map iB
def jw (s:gR):List (BitVec 8):=Sum.flat (pJ s)
def ij (s:gR):List (BitVec 8):=jw s++List.replicate (1024-(jw s).length) 0#8
def jI (s:gR):List Int:=Sum.AH (pJ s)
def gR.snoc (s:gR) (e:En):gR:=⟨s.no,s.first,s.l++[e]⟩
def gR.cut (s:gR) (n:Nat):gR:=⟨s.no,s.first,s.l.take n⟩
theorem Eu (no:BitVec 32) (first:BitVec 64):(oR no first).length=13:=by simp[oR,ju]
theorem Rb (s:gR) (e:En):pJ (s.snoc e)=pJ s++[iB e]:=by simp[pJ,gR.snoc]
theorem HE (s:gR) (e:En):jw (s.snoc e)=jw s++Sum.j5 (iB e):=by unfold jw;rw[Rb,Sum.LH,Sum.IM]
theorem RW (s:gR) (e:En):jI (s.snoc e)=jI s++[((jw s++Sum.j5 (iB e)).length:Int)]:=by unfold jI jw;rw[Rb,Sum.aaf]
theorem F4 (s:gR):(pJ s).length=s.l.length+1:=by simp[pJ]
theorem BV (s:gR):(jI s).length=s.l.length+1:=by unfold jI;rw[Sum.aae,F4]
def mB (s:gR) (n:Nat):Nat:=(Sum.flat ((pJ s).take (n+1))).length
theorem IG (s:gR) (n:Nat) (h:n≤s.l.length):(jI s)[n]?=some (mB s n:Int):=by
  unfold jI mB
  rw[Sum.aad _ _ (by rw[F4];omega)]
theorem Z9 (s:gR):mB s s.l.length=(jw s).length:=by
  unfold mB jw
  rw[dL (by rw[F4];omega)]
theorem DY (s:gR) (n:Nat):pJ (s.cut n)=(pJ s).take (n+1):=by simp[pJ,gR.cut,List.map_take]
theorem Kl (s:gR) (n:Nat):jw (s.cut n)=(jw s).take (mB s n):=by
  unfold jw mB
  rw[DY]
  conv=>rhs;arg 2;rw[←fz (n+1) (pJ s),Sum.LH]
  rw[dQ (dA _),eH]
theorem IF (s:gR) (n:Nat):mB s n≤(jw s).length:=by
  have:=congrArg List.length (Kl s n)
  have h2:(jw (s.cut n)).length=mB s n:=by unfold jw mB;rw[DY]
  rw[dE] at this
  omega
theorem aag (s:gR) (n:Nat) (h:n≤s.l.length):jI (s.cut n)=(jI s).take (n+1):=by
  apply eM
  intro i
  by_cases hi:i≤n
  · rw[fw gz,IG s i gz,IG _ i (by show i≤(s.l.take n).length;rw[dE];omega)]
    congr 2
    unfold mB
    rw[DY,gd,eE gz]
  · rw[eG (by rw[BV];show (s.l.take n).length+1≤i;rw[dE];omega),eG (by rw[dE,BV];omega)]
def lO {α:Type} (gI:List α) (o:Nat) (b:List α):List α:=gI.take o++(b++gI.drop (o+b.length))
theorem Ds {α:Type} {gI b:List α} {o:Nat} (h:o+b.length≤gI.length):(lO gI o b).length=gI.length:=by
  unfold lO;simp only[dr,dE,eg];omega
theorem wj {α:Type} {gI b:List α} {o:Nat} (h:o+b.length≤gI.length) (k:Nat):(lO gI o b)[k]?=if k<o then gI[k]? else if k<o+b.length then b[k-o]? else gI[k]?:=by
  unfold lO
  by_cases h1:k<o
  · rw[dx h1,eT (by rw[dE];omega),fw h1]
  · rw[dp h1,fD (by rw[dE];omega),dE,eE gz]
    by_cases h2:k<o+b.length
    · rw[dx h2,eT gz]
    · rw[dp h2,fD gz,ft]
      congr 1;omega
theorem De {s:gR} (h:(jw s).length≤1024):(ij s).length=1024:=by
  unfold ij;simp only[dr,gj];omega
theorem acE {s:gR} {e:En} (h:(jw (s.snoc e)).length≤1024):lO (ij s) (jw s).length (Sum.j5 (iB e))=ij (s.snoc e):=by
  rw[HE,dr] at h
  unfold ij lO
  rw[HE,dQ (dA _),eH,dD]
  congr 2
  rw[fH,List.drop_replicate,dr]
  congr 1;omega
theorem acD {s:gR} (n:Nat) (h:(jw s).length≤1024):(ij s).take (mB s n)++List.replicate (1024-mB s n) 0#8=ij (s.cut n):=by
  have h1:=IF s n
  have h2:(jw (s.cut n)).length=mB s n:=by unfold jw mB;rw[DY]
  unfold ij
  rw[h2,Kl,dQ h1]
def slot (gI:List (BitVec 8)) (i:Nat):List (BitVec 8):=(gI.drop (1024*i)).take 1024
def lZ (gI:List (BitVec 8)) (j:Nat) (x:List (BitVec 8)):List (BitVec 8):=lO gI (1024*j) x
theorem yv {gI:List (BitVec 8)} (hl:gI.length=32768) {i:Nat} (hi:i<32):(slot gI i).length=1024:=by
  unfold slot;rw[dE,eg];omega
theorem Pj {gI:List (BitVec 8)} {i k:Nat} (hk:k<1024):(slot gI i)[k]?=gI[1024*i+k]?:=by
  unfold slot;rw[fw hk,ft]
theorem Fh {gI x:List (BitVec 8)} {j:Nat} (hl:gI.length=32768) (hj:j<32) (hx:x.length=1024):(lZ gI j x).length=32768:=by
  unfold lZ;rw[Ds gz,hl]
theorem Fl {gI x:List (BitVec 8)} {i j:Nat} (hl:gI.length=32768) (hi:i<32) (hj:j<32) (hx:x.length=1024):slot (lZ gI j x) i=if i=j then x else slot gI i:=by
  apply eM
  intro k
  by_cases hk:k<1024
  · rw[Pj hk]
    unfold lZ
    rw[wj gz]
    by_cases e:i=j
    · subst e
      rw[dp gz,dx gz,dx rfl]
      congr 1;omega
    · rw[dp e,Pj hk]
      by_cases h1:1024*i+k<1024*j
      · rw[dx h1]
      · rw[dp h1,dp gz]
  · rw[eG (by rw[yv (Fh hl hj hx) hi];omega)]
    by_cases e:i=j
    · rw[dx e,eG gz]
    · rw[dp e,eG (by rw[yv hl hi];omega)]
theorem Fi {gI:List (BitVec 8)} {j:Nat} (hl:gI.length=32768) (hj:j<32):lZ gI j (slot gI j)=gI:=by
  have hs:=yv hl hj
  apply eM
  intro k
  unfold lZ
  rw[wj gz]
  by_cases h1:k<1024*j
  · rw[dx h1]
  · rw[dp h1]
    by_cases h2:k<1024*j+(slot gI j).length
    · rw[dx h2,Pj gz]
      congr 1;omega
    · rw[dp h2]
theorem Kb {gI x b:List (BitVec 8)} {i j:Nat} (hl:gI.length=32768) (hj:j<32) (hx:x.length=1024) (hi:i<16) (hb:b.length=64):lO (lZ gI j x) (64*(j*16+i)) b=lZ gI j (lO x (64*i) b):=by
  have h1:=Fh hl hj hx
  have h2:(lO x (64*i) b).length=1024:=by rw[Ds gz,hx]
  apply eM
  intro k
  rw[wj gz]
  unfold lZ
  rw[wj gz,wj gz,wj gz,h2,hx,hb]
  repeat' split
  all_goals first|rfl|(exfalso;omega)|(congr 1;omega)
def j9 (x:List (BitVec 8)) (i:Nat):List (BitVec 8):=(x.drop (64*i)).take 64
theorem wJ {x:List (BitVec 8)} (hx:x.length=1024) {i:Nat} (hi:i<16):(j9 x i).length=64:=by
  unfold j9;rw[dE,eg];omega
theorem Az {x:List (BitVec 8)} {i k:Nat} (hk:k<64):(j9 x i)[k]?=x[64*i+k]?:=by
  unfold j9;rw[fw hk,ft]
def mix (y x:List (BitVec 8)) (i:Nat):List (BitVec 8):=y.take (64*i)++x.drop (64*i)
theorem Bm {x y:List (BitVec 8)} (hx:x.length=1024) (hy:y.length=1024) (i:Nat):(mix y x i).length=1024:=by
  unfold mix;rw[dr,dE,eg];omega
theorem zP {x y:List (BitVec 8)} (hx:x.length=1024) (hy:y.length=1024) {i:Nat} (hi:i≤16) (k:Nat):(mix y x i)[k]?=if k<64*i then y[k]? else x[k]?:=by
  unfold mix
  by_cases h:k<64*i
  · rw[dx h,eT (by rw[dE];omega),fw h]
  · rw[dp h,fD (by rw[dE];omega),dE,eE gz,ft]
    congr 1;omega
theorem Vm (y x:List (BitVec 8)):mix y x 0=x:=by simp[mix]
theorem Om {x y:List (BitVec 8)} (hx:x.length=1024) (hy:y.length=1024):mix y x 16=y:=by
  unfold mix
  rw[dL gz,fv gz,eF]
theorem On {x y:List (BitVec 8)} (hx:x.length=1024) (hy:y.length=1024) {i:Nat} (hi:i<16):lO (mix y x i) (64*i) (j9 y i)=mix y x (i+1):=by
  have hb:=wJ hy hi
  have hm:=Bm hx hy i
  apply eM
  intro k
  rw[wj gz,zP hx hy gz,zP hx hy gz,hb]
  by_cases a:k<64*i
  · rw[dx a,dx a,dx gz]
  · rw[dp a]
    by_cases c:k<64*i+64
    · rw[dx c,dx gz,Az gz]
      congr 1;omega
    · rw[dp c,dp a,dp gz]
theorem aes {x y:List (BitVec 8)} (hx:x.length=1024) (hy:y.length=1024) {i:Nat} (hi:i<16):lO (mix x y (i+1)) (64*i) (j9 y i)=mix x y i:=by
  have hb:=wJ hy hi
  have hm:=Bm hy hx (i+1)
  apply eM
  intro k
  rw[wj gz,zP hy hx gz,zP hy hx gz,hb]
  by_cases a:k<64*i
  · rw[dx a,dx gz,dx a]
  · rw[dp a]
    by_cases c:k<64*i+64
    · rw[dx c,dp a,Az gz]
      congr 1;omega
    · rw[dp c,dp gz,dp a]
theorem aeu {x y:List (BitVec 8)} (hx:x.length=1024) (hy:y.length=1024) {i:Nat} (hi:i<16) (h:j9 x i=j9 y i):mix y x i=mix y x (i+1):=by
  apply eM
  intro k
  rw[zP hx hy gz,zP hx hy gz]
  by_cases a:k<64*i
  · rw[dx a,dx gz]
  · rw[dp a]
    by_cases c:k<64*(i+1)
    · rw[dx c]
      have:=congrArg (fun l=>l[k-64*i]?) h
      simp only[Az (x:=x) (i:=i) (k:=k-64*i) gz,Az (x:=y) (i:=i) (k:=k-64*i) gz] at this
      rwa [show 64*i+(k-64*i)=k by omega] at this
    · rw[dp c]
theorem YZ {x y:List (BitVec 8)} (hx:x.length=1024) (hy:y.length=1024) {i:Nat} (hi:i<16):j9 (mix y x i) i=j9 x i:=by
  apply eM
  intro k
  by_cases hk:k<64
  · rw[Az hk,Az hk,zP hx hy gz,dp gz]
  · rw[eG (by rw[wJ (Bm hx hy i) hi];omega),eG (by rw[wJ hx hi];omega)]
structure Holds (gI:List (BitVec 8)) (ss:List gR):Prop where
  len:gI.length=32768
  on:∀(i:Nat) (h:i<ss.length),slot gI i=ij ss[i]
  off:∀i,ss.length≤i→i<32→(slot gI i)[0]?=some 0#8
def gh (ss:List gR):List En:=ss.flatMap (·.l)
theorem rK (ss:List gR) (s:gR):gh (ss++[s])=gh ss++s.l:=by simp[gh]
structure yJ (a:List gR) (s:gR):Prop where
  no:s.no.toNat=a.length
  first:s.first.toNat=(gh a).length+1
  fit:(jw s).length≤1024
  ne:a≠[]→s.l≠[]
inductive xH:List gR→Prop
  |nil:xH []
  |snoc {a:List gR} {s:gR}:xH a→yJ a s→25≤s.l.length→xH (a++[s])
theorem xH.many {a:List gR} (h:xH a):25*a.length≤(gh a).length:=by
  induction h with
  |nil=>simp
  |snoc _ _ h3 ih=>rw[rK,dr,dr,dZ];omega
theorem xH.at {a:List gR} (h:xH a):∀(i:Nat) (hi:i<a.length),yJ (a.take i) a[i]:=by
  induction h with
  |nil=>intro i hi;simp at hi
  | @snoc a s h1 h2 h3 ih=>
    intro i hi
    by_cases h9:i<a.length
    · rw[eY h9,dQ gz]
      exact ih i h9
    · have h8:i=a.length:=by simp at hi;omega
      subst h8
      rw[eO rfl,dQ (dA _),eH]
      exact h2
structure iM (ss:List gR):Prop where
  sg:ss=[]∨∃a s,ss=a++[s]∧xH a∧yJ a s
  row:mn (gh ss)
  small:∀e∈gh ss,(iB e).length≤30
theorem iM.nil:iM []:=⟨.inl rfl,mn.nil,fun _ h=>absurd h ej⟩
theorem iM.at {ss:List gR} (j:iM ss) (i:Nat) (hi:i<ss.length):yJ (ss.take i) ss[i]:=by
  rcases j.sg with rfl|⟨a,s,rfl,h1,h2⟩
  · simp at hi
  · by_cases h9:i<a.length
    · rw[eY h9,dQ gz]
      exact h1.at i h9
    · have h8:i=a.length:=by simp at hi;omega
      subst h8
      rw[eO rfl,dQ (dA _),eH]
      exact h2
theorem iM.jW {ss:List gR} (j:iM ss) (h:(gh ss).length≤130):ss.length≤6:=by
  rcases j.sg with rfl|⟨a,s,rfl,h1,h2⟩
  · simp
  · have:=h1.many
    rw[rK,dr] at h
    simp only[dr,dZ]
    omega
theorem Yk {ss:List gR} {i:Nat} (h:i<ss.length):∀e∈ss[i].l,e∈gh ss:=fun e he=>List.mem_flatMap.2 ⟨_,dG h,he⟩
theorem Ge (l:List (BitVec 8)):(Sum.j5 l).length=l.length+8:=Sum.Gc l
theorem Wx (s:gR) (h:∀e∈s.l,(iB e).length≤30):(jw s).length≤21+38*s.l.length:=by
  obtain ⟨no,first,l⟩:=s
  have e:jw ⟨no,first,l⟩=Sum.j5 (oR no first)++Sum.flat (l.map iB):=rfl
  rw[e,dr,Ge,Eu]
  suffices h9:(Sum.flat (l.map iB)).length≤38*l.length by show _≤21+38*l.length;omega
  replace h:∀e∈l,(iB e).length≤30:=h
  clear e
  induction l with
  |nil=>simp[Sum.LK]
  | cons a l ih=>
    rw[dY,Sum.LJ,dF]
    have:=ih (fun e he=>h e (dt _ he))
    have:=h a dy
    omega
theorem iM.add {a:List gR} {s:gR} {e:En} (j:iM (a++[s])) (hf:(jw (s.snoc e)).length≤1024) (hr:mn (gh (a++[s])++[e])) (hs:(iB e).length≤30):iM (a++[s.snoc e])∧gh (a++[s.snoc e])=gh (a++[s])++[e]:=by
  have e1:gh (a++[s.snoc e])=gh (a++[s])++[e]:=by rw[rK,rK,dD];rfl
  rcases j.sg with h|⟨gX,jj,h,h1,h2⟩
  · simp at h
  · obtain ⟨rfl,h9⟩:=List.append_inj' h rfl
    cases h9
    refine ⟨⟨.inr ⟨a,_,rfl,h1,⟨h2.no,h2.first,hf,fun _=>by simp[gR.snoc]⟩⟩,by rw[e1];exact hr,fun x hx=>?_⟩,e1⟩
    rw[e1] at hx
    rcases dT.1 hx with hx|hx
    · exact j.small x hx
    · rw[dH.1 hx];exact hs
def Dk (ss:List gR) (e:En):gR:=⟨BitVec.ofNat 32 ss.length,e.gF,[e]⟩
theorem iM.yz {ss:List gR} {e:En} (j:iM ss) (abr:ss=[]∨∃a s,ss=a++[s]∧1024<(jw s).length+38) (hr:mn (gh ss++[e])) (hs:(iB e).length≤30) (hn:(gh ss).length≤130):iM (ss++[Dk ss e])∧gh (ss++[Dk ss e])=gh ss++[e]:=by
  have uL:=j.jW hn
  have e1:gh (ss++[Dk ss e])=gh ss++[e]:=by rw[rK];rfl
  have pQ:e.gF.toNat=(gh ss).length+1:=by
    have:=hr.gF (gh ss).length (by simp)
    rwa [eO rfl] at this
  have hL:yJ ss (Dk ss e):=by
    refine ⟨?_,pQ,?_,fun _=>by simp[Dk]⟩
    · show (BitVec.ofNat 32 ss.length).toNat=_
      rw[fg];omega
    · have:=Wx (Dk ss e) (fun x hx=>by rw[dH.1 hx];exact hs)
      simp only[Dk,dZ] at this ⊢
      omega
  have hP:xH ss:=by
    rcases j.sg with rfl|⟨a,s,rfl,h1,h2⟩
    · exact .nil
    · refine .snoc h1 h2 ?_
      rcases abr with h|⟨gX,jj,h,h3⟩
      · simp at h
      · obtain ⟨rfl,h9⟩:=List.append_inj' h rfl
        cases h9
        have:=Wx s (fun x hx=>j.small x (by rw[rK];exact dq _ hx))
        omega
  refine ⟨⟨.inr ⟨ss,_,rfl,hP,hL⟩,by rw[e1];exact hr,fun x hx=>?_⟩,e1⟩
  rw[e1] at hx
  rcases dT.1 hx with hx|hx
  · exact j.small x hx
  · rw[dH.1 hx];exact hs
theorem iM.pop {a:List gR} {s:gR} (j:iM (a++[s])) (ha:a≠[]):iM a∧gh a=(gh (a++[s])).take (gh a).length:=by
  have e1:gh a=(gh (a++[s])).take (gh a).length:=by rw[rK,dQ (dA _),eH]
  rcases j.sg with h|⟨gX,jj,h,h1,h2⟩
  · simp at h
  · obtain ⟨rfl,h9⟩:=List.append_inj' h rfl
    cases h9
    refine ⟨⟨?_,by rw[e1];exact j.row.take _,fun x hx=>j.small x (by rw[rK];exact dw _ hx)⟩,e1⟩
    cases h1 with
    |nil=>exact .inl rfl
    |snoc h3 h4 h5=>exact .inr ⟨_,_,rfl,h3,h4⟩
theorem iM.last {a:List gR} {s:gR} (j:iM (a++[s])):xH a∧yJ a s:=by
  rcases j.sg with h|⟨gX,jj,h,h1,h2⟩
  · simp at h
  · obtain ⟨rfl,h9⟩:=List.append_inj' h rfl
    cases h9
    exact ⟨h1,h2⟩
theorem iM.cut {a:List gR} {s:gR} (j:iM (a++[s])) {m:Nat} (hm:m≤s.l.length) (h0:a≠[]→0<m):iM (a++[s.cut m])∧gh (a++[s.cut m])=(gh (a++[s])).take ((gh a).length+m):=by
  have e1:gh (a++[s.cut m])=(gh (a++[s])).take ((gh a).length+m):=by
    rw[rK,rK,List.take_length_add_append];rfl
  obtain ⟨h1,h2⟩:=j.last
  refine ⟨⟨.inr ⟨a,_,rfl,h1,⟨h2.no,h2.first,?_,fun h9 h8=>?_⟩⟩,by rw[e1];exact j.row.take _,fun x hx=>j.small x ?_⟩,e1⟩
  · have:=congrArg List.length (Kl s m)
    rw[dE] at this
    have:=h2.fit
    omega
  · have:(s.l.take m).length=0:=by rw[show s.l.take m=[] from h8];rfl
    rw[dE] at this
    have:=h0 h9
    omega
  · rw[e1] at hx
    exact fY hx
def tG (e:En):Prop:=iZ e∨(e.gF≠0#64∧e.ep≠0#32∧e={En.z with kind:=5,gF:=e.gF,ep:=e.ep,order:=e.order,code:=e.code}∧e.order≠0#32∧e.code=0)
def vK (e:En):Int:=if e.kind=5∧e.code=0 then 40 else 0
theorem xN {e:En} (h:iZ e):vK e=0:=by
  unfold vK
  rw[dp]
  rintro ⟨k,c⟩
  rcases h.2.2 with ea|⟨ea,_⟩|⟨ea,_⟩|⟨ea,_⟩|⟨ea,_,a1,_⟩
  all_goals have k9:=congrArg En.kind ea
  all_goals simp only at k9
  all_goals omega
structure Qu (e:En):Prop where
  gF:e.gF≠0#64
  ep:e.ep≠0#32
  kind:1≤e.kind∧e.kind≤5
  s1:e.kind=1→e.order=0#32
  s2:e.kind≠3→e.kind≠4→e.step=0∧e.iy=false∧e.tr=0
  s3:e.kind≠4→e.kind≠5→e.code=0
  s4:e.mark=0#64
  s5:e.kind≠2→e.key=[]∧e.data=[]
  o:e.kind≠1→0<e.order.toNat
  k2:e.kind=2→0<e.key.length∧e.key.length≤32∧e.data.length≤200
  k3:e.kind=3∨e.kind=4→0≤e.step∧e.step<16∧1≤e.tr∧e.tr≤255
  k4:e.kind=4→1≤e.code∧e.code≤3
  k5:e.kind=5→0≤e.code∧e.code≤3
theorem VW {x:BitVec 32} (h:x≠0#32):0<x.toNat:=gp fun e=>h (dB e)
theorem tG.qP {e:En} (h:tG e):Qu e:=by
  rcases h with ⟨h1,h2,h⟩|⟨h1,h2,ea,h3,h4⟩
  · rcases h with ea|⟨ea,h3,h4⟩|⟨ea,h3,h4⟩|⟨ea,h3,h4⟩|⟨ea,h3,h4⟩
    all_goals
      have k9:=congrArg En.kind ea
      have k8:=congrArg En.order ea
      have k7:=congrArg En.step ea
      have k6:=congrArg En.iy ea
      have k5:=congrArg En.tr ea
      have k4:=congrArg En.code ea
      have k3:=congrArg En.mark ea
      have k2:=congrArg En.key ea
      have k1:=congrArg En.data ea
      clear ea
      simp only[En.z] at k9 k8 k7 k6 k5 k4 k3 k2 k1
      have k0:e.kind≠1→0<e.order.toNat:=fun q=>by first|exact VW h3|exact absurd k9 q
      refine ⟨h1,h2,by omega,?_,?_,?_,k3,?_,k0,?_,?_,?_,?_⟩
      all_goals intros
      all_goals first|assumption|omega|exact ⟨k7,k6,k5⟩|exact ⟨k2,k1⟩|(exfalso;omega)|(refine ⟨?_,?_,?_⟩<;>omega)|(refine ⟨?_,?_⟩<;>omega)
  · have k9:=congrArg En.kind ea
    have k7:=congrArg En.step ea
    have k6:=congrArg En.iy ea
    have k5:=congrArg En.tr ea
    have k3:=congrArg En.mark ea
    have k2:=congrArg En.key ea
    have k1:=congrArg En.data ea
    clear ea
    simp only[En.z] at k9 k7 k6 k5 k3 k2 k1
    refine ⟨h1,h2,by omega,?_,?_,?_,k3,?_,fun _=>VW h3,?_,?_,?_,?_⟩
    all_goals intros
    all_goals first|assumption|omega|exact ⟨k7,k6,k5⟩|exact ⟨k2,k1⟩|(exfalso;omega)|(refine ⟨?_,?_⟩<;>omega)
theorem iZ.qP {e:En} (h:iZ e):Qu e:=tG.qP (.inl h)
theorem VS.rowAt {α:Type} {E:Rec α} {v:Value} {l:List α} {H:List Ck} (h:VS E v l H) {i:Nat} (hi:i<l.length) (hs:0<E.s):
    ∃(b o cap:Nat) (cs:List Value) (T:TypeId) (fr:Nat×Nat) (ex:Bool),v=.slice (some ⟨b,o,none⟩) l.length cap∧l.length≤cap∧(⟨b,.cells cs.toArray T fr,ex⟩:Ck)∈H∧∃c,E.at_ H c l[i]∧(cs.drop (o+i*E.s)).take E.s=c:=by
  obtain ⟨b,o,cap,cs,T,fr,ex,h1,h2,h3,c,h4,h5⟩:=h.cell hi hs
  refine ⟨b,o,cap,cs,T,fr,ex,h1,h2,h3,c,h4,?_⟩
  have hl:=E.len h4
  apply eM
  intro j
  by_cases hj:j<E.s
  · rw[fw hj,ft,h5 j hj]
  · rw[eG (by rw[dE];omega),eG gz]
theorem sV {e:En} {vk vd:Value} (h1:vk.oneCell'=true) (h2:vd.oneCell'=true):∀u∈enc e vk vd,u.oneCell'=true:=by
  intro u hu
  simp only[enc,eS,ej,or_false] at hu
  rcases hu with rfl|rfl|rfl|rfl|rfl|rfl|rfl|rfl|rfl|rfl|rfl<;>first|rfl|assumption
theorem xS {e:En} {m0 m1 m2 m3 m4 m6 m7 m8:Int} {u:Bool} {vk vd:Value} (h0:m0=e.kind) (h1:m1=e.gF.toNat) (h2:m2=e.ep.toNat) (h3:m3=e.order.toNat) (h4:m4=e.step) (h5:u=e.iy) (h6:m6=e.tr) (h7:m7=e.code) (h8:m8=e.mark.toNat):
    [Value.int .i64 m0,.int .u64 m1,.int .u32 m2,.int .u32 m3,.int .i64 m4,.bool u,.int .i64 m6,.int .i64 m7,.int .u64 m8,vk,vd]=enc e vk vd:=by
  subst h0 h1 h2 h3 h4 h5 h6 h7 h8;rfl
theorem YU (b:Bool):decide (qW b=1#8)=b:=by cases b<;>rfl
theorem Q9 (b:Bool):¬(1:Int)<((qW b).toNat:Int):=by cases b<;>decide
def yy (e:En):List (BitVec 8):=if e.kind=4 then [b8 e.code] else []
theorem Wi {e:En} (h:e.kind=3∨e.kind=4):qe e=iu (e.order.setWidth 64) 4++(b8 e.step::(qW e.iy::(b8 e.tr::yy e))):=by
  unfold qe yy
  rcases h with h|h
  · rw[dp gz,dx h,dp gz]
  · rw[dp gz,dp gz,dx h,dx h]
theorem QA {a b:En} (h:b.gF.toNat=a.gF.toNat+1):b.gF-1#64=a.gF:=by
  apply dB
  rw[fx (by rw[gq];show 1≤_;omega)]
  show b.gF.toNat-1=_
  omega
theorem RO {e:En} (h:e.kind=2):iB e=((([]++[b8 e.kind])++iu e.gF 8)++iu (e.ep.setWidth 64) 4)++iu (e.order.setWidth 64) 4++tb e.key++tb e.data:=by
  unfold iB qe;rw[dx h];simp
theorem RP {e:En} (h:e.kind=3):iB e=((([]++[b8 e.kind])++iu e.gF 8)++iu (e.ep.setWidth 64) 4)++iu (e.order.setWidth 64) 4++[b8 e.step]++[qW e.iy]++[b8 e.tr]:=by
  unfold iB qe;rw[dp gz,dx h];simp
theorem RR {e:En} (h:e.kind=4):iB e=((([]++[b8 e.kind])++iu e.gF 8)++iu (e.ep.setWidth 64) 4)++iu (e.order.setWidth 64) 4++[b8 e.step]++[qW e.iy]++[b8 e.tr]++[b8 e.code]:=by
  unfold iB qe;rw[dp gz,dp gz,dx h];simp
theorem RS {e:En} (h:e.kind=5):iB e=((([]++[b8 e.kind])++iu e.gF 8)++iu (e.ep.setWidth 64) 4)++iu (e.order.setWidth 64) 4++[b8 e.code]:=by
  unfold iB qe;rw[dp gz,dp gz,dp gz,dx h];simp
theorem RN {e:En} (h:e.kind=1):iB e=(([]++[b8 e.kind])++iu e.gF 8)++iu (e.ep.setWidth 64) 4:=by
  unfold iB qe;rw[dp gz,dp gz,dp gz,dp gz];simp
end Go.SL
namespace Go.SL
section
variable {P:Program} {l:Sl} {H:List Ck} {K:Next→List Ck→Prop} {d:Option Nat} {ty:TypeId} {pos:String} {gJ:Array Edge} {g:Option (Nat×Bool)}
theorem bt {x:Operand} {T e s b o n:Nat} (hT:arrayOf P T=some (n,e)) (hs:me P e=some s) (hx:ev l x=some (.pointer (some ⟨b,o,none⟩))):
    Yd P ⟨d,.slice T x none none none,ty,pos,gJ,g⟩ l (.slice (some ⟨b,o,none⟩) n n):=fun a kn w=>by
  by_cases h0:n=0
  · subst h0
    simp[execOp,kn.ev hx,Instr.sliceAt,dP (HN hT),Instr.sureAddr,Instr.sliceBounds,run_sizeOf hs]
  · simp[execOp,kn.ev hx,Instr.sliceAt,dP (HN hT),Instr.sureAddr,Instr.sliceBounds,run_sizeOf hs,h0,add_plain]
theorem bY {x y:Operand} {T e s b o n i:Nat} {k:IntKind} {m:Int} (hT:arrayOf P T=some (n,e)) (hs:me P e=some s) (hx:ev l x=some (.pointer (some ⟨b,o,none⟩))) (hy:ev l y=some (.int k m)) (hm:m=(i:Int)) (hi:i≤n):
    Yd P ⟨d,.slice T x (some y) none none,ty,pos,gJ,g⟩ l (.slice (some ⟨b,if n=i then o else o+i*s,none⟩) (n-i) (n-i)):=fun a kn w=>by
  subst hm
  by_cases h0:n=i
  · subst h0
    simp[execOp,kn.ev hx,kn.ev hy,Instr.sliceAt,dP (HN hT),Instr.sureAddr,Instr.sliceBounds,Instr.sliceBound,asIntOf,run_sizeOf hs]
  · simp[execOp,kn.ev hx,kn.ev hy,Instr.sliceAt,dP (HN hT),Instr.sureAddr,Instr.sliceBounds,Instr.sliceBound,asIntOf,run_sizeOf hs,h0,add_plain,hi]
theorem cP {T e n sz bytes:Nat} {x y:Operand} {z:Value} {k1 k2:IntKind} {m im:Int} (hT:lk P T=some e) (hE:rM P e=some (sz,List.replicate sz z,bytes)) (hx:ev l x=some (.int k1 m)) (hy:ev l y=some (.int k2 im)) (hm:m=(n:Int)) (lD:im=(n:Int)) (hb:bytes*n≤140737488355328) (hn:n≤4611686018427387904) (mR:0<sz)
    (k:∀b,K (.value (.slice (some ⟨b,0,none⟩) n n)) (row b (List.replicate (n*sz) z) e::H)):Hd P ⟨d,.makeSlice T x y,ty,pos,gJ,g⟩ l H K:=fun a w R kn s=>by
  obtain ⟨i,zz,hi,tX,qv,I5,xl⟩:=BT hE
  subst hm lD
  have hw:IntKind.i64.wrap (n:Int)=n:=wrap64_in gz gz
  refine ⟨_,_,row w.heap.size (List.replicate (n*sz) z) e::H,?_,s.push (.cells (List.replicate (n*sz) z).toArray e) true,⟨rfl,rfl,rfl,by simp,by first|exact dA _|exact eh _⟩,k w.heap.size⟩
  have zw:¬((n:Int)<0):=by omega
  have Dd:zz.cells=Array.replicate sz z:=by apply Array.ext';simpa using xl
  have MG:¬(281474976710656<(i.bytes:Int)*(n:Int)):=by
    rw[I5]
    have:((bytes*n:Nat):Int)≤140737488355328:=by omega
    rw[Int.natCast_mul] at this
    omega
  have Tl:∀q,Array.map (fun x=>(Array.replicate sz z)[x%sz]?.getD default) (Array.range q)=Array.replicate q z:=fun q=>by
    apply Array.ext
    · simp
    · intro j h1 h2
      simp[Nat.mod_lt _ mR]
  simp only[execOp,kn.ev hx,kn.ev hy,Instr.makeSlice]
  by_cases h0:n=0
  · subst h0
    have Hf:IntKind.i64.wrap 0=0:=wrap64_in gz gz
    have AO:Array.range 0=#[]:=rfl
    simp[Hf,AO,dP (qR hT),asInt,asIntOf,typeInfo,hi,hw,sizeOf,qv,newRow]
  · have h9:n*sz≠0:=Nat.mul_ne_zero h0 gz
    have zD:¬sz=0:=by omega
    simp[MG,dP (qR hT),asInt,asIntOf,typeInfo,hi,hw,zw,sizeOf,qv,h0,zD,h9,zeroValue,tX,Dd,newRow]
    congr 1
    refine congrArg (fun q=>Obj.cells q e) ?_
    apply Array.ext
    · simp
    · intro j h1 h2
      simp[Nat.mod_lt _ mR]
theorem Hd.Y8 {T e sz:Nat} {zs:List Value} (hT:lk P T=some e) (hS:me P e=some sz) (hz:zeroOf P e=some zs) (k:∀b,K (.value (.slice (some ⟨b,0,none⟩) 0 0)) (row b [] e::H)):Hd P ⟨d,.buildSlice T 0 #[],ty,pos,gJ,g⟩ l H K:=
  Hd.buildSlice (parts:=[]) (vs:=[]) (cells:=[]) hT hS hz rfl (by simp) (by simp[Instr.fill]) k
theorem il.empty (b:Nat) (e:TypeId) (sz:Nat):il (.slice (some ⟨b,0,none⟩) 0 0) 0 [] e sz [row b [] e]:=
  .inr ⟨b,0,[],rfl,dA _,by simp only[maxLen];omega,by simp,by simp,rfl⟩
theorem il.open {v:Value} {n:Nat} {xs:List Value} {e:TypeId} {sz:Nat} {C:List Ck} (h:il v n xs e sz C) (h0:0<n):
    ∃b cap extra,v=.slice (some ⟨b,0,none⟩) n cap∧n≤cap∧C=[row b (xs++extra) e]∧∀KJ:List Value,KJ.length=xs.length→il v n KJ e sz [row b (KJ++extra) e]:=by
  rcases h with ⟨_,hn,_,_⟩|⟨b,cap,extra,rfl,h1,h2,h3,h4,rfl⟩
  · omega
  · exact ⟨b,cap,extra,rfl,h1,rfl,fun KJ hx=>.inr ⟨b,cap,extra,rfl,h1,h2,hx.trans h3,h4,rfl⟩⟩
theorem ag7 {α:Type} (xs extra vs:List α) (o:Nat) (h:o+vs.length≤xs.length):(xs++extra).take o++(vs++(xs++extra).drop (o+vs.length))=(xs.take o++(vs++xs.drop (o+vs.length)))++extra:=by
  rw[dQ gz,eN h,dD,dD]
theorem QY (n:Nat):bc (List.replicate n 0#8)=List.replicate n (.int .u8 0):=by simp[bc]
end
section
variable {P:Program} {l:Sl} {H:List Ck} {K:Next→List Ck→Prop} {d:Option Nat} {ty:TypeId} {pos:String} {gJ:Array Edge} {g:Option (Nat×Bool)}
def kQ (v:Value) (n:Nat) (xs:List Value) (T:TypeId) (sz:Nat) (C:List Ck):Prop:=
  (v=.slice none 0 0∧n=0∧xs=[]∧C=[])∨
  ∃(b cap:Nat) (extra:List Value),v=.slice (some ⟨b,0,none⟩) n cap∧n≤cap∧cap≤maxLen∧xs.length=n*sz∧(cap-n)*sz≤extra.length∧C=[row b (xs++extra) T]
theorem il.w {v:Value} {n:Nat} {xs:List Value} {T:TypeId} {sz:Nat} {C:List Ck} (h:il v n xs T sz C):kQ v n xs T sz C:=by
  rcases h with h|⟨b,cap,extra,h1,h2,h3,h4,h5,h6⟩
  · exact .inl h
  · exact .inr ⟨b,cap,extra,h1,h2,h3,h4,Nat.le_of_eq h5.symm,h6⟩
theorem kQ.nil (T:TypeId) (sz:Nat):kQ (.slice none 0 0) 0 [] T sz []:=.inl ⟨rfl,rfl,rfl,rfl⟩
theorem kQ.len {v:Value} {n:Nat} {xs:List Value} {T:TypeId} {sz:Nat} {C:List Ck} (h:kQ v n xs T sz C):xs.length=n*sz:=by
  rcases h with ⟨_,rfl,rfl,_⟩|⟨_,_,_,_,_,_,h,_⟩
  · simp
  · exact h
theorem kQ.rs {v:Value} {n:Nat} {xs:List Value} {T:TypeId} {sz:Nat} {C:List Ck} (h:kQ v n xs T sz C):Rs v n xs C:=by
  rcases h with ⟨rfl,rfl,rfl,rfl⟩|⟨b,cap,extra,rfl,h1,h2,h3,h4,rfl⟩
  · exact .inl ⟨_,_,rfl,rfl,rfl⟩
  · exact .inr ⟨b,0,cap,xs++extra,T,(0,0),true,rfl,h1,dy,by simp⟩
theorem kQ.form {v:Value} {n:Nat} {xs:List Value} {T:TypeId} {sz:Nat} {C:List Ck} (h:kQ v n xs T sz C):∃ao cap,v=.slice ao n cap∧n≤cap:=h.rs.form
theorem kQ.cut {ao:Option Addr} {c n:Nat} {xs:List Value} {T:TypeId} {sz:Nat} {C:List Ck} (h:kQ (.slice ao n c) n xs T sz C) {m:Nat} (hm:m≤n):kQ (.slice ao m m) m (xs.take (m*sz)) T sz C:=by
  rcases h with ⟨h0,rfl,rfl,rfl⟩|⟨b,cap,extra,h0,h1,h2,h3,h4,rfl⟩
  · obtain rfl:m=0:=by omega
    cases h0
    exact .inl ⟨rfl,rfl,by simp,rfl⟩
  · cases h0
    refine .inr ⟨b,m,xs.drop (m*sz)++extra,rfl,dA _,by omega,?_,by simp,?_⟩
    · rw[dE,h3]
      exact eE (fM _ hm)
    · rw[←dD,fz]
theorem cL {x hi mx:Operand} {T e s:Nat} {ao:Option Addr} {n c j q:Nat} {k2 k3:IntKind} {m2 m3:Int} (hT:lk P T=some e) (hs:me P e=some s) (hx:ev l x=some (.slice ao n c))
    (hh:ev l hi=some (.int k2 m2)) (hm:ev l mx=some (.int k3 m3)) (e2:m2=(j:Int)) (e3:m3=(q:Int)) (h2:j≤q) (h3:q≤c) (ha:∀a,ao=some a→a.spot=none):
    Yd P ⟨d,.slice T x none (some hi) (some mx),ty,pos,gJ,g⟩ l (.slice ao j q):=fun a kn w=>by
  subst e2 e3
  have hu:=dP (qR hT)
  have e0:ao.map (·.add 0)=ao:=by
    cases ao with
    |none=>rfl
    | some a=>
      obtain ⟨b,o,sp⟩:=a
      obtain rfl:sp=none:=ha _ rfl
      show some ((⟨b,o,none⟩:Addr).add 0)=_
      rw[add_plain];rfl
  by_cases h0:q=0
  · subst h0
    obtain rfl:j=0:=by omega
    simp[execOp,kn.ev hx,Instr.sliceAt,Instr.slice,hu,Instr.sliceBounds,Instr.sliceBound,asIntOf,kn.ev hh,kn.ev hm,run_sizeOf hs,h3,e0]
  · simp[execOp,kn.ev hx,Instr.sliceAt,Instr.slice,hu,Instr.sliceBounds,Instr.sliceBound,asIntOf,kn.ev hh,kn.ev hm,run_sizeOf hs,Int.ofNat_le,h2,h3,h0,e0]
theorem kQ.plain {ao:Option Addr} {c n:Nat} {xs:List Value} {T:TypeId} {sz:Nat} {C:List Ck} (h:kQ (.slice ao n c) n xs T sz C):∀a,ao=some a→a.spot=none:=by
  rintro a rfl
  rcases h with ⟨h0,_⟩|⟨b,cap,extra,h0,_⟩
  · cases h0
  · cases h0;rfl
theorem afJ {w:World} {T e sz bytes:Nat} {zs:List Value} {v u:Value} {n m:Nat} {xs news:List Value} {C D:List Ck} {ty:TypeId} (hT:lk P T=some e) (hE:rM P e=some (sz,zs,bytes)) (hz:zs.length=sz) (mR:0<sz)
    (own:kQ v n xs e sz C) (src:Rs u m news (C++D)) (hl:news.length=m*sz) (h1:∀u∈news,u.oneCell'=true) (h0:0<m) (pZ:n+m≤maxLen) (hb:(n+m)*bytes≤140737488355328) (s:Sat w (C++D)):
    ∃iJ jq gP,(Builtin.append_ #[T,T] ty #[v,u]).run P w=.ok iJ jq∧kQ iJ (n+m) (xs++news) e sz gP∧Sat jq (gP++D)∧Kept w jq:=by
  obtain ⟨i,z,hi,tX,rfl,rfl,rfl⟩:=BT hE
  have hu:=qR hT
  have G7:n+m≤9223372036854775807:=by simp only[maxLen] at pZ;omega
  have hlen:(xs++news).length=(n+m)*i.size:=by rw[dr,own.len,hl,fZ]
  have grown:∀(gT:Nat),gT<n+m→
      kQ (.slice (some ⟨w.heap.size,0,none⟩) (n+m) (grownCap w (n+m) gT e)) (n+m) (xs++news) e i.size [row w.heap.size ((xs++news)++(Builtin.zeroCells z.cells (grownCap w (n+m) gT e-(n+m))).toList) e]∧
      Sat (w.drew.alloc (.cells (xs.toArray++news.toArray++Builtin.zeroCells z.cells (grownCap w (n+m) gT e-(n+m))) e)) ([row w.heap.size ((xs++news)++(Builtin.zeroCells z.cells (grownCap w (n+m) gT e-(n+m))).toList) e]++D):=by
    intro gT ho
    have nC:=grownCap_ge w (n+m) gT e
    have tM:grownCap w (n+m) gT e≤maxLen:=grownCap_le_maxLen w (n+m) gT e pZ
    refine ⟨.inr ⟨_,_,_,rfl,nC,tM,hlen,?_,rfl⟩,?_⟩
    · rw[Kt]
      rw[show z.cells.size=i.size by simpa using hz]
      exact dA _
    · have:=(s.drop).heap (jq:=w.drew) rfl
      have h2:=this.push (.cells (xs.toArray++news.toArray++Builtin.zeroCells z.cells (grownCap w (n+m) gT e-(n+m))) e) true
      have e1:(xs.toArray++news.toArray++Builtin.zeroCells z.cells (grownCap w (n+m) gT e-(n+m)))=(((xs++news)++(Builtin.zeroCells z.cells (grownCap w (n+m) gT e-(n+m))).toList)).toArray:=by
        apply Array.ext'
        simp
      rw[e1] at h2 ⊢
      exact h2
  have kg:∀o,Kept w (w.drew.alloc o):=fun o=>⟨rfl,rfl,rfl,by simp,by first|exact dA _|exact eh _⟩
  rcases Rs.cells (R:=[]) src (by simpa using s) with ⟨uo,uc,rfl,rfl,rfl⟩|⟨a,c,rfl,sZ⟩
  · omega
  · rcases own with ⟨rfl,rfl,rfl,rfl⟩|⟨b,cap,extra,rfl,yj,tM,zJ,uK,rfl⟩
    · have hr:=run_append_nil (P:=P) w T ty e i z hu hi tX a m c news hl sZ gz gz (by simp only[eV] at hb;omega)
      have uP:=grown 0 gz
      simp only[eV,eC] at uP hr ⊢
      exact ⟨_,_,_,hr,uP.1,by simpa using uP.2,kg _⟩
    · by_cases G3:n+m≤cap
      · have hg:=s.holds _ (dw D dy)
        have hmul:n*i.size+m*i.size≤n*i.size+(cap-n)*i.size:=Nat.add_le_add_left (fM _ gz) _
        have lA:n*i.size+news.length≤(xs++extra).toArray.size:=by
          simp only[List.size_toArray,dr,zJ,hl]
          omega
        have hr:=run_append_room (P:=P) w T ty e i hu hi b n cap _ hg a m c news hl sZ h1 G3 lA
        have e1:((xs++extra).toArray.toList.take (n*i.size)++news++(xs++extra).toArray.toList.drop (n*i.size+news.length))=(xs++news)++extra.drop news.length:=by
          rw[←zJ]
          simp[List.drop_append]
        rw[e1] at hr
        refine ⟨_,_,[row b ((xs++news)++extra.drop news.length) e],hr,.inr ⟨b,cap,_,rfl,G3,tM,hlen,?_,rfl⟩,Sat.setRow s,EM _ _ _⟩
        rw[eg,hl,show cap-(n+m)=(cap-n)-m by omega,Nat.sub_mul]
        omega
      · have holds:∀j u,xs[j]?=some u→w.cell? ((⟨b,0,none⟩:Addr).add j)=some u:=fun j u hu=>by
          rw[add_plain,tD (s.holds _ (dw D dy))]
          have hj:j<xs.length:=(dV.1 hu).1
          simp only[List.getElem?_toArray,eV]
          rw[eT hj]
          exact hu
        have hr:=run_append_grow (P:=P) w T ty e i z hu hi tX ⟨b,0,none⟩ n cap xs zJ holds a m c news hl sZ gz gz (growslice_fits gz hb)
        have uP:=grown cap gz
        exact ⟨_,_,_,hr,uP.1,uP.2,kg _⟩
theorem bU {x y:Operand} {T e sz bytes:Nat} {zs:List Value} {v u:Value} {n m:Nat} {xs news:List Value} {C D:List Ck} (hT:lk P T=some e) (hE:rM P e=some (sz,zs,bytes)) (hz:zs.length=sz) (mR:0<sz)
    (hx:ev l x=some v) (hy:ev l y=some u) (own:kQ v n xs e sz C) (hH:Sp H C D) (src:Rs u m news H) (hl:news.length=m*sz) (h1:∀u∈news,u.oneCell'=true) (h0:0<m) (pZ:n+m≤maxLen) (hb:(n+m)*bytes≤140737488355328)
    (k:∀iJ gP,kQ iJ (n+m) (xs++news) e sz gP→K (.value iJ) (gP++D)):Hd P ⟨d,.call ⟨.builtin .append,#[x,y],#[T,T]⟩,ty,pos,gJ,g⟩ l H K:=fun a w R kn s=>by
  have jj:Sat w (C++(D++R)):=by have:=s.perm (hH.p.append_right R);simpa using this
  obtain ⟨iJ,jq,gP,hr,ho,oT,hk⟩:=afJ (ty:=ty) (D:=D++R) hT hE hz mR own (src.mono fun c hc=>by have:=hH.p.mem_iff.1 hc;simp at this ⊢;rcases this with h|h<;>simp[h]) hl h1 h0 pZ hb jj
  refine ⟨.value iJ,jq,gP++D,?_,by simpa using oT,hk,k iJ gP ho⟩
  simp[execOp,resolve,invoke,builtin,kn.ev hx,kn.ev hy,hr]
theorem cm {b:Nat} {cs:List Value} {T:TypeId} {H:List Ck} (h:row b cs T∈H):Rs (.slice (some ⟨b,0,none⟩) 1 1) 1 cs H:=.inr ⟨b,0,1,cs,T,(0,0),true,rfl,dA _,h,by simp⟩
theorem Hd.Y9 {T e sz:TypeId} {zs:List Value} {x y:Operand} {us vs:List Value} (hT:lk P T=some e) (hS:me P e=some sz) (hz:zeroOf P e=some zs) (NU:zs.length=sz) (hx:ev l x=some (.agg us.toArray)) (hy:ev l y=some (.agg vs.toArray)) (hu:us.length=sz) (hv:vs.length=sz) (hs:Nat.ble (2*sz) 16777216=true)
    (k:∀b,K (.value (.slice (some ⟨b,0,none⟩) 2 2)) (row b (us++vs) e::H)):Hd P ⟨d,.buildSlice T 2 #[(0,x),(1,y)],ty,pos,gJ,g⟩ l H K:=by
  refine Hd.buildSlice (parts:=[(0,x),(1,y)]) (vs:=[(0,.agg us.toArray),(1,.agg vs.toArray)]) (cells:=us++vs) hT hS hz (by simp[hx,hy]) hs ?_ k
  subst NU
  have GC:(Value.agg us.toArray).cells=us.toArray:=rfl
  have MK:(Value.agg vs.toArray).cells=vs.toArray:=rfl
  have e1:(Array.range (2*zs.length)).map (zs.toArray[·%zs.toArray.size]!)=((List.range (2*zs.length)).map fun i=>zs[i%zs.length]!).toArray:=by
    apply Array.ext'
    simp[Array.toList_range]
  obtain ⟨L,hL⟩:∃L,L=(List.range (2*zs.length)).map fun i=>zs[i%zs.length]!:=⟨_,rfl⟩
  have hLl:L.length=2*zs.length:=by rw[hL];simp
  rw[←hL] at e1
  have CB:=IQ us 0 0 L gz
  have AY:=IQ vs zs.length 0 (L.take (0+0)++(us++L.drop (0+0+us.length))) (by simp;omega)
  have e2:us.toArray.zipIdx=(us.zipIdx 0).toArray:=by apply Array.ext';simp
  have e3:vs.toArray.zipIdx=(vs.zipIdx 0).toArray:=by apply Array.ext';simp
  have e5:(L.take (0+0)++(us++L.drop (0+0+us.length))).take (zs.length+0)++(vs++(L.take (0+0)++(us++L.drop (0+0+us.length))).drop (zs.length+0+vs.length))=us++vs:=by
    simp only[fG,eV,fJ,eC]
    rw[dQ gz,dL gz,fv (by simp;omega),eF]
  rw[e5] at AY
  simp only[Instr.fill,GC,MK,e1]
  rw[dp (by simp[hu]<;>omega)]
  simp only[Nat.zero_mul,Nat.one_mul]
  rw[e2,List.foldl_toArray,CB]
  rw[dp (by simp[hu,hv]<;>omega)]
  rw[e3,List.foldl_toArray]
  exact congrArg some AY
theorem VL.take {α:Type} {E:Rec α} {H:List Ck} {cs:List Value} {l:List α} (h:VL E H cs l):∀m,VL E H (cs.take (m*E.s)) (l.take m):=by
  induction h with
  |nil=>intro m;simpa using VL.nil
  | @cons c cs a l h1 h2 ih=>
    intro m
    cases m with
    |zero=>simpa using VL.nil
    | succ m=>
      rw[fZ,Nat.one_mul,Nat.add_comm (m*E.s) E.s,←E.len h1,List.take_length_add_append,List.take_succ_cons]
      have:=ih m
      rw[←E.len h1] at this
      exact .cons h1 this
theorem Sp.sub {H C D:List Ck} (h:Sp H C D):∀c∈C,c∈H:=fun c hc=>h.p.mem_iff.2 (dw _ hc)
theorem aA {H C D:List Ck} (h:Sp H C D) {c:Ck} (hc:c∈C):c∈H:=h.sub c hc
theorem Hd.Zo {x:Operand} {T e bytes b o m c:Nat} {z:Value} {gV:TypeId} {cells:List Value} {D:List Ck} (hT:lk P T=some e) (hE:rM P e=some (1,[z],bytes)) (hz:z.oneCell'=true) (hx:ev l x=some (.slice (some ⟨b,o,none⟩) m c)) (hm:Fr H (row b cells gV) D) (lA:o+m≤cells.length)
    (k:K (.value (.tuple #[])) (row b (cells.take o++(List.replicate m z++cells.drop (o+m))) gV::D)):Hd P ⟨d,.call ⟨.builtin .clear,#[x],#[T]⟩,ty,pos,gJ,g⟩ l H K:=fun a w R kn s=>by
  obtain ⟨i,zz,hi,tX,qv,I5,xl⟩:=BT hE
  have hu:=qR hT
  have jj:Sat w (row b cells gV::(D++R)):=s.perm (hm.p.append_right R)
  have hg:=jj.holds _ dy
  by_cases h0:m=0
  · subst h0
    have e0:cells.take o++(List.replicate 0 z++cells.drop (o+0))=cells:=by simp
    rw[e0] at k
    refine ⟨.value (.tuple #[]),w,row b cells gV::D,?_,jj,.refl w,k⟩
    simp[execOp,resolve,invoke,builtin,kn.ev hx,Builtin.clear_,dP hu]
  · have Dd:zz.cells=#[z]:=by apply Array.ext';simpa using xl
    have qF:(Builtin.zeroCells zz.cells m).toList=List.replicate m z:=by
      rw[Dd]
      apply List.ext_getElem
      · simp[Builtin.zeroCells]
      · intro j h1 h2
        simp[Builtin.zeroCells,Nat.mod_one]
    have jB:=run_storeCells_at P b o gV (List.replicate m z) 0 cells.toArray w hg (by simp;omega) (fun u hu=>by rw[List.eq_of_mem_replicate hu];exact hz)
    simp only[fG,gj] at jB
    have e1:(cells.toArray.toList.take o++List.replicate m z++cells.toArray.toList.drop (o+m))=cells.take o++(List.replicate m z++cells.drop (o+m)):=by simp
    rw[e1] at jB
    refine ⟨.value (.tuple #[]),_,row b (cells.take o++(List.replicate m z++cells.drop (o+m))) gV::D,?_,Sat.setRow jj,EM _ _ _,k⟩
    obtain ⟨im,rfl⟩:∃im,m=im+1:=⟨m-1,by omega⟩
    simp[execOp,resolve,invoke,builtin,kn.ev hx,Builtin.clear_,dP hu,zeroValue,typeInfo,hi,tX,qF,jB]
theorem Hd.aen {T e n bytes:Nat} {x y:Operand} {k1 k2:IntKind} {m im:Int} (hT:lk P T=some e) (hE:rM P e=some (1,[.int .u8 0],bytes)) (hx:ev l x=some (.int k1 m)) (hy:ev l y=some (.int k2 im)) (hm:m=(n:Int)) (lD:im=(n:Int)) (hb:bytes*n≤140737488355328) (hn:n≤4611686018427387904)
    (k:∀b,K (.value (.slice (some ⟨b,0,none⟩) n n)) (row b (bc (List.replicate n 0#8)) e::H)):Hd P ⟨d,.makeSlice T x y,ty,pos,gJ,g⟩ l H K:=
  Hd.Vg hT hE hx hy hm lD hb hn fun b=>by
    have:=k b
    rwa [show bc (List.replicate n 0#8)=List.replicate n (.int .u8 0) by simp[bc]] at this
end
structure Bk where
  o:BitVec 32
  day:Nat
  n:Int
deriving DecidableEq
def Bk.val (b:Bk):Value:=.agg #[.int .u32 b.o.toNat,.int .i64 b.day,.int .i64 b.n]
def nf (L:List Bk):List (Int×Value):=L.map fun b=>((b.o.toNat:Int),b.val)
def kY (L:List Bk) (o:BitVec 32):Option Bk:=L.find? fun b=>decide (o=b.o)
theorem LP (L:List Bk) (o:BitVec 32):getM (nf L) (o.toNat:Int)=(kY L o).map Bk.val:=by
  induction L with
  |nil=>rfl
  | cons b L ih=>
    have h:((o.toNat:Int)=(b.o.toNat:Int))↔o=b.o:=by
      constructor
      · intro e;exact dB gz
      · rintro rfl;rfl
    by_cases e:o=b.o
    · simp[getM,nf,kY,e]
    · have e2:¬((o.toNat:Int)=(b.o.toNat:Int)):=fun x=>e (h.1 x)
      have h1:getM (nf (b::L)) (o.toNat:Int)=getM (nf L) (o.toNat:Int):=by
        simp only[getM,nf,dY]
        rw[fm (by simpa using e2)]
      have h2:kY (b::L) o=kY L o:=by
        simp only[kY]
        rw[fm (by simpa using e)]
      rw[h1,h2,ih]
theorem SE (L:List Bk) (o:BitVec 32):(getM (nf L) (o.toNat:Int)).getD (.agg #[.int .u32 0,.int .i64 0,.int .i64 0])=((kY L o).getD ⟨0#32,0,0⟩).val:=by
  rw[LP]
  cases kY L o<;>rfl
theorem UL (L:List Bk) (o:BitVec 32):(getM (nf L) (o.toNat:Int)).isSome=(kY L o).isSome:=by
  rw[LP]
  cases kY L o<;>rfl
theorem YW (L:List Bk) (b:Bk):nf L++[((b.o.toNat:Int),b.val)]=nf (L++[b]):=by simp[nf]
theorem Vt {L:List Bk} {b:Bk} (h:(L.map (·.o)).Nodup) (hn:kY L b.o=none):((L++[b]).map (·.o)).Nodup:=by
  rw[fW,List.nodup_append]
  refine ⟨h,by simp,?_⟩
  intro x hx y hy
  obtain ⟨c,hc,rfl⟩:=ei.1 hx
  simp at hy
  subst hy
  have:=List.find?_eq_none.1 hn c hc
  intro e
  simp at this
  exact this e.symm
def qC (L:List Bk) (o:BitVec 32):List Bk:=L.filter fun b=>decide (o≠b.o)
theorem ZN (L:List Bk) (o:BitVec 32):sU (nf L) (o.toNat:Int)=nf (qC L o):=by
  induction L with
  |nil=>rfl
  | cons b L ih=>
    have h:((o.toNat:Int)=(b.o.toNat:Int))↔o=b.o:=by
      constructor
      · intro e;exact dB gz
      · rintro rfl;rfl
    have e1:nf (b::L)=((b.o.toNat:Int),b.val)::nf L:=rfl
    rw[e1]
    by_cases e:o=b.o
    · have h1:sU (((b.o.toNat:Int),b.val)::nf L) (o.toNat:Int)=sU (nf L) (o.toNat:Int):=by
        unfold sU;rw[eI (by simp[e])]
      have h2:qC (b::L) o=qC L o:=by unfold qC;rw[eI (by simp[e])]
      rw[h1,h2,ih]
    · have e2:¬((o.toNat:Int)=(b.o.toNat:Int)):=fun x=>e (h.1 x)
      have h1:sU (((b.o.toNat:Int),b.val)::nf L) (o.toNat:Int)=((b.o.toNat:Int),b.val)::sU (nf L) (o.toNat:Int):=by
        unfold sU;rw[ez (by simpa using e2)]
      have h2:qC (b::L) o=b::qC L o:=by unfold qC;rw[ez (by simpa using e)]
      rw[h1,h2,ih]
      rfl
theorem Rx {L:List Bk} (o:BitVec 32) (h:(L.map (·.o)).Nodup):((qC L o).map (·.o)).Nodup:=h.sublist (List.filter_sublist.map _)
def FR (rs:List Int):Prop:=∀j,0≤rs.getD j 0∧rs.getD j 0≤1000000
def yT (rs:List Int) (from_:Int) (n:Int):Option Nat:=(List.range rs.length).find? fun d=>decide (from_≤(d:Int))&&decide (n≤rs.getD d 0)
def oL (rs:List Int) (L:List Bk) (o:BitVec 32) (from_ n:Int):Option Nat:=
  if o=0#32∨n<1∨from_<0∨(kY L o).isSome then none else yT rs from_ n
theorem ZK (rs:List Int) (from_ n:Int) (d:Nat) (hd:d<rs.length) (h1:from_≤d) (h2:n≤rs.getD d 0) (jf:∀j,j<d→¬(from_≤(j:Int)∧n≤rs.getD j 0)):yT rs from_ n=some d:=by
  unfold yT
  rw[List.find?_eq_some_iff_getElem]
  refine ⟨by simp[h1];simpa using h2,d,by simpa using hd,by simp,fun j hj=>?_⟩
  have:=jf j hj
  simp only[List.getElem_range]
  simp only[fq,Bool.and_eq_false_iff,fi]
  by_cases h:from_≤(j:Int)
  · right;intro h3;exact this ⟨h,h3⟩
  · left;exact h
theorem ZI (rs:List Int) (from_ n:Int) (jf:∀j,j<rs.length→¬(from_≤(j:Int)∧n≤rs.getD j 0)):yT rs from_ n=none:=by
  unfold yT
  rw[List.find?_eq_none]
  intro j hj
  have:=jf j (by simpa using hj)
  simp only[eu,dz]
  exact this
theorem UG (l:List Int) (i:Nat) (x:Int):(ic l).set i (.int .i64 x)=ic (l.set i x):=by simp[ic,List.map_set]
def yH (TD TI p:Nat) (rs:List Int) (L:List Bk) (C:List Ck):Prop:=
  ∃vr Cr bm Cm,C=row p [vr,.map (some bm)] TD::(Cr++Cm)∧il vr rs.length (ic rs) TI 1 Cr∧Mp bm .u32 (nf L) Cm∧(L.map (·.o)).Nodup
theorem adJ {L:List Bk} (h:(L.map (·.o)).Nodup):((nf L).map (·.1)).Nodup:=by
  have e:(nf L).map (·.1)=(L.map (·.o)).map fun o=>(o.toNat:Int):=by simp[nf]
  rw[e]
  unfold List.Nodup at*
  rw[List.pairwise_map]
  exact h.imp fun {a b} Em e=>Em (dB gz)
theorem Wo {P:Program} {T e:TypeId} (hT:P.underlying T=some (.slice e)) (ao:Option Addr) (n c:Nat) (w:World):(Op.equal T (.slice ao n c) (.slice none 0 0)).run P w=.ok ao.isNone w:=by
  have h:∀d,(Op.equalIn (d+1) T (.slice ao n c) (.slice none 0 0)).run P w=.ok ao.isNone w:=fun d=>by cases ao<;>simp[Op.equalIn,dP hT]
  exact h 9999
theorem cI {P:Program} {l:Sl} {d:Option Nat} {ty:TypeId} {pos:String} {gJ:Array Edge} {g:Option (Nat×Bool)} {T gV e:TypeId} {x y:Operand} {ao:Option Addr} {n c:Nat} (hT:P.underlying T=some (.slice e)) (hx:ev l x=some (.slice ao n c)) (hy:ev l y=some (.slice none 0 0)):Yd P ⟨d,.binOp .eql T x y gV,ty,pos,gJ,g⟩ l (.bool ao.isNone):=fun a kn w=>by
  have:(eqGuard .eql T x y (.slice ao n c) (.slice none 0 0)).run P w=.ok () w:=by unfold eqGuard;simp
  cases ao<;>simp[execOp,kn.ev hx,kn.ev hy,this,binOp,Wo hT]
def Bv (r:Option Nat):Int×Int:=match r with|none=>(0,2)|some d=>((d:Int),1)
def zV (rs:List Int) (r:Option Nat) (n:Int):List Int:=match r with|none=>rs|some d=>rs.set d (rs.getD d 0-n)
def Dj (L:List Bk) (r:Option Nat) (o:BitVec 32) (n:Int):List Bk:=match r with|none=>L|some d=>L++[⟨o,d,n⟩]
def Fa (b:Option Bk):Int:=match b with|none=>2|some _=>1
def Bw (rs:List Int) (b:Option Bk):List Int:=match b with|none=>rs|some b=>rs.set b.day (rs.getD b.day 0+b.n)
def Hs (L:List Bk) (b:Option Bk) (o:BitVec 32):List Bk:=match b with|none=>L|some _=>qC L o
theorem afD {rs:List Int} (h:rs.all (fun x=>decide (0≤x)&&decide (x≤1000000))=true):FR rs:=by
  intro j
  by_cases hj:j<rs.length
  · have:=fy.1 h rs[j] (dG hj)
    simp only[List.getD,dK hj,Option.getD_some]
    simpa using this
  · have e:rs[j]?=none:=eG gz
    simp[List.getD,e]
theorem ZJ {rs:List Int} {from_ n:Int} {d:Nat} (h:yT rs from_ n=some d):d<rs.length∧from_≤d∧n≤rs.getD d 0∧∀j,j<d→¬(from_≤(j:Int)∧n≤rs.getD j 0):=by
  unfold yT at h
  rw[List.find?_eq_some_iff_getElem] at h
  obtain ⟨h1,i,hi,h2,h3⟩:=h
  simp only[List.getElem_range] at h2
  subst h2
  simp only[List.length_range] at hi
  simp only[eu,dz] at h1
  refine ⟨hi,h1.1,h1.2,fun j hj hh=>?_⟩
  have:=h3 j hj
  simp only[List.getElem_range] at this
  simp[hh.1] at this
  have:=hh.2
  simp only[List.getD] at this
  omega
def jo (TD T1 T2 pd:Nat) (gI:List (BitVec 8)) (n:Nat) (C:List Ck):Prop:=
  ∃vn vs vw sure ws Cn Cs Cw,C=row pd [vn,vs,vw,.int .i64 512,.int .i64 (-1),.bool false] TD::(Cn++(Cs++Cw))∧il vn 512 (bc gI) T1 64 Cn∧il vs 512 (bc sure) T1 64 Cs∧il vw n ws T2 65 Cw∧(n=0→sure=gI)
theorem jo.len {TD T1 T2 pd:Nat} {gI:List (BitVec 8)} {n:Nat} {C:List Ck} (h:jo TD T1 T2 pd gI n C):gI.length=32768:=by
  obtain ⟨vn,vs,vw,sure,ws,Cn,Cs,Cw,_,h1,_⟩:=h
  have:=h1.len
  rwa [je] at this
def uj (a:Nat) (b:List (BitVec 8)):List Value:=.int .i64 (a:Int)::bc b
theorem ah7 (a:Nat) (b:List (BitVec 8)):∀u∈uj a b,u.oneCell'=true:=by
  intro u hu
  rcases eS.1 hu with rfl|hu
  · rfl
  · exact qA b u hu
def z64:List (BitVec 8):=List.replicate 64 0#8
theorem Af:z64.length=64:=gj
theorem ah5 (a:Nat) {b:List (BitVec 8)} (h:b.length=64):(uj a z64).take 1++(bc b++(uj a z64).drop (1+(bc b).length))=uj a b:=by
  rw[je,h]
  show [_]++(bc b++(bc z64).drop 64)=_
  rw[fv (by rw[je,Af];omega),eF]
  rfl
theorem ah6 (a:Nat) {b:List (BitVec 8)} (h:b.length=64):((uj a b).drop 1).take 64=bc b:=by
  show (bc b).take 64=_
  rw[dL (by rw[je];omega)]
theorem ae0 (gI b:List (BitVec 8)) (xn:List Value) (o:Nat) (h:o+64≤gI.length) (hb:b.length=64):(bc gI++xn).take o++(bc b++(bc gI++xn).drop (o+64))=bc (lO gI o b)++xn:=by
  have:=ag7 (bc gI) xn (bc b) o (by rw[je,je];omega)
  rw[je,hb] at this
  rw[this]
  congr 1
  unfold lO
  rw[yP,yP,Ay,BQ,hb]
theorem YY (gI:List (BitVec 8)) (xn:List Value) (a:Nat) (h:64*a+64≤gI.length):((bc gI++xn).drop (64*a)).take 64=bc (j9 gI a):=by
  unfold j9
  rw[eN (by rw[je];omega),dQ (by rw[eg,je];omega),Ay,BQ]
theorem Kd (b:Nat) (T:TypeId):il (.slice (some ⟨b,0,none⟩) 512 512) 512 (bc (List.replicate 32768 0#8)) T 64 [row b (List.replicate (512*64) (.int .u8 0)) T]:=
  .inr ⟨b,512,[],rfl,dA _,by simp only[maxLen];omega,by rw[je,gj],rfl,by rw[QY,eF]⟩
end Go.SL
namespace Go.SL
open Top
abbrev ptr (p:Nat):Value:=.pointer (some ⟨p,0,none⟩)
def kG (no:BitVec 32) (first:BitVec 64) (gI:List (BitVec 8)) (ve vl:Value):List Value:=.int .u32 no.toNat::.int .u64 first.toNat::(bc gI++[ve,vl])
section
variable {no:BitVec 32} {first:BitVec 64} {gI:List (BitVec 8)} {ve vl:Value}
theorem xz (h:gI.length=1024):(kG no first gI ve vl).length=1028:=by simp[kG,je,h]
theorem WI (k:Nat):(kG no first gI ve vl)[k+2]?=(bc gI++[ve,vl])[k]?:=rfl
theorem Fj (h:gI.length=1024):(kG no first gI ve vl)[1026]?=some ve:=by
  rw[show 1026=1024+2 from rfl,WI,fD (by rw[je,h];exact dA _),je,h];rfl
theorem pG (h:gI.length=1024):(kG no first gI ve vl)[1027]?=some vl:=by
  rw[show 1027=1025+2 from rfl,WI,fD (by rw[je,h];omega),je,h];rfl
theorem Pd (h:gI.length=1024):((kG no first gI ve vl).drop 2).take 1024=bc gI:=by
  show (bc gI++[ve,vl]).take 1024=_
  rw[dQ (by rw[je,h];exact dA _),dL (by rw[je,h];exact dA _)]
theorem Kr (h:gI.length=1024) (v:Value):(kG no first gI ve vl).set 1026 v=kG no first gI v vl:=by
  unfold kG
  rw[ff,ff,List.set_append_right _ _ (by rw[je,h];exact dA _),je,h]
  rfl
theorem Pf (h:gI.length=1024) (v:Value):(kG no first gI ve vl).set 1027 v=kG no first gI ve v:=by
  unfold kG
  rw[ff,ff,List.set_append_right _ _ (by rw[je,h];omega),je,h]
  rfl
theorem Pe (h:gI.length=1024) {b:List (BitVec 8)} (hb:b.length=1024):(kG no first gI ve vl).take 2++(bc b++(kG no first gI ve vl).drop (2+1024))=kG no first b ve vl:=by
  show [_,_]++(bc b++(bc gI++[ve,vl]).drop 1024)=_
  rw[eN (by rw[je,h];exact dA _),fv (by rw[je,h];exact dA _)]
  rfl
theorem agd (h:gI.length=1024) {b:List (BitVec 8)} (hb:b.length≤1024):(kG no first gI ve vl).take (0+2)++(bc b++(kG no first gI ve vl).drop (0+2+(bc b).length))=kG no first (lO gI 0 b) ve vl:=by
  rw[je,eV,Nat.add_comm 2]
  show [_,_]++(bc b++(bc gI++[ve,vl]).drop b.length)=_
  rw[eN (by rw[je];omega)]
  unfold kG lO
  rw[fJ,eC,eV,yP,BQ,dD]
  rfl
end
def Ap (TS TI TE p:Nat) (no:BitVec 32) (first:BitVec 64) (gI:List (BitVec 8)) (ends:List Int) (l:List En) (C:List Ck):Prop:=
  ∃ve vl Ce Ca Cb cells,C=row p (kG no first gI ve vl) TS::(Ce++(Ca++Cb))∧gI.length=1024∧kQ ve ends.length (ic ends) TI 1 Ce∧kQ vl l.length cells TE 11 Ca∧VL nh Cb cells l
def xJ (p:Nat) (no:BitVec 32) (first:BitVec 64) (gI:List (BitVec 8)) (ends:List Int) (l:List En) (H:List Ck):Prop:=
  ∃ve vl T fr ex,(⟨p,.cells (kG no first gI ve vl).toArray T fr,ex⟩:Ck)∈H∧gI.length=1024∧Rs ve ends.length (ic ends) H∧EV vl l H
theorem xJ.mono {p:Nat} {no:BitVec 32} {first:BitVec 64} {gI:List (BitVec 8)} {ends:List Int} {l:List En} {A B:List Ck} (h:xJ p no first gI ends l A) (s:∀c∈A,c∈B):xJ p no first gI ends l B:=by
  obtain ⟨ve,vl,T,fr,ex,h1,h2,h3,h4⟩:=h
  exact ⟨ve,vl,T,fr,ex,s _ h1,h2,h3.mono s,h4.mono s⟩
theorem Ap.v {TS TI TE p:Nat} {no:BitVec 32} {first:BitVec 64} {gI:List (BitVec 8)} {ends:List Int} {l:List En} {C:List Ck} (h:Ap TS TI TE p no first gI ends l C):xJ p no first gI ends l C:=by
  obtain ⟨ve,vl,Ce,Ca,Cb,cells,rfl,h1,h2,h3,h4⟩:=h
  exact ⟨ve,vl,TS,(0,0),true,dy,h1,h2.rs.mono fun c hc=>dt _ (dw _ hc),
    cells,h3.rs.mono fun c hc=>dt _ (dq _ (dw _ hc)),h4.mono fun c hc=>dt _ (dq _ (dq _ hc))⟩
abbrev uw (TS TI TE p:Nat) (s:gR) (C:List Ck):Prop:=Ap TS TI TE p s.no s.first (ij s) (jI s) s.l C
abbrev Il (p:Nat) (s:gR) (H:List Ck):Prop:=xJ p s.no s.first (ij s) (jI s) s.l H
inductive nJ (TS TI TE:Nat):List Nat→List gR→List Ck→Prop
  |nil:nJ TS TI TE [] [] []
  |cons {p:Nat} {s:gR} {C:List Ck} {ps:List Nat} {ss:List gR} {D:List Ck}:uw TS TI TE p s C→nJ TS TI TE ps ss D→nJ TS TI TE (p::ps) (s::ss) (C++D)
section
variable {TS TI TE:Nat}
theorem nJ.len {ps:List Nat} {ss:List gR} {D:List Ck} (h:nJ TS TI TE ps ss D):ps.length=ss.length:=by
  induction h with
  |nil=>rfl
  |cons _ _ ih=>simp[ih]
theorem nJ.snoc {ps:List Nat} {ss:List gR} {D C:List Ck} {p:Nat} {s:gR} (h:nJ TS TI TE ps ss D) (k:uw TS TI TE p s C):nJ TS TI TE (ps++[p]) (ss++[s]) (D++C):=by
  induction h with
  |nil=>simpa using nJ.cons k .nil
  |cons h1 _ ih=>rw[dD];exact .cons h1 ih
theorem nJ.last {ps:List Nat} {a:List gR} {s:gR} {D:List Ck} (h:nJ TS TI TE ps (a++[s]) D):∃tq p pf C,ps=tq++[p]∧D=pf++C∧nJ TS TI TE tq a pf∧uw TS TI TE p s C:=by
  induction a generalizing ps D with
  | nil=>
    cases h with
    | cons h1 h2=>
      cases h2
      exact ⟨[],_,[],_,rfl,by simp,.nil,h1⟩
  | cons t a ih=>
    cases h with
    | cons h1 h2=>
      obtain ⟨tq,p,pf,C,rfl,rfl,h3,h4⟩:=ih h2
      exact ⟨_::tq,p,_,C,rfl,by rw[dD],.cons h1 h3,h4⟩
theorem nJ.at {ps:List Nat} {ss:List gR} {D:List Ck} (h:nJ TS TI TE ps ss D):∀(i:Nat) (h1:i<ps.length) (h2:i<ss.length),Il ps[i] ss[i] D:=by
  induction h with
  |nil=>intro i h;simp at h
  | cons h1 _ ih=>
    intro i h2 h3
    cases i with
    |zero=>exact h1.v.mono fun c hc=>dw _ hc
    |succ i=>exact (ih i (by simpa using h2) (by simpa using h3)).mono fun c hc=>dq _ hc
end
abbrev JI (TJ pj pd:Nat) (vs:Value) (safe:BitVec 64):Ck:=row pj [ptr pd,.int .i64 32,vs,.int .u64 safe.toNat,.bool false] TJ
def na (TJ TP TS TI TE pj pd:Nat) (ss:List gR) (safe:BitVec 64) (C:List Ck):Prop:=
  ∃(vs:Value) (ps:List Nat) (Cv D:List Ck),C=JI TJ pj pd vs safe::(Cv++D)∧kQ vs ss.length (ps.map ptr) TP 1 Cv∧nJ TS TI TE ps ss D
def JV (pj pd:Nat) (ss:List gR) (safe:BitVec 64) (H:List Ck):Prop:=
  ∃(vs:Value) (ps:List Nat) (T:TypeId) (fr:Nat×Nat) (ex:Bool),(⟨pj,.cells [ptr pd,.int .i64 32,vs,.int .u64 safe.toNat,.bool false].toArray T fr,ex⟩:Ck)∈H∧Rs vs ss.length (ps.map ptr) H∧ps.length=ss.length∧∀(i:Nat) (h1:i<ps.length) (h2:i<ss.length),Il ps[i] ss[i] H
theorem JV.mono {pj pd:Nat} {ss:List gR} {safe:BitVec 64} {A B:List Ck} (h:JV pj pd ss safe A) (s:∀c∈A,c∈B):JV pj pd ss safe B:=by
  obtain ⟨vs,ps,T,fr,ex,h1,h2,h3,h4⟩:=h
  exact ⟨vs,ps,T,fr,ex,s _ h1,h2.mono s,h3,fun i a b=>(h4 i a b).mono s⟩
theorem na.v {TJ TP TS TI TE pj pd:Nat} {ss:List gR} {safe:BitVec 64} {C:List Ck} (h:na TJ TP TS TI TE pj pd ss safe C):JV pj pd ss safe C:=by
  obtain ⟨vs,ps,Cv,D,rfl,h1,h2⟩:=h
  exact ⟨vs,ps,TJ,(0,0),true,dy,h1.rs.mono fun c hc=>dt _ (dw _ hc),h2.len,
    fun i a b=>(h2.at i a b).mono fun c hc=>dt _ (dq _ hc)⟩
def wg (ps:List Nat):Option Addr:=ps.getLast?.map fun p=>⟨p,0,none⟩
abbrev UX (ps:List Nat):Value:=.pointer (wg ps)
theorem uW (ps:List Nat) (p:Nat):wg (ps++[p])=some ⟨p,0,none⟩:=by unfold wg;simp
theorem EP {ps:List Nat} {q:Nat} (h:ps.length=q+1):wg ps=some ⟨ps[q]'gz,0,none⟩:=by
  unfold wg
  rw[fE,show ps.length-1=q by omega,dK gz]
  rfl
theorem N7 {ps:List Nat} (h:(wg ps).isNone=true):ps=[]:=by
  unfold wg at h
  cases e:ps.getLast? with
  |none=>exact List.getLast?_eq_none_iff.1 e
  |some p=>rw[e] at h;cases h
theorem Rs.Bt {v:Value} {n:Nat} {ps:List Nat} {H:List Ck} (h:Rs v n (ps.map ptr) H) {i:Nat} (hi:i<ps.length):
    ∃(b o cap:Nat) (cs:List Value) (T:TypeId) (fr:Nat×Nat) (ex:Bool),v=.slice (some ⟨b,o,none⟩) n cap∧n≤cap∧(⟨b,.cells cs.toArray T fr,ex⟩:Ck)∈H∧cs[o+i]?=some (ptr ps[i]):=by
  rcases h with ⟨ao,cap,rfl,rfl,h0⟩|⟨b,o,cap,cs,T,fr,ex,h1,h2,h3,h4⟩
  · have:=congrArg List.length h0
    simp at this
    rw[this] at hi;simp at hi
  · refine ⟨b,o,cap,cs,T,fr,ex,h1,h2,h3,?_⟩
    have h5:(ps.map ptr)[i]?=some (ptr ps[i]):=by simp[hi]
    rw[←h4,fw (by rw[List.length_map];exact hi),ft] at h5
    exact h5
def um:List (BitVec 8):=List.replicate 1024 0#8
theorem Ah:um.length=1024:=gj
theorem Tq (no:BitVec 32) (first:BitVec 64):(Sum.j5 (oR no first)).length=21:=by rw[Ge,Eu]
theorem Ss (no:BitVec 32) (first:BitVec 64):lO um 0 (Sum.j5 (oR no first))=ij ⟨no,first,[]⟩:=by
  have e:jw ⟨no,first,[]⟩=Sum.j5 (oR no first):=by
    show Sum.flat [oR no first]=_
    rw[Sum.IM]
  unfold ij lO um
  rw[e,fJ,eC,List.drop_replicate,eV]
theorem aax (no:BitVec 32) (first:BitVec 64):jI ⟨no,first,[]⟩=[21]:=by
  have e:jI ⟨no,first,[]⟩=[((Sum.flat [oR no first]).length:Int)]:=rfl
  rw[e,Sum.IM,Tq]
  rfl
theorem Rs.gI {b:Nat} {x:List (BitVec 8)} {T:TypeId} {H:List Ck} (hx:x.length=1024) {i:Nat} (hi:i<16) (hm:row b (bc x) T∈H):Rs (.slice (some ⟨b,if 1024=64*i then 0 else 0+64*i*1,none⟩) (1024-64*i) (1024-64*i)) (1024-64*i) (bc (j9 x i)) H:=by
  rw[dp gz,eV,Nat.mul_one]
  refine .inr ⟨b,64*i,_,bc x,T,(0,0),true,rfl,dA _,hm,?_⟩
  rw[je,wJ hx hi]
  unfold j9
  rw[Ay,BQ]
theorem ait {b:List (BitVec 8)} (h:b.length=64):(bc z64).take 0++(bc b++(bc z64).drop (0+(bc b).length))=bc b:=by
  rw[fJ,eC,fv (by rw[je,je,Af];omega),eF]
theorem ev2 {b:Nat} {x y:En} {vk vd uk ud:Value} {T:TypeId} {H:List Ck} (hm:row b (enc x vk vd++enc y uk ud) T∈H) (h1:Bs vk x.key H) (h2:Bs vd x.data H) (h3:Bs uk y.key H) (h4:Bs ud y.data H):EV (.slice (some ⟨b,0,none⟩) 2 2) [x,y] H:=
  ⟨_,.inr ⟨b,0,2,_,T,(0,0),true,rfl,dA _,hm,by rw[List.drop_zero,eH]⟩,VL.cons (E:=nh) ⟨vk,vd,rfl,h1,h2⟩ (VL.one (E:=nh) ⟨uk,ud,rfl,h3,h4⟩)⟩
theorem Zn {a b:En} (ha:iZ a) (hb:iZ b) (h:yF a b):mE [a,b]:=by
  refine ⟨fun e he=>?_,fun i hi=>?_⟩
  · simp only[eS,ej,or_false] at he
    rcases he with rfl|rfl<;>assumption
  · obtain rfl:i=0:=by simp at hi;omega
    exact h
def EO (TE:Nat) (v:Value) (l:List En) (C:List Ck):Prop:=∃cells Ca Cb,il v l.length cells TE 11 Ca∧VL nh Cb cells l∧C=Ca++Cb
theorem EO.ev {TE:Nat} {v:Value} {l:List En} {C:List Ck} (h:EO TE v l C):EV v l C:=by
  obtain ⟨cells,Ca,Cb,h1,h2,rfl⟩:=h
  exact ⟨cells,h1.rs.mono fun c hc=>dw _ hc,h2.mono fun c hc=>dq _ hc⟩
def js (l:List En):BitVec 64:=BitVec.ofNat 64 l.length
theorem nO {l:List En} (h:l.length≤1000):(js l).toNat=l.length:=by unfold js;rw[fg];omega
theorem adX {a:List gR} {s:gR} (h:yJ a s) (hb:(gh (a++[s])).length≤1000):s.first+BitVec.ofInt 64 (s.l.length:Int)-1#64=js (gh (a++[s])):=by
  rw[rK,dr] at hb
  have h1:=h.first
  have e1:(BitVec.ofInt 64 (s.l.length:Int)).toNat=s.l.length:=by rw[dX];omega
  have e2:(s.first+BitVec.ofInt 64 (s.l.length:Int)).toNat=s.first.toNat+s.l.length:=by rw[ga,e1];omega
  apply dB
  rw[fx (by rw[gq,e2];show 1≤_;omega),e2,nO (by rw[rK,dr];omega),rK,dr]
  show _-1=_
  omega
theorem aeF {a:List gR} {s:gR} (h:yJ a s) (hb:(gh (a++[s])).length≤1000):(s.first+BitVec.ofInt 64 (s.l.length:Int)).toNat=(gh (a++[s])).length+1:=by
  rw[rK,dr] at hb ⊢
  have h1:=h.first
  have e1:(BitVec.ofInt 64 (s.l.length:Int)).toNat=s.l.length:=by rw[dX];omega
  rw[ga,e1];omega
theorem DP {ss:List gR} {q:Nat} (h:q<ss.length):gh (ss.drop q)=ss[q].l++gh (ss.drop (q+1)):=by
  rw[List.drop_eq_getElem_cons h];rfl
theorem QE {ss:List gR} {q:Nat} (h:q<ss.length):gh (ss.take (q+1))=gh (ss.take q)++ss[q].l:=by
  rw[dJ h,rK]
theorem BM (ss:List gR) (q:Nat):gh ss=gh (ss.take q)++gh (ss.drop q):=by
  unfold gh;rw[←List.flatMap_append,fz]
theorem adW {ss:List gR} {q:Nat} (h:q<ss.length) (h0:gh (ss.drop (q+1))=[]) (hl:ss[q].l≠[]):(gh ss).getLast?=ss[q].l.getLast?:=by
  rw[BM ss q,DP h,h0,eF,List.getLast?_append,List.getLast?_eq_some_getLast hl]
  rfl
theorem Fg {ss:List gR} {q:Nat} (h:q<ss.length):ss[q].l.length≤(gh ss).length:=by
  have:=congrArg List.length ((BM ss q).trans (by rw[DP h]))
  simp only[dr] at this
  omega
theorem ag8 {α:Type} (X:List α) (e:α) (m:Nat) (h:(X.take m).length<m):(X++[e]).take m=X.take m++[e]:=by
  rw[dE] at h
  rw[dL (by rw[dr];simp;omega),dL gz]
theorem ag6 {α:Type} (X:List α) (e:α) (m:Nat) (h:¬(X.take m).length<m):(X++[e]).take m=X.take m:=by
  rw[dE] at h
  rw[dQ gz]
theorem SH {α:Type} {l:List α} {j:Nat} (h:l.length=j+1):l.getLast?=some (l[j]'gz):=by
  rw[fE,show l.length-1=j by omega,dK gz]
theorem Ud {gI:List (BitVec 8)} {a:List gR} {s jj:gR} (h:Holds gI (a++[s])) (ha:a.length<32) (hl:(ij jj).length=1024):Holds (lZ gI a.length (ij jj)) (a++[jj]):=by
  refine ⟨Fh h.len ha hl,fun i hi=>?_,fun i hi jV=>?_⟩
  · simp only[dr,dZ] at hi
    rw[Fl h.len gz ha hl]
    by_cases e:i=a.length
    · subst e
      rw[dx rfl,eO rfl]
    · rw[dp e,eY gz]
      have:=h.on i (by simp;omega)
      rwa [eY gz] at this
  · simp only[dr,dZ] at hi
    rw[Fl h.len jV ha hl,dp gz]
    exact h.off i (by simp;omega) jV
theorem ace {gI:List (BitVec 8)} {ss:List gR} {jj:gR} (h:Holds gI ss) (ha:ss.length<32) (hl:(ij jj).length=1024):Holds (lZ gI ss.length (ij jj)) (ss++[jj]):=by
  refine ⟨Fh h.len ha hl,fun i hi=>?_,fun i hi jV=>?_⟩
  · simp only[dr,dZ] at hi
    rw[Fl h.len gz ha hl]
    by_cases e:i=ss.length
    · subst e
      rw[dx rfl,eO rfl]
    · rw[dp e,eY gz]
      exact h.on i gz
  · simp only[dr,dZ] at hi
    rw[Fl h.len jV ha hl,dp gz]
    exact h.off i gz jV
theorem acg {gI x:List (BitVec 8)} {a:List gR} {s:gR} (h:Holds gI (a++[s])) (ha:a.length<32) (hl:x.length=1024) (h0:x[0]?=some 0#8):Holds (lZ gI a.length x) a:=by
  refine ⟨Fh h.len ha hl,fun i hi=>?_,fun i hi jV=>?_⟩
  · rw[Fl h.len gz ha hl,dp gz]
    have:=h.on i (by simp;omega)
    rwa [eY gz] at this
  · rw[Fl h.len jV ha hl]
    by_cases e:i=a.length
    · rw[dx e];exact h0
    · rw[dp e];exact h.off i (by simp;omega) jV
theorem aer {x f:List (BitVec 8)} (hx:x.length=1024) {o i:Nat} (hf:o+f.length≤1024) (hi:64*i≤o):mix (lO x o f) x i=x:=by
  have hl:(lO x o f).length=1024:=by rw[Ds gz,hx]
  apply eM
  intro k
  rw[zP hx hl gz,wj gz]
  repeat' split
  all_goals first|rfl|(exfalso;omega)
theorem aet {x f:List (BitVec 8)} (hx:x.length=1024) {o i:Nat} (hf:o+f.length≤1024) (hi:o+f.length≤64*i) (jV:i≤16):mix (lO x o f) x i=lO x o f:=by
  have hl:(lO x o f).length=1024:=by rw[Ds gz,hx]
  apply eM
  intro k
  rw[zP hx hl jV,wj gz]
  repeat' split
  all_goals first|rfl|(exfalso;omega)
theorem LB (s:gR):∃h:s.l.length<(jI s).length,(jI s)[s.l.length]=((jw s).length:Int):=by
  have h:=IG s s.l.length (dA _)
  rw[Z9] at h
  obtain ⟨h1,h2⟩:=dV.1 h
  exact ⟨h1,h2⟩
theorem aeI {ss:List gR} {q:Nat} (j:iM ss) (h:ss.length=q+1) (hn:ss.length≤1000):(ss[q]'gz).no+1#32=BitVec.ofNat 32 ss.length:=by
  have h1:=(j.at q gz).no
  rw[dE,eE gz] at h1
  apply dB
  have e2:(BitVec.ofNat 32 ss.length).toNat=q+1:=by rw[fg];omega
  rw[ga,h1,e2]
  show (q+1)%4294967296=_
  omega
theorem Bs.row {b:Nat} {x:List (BitVec 8)} {T:TypeId} {n:Nat} (h:x.length=n):Bs (.slice (some ⟨b,0,none⟩) n n) x [row b (bc x) T]:=by
  subst h
  exact .inr ⟨b,0,x.length,bc x,T,(0,0),true,rfl,dA _,dy,by simp⟩
theorem Ra {gI x:List (BitVec 8)} {i j:Nat} (hl:gI.length=32768) (hj:j<32) (hx:x.length=1024) (hi:i<16):j9 (lZ gI j x) (j*16+i)=j9 x i:=by
  apply eM
  intro k
  by_cases hk:k<64
  · rw[Az hk,Az hk]
    unfold lZ
    rw[wj gz,dp gz,dx gz]
    congr 1;omega
  · have h1:=Fh hl hj hx
    rw[eG (by unfold j9;rw[dE];omega),eG (by unfold j9;rw[dE];omega)]
theorem IA (s:gR):s.cut s.l.length=s:=by unfold gR.cut;rw[eH]
theorem Ru {s:gR} (h:(jw s).length≤1024) (m:Nat):(jw (s.cut m)).length≤1024:=by
  have:=congrArg List.length (Kl s m)
  rw[dE] at this
  omega
theorem Zp {s:gR} (h:(jw s).length≤1024) (m:Nat):(bc (ij s)).take (mB s m)++(List.replicate (1024-mB s m) (.int .u8 0)++(bc (ij s)).drop (mB s m+(1024-mB s m)))=bc (ij (s.cut m)):=by
  have:=IF s m
  rw[fv (by rw[je,De h];omega),eF,←acD m h,yP,Ay,QY]
theorem abk {x b:List (BitVec 8)} (hx:x.length=1024) (hb:b.length=64) (h0:b[0]?=some 0#8):(lO x (64*0) b)[0]?=some 0#8:=by
  rw[wj gz,dp gz,dx gz]
  exact h0
theorem Zq {s:gR} (h:(jw s).length≤1024) (m:Nat):(bc (ij s)).take (if 1024=mB s m then 0 else 0+mB s m*1)++(List.replicate (1024-mB s m) (.int .u8 0)++(bc (ij s)).drop ((if 1024=mB s m then 0 else 0+mB s m*1)+(1024-mB s m)))=bc (ij (s.cut m)):=by
  have h9:=Zp h m
  by_cases e:1024=mB s m
  · rw[dx e]
    rw[←e,Nat.sub_self,List.replicate_zero,eC] at h9 ⊢
    rw[fz] at h9
    rw[←h9]
    simp
  · rw[dp e,eV,Nat.mul_one]
    exact h9
theorem ZH {a:List gR} {s:gR} (h:yJ a s) {m:Nat} (hm:m≤(gh (a++[s])).length) (Np:(gh a).length≤m) (hb:(gh (a++[s])).length≤1000) {gF:BitVec 64} (hl:gF.toNat=m):((gF+1#64-s.first).toNat:Int)=((m-(gh a).length:Nat):Int):=by
  have h1:=h.first
  have e1:(gF+1#64).toNat=m+1:=by
    rw[ga,hl]
    show (m+1)%18446744073709551616=_
    omega
  rw[fx (by rw[gq,e1,h1];omega),e1,h1]
  omega
theorem F8 (s:gR) {n:Nat} (h:n≤s.l.length):∃h:n<(jI s).length,(jI s)[n]=(mB s n:Int):=by
  obtain ⟨h1,h2⟩:=dV.1 (IG s n h)
  exact ⟨h1,h2⟩
theorem acF {gI:List (BitVec 8)} {s:gR} (hl:gI.length=32768) (hj:s.no.toNat<32) (h:slot gI s.no.toNat=ij s):lZ gI s.no.toNat (ij (s.cut s.l.length))=gI:=by
  rw[IA,←h,Fi hl hj]
theorem acC (l:List Int) (n:Nat):(ic l).take n=ic (l.take n):=by simp[ic,List.map_take]
theorem afc {gI:List (BitVec 8)} {j:Nat} (hl:gI.length=32768) (hj:j<32):lO gI (64*(j*16+0)) z64=lZ gI j (lO (slot gI j) (64*0) z64):=by
  conv=>lhs;rw[←Fi hl hj]
  exact Kb hl hj (yv hl hj) gz Af
theorem Yh {l:List En} {ss:List gR} (hc:mE (l++gh ss)) {i:Nat} (hi:i<ss.length) (hz:gh (ss.take i)=[]) {j:Nat} (hj:l.length=j+1) (h0:0<ss[i].l.length):iZ (l[j]'gz)∧iZ ss[i].l[0]∧yF (l[j]'gz) ss[i].l[0]:=by
  have e:gh ss=ss[i].l++gh (ss.drop (i+1)):=by
    rw[BM ss i,hz,eC,DP hi]
  have hlen:j+1<(l++gh ss).length:=by rw[dr,e,dr];omega
  have h1:=hc.nx j hlen
  have e1:(l++gh ss)[j]'gz=l[j]'gz:=eY gz
  have e2:(l++gh ss)[j+1]'hlen=ss[i].l[0]:=by
    rw[List.getElem_append_right gz]
    simp only[hj,Nat.sub_self,e]
    rw[eY h0]
  rw[e1,e2] at h1
  refine ⟨hc.ok _ (dw _ (dG _)),hc.ok _ ?_,h1⟩
  rw[←e2]
  exact dG _
theorem Yn {s:gR} (h:(jw s).length≤1024) (hs:∀e∈s.l,iZ e):Sum.vD (ij s)=(pJ s,(jw s).length,0):=by
  unfold ij jw
  refine Sum.QH (pJ s) _ (fun l hl=>?_) ?_
  · rcases eS.1 hl with rfl|hl
    · rw[Eu];decide
    · obtain ⟨e,he,rfl⟩:=ei.1 hl
      have:=(BU (hs e he)).2
      omega
  · by_cases e:1024-(Sum.flat (pJ s)).length=0
    · left;rw[e];rfl
    · right
      obtain ⟨k,hk⟩:∃k,1024-(Sum.flat (pJ s)).length=k+1:=⟨_,(Nat.succ_pred_eq_of_pos (gp e)).symm⟩
      rw[hk];rfl
theorem Ym {x:List (BitVec 8)} (h0:x[0]?=some 0#8):(Sum.vD x).1=[]:=by
  have:=Sum.QH [] x (fun _ h=>by cases h) (.inr (by rw[List.getD_eq_getElem?_getD,h0];rfl))
  rw[Sum.LK,eC] at this
  rw[this]
theorem aai (s:gR) {i:Nat} (hi:i<s.l.length):jI (s.cut (i+1))=jI (s.cut i)++[(mB s i:Int)+((8:Int)+((iB s.l[i]).length:Int))]:=by
  have e:s.cut (i+1)=(s.cut i).snoc s.l[i]:=by
    unfold gR.cut gR.snoc
    rw[dJ hi]
  have h2:(jw (s.cut i)).length=mB s i:=by unfold jw mB;rw[DY]
  rw[e,RW,dr,Ge,h2]
  congr 2
  omega
theorem Y5 (s:gR) {i:Nat} (hi:i<s.l.length):∃h:i+1<(pJ s).length,(pJ s)[i+1]=iB s.l[i]:=⟨by rw[F4];omega,by simp[pJ]⟩
def sQ (ps:List Nat):List Value:=ps.map ptr++List.replicate (32-ps.length) (.pointer none)
theorem K1 {ps:List Nat} (h:ps.length≤32):(sQ ps).length=32:=by unfold sQ;rw[dr,List.length_map,gj];omega
def Bp (ps:List Nat) (i:Nat):Option Addr:=(ps[i]?).map fun p=>⟨p,0,none⟩
theorem QJ {ps:List Nat} (h:ps.length≤32) {i:Nat} (hi:i<32):(sQ ps)[i]?=some (.pointer (Bp ps i)):=by
  unfold sQ Bp
  by_cases h1:i<ps.length
  · rw[eT (by rw[List.length_map];exact h1),gw,dK h1]
    rfl
  · rw[fD (by rw[List.length_map];omega),List.length_map,List.getElem?_replicate,dx gz,eG gz]
    rfl
theorem ae2 {ps:List Nat} {i:Nat} (h:(Bp ps i).isSome=true):i<ps.length:=by
  unfold Bp at h
  rcases Nat.lt_or_ge i ps.length with h1|h1
  · exact h1
  · rw[eG h1] at h;cases h
theorem Hy {ps:List Nat} {i:Nat} (h:i<ps.length):Bp ps i=some ⟨ps[i],0,none⟩:=by unfold Bp;rw[dK h];rfl
theorem ae1 {ps:List Nat} {i:Nat} (h:(Bp ps i).isSome=false):ps.length≤i:=by
  rcases Nat.lt_or_ge i ps.length with h1|h1
  · rw[Hy h1] at h;cases h
  · exact h1
theorem N8 {ps:List Nat} {i:Nat} (h:i<ps.length):wg (ps.take (i+1))=Bp ps i:=by
  rw[dJ h,uW,Hy h]
theorem adU {ps:List Nat} {i:Nat} (h:ps.length≤i):wg (ps.take (i+1))=wg (ps.take i):=by
  rw[dL h,dL gz]
theorem J6 {ss:List gR} (j:iM ss) {i:Nat} (h:i<ss.length):ss[i].no.toNat=i:=by
  have:=(j.at i h).no
  rwa [dE,eE gz] at this
theorem EZ {m:Nat} (h:m≤1000):(BitVec.ofNat 32 m).toNat=m:=by rw[fg];omega
theorem aez {m:Nat} (h:m+1≤1000):BitVec.ofNat 32 (m+1)-1#32=BitVec.ofNat 32 m:=by
  apply dB
  rw[fx (by rw[gq,EZ h];show 1≤_;omega),EZ h,EZ (m:=m) gz]
  show m+1-1=m
  omega
theorem Vs {ss:List gR} (j:iM ss) {i:Nat} (h:i<ss.length) (hb:ss.length≤1000):ss[i].no=BitVec.ofNat 32 i:=by
  apply dB
  rw[J6 j h,EZ gz]
theorem aeE {ss:List gR} (j:iM ss) {m:Nat} (h:m+1<ss.length) (hb:(gh ss).length≤1000):ss[m].first+BitVec.ofInt 64 (ss[m].l.length:Int)=ss[m+1].first:=by
  have h1:=j.at m gz
  have h2:=(j.at (m+1) h).first
  have e:ss.take (m+1)=ss.take m++[ss[m]]:=dJ gz
  have hle:(gh (ss.take m++[ss[m]])).length≤1000:=by
    rw[←e]
    have:=congrArg List.length (BM ss (m+1))
    rw[dr] at this
    omega
  have h3:=aeF h1 hle
  apply dB
  rw[h3,h2,e]
theorem Rn {ss:List gR} (j:iM ss) {m:Nat} (h:m<ss.length):mE (ss[m].l++gh (ss.drop (m+1))):=by
  rw[←DP h]
  have e:=BM ss m
  have:=j.row.mG.drop (gh (ss.take m)).length
  rwa [e,eN (dA _),List.drop_length,eC] at this
end Go.SL
namespace Go.SL.Top
section
variable {ps:List (List ia)}
theorem Va {L:Ld} {o q:BitVec 32} {x y:Lo} (hx:jC L o=some x) {a b:Nat}:jC ⟨setAt L o y,a,b⟩ q=if q=o then some y else jC L q:=by
  obtain ⟨h0,h1,_⟩:=qN hx
  by_cases e:q=o
  · subst e
    rw[dx rfl]
    unfold jC at hx ⊢
    by_cases hz:q=0#32
    · rw[dx hz] at hx;cases hx
    · rw[dp hz]
      show (L.l.set _ y)[_]?=_
      rw[List.getElem?_set_self (dV.1 h1).1]
  · rw[dp e]
    unfold jC
    by_cases hz:q=0#32
    · rw[dx hz,dx hz]
    · rw[dp hz,dp hz]
      show (L.l.set _ y)[_]?=_
      rw[List.getElem?_set_ne]
      intro h
      have:0<q.toNat:=gp fun e=>hz (dB e)
      exact e (dB gz)
theorem aed {L:Ld} {q:BitVec 32} {x z:Lo} (h:jC L q=some x) {a b:Nat}:jC ⟨L.l++[z],a,b⟩ q=some x:=by
  unfold jC at h ⊢
  by_cases hz:q=0#32
  · rw[dx hz] at h;cases h
  · rw[dp hz] at h ⊢
    show (L.l++[z])[_]?=_
    rw[eT (dV.1 h).1,h]
def Ic (x:Lo):Prop:=x.told=true→x.sg.phase=3∧x.sg.asked=false
inductive KR (L:Ld) (e:En) (jc:Ld):Prop
  |new (z:Lo) (hz:z=⟨e.key,e.data,Sg.start,false⟩) (hk:e.kind=2) (ho:e.order.toNat=L.l.length+1) (hn:∀o∈L.l,o.key≠e.key) (h:jc.l=L.l++[z])
  |set (x y:Lo) (hx:jC L e.order=some x) (hk:y.key=x.key) (hd:y.data=x.data) (h:jc.l=setAt L e.order y) (h2:e.kind≠2)
      (zj:e.kind=5→y.told=true∧y.sg=x.sg∧x.sg.phase=3∧x.sg.code=e.code∧x.told=false) (jk:e.kind≠5→y.told=x.told∧(x.sg.phase≠3∨x.sg.asked=true))
  |no (h:jc.l=L.l) (h2:e.kind≠2) (h5:e.kind≠5)
theorem WQ {L jc:Ld} {e:En} (h:nH ps L e=some jc):KR L e jc:=by
  unfold nH at h
  split at h
  · cases h
  · split at h
    · rename_i k2
      split at h
      · rename_i hc
        cases h
        exact .new _ rfl k2 hc.1 hc.2.2.1 rfl
      · cases h
    · rename_i k2
      split at h
      · rename_i k3
        cases ho:jC L e.order with
        |none=>rw[ho] at h;cases h
        | some o=>
          rw[ho] at h
          simp only at h
          split at h
          · rename_i hc
            cases h
            refine .set o {o with sg:=uy (jD ps o.data) o.sg} ho rfl rfl rfl k2 (fun h5=>by rw[h5] at k3;cases k3) fun _=>⟨rfl,.inl fun hp=>?_⟩
            unfold pD at hc
            rw[dx (.inl hp)] at hc
            cases hc
          · cases h
      · rename_i k3
        split at h
        · rename_i k4
          cases ho:jC L e.order with
          |none=>rw[ho] at h;cases h
          | some o=>
            rw[ho] at h
            simp only at h
            split at h
            · rename_i hc
              cases h
              exact .set o {o with sg:=rD (jD ps o.data) o.sg e.step e.iy e.code} ho rfl rfl rfl k2 (fun h5=>by rw[h5] at k4;cases k4) fun _=>⟨rfl,.inr hc.1⟩
            · cases h
        · split at h
          · rename_i k5
            cases ho:jC L e.order with
            |none=>rw[ho] at h;cases h
            | some o=>
              rw[ho] at h
              simp only at h
              split at h
              · rename_i hc
                cases h
                exact .set o {o with told:=true} ho rfl rfl rfl k2 (fun _=>⟨rfl,rfl,hc⟩) fun h5=>absurd k5 h5
              · cases h
          · rename_i k5
            cases h
            exact .no rfl k2 k5
theorem UT {L jc:Ld} {e:En} (c:KR L e jc) (hE:∀x∈L.l,Ic x) {q:BitVec 32} {x:Lo} (hx:jC L q=some x):
    ∃y,jC jc q=some y∧y.key=x.key∧y.data=x.data∧(x.told=true→y=x):=by
  cases c with
  |new z hz hk ho hn h=>exact ⟨x,by have:=aed (z:=z) hx (a:=0) (b:=0);unfold jC at this ⊢;rw[h];exact this,rfl,rfl,fun _=>rfl⟩
  |no h h2 h5=>exact ⟨x,by unfold jC at hx ⊢;rw[h];exact hx,rfl,rfl,fun _=>rfl⟩
  | set w y hw hk hd h h2 zj jk=>
    have hq:jC jc q=if q=e.order then some y else jC L q:=by
      have:=Va (y:=y) (q:=q) hw (a:=0) (b:=0)
      unfold jC at this ⊢
      rw[h];exact this
    by_cases e1:q=e.order
    · rw[dx e1] at hq
      subst e1
      rw[hw] at hx
      obtain rfl:=eQ hx
      refine ⟨y,hq,hk,hd,fun ht=>?_⟩
      exfalso
      by_cases h5:e.kind=5
      · have:=(zj h5).2.2.2.2;rw[ht] at this;cases this
      · obtain ⟨e1,e2⟩:=hE w (qN hw).2.2 ht
        rcases (jk h5).2 with h9|h9
        · exact h9 e1
        · rw[e2] at h9;cases h9
    · rw[dp e1,hx] at hq
      exact ⟨x,hq,rfl,rfl,fun _=>rfl⟩
theorem aac {L jc:Ld} {e:En} (c:KR L e jc) (mI:∀x∈L.l,x.sg.phase=3→x.sg.asked=false) (hE:∀x∈L.l,Ic x):∀x∈jc.l,Ic x:=by
  intro x hx
  cases c with
  | new z hz hk ho hn h=>
    rw[h] at hx
    rcases dT.1 hx with hx|hx
    · exact hE x hx
    · rw[dH.1 hx,hz];exact fun h=>by cases h
  |no h h2 h5=>rw[h] at hx;exact hE x hx
  | set w y hw hk hd h h2 zj jk=>
    rw[h] at hx
    rcases List.mem_or_eq_of_mem_set hx with hx|rfl
    · exact hE x hx
    · intro ht
      by_cases h5:e.kind=5
      · obtain ⟨a1,a2,a3,a4,a5⟩:=zj h5
        rw[a2];exact ⟨a3,mI w (qN hw).2.2 a3⟩
      · obtain ⟨a1,a2⟩:=jk h5
        rw[a1] at ht
        obtain ⟨b1,b2⟩:=hE w (qN hw).2.2 ht
        rcases a2 with h9|h9
        · exact absurd b1 h9
        · rw[b2] at h9;cases h9
theorem agc {p:List ia} {s:Sg} (h:qO p s) (h3:s.phase=3):s.asked=false:=by
  rcases h with ⟨_,_,_,h4⟩|⟨h1,_⟩
  · rw[h4];rfl
  · omega
structure xK (ps:List (List ia)) (l:List En) (L:Ld):Prop where
  inv:l4 ps L
  ended:∀x∈L.l,Ic x
  last:L.last=l.length
  ep:∀e∈l,e.ep.toNat≤L.ep
  gF:∀(i:Nat) (h:i<l.length),l[i].gF.toNat=i+1
  ok:∀e∈l,iZ e
  order:∀e∈l,e.kind=2→∃x,jC L e.order=some x∧x.key=e.key∧x.data=e.data
  fin:∀e∈l,e.kind=5→∃x,jC L e.order=some x∧x.told=true∧x.sg.code=e.code
theorem xK.nil:xK ps [] Ld.z:=⟨l4.z,fun _ h=>absurd h ej,rfl,fun _ h=>absurd h ej,fun _ h=>absurd h (gl _),fun _ h=>absurd h ej,fun _ h=>absurd h ej,fun _ h=>absurd h ej⟩
theorem xK.snoc (gN:∀p∈ps,vi p) {l:List En} {L jc:Ld} {e:En} (t:xK ps l L) (h:nH ps L e=some jc):xK ps (l++[e]) jc:=by
  obtain ⟨i1,i2,i3,i4,i5,i6⟩:=HJ gN t.inv h
  have c:=WQ h
  refine ⟨i1,aac c (fun x hx h3=>agc (t.inv.one x hx).2.1 h3) t.ended,by rw[i2,t.last,dr];rfl,fun x hx=>?_,fun i hi=>?_,fun x hx=>?_,fun x hx hk=>?_,fun x hx hk=>?_⟩
  · rcases dT.1 hx with hx|hx
    · exact eJ (t.ep x hx) i5
    · rw[dH.1 hx,i4];exact dA _
  · rw[dr] at hi
    by_cases h9:i<l.length
    · rw[eY h9];exact t.gF i h9
    · have:i=l.length:=by simp at hi;omega
      subst this
      rw[eO,←i3,i2,t.last]
      rfl
  · rcases dT.1 hx with hx|hx
    · exact t.ok x hx
    · rw[dH.1 hx];exact i6
  · rcases dT.1 hx with hx|hx
    · obtain ⟨y,y1,y2,y3⟩:=t.order x hx hk
      obtain ⟨z,z1,z2,z3,_⟩:=UT c t.ended y1
      exact ⟨z,z1,z2.trans y2,z3.trans y3⟩
    · obtain rfl:=dH.1 hx
      cases c with
      | new z hz zu ho hn h9=>
        refine ⟨z,?_,by rw[hz],by rw[hz]⟩
        unfold jC
        rw[dp (fun h0=>by rw[h0] at ho;simp at ho),h9,ho]
        simp
      |set w y hw zu hd h9 h2=>exact absurd hk h2
      |no h9 h2=>exact absurd hk h2
  · rcases dT.1 hx with hx|hx
    · obtain ⟨y,y1,y2,y3⟩:=t.fin x hx hk
      obtain ⟨z,z1,_,_,z4⟩:=UT c t.ended y1
      rw[z4 y2] at z1
      exact ⟨y,z1,y2,y3⟩
    · obtain rfl:=dH.1 hx
      cases c with
      |new z hz zu ho hn h9=>rw[hk] at zu;cases zu
      | set w y hw zu hd h9 h2 zj jk=>
        obtain ⟨a1,a2,a3,a4,a5⟩:=zj hk
        refine ⟨y,?_,a1,by rw[a2];exact a4⟩
        have:=Va (y:=y) (q:=x.order) hw (a:=0) (b:=0)
        rw[dx rfl] at this
        unfold jC at this ⊢
        rw[h9];exact this
      |no h9 h2 h5=>exact absurd hk h5
theorem W2 (gN:∀p∈ps,vi p):∀(b:List En) {a:List En} {L jc:Ld},xK ps a L→l7 ps L b=some jc→xK ps (a++b) jc
  | [],a,L,jc,t,h=>by
    obtain rfl:=eQ h
    rw[eF];exact t
  | e ::b,a,L,jc,t,h=>by
    have lK:(nH ps L e).bind (fun jc=>l7 ps jc b)=some jc:=h
    cases h9:nH ps L e with
    |none=>rw[h9] at lK;cases lK
    | some L1=>
      rw[h9] at lK
      have:=W2 gN b (t.snoc gN h9) lK
      rwa [dD] at this
theorem Fq (gN:∀p∈ps,vi p) {l:List En} {L:Ld} (h:l7 ps Ld.z l=some L):xK ps l L:=by
  have:=W2 gN l xK.nil h
  simpa using this
theorem OG (gN:∀p∈ps,vi p) {l:List En} (h:Folds ps l) {a b:En} (ha:a∈l) (hb:b∈l) (ka:a.kind=2) (kb:b.kind=2) (h1:a.order=b.order∨a.key=b.key):a.order=b.order∧a.key=b.key∧a.data=b.data:=by
  obtain ⟨L,h⟩:=h
  have t:=Fq gN h
  obtain ⟨x,x1,x2,x3⟩:=t.order a ha ka
  obtain ⟨y,y1,y2,y3⟩:=t.order b hb kb
  have key:a.order=b.order→a.order=b.order∧a.key=b.key∧a.data=b.data:=fun e=>by
    rw[e,y1] at x1
    obtain rfl:=eQ x1
    exact ⟨e,x2.symm.trans y2,x3.symm.trans y3⟩
  rcases h1 with e|e
  · exact key e
  · refine key ?_
    obtain ⟨a0,a1,_⟩:=qN x1
    obtain ⟨b0,b1,_⟩:=qN y1
    obtain ⟨El,ea⟩:=dV.1 a1
    obtain ⟨oQ,eb⟩:=dV.1 b1
    have hp:=fN.1 t.inv.keys
    have hk:(L.l[a.order.toNat-1]).key=(L.l[b.order.toNat-1]).key:=by rw[ea,eb,x2,y2,e]
    refine dB ?_
    rcases Nat.lt_trichotomy (a.order.toNat-1) (b.order.toNat-1) with h9|h9|h9
    · exact absurd hk (hp _ _ El oQ h9)
    · omega
    · exact absurd hk.symm (hp _ _ oQ El h9)
theorem aaj (gN:∀p∈ps,vi p) {l:List En} (h:Folds ps l) {a b:En} (ha:a∈l) (hb:b∈l) (ka:a.kind=5) (kb:b.kind=5) (h1:a.order=b.order):a.code=b.code:=by
  obtain ⟨L,h⟩:=h
  have t:=Fq gN h
  obtain ⟨x,x1,_,x3⟩:=t.fin a ha ka
  obtain ⟨y,y1,_,y3⟩:=t.fin b hb kb
  rw[h1,y1] at x1
  obtain rfl:=eQ x1
  exact x3.symm.trans y3
end
end Go.SL.Top
namespace Go.SL
open Top
def Fc (v:Value):List Value:=[v,.int .u32 0,.int .i32 0,.int .u32 0,.string ⟨#[]⟩]
def Dv:Rec (List ia) where
  s:=1
  at_ H c p:=∃q v T fr ex,c=[ptr q]∧(⟨q,.cells (Fc v).toArray T fr,ex⟩:Ck)∈H∧PV v p H
  len:=by rintro H c a ⟨q,v,T,fr,ex,rfl,_⟩;rfl
  mono:=by rintro A B c a ⟨q,v,T,fr,ex,h,hm,hp⟩ s;exact ⟨q,v,T,fr,ex,h,s _ hm,VS.mono hp s⟩
def RV (v:Value) (ps:List (List ia)) (H:List Ck):Prop:=VS Dv v ps H
def yK (vp:Value) (ps:List (List ia)) (d:List (BitVec 8)) (u:Value) (H:List Ck):Prop:=
  (jD ps d=[]∧(d=[]∨∃b vM,d=b::vM∧ps.length≤b.toNat)∧u=.slice none 0 0)∨
  (jD ps d≠[]∧∃(b:BitVec 8) (vM:List (BitVec 8)) (q b0 o0 cap:Nat) (cs:List Value) (T:TypeId) (fr:Nat×Nat) (ex:Bool) (gV:TypeId) (BY:Nat×Nat) (BW:Bool),d=b::vM∧b.toNat<ps.length∧vp=.slice (some ⟨b0,o0,none⟩) ps.length cap∧(⟨b0,.cells cs.toArray T fr,ex⟩:Ck)∈H∧cs[o0+b.toNat]?=some (ptr q)∧(⟨q,.cells (Fc u).toArray gV BY,BW⟩:Ck)∈H∧PV u (jD ps d) H)
theorem RV.of {vp:Value} {ps:List (List ia)} {H:List Ck} (h:RV vp ps H) (hp:∀p∈ps,p≠[]) (d:List (BitVec 8)):∃u,yK vp ps d u H:=by
  cases d with
  |nil=>exact ⟨_,.inl ⟨rfl,.inl rfl,rfl⟩⟩
  | cons b d=>
    rcases Nat.lt_or_ge b.toNat ps.length with hb|hb
    · obtain ⟨b0,o0,cap,cs,T,fr,ex,h1,_,h2,c,⟨q,u,gV,BY,BW,rfl,h4,h5⟩,h3⟩:=VS.cell h hb gB
      have e:jD ps (b::d)=ps[b.toNat]:=by unfold jD;simp[hb]
      refine ⟨u,.inr ⟨by rw[e];exact hp _ (dG hb),b,d,q,b0,o0,cap,cs,T,fr,ex,gV,BY,BW,rfl,hb,h1,h2,?_,h4,by rw[e];exact h5⟩⟩
      have:=h3 0 gB
      rw[show o0+b.toNat*Dv.s+0=o0+b.toNat by show o0+b.toNat*1+0=_;omega] at this
      exact this
    · exact ⟨_,.inl ⟨by unfold jD;simp[eG hb],.inr ⟨b,d,rfl,hb⟩,rfl⟩⟩
theorem yK.mono {vp:Value} {ps:List (List ia)} {d:List (BitVec 8)} {u:Value} {A B:List Ck} (h:yK vp ps d u A) (s:∀c∈A,c∈B):yK vp ps d u B:=by
  rcases h with h|⟨h0,b,vM,q,b0,o0,cap,cs,T,fr,ex,gV,BY,BW,h1,h2,h3,h4,h5,h6,h7⟩
  · exact .inl h
  · exact .inr ⟨h0,b,vM,q,b0,o0,cap,cs,T,fr,ex,gV,BY,BW,h1,h2,h3,s _ h4,h5,s _ h6,VS.mono h7 s⟩
theorem yK.pv {vp:Value} {ps:List (List ia)} {d:List (BitVec 8)} {u:Value} {H:List Ck} (h:yK vp ps d u H):PV u (jD ps d) H:=by
  rcases h with ⟨h0,_,rfl⟩|⟨_,_,_,_,_,_,_,_,_,_,_,_,_,_,_,_,_,_,_,_,h⟩
  · rw[h0];exact VS.nil _ _
  · exact h
def oc (n:Nat) (o:Lo) (vk vd:Value):List Value:=.int .u32 n::vk::vd::(mb o.sg++[.bool o.told])
def Bo:Rec (Nat×Lo) where
  s:=11
  at_ H c x:=∃vk vd,c=oc x.1 x.2 vk vd∧Bs vk x.2.key H∧Bs vd x.2.data H
  len:=by rintro H c a ⟨vk,vd,rfl,_⟩;rfl
  mono:=by rintro A B c a ⟨vk,vd,h,h1,h2⟩ s;exact ⟨vk,vd,h,h1.mono s,h2.mono s⟩
def jK (l:List Lo):List (Nat×Lo):=l.mapIdx fun i o=>(i+1,o)
theorem r4 (l:List Lo):(jK l).length=l.length:=by simp[jK]
theorem yt {l:List Lo} {i:Nat} (h:i<(jK l).length) (h2:i<l.length):(jK l)[i]=(i+1,l[i]):=by simp[jK]
theorem Oy (l:List Lo) (i:Nat):(jK l)[i]?=(l[i]?).map fun o=>(i+1,o):=by simp[jK]
theorem Vw (l:List Lo) (o:Lo):jK (l++[o])=jK l++[(l.length+1,o)]:=by simp[jK,List.mapIdx_append]
theorem Vv (l:List Lo) (i:Nat) (o:Lo):jK (l.set i o)=(jK l).set i (i+1,o):=by
  apply eM
  intro j
  rw[Oy,List.getElem?_set,List.getElem?_set,Oy,r4]
  by_cases h:i=j
  · subst h
    by_cases h2:i<l.length<;>simp[h2]
  · simp[h]
def mJ (l:List Lo):List (ByteArray×Value):=(jK l).map fun x=>(str x.2.key,.int .u32 (x.1:Int))
theorem adH (l:List Lo) (o:Lo):mJ (l++[o])=mJ l++[(str o.key,.int .u32 ((l.length+1:Nat):Int))]:=by
  unfold mJ;rw[Vw,fW];rfl
theorem adG {l:List Lo} {i:Nat} (hi:i<l.length) {o:Lo} (hk:o.key=l[i].key):mJ (l.set i o)=mJ l:=by
  unfold mJ
  rw[Vv,List.map_set]
  apply eM
  intro j
  rw[List.getElem?_set]
  by_cases h:i=j
  · subst h
    have h2:i<(jK l).length:=by rw[r4];exact hi
    simp[Oy,hi,hk,h2,yt h2 hi]
  · simp[h]
theorem adD (l:List Lo):(mJ l).map (·.1)=l.map fun o=>str o.key:=by
  unfold mJ jK
  rw[List.map_map]
  apply eM
  intro j
  simp[Function.comp_def]
theorem adE {l:List Lo} (h:l.Pairwise fun a b=>a.key≠b.key):((mJ l).map (·.1)).Nodup:=by
  rw[adD]
  unfold List.Nodup
  rw[List.pairwise_map]
  exact h.imp fun Em e=>Em (str_inj.1 e)
theorem adF {l:List Lo} {k:List (BitVec 8)} (h:∀o∈l,o.key≠k):kB (mJ l) (str k)=none:=by
  unfold kB
  rw[Option.map_eq_none_iff,List.find?_eq_none]
  intro p hp
  obtain ⟨x,hx,rfl⟩:=ei.1 hp
  obtain ⟨i,hi,rfl⟩:=fu hx
  have h2:i<l.length:=by rw[r4] at hi;exact hi
  rw[yt hi h2]
  simpa using fun e=>h _ (dG h2) (str_inj.1 e).symm
theorem adI {l:List Lo} {i:Nat} (hi:i<l.length) {k:List (BitVec 8)} (hk:l[i].key=k) (h:l.Pairwise fun a b=>a.key≠b.key):kB (mJ l) (str k)=some (.int .u32 ((i+1:Nat):Int)):=by
  unfold kB
  have hlen:(mJ l).length=l.length:=by unfold mJ;rw[List.length_map,r4]
  have e:(mJ l).find? (fun p=>decide (str k=p.1))=some (str k,.int .u32 ((i+1:Nat):Int)):=by
    rw[List.find?_eq_some_iff_getElem]
    refine ⟨by simp,i,by rw[hlen];exact hi,by unfold mJ;simp[jK,hk],fun j hj=>?_⟩
    have hjl:j<l.length:=by omega
    have:(mJ l)[j]=(str l[j].key,.int .u32 ((j+1:Nat):Int)):=by unfold mJ;simp[jK]
    rw[this]
    simpa using fun e=>(fN.1 h j i hjl hi hj) (by rw[hk];exact (str_inj.1 e).symm)
  rw[e];rfl
theorem adC {l:List Lo} {k:List (BitVec 8)}:(kB (mJ l) (str k)).isSome=true↔∃o∈l,o.key=k:=by
  constructor
  · intro h
    apply dW
    intro hn
    rw[adF (fun o ho e=>hn ⟨o,ho,e⟩)] at h
    cases h
  · rintro ⟨o,ho,rfl⟩
    unfold kB
    rw[Option.isSome_map,List.find?_isSome]
    obtain ⟨i,hi,rfl⟩:=fu ho
    refine ⟨(str l[i].key,.int .u32 ((i+1:Nat):Int)),?_,by simp⟩
    unfold mJ
    exact ei.2 ⟨(i+1,l[i]),List.mem_iff_getElem.2 ⟨i,by rw[r4];exact hi,yt _ hi⟩,rfl⟩
theorem de {P:Program} {l:Sl} {d:Option Nat} {ty:TypeId} {pos:String} {gJ:Array Edge} {g:Option (Nat×Bool)} {T gV e:TypeId} {x y:Operand} {ao:Option Addr} {n c:Nat} (hT:P.underlying T=some (.slice e)) (hx:ev l x=some (.slice ao n c)) (hy:ev l y=some (.slice none 0 0)):Yd P ⟨d,.binOp .neq T x y gV,ty,pos,gJ,g⟩ l (.bool ao.isSome):=fun a kn w=>by
  have:(eqGuard .neq T x y (.slice ao n c) (.slice none 0 0)).run P w=.ok () w:=by unfold eqGuard;simp
  cases ao<;>simp[execOp,kn.ev hx,kn.ev hy,this,binOp,Wo hT]
def DL (b:Nat) (m:List (ByteArray×Value)) (H:List Ck):Prop:=∃es clock ex,(⟨b,.map es clock,ex⟩:Ck)∈H∧wF kU es m
theorem DL.mono {b:Nat} {m:List (ByteArray×Value)} {A B:List Ck} (h:DL b m A) (s:∀c∈A,c∈B):DL b m B:=by
  obtain ⟨es,clock,ex,h1,h2⟩:=h
  exact ⟨es,clock,ex,s _ h1,h2⟩
theorem mO.view {b:Nat} {m:List (ByteArray×Value)} {C:List Ck} (h:mO kU b m C):DL b m C:=by
  obtain ⟨es,clock,rfl,h1,_⟩:=h
  exact ⟨es,clock,true,dy,h1⟩
theorem cA {P:Program} {l:Sl} {H:List Ck} {d:Option Nat} {ty:TypeId} {pos:String} {gJ:Array Edge} {g:Option (Nat×Bool)} {K:Next→List Ck→Prop}
    {T KT ET:TypeId} {TD:TypeDesc} {x y:Operand} {b:Nat} {n:ByteArray} {m:List (ByteArray×Value)} {z u:Value} {two:Bool} (hT:mapOf P T=some (KT,ET)) (hK:P.underlying KT=some TD) (oP:kU.fits TD) (Hj:(P.info? ET).bind (·.zero)=some z)
    (hx:ev l x=some (.map (some b))) (hy:ev l y=some (kU.kv n)) (hm:DL b m H) (hu:(if two then Value.tuple #[(kB m n).getD z,.bool (kB m n).isSome] else (kB m n).getD z)=u) (k:K (.value u) H):
    Hd P ⟨d,.lookup T x y two,ty,pos,gJ,g⟩ l H K:=fun a w R kn s=>by
  subst hu
  have hz:∀w,(zeroValue ET).run P w=.ok z w:=fun w=>by
    obtain ⟨i,hi,Hl⟩:=Option.bind_eq_some_iff.1 Hj
    simp[zeroValue,typeInfo,hi,Hl]
  obtain ⟨es,clock,ex,hU,h2⟩:=hm
  have h1:w.heap[b]?=some (.map es clock):=s.holds _ (dw R hU)
  refine ⟨_,w,H,?_,s,Kept.refl w,k⟩
  have hg:=D8 m n 0
  cases hf:pk m n 0 with
  | none=>
    have w7:kB m n=none:=by rw[←hg,hf];rfl
    cases two<;>simp[execOp,kn.ev hx,kn.ev hy,Instr.lookup,dP (ug hT),tt h1 ⟨_,_,rfl⟩,kU.check hK oP,zW kU hK oP h2,hf,hz,w7]
  | some p=>
    have w7:kB m n=some p.2:=by rw[←hg,hf];rfl
    cases two<;>simp[execOp,kn.ev hx,kn.ev hy,Instr.lookup,dP (ug hT),tt h1 ⟨_,_,rfl⟩,kU.check hK oP,zW kU hK oP h2,hf,w7]
def j0 (vp vo:Value) (bm:Nat) (lb:BitVec 64) (eb:BitVec 32) (mode jg nt:Int):List Value:=[vp,vo,.map (some bm),.int .u64 lb.toNat,.int .u32 eb.toNat,.int .i64 mode,.int .i64 jg,.int .i64 nt]
def ln (TL TO p:Nat) (ps:List (List ia)) (L:Ld) (C:List Ck):Prop:=
  ∃ vp vo bm lb eb mode jg nt cells CO CM V,C=row p (j0 vp vo bm lb eb mode jg nt) TL::(CO++(CM++V))∧lb.toNat=L.last∧eb.toNat=L.ep∧
    il vo L.l.length cells TO 11 CO∧VL Bo V cells (jK L.l)∧mO kU bm (mJ L.l) CM∧RV vp ps V
def mN (p:Nat) (ps:List (List ia)) (L:Ld) (H:List Ck):Prop:=
  ∃vp vo bm lb eb mode jg nt T fr ex,(⟨p,.cells (j0 vp vo bm lb eb mode jg nt).toArray T fr,ex⟩:Ck)∈H∧lb.toNat=L.last∧eb.toNat=L.ep∧VS Bo vo (jK L.l) H∧RV vp ps H∧DL bm (mJ L.l) H
theorem mN.mono {p:Nat} {ps:List (List ia)} {L:Ld} {A B:List Ck} (h:mN p ps L A) (s:∀c∈A,c∈B):mN p ps L B:=by
  obtain ⟨vp,vo,bm,lb,eb,mode,jg,nt,T,fr,ex,h1,hl,he,h2,h3,h4⟩:=h
  exact ⟨vp,vo,bm,lb,eb,mode,jg,nt,T,fr,ex,s _ h1,hl,he,h2.mono s,VS.mono h3 s,h4.mono s⟩
theorem ln.v {TL TO p:Nat} {ps:List (List ia)} {L:Ld} {C:List Ck} (h:ln TL TO p ps L C):mN p ps L C:=by
  obtain ⟨vp,vo,bm,lb,eb,mode,jg,nt,cells,CO,CM,V,rfl,hl,he,h1,h2,h3,h4⟩:=h
  refine ⟨vp,vo,bm,lb,eb,mode,jg,nt,TL,_,_,dy,hl,he,⟨cells,?_,h2.mono fun c hc=>dt _ (dq _ (dq _ hc))⟩,VS.mono h4 fun c hc=>dt _ (dq _ (dq _ hc)),h3.view.mono fun c hc=>dt _ (dq _ (dw _ hc))⟩
  rw[r4]
  exact h1.rs.mono fun c hc=>dt _ (dw _ hc)
theorem VS.order {vo:Value} {L:Ld} {H:List Ck} (h:VS Bo vo (jK L.l) H) {n:BitVec 32} {o:Lo} (ho:jC L n=some o):
    ∃(b o0 cap:Nat) (cs:List Value) (T:TypeId) (fr:Nat×Nat) (ex:Bool) (wk wd:Value),vo=.slice (some ⟨b,o0,none⟩) L.l.length cap∧L.l.length≤cap∧(⟨b,.cells cs.toArray T fr,ex⟩:Ck)∈H∧Bs wk o.key H∧Bs wd o.data H∧(∀j,j<11→cs[o0+(n.toNat-1)*11+j]?=(oc n.toNat o wk wd)[j]?)∧1≤n.toNat∧n.toNat≤L.l.length:=by
  obtain ⟨h0,h1,h2⟩:=qN ho
  have hi:n.toNat-1<L.l.length:=(dV.1 h1).1
  have hx:L.l[n.toNat-1]=o:=(dV.1 h1).2
  have hn:n.toNat-1<(jK L.l).length:=by rw[r4];exact hi
  obtain ⟨b,o0,cap,cs,T,fr,ex,h3,h4,h5,c,⟨wk,wd,rfl,hk,hd⟩,h6⟩:=h.cell hn gB
  rw[r4] at h3 h4
  rw[yt hn hi,hx] at hk hd h6
  refine ⟨b,o0,cap,cs,T,fr,ex,wk,wd,h3,h4,h5,hk,hd,fun j hj=>?_,h0,by omega⟩
  have:=h6 j hj
  rw[show n.toNat-1+1=n.toNat by omega] at this
  exact this
theorem VS.Hx {vo:Value} {L:Ld} {H:List Ck} (h:VS Bo vo (jK L.l) H):∃ao cap,vo=.slice ao L.l.length cap∧L.l.length≤cap:=by
  have:=h.form
  rwa [r4] at this
theorem aec {L:Ld} {n:BitVec 32} (h:jC L n=none):n=0#32∨L.l.length<n.toNat:=by
  by_cases h0:n=0#32
  · exact .inl h0
  · unfold jC at h
    rw[dp h0] at h
    have:=List.getElem?_eq_none_iff.1 h
    have:n.toNat≠0:=fun e=>h0 (dB e)
    exact .inr gz
theorem AA {cs c:List Value} {o s:Nat} (h:∀j,j<s→cs[o+j]?=c[j]?) (a n:Nat) (hn:a+n≤s):(cs.drop (o+a)).take n=(c.drop a).take n:=by
  apply eM
  intro j
  by_cases hj:j<n
  · rw[fw hj,fw hj,ft,ft,Nat.add_assoc,h _ gz]
  · rw[eG (by rw[dE];omega),eG (by rw[dE];omega)]
theorem yK.form {vp:Value} {ps:List (List ia)} {d:List (BitVec 8)} {u:Value} {H:List Ck} (h:yK vp ps d u H):∃uo un uc,u=.slice uo un uc∧(uo.isSome=!(jD ps d).isEmpty):=by
  rcases h with ⟨h0,_,rfl⟩|⟨h0,_,_,_,_,_,_,_,_,_,_,_,_,_,_,_,_,_,_,_,h⟩
  · exact ⟨_,_,_,rfl,by rw[h0];rfl⟩
  · have hl:0<(jD ps d).length:=by
      cases e:jD ps d with
      |nil=>exact absurd e h0
      |cons a l=>exact Nat.succ_pos _
    obtain ⟨b,o,cap,cs,T,fr,ex,rfl,_⟩:=VS.cell h hl gB
    refine ⟨_,_,_,rfl,?_⟩
    cases e:jD ps d with
    |nil=>exact absurd e h0
    |cons a l=>rfl
def kC (ps:List (List ia)) (L:Ld) (e:En):Bool:=
  if e.kind=2 then (decide ((e.order.toNat:Int)=(L.l.length:Int)+1)&&(decide ((L.l.length:Int)<500)&&(!(kB (mJ L.l) (str e.key)).isSome&&!(jD ps e.data).isEmpty)))
  else if e.kind=3 then (match jC L e.order with|none=>false|some o=>decide (pD o.sg=some (e.step,e.iy,e.tr)))
  else if e.kind=4 then (match jC L e.order with|none=>false|some o=>o.sg.asked&&(decide (o.sg.step=e.step)&&(decide (decide (o.sg.phase=2)=e.iy)&&decide (o.sg.tr=e.tr))))
  else if e.kind=5 then (match jC L e.order with|none=>false|some o=>decide (o.sg.phase=3)&&(decide (o.sg.code=e.code)&&!o.told))
  else true
def lI (ps:List (List ia)) (L:Ld) (e:En):Int:=if vK e≠0 then 40 else if e.gF.toNat=L.last+1∧L.ep≤e.ep.toNat∧kC ps L e=true then 0 else 200
def nG (ps:List (List ia)) (L:Ld) (e:En):Ld:=
  ⟨if e.kind=2 then L.l++[⟨e.key,e.data,Sg.start,false⟩]
   else match jC L e.order with
    |none=>L.l
    | some o=>if e.kind=3 then setAt L e.order {o with sg:=uy (jD ps o.data) o.sg}
      else if e.kind=4 then setAt L e.order {o with sg:=rD (jD ps o.data) o.sg e.step e.iy e.code}
      else if e.kind=5 then setAt L e.order {o with told:=true} else L.l,e.gF.toNat,e.ep.toNat⟩
theorem JO {l:List Lo} {k:List (BitVec 8)}:(kB (mJ l) (str k)).isSome=false↔∀o∈l,o.key≠k:=by
  rw[←Bool.not_eq_true,adC]
  exact ⟨fun h o ho e=>h ⟨o,ho,e⟩,fun h ⟨o,ho,e⟩=>h o ho e⟩
theorem Pk {ps:List (List ia)} {L:Ld} {e:En} (he:iZ e) (h:lI ps L e=0):nH ps L e=some (nG ps L e):=by
  unfold lI at h
  rw[dp (fK (xN he))] at h
  by_cases h0:e.gF.toNat=L.last+1∧L.ep≤e.ep.toNat∧kC ps L e=true
  · obtain ⟨h1,h2,h3⟩:=h0
    unfold nH
    rw[dp (fK ⟨he,h1,h2⟩)]
    unfold kC at h3
    unfold nG
    by_cases k2:e.kind=2
    · rw[dx k2] at h3 ⊢
      simp only[eu,dz,fq,List.isEmpty_eq_false_iff] at h3
      rw[dx ⟨by omega,by omega,JO.1 h3.2.2.1,h3.2.2.2⟩,dx k2]
    · rw [dp k2] at h3 ⊢
      rw[dp k2]
      by_cases k3:e.kind=3
      · rw[dx k3] at h3 ⊢
        cases hl:jC L e.order with
        |none=>rw[hl] at h3;cases h3
        |some o=>rw[hl] at h3;simp only[dz] at h3;simp only[k3,if_true,h3]
      · rw [dp k3] at h3 ⊢
        by_cases k4:e.kind=4
        · rw[dx k4] at h3 ⊢
          cases hl:jC L e.order with
          |none=>rw[hl] at h3;cases h3
          | some o=>
            rw[hl] at h3
            simp only[eu,dz] at h3
            simp[k3,k4,h3]
        · rw [dp k4] at h3 ⊢
          by_cases k5:e.kind=5
          · rw[dx k5] at h3 ⊢
            cases hl:jC L e.order with
            |none=>rw[hl] at h3;cases h3
            | some o=>
              rw[hl] at h3
              simp only[eu,dz,fq] at h3
              simp[k3,k4,k5,h3]
          · rw[dp k5]
            cases hl:jC L e.order<;>simp[k3,k4,k5]
  · rw[dp h0] at h;cases h
theorem agM {ps:List (List ia)} {L:Ld} {e:En} (he:iZ e) (h:lI ps L e≠0):nH ps L e=none:=by
  cases hs:nH ps L e with
  |none=>rfl
  | some jc =>
    exfalso
    apply h
    unfold lI
    rw[dp (fK (xN he)),dx]
    unfold nH at hs
    by_cases h0:iZ e∧e.gF.toNat=L.last+1∧L.ep≤e.ep.toNat
    · rw [dp (fK h0)] at hs
      refine ⟨h0.2.1,h0.2.2,?_⟩
      unfold kC
      by_cases k2:e.kind=2
      · rw[dx k2] at hs ⊢
        split at hs
        · rename_i hc
          have:=JO.2 hc.2.2.1
          have h7:=hc.1
          have h6:=hc.2.1
          have h8:(e.order.toNat:Int)=(L.l.length:Int)+1:=by omega
          have h9:(L.l.length:Int)<500:=by omega
          rw[fo h8,fo h9,this]
          simp[hc.2.2.2]
        · cases hs
      · rw [dp k2] at hs ⊢
        by_cases k3:e.kind=3
        · rw[dx k3] at hs ⊢
          cases hl:jC L e.order with
          |none=>rw[hl] at hs;cases hs
          |some o=>rw[hl] at hs;simp only at hs;split at hs<;>simp_all
        · rw [dp k3] at hs ⊢
          by_cases k4:e.kind=4
          · rw[dx k4] at hs ⊢
            cases hl:jC L e.order with
            |none=>rw[hl] at hs;cases hs
            |some o=>rw[hl] at hs;simp only at hs;split at hs<;>simp_all
          · rw[dp k4] at hs ⊢
            by_cases k5:e.kind=5
            · rw[dx k5] at hs ⊢
              cases hl:jC L e.order with
              |none=>rw[hl] at hs;cases hs
              |some o=>rw[hl] at hs;simp only at hs;split at hs<;>simp_all
            · rw[dp k5]
    · rw[dx h0] at hs;cases hs
theorem VL.split {α:Type} {E:Rec α} {H:List Ck} {cs:List Value} {l:List α} (h:VL E H cs l):∀{i:Nat} (hi:i<l.length),∃A c B,cs=A++(c++B)∧A.length=i*E.s∧E.at_ H c l[i]∧∀tC gX,E.at_ H tC gX→VL E H (A++(tC++B)) (l.set i gX):=by
  induction h with
  |nil=>intro i hi;simp at hi
  | @cons c0 cs a0 l h1 h2 ih=>
    intro i hi
    cases i with
    |zero=>exact ⟨[],c0,cs,rfl,by simp,h1,fun tC gX hc=>show VL E H (tC++cs) (gX::l) from .cons hc h2⟩
    | succ i=>
      obtain ⟨A,c,B,rfl,hA,hc,hs⟩:=ih (i:=i) (by simpa using hi)
      refine ⟨c0++A,c,B,by simp,by rw[dr,E.len h1,hA,fZ];omega,by simpa using hc,fun tC gX lK=>?_⟩
      rw[ff,dD]
      exact .cons h1 (hs tC gX lK)
section
variable {A c B extra:List Value} {q s a:Nat}
theorem Ol (hA:A.length=q) (hc:c.length=s) {j:Nat} (hj:j<s):((A++(c++B))++extra)[q+j]?=c[j]?:=by
  rw[dD,fD gz,hA,Nat.add_sub_cancel_left,dD,eT gz]
theorem Vl (hA:A.length=q) {vs:List Value} {n:Nat} (hv:vs.length=n) (hn:a+n≤c.length):((A++(c++B))++extra).take (q+a)++(vs++((A++(c++B))++extra).drop (q+a+n))=(A++((c.take a++(vs++c.drop (a+n)))++B))++extra:=by
  subst hA
  rw[dD,List.take_length_add_append,Nat.add_assoc,fH,dD c,dQ gz,eN gz]
  simp only[dD]
theorem aeq (hA:A.length=q) {v:Value} (hn:a<c.length):((A++(c++B))++extra).set (q+a) v=(A++(c.set a v++B))++extra:=by
  subst hA
  rw[dD,List.set_append_right _ _ gz,Nat.add_sub_cancel_left,dD c,List.set_append_left _ _ hn]
  simp only[dD]
end
theorem OF {cells:List Value} {L:Ld} {H:List Ck} (h:VL Bo H cells (jK L.l)) {n:BitVec 32} {o:Lo} (ho:jC L n=some o):
    ∃A B wk wd,cells=A++(oc n.toNat o wk wd++B)∧A.length=(n.toNat-1)*11∧Bs wk o.key H∧Bs wd o.data H∧1≤n.toNat∧n.toNat≤L.l.length∧∀oe,oe.key=o.key→oe.data=o.data→VL Bo H (A++(oc n.toNat oe wk wd++B)) (jK (setAt L n oe))∧mJ (setAt L n oe)=mJ L.l:=by
  obtain ⟨h0,h1,h2⟩:=qN ho
  have hi:n.toNat-1<L.l.length:=(dV.1 h1).1
  have hx:L.l[n.toNat-1]=o:=(dV.1 h1).2
  have hn:n.toNat-1<(jK L.l).length:=by rw[r4];exact hi
  obtain ⟨A,c,B,rfl,hA,⟨wk,wd,rfl,hk,hd⟩,hs⟩:=h.split hn
  rw[yt hn hi,hx] at hk hd
  have e1:n.toNat-1+1=n.toNat:=by omega
  refine ⟨A,B,wk,wd,?_,hA,hk,hd,h0,by omega,fun oe pP ML=>⟨?_,?_⟩⟩
  · rw[yt hn hi,hx]
    show A++(oc (n.toNat-1+1) o wk wd++B)=_
    rw[e1]
  · have:=hs (oc n.toNat oe wk wd) (n.toNat,oe) ⟨wk,wd,rfl,by rw[pP];exact hk,by rw[ML];exact hd⟩
    unfold setAt
    rw[Vv,e1]
    exact this
  · unfold setAt
    exact adG hi (by rw[hx];exact pP)
end Go.SL
namespace Go.SL
section
variable {P:Program} {l:Sl} {H:List Ck} {d:Option Nat} {ty:TypeId} {pos:String} {gJ:Array Edge} {g:Option (Nat×Bool)} {K:Next→List Ck→Prop}
theorem afK {w:World} {k:IntKind} {ad:Addr} {v e:Int} (hc:w.cell? ad=some (.int k v)) (hz:w.frozen? ad=false):
    (Extern.Atomic.update (Op.intArith .add) k true #[.pointer (some ad),.int k e]).run P w=.ok (.int k (k.wrap (v+e))) (w.setCell ad (.int k (k.wrap (v+e)))):=by
  change Sem.run P (do
    let gX ←asAddr (.pointer (some ad))
    let gT ←Extern.Atomic.read (.int k) gX
    let new ←Op.intArith .add k (←asInt gT) (←asInt (.int k e))
    store gX new .atomic
    pure (if true then new else gT)) w=_
  simp[Extern.Atomic.read,asAddr,asInt,asIntOf,hc,hz,Op.intArith,run_store P w ad (.int k (k.wrap (v+e))) .atomic rfl,Result.andThen]
theorem Hd.YA {x y : Operand} {f : FuncId} {fn : Func} {qz : Array TypeId} {b o : Nat} {v e : Int} {cells : List Value} {T : TypeId} {D : List Ck} {kd : IntKind} (hf : P.funcs[f]? = some fn) (Nu : (fn.name == "runtime.NumGoroutine") = false)
    (hb:fn.body.isNone=true) (hn:Extern.findNext fn=none) (he:Extern.find fn=some (Extern.Atomic.update (Op.intArith .add) kd true))
    (hx:ev l x=some (.pointer (some ⟨b,o,none⟩))) (hy:ev l y=some (.int kd e)) (hA:Fr H (row b cells T) D) (hc:cells[o]?=some (.int kd v))
    (k:K (.value (.int kd (kd.wrap (v+e)))) (row b (cells.set o (.int kd (kd.wrap (v+e)))) T::D)):Hd P ⟨d,.call ⟨.value (.func f),#[x,y],qz⟩,ty,pos,gJ,g⟩ l H K:=fun a w R kn s=>by
  have jj:Sat w (row b cells T::(D++R)):=s.perm (hA.p.append_right R)
  have h:=jj.holds _ dy
  have j6:w.cell? ⟨b,o,none⟩=some (.int kd v):=by rw[tD h];simpa using hc
  have rR:w.frozen? ⟨b,o,none⟩=false:=by simp[World.frozen?,h]
  refine ⟨_,w.setRow b (cells.set o (.int kd (kd.wrap (v+e)))).toArray,row b (cells.set o (.int kd (kd.wrap (v+e)))) T::D,?_,Sat.setRow jj,EM _ _ _,k⟩
  have Um:=afK (P:=P) (e:=e) j6 rR
  rw[setCell_eq_setRow w b o cells.toArray T (0,0) _ h] at Um
  have GA:=run_callFunc_extern (P:=P) (f:=f) hf Nu hb hn he #[.pointer (some ⟨b,o,none⟩),.int kd e] w
  rw[Um] at GA
  have w6:a.eval (.func f)=Value.func (Fn.func f) #[] #[]:=rfl
  simp[execOp,resolve,Deferred.ofValue,w6,invoke,kn.ev hx,kn.ev hy,GA]
end
end Go.SL
namespace Go.SL
open Top
theorem VS.VJ {vo:Value} {L:Ld} {H:List Ck} (h:VS Bo vo (jK L.l) H) {i:Nat} (hi:i<L.l.length):
    ∃(b o0 cap:Nat) (cs:List Value) (T:TypeId) (fr:Nat×Nat) (ex:Bool) (wk wd:Value),vo=.slice (some ⟨b,o0,none⟩) L.l.length cap∧L.l.length≤cap∧(⟨b,.cells cs.toArray T fr,ex⟩:Ck)∈H∧Bs wk L.l[i].key H∧Bs wd L.l[i].data H∧(cs.drop (o0+i*11)).take 11=oc (i+1) L.l[i] wk wd:=by
  have hn:i<(jK L.l).length:=by rw[r4];exact hi
  obtain ⟨b,o0,cap,cs,T,fr,ex,h3,h4,h5,c,⟨wk,wd,rfl,hk,hd⟩,h6⟩:=h.rowAt hn gB
  rw[r4] at h3 h4
  rw[yt hn hi] at hk hd h6
  exact ⟨b,o0,cap,cs,T,fr,ex,wk,wd,h3,h4,h5,hk,hd,h6⟩
def pV (x:Nat×Lo):Option (Nat×Int×Bool×Int):=(pD x.2.sg).map fun d=>(x.1,d)
def pU (x:Nat×Lo):Option (Nat×Int×Bool×Int):=if x.2.sg.asked then some (x.1,x.2.sg.step,decide (x.2.sg.phase=2),x.2.sg.tr) else none
def ph (x:Nat×Int×Bool×Int):List Value:=[.int .u32 x.1,.int .i64 x.2.1,.bool x.2.2.1,.int .i64 x.2.2.2]
def AG (L:Ld):List (Nat×Int×Bool×Int):=(jK L.l).filterMap pV
def vG (L:Ld):List (Nat×Int×Bool×Int):=(jK L.l).filterMap pU
theorem Sn {β:Type} {f:Nat×Lo→Option β} {l:List Lo} {i:Nat} (hi:i<l.length):((jK l).take (i+1)).filterMap f=((jK l).take i).filterMap f++(f (i+1,l[i])).toList:=by
  have hn:i<(jK l).length:=by rw[r4];exact hi
  rw[dJ hn,List.filterMap_append,yt hn hi]
  cases h:f (i+1,l[i])<;>simp[List.filterMap_cons,h]
theorem Sm {β:Type} {f:Nat×Lo→Option β} {l:List Lo} (i:Nat):(((jK l).take i).filterMap f).length≤i:=by
  refine eJ (List.length_filterMap_le _ _) ?_
  rw[dE];omega
theorem Sk {β:Type} {f:Nat×Lo→Option β} {l:List Lo}:((jK l).take l.length).filterMap f=(jK l).filterMap f:=by
  rw[dL (by rw[r4];exact dA _)]
def E5:Rec (List ia) where
  s:=1
  at_ H c p:=∃u,c=[u]∧PV u p H
  len:=by rintro H c a ⟨u,rfl,_⟩;rfl
  mono:=by rintro A B c a ⟨u,h,hp⟩ s;exact ⟨u,h,VS.mono hp s⟩
def yL (v:Value) (ps:List (List ia)) (H:List Ck):Prop:=VS E5 v ps H
section
variable {P:Program} {l:Sl} {H:List Ck} {d:Option Nat} {ty:TypeId} {pos:String} {gJ:Array Edge} {g:Option (Nat×Bool)}
theorem cX {f:FuncId} {x:Operand} {v:Value} (hx:ev l x=some v):Yd P ⟨d,.makeFunc (.func f) #[] #[x],ty,pos,gJ,g⟩ l (.func (.func f) #[] #[v]):=fun a kn w=>by
  simp[execOp,Instr.makeFunc,kn.ev hx]
theorem iE.Ro {f:FuncId} {x:Operand} {xs:List Operand} {qz:Array TypeId} {vs:List Value} {c:Value}
    (hc:∀(args:Array Value) (w:World),(callFunc f args).run P w=.ok (.enter f args) w) (hx:ev l x=some (.func (.func f) #[] #[c])) (hv:rN l xs=some vs):
    iE P ⟨d,.call ⟨.value x,xs.toArray,qz⟩,ty,pos,gJ,g⟩ l f (vs++[c]):=by
  intro a k w
  have:=k.rN hv
  simp[execOp,resolve,k.ev hx,Deferred.ofValue,invoke,this,hc]
end
theorem bP {P:Program} {l:Sl} {H:List Ck} {n:Nat} {w0:World} {R:List Ck} {fn:Func} {jE:Value→List Ck→Prop} {t u q q2 T s b:Nat} {cs:List Value} {gV:TypeId} {fr:Nat×Nat} {ex:Bool} {v z z2:Value} (gr:List Ck) (hr:fn.results=#[.tmp q,.tmp q2,.cell t T,.tmp u]) (hT:tm P T s=true) (hz:iF l q=some z) (Dd:iF l q2=some z2) (hv:iF l t=some (.pointer (some ⟨b,0,none⟩))) (hu:iF l u=some v)
    (hm:(⟨b,.cells cs.toArray gV fr,ex⟩:Ck)∈H) (hs:cs.length=s) {D:List Ck} (hH:Sp H gr D) (hp:jE (.tuple #[z,z2,.agg cs.toArray,v]) gr):DN P n w0 R (bodyPost P fn (wE P w0 R jE)) .ret l H:=fun a w i=>by
  have h:=i.sat.holds _ (dw R hm)
  have hl:=gm (P:=P) w ⟨b,0,none⟩ cs (fun j v hv=>by rw[add_plain,tD h];simpa using hv)
  rw[hs] at hl
  have Hi:=i.kn q _ hz
  have UA:=i.kn q2 _ Dd
  have tV:=i.kn t _ hv
  have p6:=i.kn u _ hu
  simp only[fj] at Hi UA tV p6
  have j:=i.perm hH.p
  refine bodyPost_ret (v:=.tuple #[z,z2,.agg cs.toArray,v]) ?_ i.defers ⟨_,gr,rfl,hp,(j.sublist (gg _ _)).sat,i.kept⟩
  simp[results,hr,Hi,UA,tV,p6,asAddr,loadVar,(ub hT w).1,(ub hT w).2,hl]
def jF:Nt:=⟨0,0#32,0#32,0#64,0#64,0#32,0,false,0,[],[]⟩
def j4 (gE gT:BitVec 32) (gF:BitVec 64) (e:En):Nt:={jF with kind:=1,gE:=gE,gT:=gT,gF:=gF,data:=iB e}
def mq (gE:BitVec 32) (gF:BitVec 64):Nt:={jF with kind:=2,gE:=gE,gF:=gF}
def uz (gE:BitVec 32) (gF:BitVec 64):Nt:={jF with kind:=3,gE:=gE,gF:=gF}
def yx (gE:BitVec 32):Nt:={jF with kind:=6,gE:=gE,code:=3}
theorem Pg {gE gT:BitVec 32} {gF:BitVec 64} {e:En} (he:iZ e):mS (j4 gE gT gF e)=false:=by
  have h:=(BU he).2
  have h2:¬((255:Int)<((iB e).length:Int)):=by omega
  simp[mS,j4,jF,nm,rest,oG,wo,qx,qE,h2]
def vJ (l:List En) (gT:BitVec 32) (k:Nat):Nat:=((l.take k).findIdx? fun e=>decide (gT.toNat<e.ep.toNat)).getD k
def xx (l:List En) (k:Nat) (e:En):List En:=if k<l.length∧(l[k]?.map iB)=some (iB e) then l else l.take k++[e]
def mf (l:List En) (seen gE gT:BitVec 32) (k:Nat) (e:En):List En×BitVec 32×Nt:=
  if gE.toNat<seen.toNat then (l,seen,yx seen)
  else if l.length<k then (l,gE,uz gE (js l))
  else if k≠0∧ke l k≠gT then (l,gE,uz gE (BitVec.ofNat 64 (vJ l gT (k-1))))
  else (xx l k e,gE,mq gE e.gF)
theorem IL {l:List En} (r:mn l):vO l=1#64:=by
  cases l with
  |nil=>rfl
  |cons a l=>exact dB (r.one (Nat.succ_pos _))
theorem JR {l:List En} (r:mn l) (hl:l.length≤1000):zM l=js l:=by
  cases h:l.getLast? with
  | none=>
    unfold zM;rw[h]
    rw[List.getLast?_eq_none_iff] at h
    rw[h];rfl
  | some x=>
    unfold zM;rw[h]
    rw[fE] at h
    obtain ⟨hi,hx⟩:=dV.1 h
    have:=r.gF _ hi
    rw[hx] at this
    apply dB
    rw[nO hl,this]
    omega
theorem VS.upto {α:Type} {E:Rec α} {ao:Option Addr} {n c:Nat} {l:List α} {H:List Ck} (h:VS E (.slice ao n c) l H) {k:Nat} (hk:k≤l.length):VS E (.slice ao k c) (l.take k) H:=by
  obtain ⟨cs,h1,h2⟩:=h
  refine ⟨cs.take (k*E.s),?_,h2.take k⟩
  have hl:=h2.len
  have hle:k*E.s≤cs.length:=by rw[hl];exact fM _ hk
  rw[dE,eE hk]
  rcases h1 with ⟨K4,cap,he,h0,rfl⟩|⟨b,o,cap,iT,T,fr,ex,he,I6,hm,hc⟩
  · simp only[dI] at he
    have:k=0:=by omega
    subst this
    exact .inl ⟨_,_,rfl,rfl,by simp⟩
  · simp only[dI] at he
    obtain ⟨rfl,hn,rfl⟩:=he
    refine .inr ⟨b,o,c,iT,T,fr,ex,rfl,by omega,hm,?_⟩
    have e:(iT.drop o).take (k*E.s)=((iT.drop o).take cs.length).take (k*E.s):=by rw[gd,eE hle]
    rw[dE,eE hle,e,hc]
theorem kQ.upto {ao:Option Addr} {c n:Nat} {xs:List Value} {T:TypeId} {sz:Nat} {C:List Ck} (h:kQ (.slice ao n c) n xs T sz C) {m:Nat} (hm:m≤n):kQ (.slice ao m c) m (xs.take (m*sz)) T sz C:=by
  rcases h with ⟨h0,rfl,rfl,rfl⟩|⟨b,cap,extra,h0,h1,h2,h3,h4,rfl⟩
  · obtain rfl:m=0:=by omega
    cases h0
    exact .inl ⟨rfl,rfl,by simp,rfl⟩
  · cases h0
    have hle:m*sz≤xs.length:=by rw[h3];exact fM _ hm
    refine .inr ⟨b,c,xs.drop (m*sz)++extra,rfl,by omega,h2,by rw[dE];omega,?_,?_⟩
    · rw[dr,eg,h3,←Nat.sub_mul]
      have:(c-m)*sz=(n-m)*sz+(c-n)*sz:=by rw[←fZ];congr 1;omega
      omega
    · rw[←dD,fz]
theorem RU {e:En} (h:iZ e):e.key.length≤1000∧e.data.length≤1000:=by
  have hs:=SL.iZ.qP h
  by_cases k2:e.kind=2
  · have:=hs.k2 k2;omega
  · rw[(hs.s5 k2).1,(hs.s5 k2).2];decide
theorem Lh (l:List En) (gT:BitVec 32) (k:Nat):vJ l gT k≤k:=by
  unfold vJ
  cases h:(l.take k).findIdx? (fun e=>decide (gT.toNat<e.ep.toNat)) with
  |none=>exact dA _
  | some i=>
    obtain ⟨h1,_⟩:=List.findIdx?_eq_some_iff_getElem.1 h
    rw[dE] at h1
    show i≤k
    omega
end Go.SL
namespace Go.SL
structure uv where
  size:Nat
  n:BitVec 64
  text:List (BitVec 8)
def wO (f:uv) (vt:Value):List Value:=[.int .i64 f.size,.int .u64 f.n.toNat,vt]
def JX (k:Nat):Nat:=(1#64<<<(BitVec.ofInt 64 (8*(k:Int))).toNat).toNat
def wh (f:uv):List (BitVec 8)×Int:=
  if f.size=0 then (if f.n≠0#64 then ([],2) else if 255<f.text.length then ([],3) else (tb f.text,0))
  else if f.size=1∨f.size=2∨f.size=4 then (if f.text.length≠0∨JX f.size≤f.n.toNat then ([],2) else (iu f.n f.size,0))
  else if f.size=8 then (if f.text.length≠0 then ([],2) else (iu f.n 8,0))
  else ([],2)
section
variable {f:uv}
theorem aeT (h:f.size=0) (h2:¬f.n≠0#64) (h3:¬255<f.text.length):wh f=(tb f.text,0):=by unfold wh;rw[dx h,dp h2,dp h3]
theorem VH (h:¬f.size=0) (h2:f.size=1∨f.size=2∨f.size=4) (h3:¬(f.text.length≠0∨JX f.size≤f.n.toNat)):wh f=(iu f.n f.size,0):=by unfold wh;rw[dp h,dx h2,dp h3]
end
def E6:List uv→List (BitVec 8)→List (BitVec 8)×Int
  |[],out=>(out,0)
  |f::l,out=>if (wh f).2≠0 then ([],(wh f).2) else E6 l (out++(wh f).1)
theorem E7 {f:uv} {l:List uv} {out:List (BitVec 8)} (h:¬(wh f).2≠0):E6 (f::l) out=E6 l (out++(wh f).1):=dp h
section
variable {P:Program} {l:Sl} {H:List Ck} {d:Option Nat} {ty:TypeId} {pos:String} {gJ:Array Edge} {g:Option (Nat×Bool)} {K:Next→List Ck→Prop}
theorem cR {x y:Operand} {T e sz bytes:Nat} {zs:List Value} {v:Value} {n m rb:Nat} {xs news:List Value} {C D:List Ck} (hT:lk P T=some e) (hE:rM P e=some (sz,zs,bytes)) (hz:zs.length=sz) (mR:0<sz)
    (hx:ev l x=some v) (hy:ev l y=some (.slice (some ⟨rb,0,none⟩) m m)) (own:il v n xs e sz C) (hH:Sp H C D) (hm:row rb news e∈D) (hl:news.length=m*sz) (h1:∀u∈news,u.oneCell'=true) (pZ:n+m≤maxLen) (hb:(n+m)*bytes≤140737488355328)
    (k:∀iJ gP,il iJ (n+m) (xs++news) e sz gP→K (.value iJ) (gP++D)):Hd P ⟨d,.call ⟨.builtin .append,#[x,y],#[T,T]⟩,ty,pos,gJ,g⟩ l H K:=
  Hd.append hT hE hz mR hx hy own (m:=m) (news:=news) (.inr ⟨rb,0,m,news,e,(0,0),true,rfl,dA _,dq _ hm,by simp⟩) hl h1 pZ hb hH.p fun iJ gP h _=>k iJ gP h
end
structure Wk where
  iA:Int
  n:Int
  name:List (BitVec 8)
deriving DecidableEq
def Wk.z:Wk:=⟨0,0,[]⟩
def Ac (w:Wk) (v:Value):List Value:=[.int .i64 w.iA,.int .i64 w.n,v]
def pb (w:Wk):Prop:=1≤w.iA∧w.iA≤6∧0≤w.n∧w.n≤1000000000∧w.name.length≤32
instance (w:Wk):Decidable (pb w):=by unfold pb;infer_instance
def r6 (w:Wk):List (BitVec 8):=[BitVec.ofInt 8 w.iA]++(iu ((BitVec.ofInt 32 w.n).setWidth 64) 4++tb w.name)
def LC (w:Wk):List (BitVec 8):=if pb w then r6 w else []
def IE (w:Wk):Int:=if pb w then 0 else 120
theorem HS {w:Wk} {z:Bool} (h:z=true↔¬pb w):z=!decide (pb w):=by
  rw[dM,h];simp
theorem LA {w:Wk} (h:pb w):LC w=r6 w∧IE w=0:=⟨dx h,dx h⟩
theorem Lz {w:Wk} (h:¬pb w):LC w=[]∧IE w=120:=⟨dp h,dp h⟩
theorem ahR (w:Wk):(r6 w).length=6+w.name.length:=by
  unfold r6 tb
  simp only[dr,dF,dR,ju]
  omega
def rW (b:List (BitVec 8)):jQ:=jQ.mk b false
def vv (b:List (BitVec 8)):Wk:=⟨((rW b).u8.toNat:Int),(((rW b).on 1).u32.toNat:Int),(((rW b).on 1).on 4).text⟩
def sl (b:List (BitVec 8)):jQ:=(((rW b).on 1).on 4).Hw
def wN (b:List (BitVec 8)):Prop:=(sl b).sh=true∨0<(sl b).bs.length∨¬pb (vv b)
instance (b:List (BitVec 8)):Decidable (wN b):=by unfold wN;infer_instance
def jH (b:List (BitVec 8)):Wk:=if wN b then Wk.z else vv b
def AF (b:List (BitVec 8)):Int:=if wN b then 120 else 0
theorem ahT {b:List (BitVec 8)} (h:¬wN b):r6 (vv b)=b∧pb (vv b):=by
  have h1:(sl b).sh=false:=by cases e:(sl b).sh with|false=>rfl|true=>exact absurd (.inl e) h
  have h2:(sl b).bs=[]:=by
    refine dU ?_
    have:¬0<(sl b).bs.length:=fun e=>h (.inr (.inl e))
    omega
  have h3:pb (vv b):=dW fun e=>h (.inr (.inr e))
  refine ⟨?_,h3⟩
  obtain ⟨s3,e3,_⟩:=di (r:=((rW b).on 1).on 4) h1
  obtain ⟨s2,e2⟩:=jQ.ahx s3
  obtain ⟨s1,e1⟩:=jQ.ahA s2
  have e0:b=(rW b).u8::((rW b).on 1).bs:=e1
  rw[show (((rW b).on 1).on 4).Hw.bs=[] from h2,eF] at e3
  have o8:BitVec.ofInt 8 ((rW b).u8.toNat:Int)=(rW b).u8:=by
    apply dB
    rw[dX]
    have:=((rW b).u8).isLt
    omega
  have o32:BitVec.ofInt 32 ((((rW b).on 1).u32).toNat:Int)=((rW b).on 1).u32:=by
    apply dB
    rw[dX]
    have:=(((rW b).on 1).u32).isLt
    omega
  unfold r6 vv
  simp only
  rw[o8,o32,←e3,←e2,List.singleton_append]
  exact e0.symm
def AM (w:Wk):List uv:=[⟨1,BitVec.ofInt 64 w.iA,[]⟩,⟨4,BitVec.ofInt 64 w.n,[]⟩,⟨0,0#64,w.name⟩]
theorem ahV:JX 1=256:=by decide
theorem ahW:JX 4=4294967296:=by decide
theorem Pz {x:BitVec 64} (h:x.toNat<256):wh ⟨1,x,[]⟩=([x.setWidth 8],0):=by
  have e:iu x 1=[x.setWidth 8]:=by simp[iu]
  rw[←e]
  refine VH (by simp) (by simp) ?_
  simp only[ahV,dR]
  omega
theorem PA {x:BitVec 64} (h:x.toNat<4294967296):wh ⟨4,x,[]⟩=(iu x 4,0):=by
  refine VH (by simp) (by simp) ?_
  simp only[ahW,dR]
  omega
theorem PB {s:List (BitVec 8)} (h:s.length≤255):wh ⟨0,0#64,s⟩=(tb s,0):=aeT rfl (by simp) (by show ¬255<s.length;omega)
theorem afg {w:Wk} (h:pb w):E6 (AM w) []=(r6 w,0):=by
  obtain ⟨h1,h2,h3,h4,h5⟩:=h
  have e1:(BitVec.ofInt 64 w.iA).toNat<256:=by rw[dX];omega
  have e4:(BitVec.ofInt 64 w.n).toNat<4294967296:=by rw[dX];omega
  have w1:(BitVec.ofInt 64 w.iA).setWidth 8=BitVec.ofInt 8 w.iA:=by
    apply dB
    rw[ey,dX,dX]
    omega
  have w4:BitVec.ofInt 64 w.n=(BitVec.ofInt 32 w.n).setWidth 64:=by
    apply dB
    rw[ey,dX,dX]
    omega
  unfold AM
  rw[E7 (fun h9=>h9 (by rw[Pz e1])),E7 (fun h9=>h9 (by rw[PA e4])),E7 (fun h9=>h9 (by rw[PB gz])),Pz e1,PA e4,PB gz,w1,w4]
  unfold E6 r6
  simp only[eC,dD]
section
variable {b:List (BitVec 8)}
theorem ahN (h:(if (sl b).sh then (10:Int) else if 0<(sl b).bs.length then 11 else 0)≠0):true=decide (wN b):=by
  refine (fo ?_).symm
  by_cases h1:(sl b).sh=true
  · exact .inl h1
  · by_cases h2:0<(sl b).bs.length
    · exact .inr (.inl h2)
    · rw[dp h1,dp h2] at h
      exact absurd rfl h
theorem ahO (h2:¬(if (sl b).sh then (10:Int) else if 0<(sl b).bs.length then 11 else 0)≠0):decide (IE (vv b)≠0)=decide (wN b):=by
  have h3:¬(sl b).sh=true:=fun e=>h2 (by rw[dx e];decide)
  have h4:¬0<(sl b).bs.length:=fun e=>h2 (by rw[dp h3,dx e];decide)
  rw[dM,dz,dz]
  unfold wN
  by_cases hc:pb (vv b)
  · rw[(LA hc).2]
    exact ⟨fun e=>absurd rfl e,fun e=>by rcases e with e|e|e;exact absurd e h3;exact absurd e h4;exact absurd hc e⟩
  · rw[(Lz hc).2]
    exact ⟨fun _=>.inr (.inr hc),fun _=>by decide⟩
end
theorem Lt (b:List (BitVec 8)):(jH b).name.length≤32:=by
  unfold jH
  split
  · exact dN _
  · rename_i h
    exact (ahT h).2.2.2.2.2
end Go.SL
namespace Go.SL
open Top
def fdR:Rec uv where
  s:=3
  at_ H c f:=∃v,c=wO f v∧Bs v f.text H
  len:=by rintro H c a ⟨v,rfl,_⟩;rfl
  mono:=by rintro A B c a ⟨v,h,hb⟩ s;exact ⟨v,h,hb.mono s⟩
structure okF (f:uv):Prop where
  sz:f.size=0∨f.size=1∨f.size=4
  t:f.size=0→f.n.toNat=0∧f.text.length≤255
  n:f.size≠0→f.text.length=0∧(f.n>>>(8*f.size)).toNat=0
def bF (f:uv):List (BitVec 8):=if f.size=0 then tb f.text else iu f.n f.size
theorem YG {f:uv} (h:okF f):(bF f).length≤256:=by
  unfold bF
  split
  · rename_i h0
    have:=(h.t h0).2
    simp only[tb,dF];omega
  · have:=h.sz
    rw[ju];omega
theorem QW {fs:List uv} (h:∀f∈fs,okF f):(fs.flatMap bF).length≤fs.length*256:=by
  induction fs with
  |nil=>simp
  | cons f fs ih=>
    rw[List.flatMap_cons,dr,dF,fZ]
    have:=YG (h f dy)
    have:=ih fun x hx=>h x (dt _ hx)
    omega
theorem WJ {n:BitVec 64} {k m:Nat} (h:n.toNat<m) (hm:m≤2 ^ k):(n>>>k).toNat=0:=by
  rw[fe,eZ]
  exact Nat.div_eq_of_lt (Nat.lt_of_lt_of_le h hm)
theorem aay {w:Wk} (h:pb w):(∀f∈AM w,okF f)∧(AM w).flatMap bF=r6 w:=by
  have h9:=afg h
  obtain ⟨h1,h2,h3,h4,h5⟩:=h
  have e1:(BitVec.ofInt 64 w.iA).toNat<256:=by rw[dX];omega
  have e4:(BitVec.ofInt 64 w.n).toNat<4294967296:=by rw[dX];omega
  constructor
  · intro f hf
    unfold AM at hf
    simp only[eS,ej,or_false] at hf
    rcases hf with rfl|rfl|rfl
    · exact ⟨.inr (.inl rfl),fun q=>absurd q (show ¬(1:Nat)=0 by decide),fun _=>⟨rfl,WJ (k:=8*1) e1 gB⟩⟩
    · exact ⟨.inr (.inr rfl),fun q=>absurd q (show ¬(4:Nat)=0 by decide),fun _=>⟨rfl,WJ (k:=8*4) e4 gB⟩⟩
    · exact ⟨.inl rfl,fun _=>⟨rfl,by show w.name.length≤255;omega⟩,fun q=>absurd rfl q⟩
  · have w1:=Pz e1
    have w4:=PA e4
    have wt:=PB (s:=w.name) gz
    unfold AM at h9
    rw[E7 (fun h9=>h9 (by rw[w1])),E7 (fun h9=>h9 (by rw[w4])),E7 (fun h9=>h9 (by rw[wt])),w1,w4,wt] at h9
    have h8:=congrArg Prod.fst h9
    simp only[E6] at h8
    rw[←h8]
    unfold AM
    have b1:iu (BitVec.ofInt 64 w.iA) 1=[(BitVec.ofInt 64 w.iA).setWidth 8]:=by
      have h0:(BitVec.ofInt 64 w.iA)=((BitVec.ofInt 64 w.iA).setWidth 8).setWidth 64:=by
        apply dB
        rw[ey,ey]
        omega
      rw[h0,Q6,←h0]
    simp[bF,b1]
end Go.SL
