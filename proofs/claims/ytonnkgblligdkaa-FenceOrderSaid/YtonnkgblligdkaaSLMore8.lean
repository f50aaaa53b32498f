/-
  Rules: cap, copy into a row of our own, append of noughts, slices.overlaps.
-/
import Derived.Test.YtonnkgblligdkaaSLMore7
import Derived.Lib.AppendZerosOnto
import Derived.Laws.CopyRow
import Derived.Lib.Overlaps
import Derived.Laws.IdiomStrings
set_option linter.unusedVariables false
set_option linter.unusedSimpArgs false
namespace Go.SL
variable {P : Program} {l : Sl} {H : List Ck} {K : Next → List Ck → Prop} {d : Option Nat} {ty : TypeId} {pos : String} {aft : Array Edge} {g : Option (Nat × Bool)}

theorem Yd.capS {x : Operand} {T : TypeId} {e : TypeId} {ao : Option Addr} {n c : Nat} (hT : sliceOf P T = some e) (hx : ev l x = some (.slice ao n c)) : Yd P ⟨d, .call ⟨.builtin .cap, #[x], #[T]⟩, ty, pos, aft, g⟩ l (.int .i64 c) := fun a k w => by
  simp [execOp, resolve, invoke, builtin, k.ev hx, Builtin.cap_, run_underlying (underlying_slice hT), goInt]

theorem Yd.slFrom {x y : Operand} {T e s : Nat} {b n c i : Nat} {k : IntKind} {m : Int} (hT : sliceOf P T = some e) (hs : szOf P e = some s) (hx : ev l x = some (.slice (some ⟨b, 0, none⟩) n c)) (hy : ev l y = some (.int k m)) (hm : m = (i : Int)) (h1 : i ≤ n) (h2 : n ≤ c) (h3 : i < c) :
    Yd P ⟨d, .slice T x (some y) none none, ty, pos, aft, g⟩ l (.slice (some ⟨b, i * s, none⟩) (n - i) (c - i)) := by
  have h := Yd.slice (P := P) (l := l) (d := d) (ty := ty) (pos := pos) (aft := aft) (g := g) (lo := some y) (hi := none) (i := i) (j := n) hT hs hx ⟨k, m, hy, hm⟩ rfl h1 h2
  rw [if_neg (by omega)] at h
  have e : (some (⟨b, 0, none⟩ : Addr)).map (·.add (i * s)) = some ⟨b, i * s, none⟩ := by
    show some ((⟨b, 0, none⟩ : Addr).add (i * s)) = _
    rw [add_plain]; simp
  rw [e] at h
  exact h
theorem ins_a (A x E : List Value) (o : Nat) (hA : A.length = o) : (A ++ E).take o ++ (x ++ (A ++ E).drop (o + x.length)) = A ++ (x ++ E.drop x.length) := by
  subst hA
  simp
theorem ins_b (A x E Y : List Value) (o : Nat) (hA : A.length + x.length = o) : (A ++ (x ++ E)).take o ++ (Y ++ (A ++ (x ++ E)).drop (o + Y.length)) = A ++ (x ++ (Y ++ E.drop Y.length)) := by
  subst hA
  rw [← List.append_assoc A x E, ← List.length_append, List.take_left, List.drop_length_add_append, List.append_assoc]
theorem ins_c (A x E Y : List Value) (o o' : Nat) (hA : A.length = o) (ho : o + x.length = o') (hE : o' + Y.length ≤ A.length + (Y.length + E.length)) :
    ((A ++ (Y ++ E)).take o' ++ (Y ++ (A ++ (Y ++ E)).drop (o' + Y.length))).take o ++ (x ++ ((A ++ (Y ++ E)).take o' ++ (Y ++ (A ++ (Y ++ E)).drop (o' + Y.length))).drop (o + x.length)) = A ++ (x ++ (Y ++ E.drop x.length)) := by
  subst hA ho
  have e1 : ((A ++ (Y ++ E)).take (A.length + x.length)).length = A.length + x.length := by
    rw [List.length_take, List.length_append, List.length_append]; omega
  have e2 : ((A ++ (Y ++ E)).take (A.length + x.length) ++ (Y ++ (A ++ (Y ++ E)).drop (A.length + x.length + Y.length))).take A.length = A := by
    rw [List.take_append_of_le_length (by omega), List.take_take, Nat.min_eq_left (by omega), List.take_left]
  have e3 : ((A ++ (Y ++ E)).take (A.length + x.length) ++ (Y ++ (A ++ (Y ++ E)).drop (A.length + x.length + Y.length))).drop (A.length + x.length) = Y ++ E.drop x.length := by
    rw [List.drop_append_of_le_length (by omega), List.drop_of_length_le (by omega), List.nil_append]
    congr 1
    rw [← List.append_assoc, show A.length + x.length + Y.length = (A ++ Y).length + x.length by rw [List.length_append]; omega, List.drop_length_add_append]
  rw [e2, e3]
theorem run_first {w : World} {sz q : Nat} {u : Value} {m : Nat} {xs : List Value} {A R : List Ck} (src : Rs u m xs A) (s : Sat w (A ++ R)) (hl : xs.length = q * sz) :
    (Builtin.firstCells sz q u).run P w = .ok xs.toArray w := by
  rcases Rs.cells src s with ⟨ao, cap, rfl, rfl, rfl⟩ | ⟨a, c, rfl, hcells⟩
  · have h0 : q * sz = 0 := by simpa using hl.symm
    cases ao <;> simp [Builtin.firstCells, loadCells, h0, loadCellsFrom]
  · have := run_loadCells_list (P := P) w a xs hcells
    simp only [Builtin.firstCells, ← hl, this]

/-- 'copy(x, y)', x of a row of our own -/
theorem Hd.copyR {x y : Operand} {T e sz bytes : Nat} {zs : List Value} {u : Value} {b o dl dc m q : Nat} {cells cells' news : List Value} {T' : TypeId} {D : List Ck} (hT : sliceOf P T = some e) (hE : elemInfo P e = some (sz, zs, bytes))
    (hx : ev l x = some (.slice (some ⟨b, o, none⟩) dl dc)) (hy : ev l y = some u) (hm : Fr H (row b cells T') D) (src : Rs u m news H) (hq : Nat.min m dl = q) (hl : news.length = q * sz) (h1 : ∀ u ∈ news, u.oneCell' = true) (hfit : o + news.length ≤ cells.length)
    (he : cells.take o ++ (news ++ cells.drop (o + news.length)) = cells') (k : K (.value (.int .i64 q)) (row b cells' T' :: D)) : Hd P ⟨d, .call ⟨.builtin .copy, #[x, y], #[T, T]⟩, ty, pos, aft, g⟩ l H K := fun a w R kn s => by
  subst he
  obtain ⟨i, z, hi, hzr, rfl, rfl, rfl⟩ := elemInfo_spec hE
  have hu := underlying_slice hT
  have s' : Sat w (row b cells T' :: (D ++ R)) := s.perm (hm.p.append_right R)
  have hg := s'.holds _ List.mem_cons_self
  have hf := run_first (P := P) src s hl
  have hlen : (Builtin.lenOf u).run P w = .ok m w := by
    obtain ⟨ao, cap, rfl, _⟩ := src.form
    rfl
  have hst := run_storeCells_at P b o T' news 0 cells.toArray w hg (by simpa using hfit) h1
  simp only [Nat.add_zero] at hst
  refine ⟨_, _, row b (cells.take o ++ (news ++ cells.drop (o + news.length))) T' :: D, ?_, Sat.setRow s', kept_setRow _ _ _, k⟩
  have hst' : (storeCells ⟨b, o, none⟩ news).run P w = .ok () (w.setRow b (cells.take o ++ (news ++ cells.drop (o + news.length))).toArray) := by
    rw [hst]
    simp
  simp [execOp, resolve, invoke, builtin, kn.ev hx, kn.ev hy, Builtin.copy_, run_underlying hu, sizeOf, typeInfo, hi, hlen, hq, hf, hst', goInt]

/-- 'append(x, make([]T, k)...)' where there is no room -/
theorem Hd.appendZ {x y : Operand} {T TN e sz bytes : Nat} {zs : List Value} {ao : Option Addr} {i cap k : Nat} {kq kn' : IntKind} {olds : List Value} (hT : sliceOf P T = some e) (hTN : P.underlying TN = some (.int kn')) (hE : elemInfo P e = some (sz, zs, bytes)) (hz : zs.length = sz) (hsz : 0 < sz)
    (hx : ev l x = some (.slice ao i cap)) (hy : ev l y = some (.int kq k)) (src : Rs (.slice ao i cap) i olds H) (hl : olds.length = i * sz) (h0 : 0 < k) (hc : cap < i + k) (hmax : i + k ≤ maxLen) (hb : (i + k) * bytes ≤ 140737488355328)
    (kk : ∀ (b c : Nat) (extra : List Value), i + k ≤ c → c ≤ maxLen → extra.length = (c - i) * sz → K (.value (.slice (some ⟨b, 0, none⟩) (i + k) c)) (row b (olds ++ extra) e :: H)) : Hd P ⟨d, .call ⟨.builtin .append, #[x, y], #[T, TN]⟩, ty, pos, aft, g⟩ l H K := fun a w R kn s => by
  obtain ⟨inf, z, hi, hzr, rfl, rfl, rfl⟩ := elemInfo_spec hE
  have hu := underlying_slice hT
  have sd : Sat w.drew (H ++ R) := s.heap rfl
  have hf := run_first (P := P) src sd hl
  have hr := Go.Lib.run_append_grow_zeros (P := P) w T TN ty e inf z kq kn' hu hTN hi hzr ao i cap olds hf k h0 hsz hc (by simp only [maxLen] at hmax; omega)
    (by have := Nat.mul_le_mul_right inf.bytes (show k ≤ i + k by omega); omega) (growslice_fits hc hb)
  have e1 : (olds.toArray ++ Builtin.zeroCells z.cells k ++ Builtin.zeroCells z.cells (grownCap w (i + k) cap e - (i + k))) = (olds ++ ((Builtin.zeroCells z.cells k).toList ++ (Builtin.zeroCells z.cells (grownCap w (i + k) cap e - (i + k))).toList)).toArray := by
    apply Array.ext'
    simp
  rw [e1] at hr
  have hge := grownCap_ge w (i + k) cap e
  have hcm : grownCap w (i + k) cap e ≤ maxLen := grownCap_le_maxLen w (i + k) cap e hmax
  refine ⟨_, _, row w.heap.size (olds ++ ((Builtin.zeroCells z.cells k).toList ++ (Builtin.zeroCells z.cells (grownCap w (i + k) cap e - (i + k))).toList)) e :: H, (by simp [execOp, resolve, invoke, builtin, kn.ev hx, kn.ev hy, hr]; rfl), sd.push _ true, ⟨rfl, rfl, rfl, by simp, by first | exact Nat.le_refl _ | exact Nat.le_succ _⟩, kk _ _ _ hge hcm ?_⟩
  · rw [List.length_append, size_zeroCells', size_zeroCells', ← Nat.add_mul]
    simp only [Array.length_toList] at *
    congr 1
    omega

/-- '[]byte(s)' -/
theorem Hd.ofStr {x : Operand} {S T e : TypeId} {bs : List (BitVec 8)} (hS : P.underlying S = some .string) (hT : sliceOf P T = some e) (he : intOfTy P e = some .u8) (hx : ev l x = some (.string (str bs)))
    (k : ∀ (b c : Nat) (blk : Ck), Bs (.slice (some ⟨b, 0, none⟩) bs.length c) bs [blk] → K (.value (.slice (some ⟨b, 0, none⟩) bs.length c)) (blk :: H)) : Hd P ⟨d, .convert S T x, ty, pos, aft, g⟩ l H K := fun a w R kn s => by
  have hr := run_bytes_of_string (P := P) w S T e (str bs) hS (underlying_slice hT) (underlying_int he)
  have sd : Sat w.drew (H ++ R) := s.heap rfl
  rw [show (str bs).size = bs.length by simp [str, ByteArray.size]] at hr
  have hge := grownCap_ge w bs.length 0 e
  have e1 : bytesRow (str bs) (grownCap w bs.length 0 e) = (bc bs ++ List.replicate (grownCap w bs.length 0 e - bs.length) (Value.int .u8 0)).toArray := by
    apply Array.ext'
    have : ∀ x : BitVec 8, (UInt8.ofNat x.toNat).toNat = x.toNat := fun x => by
      have := x.isLt
      simp [UInt8.toNat_ofNat]
    simp [bytesRow, str, bc, ByteArray.size, this, Function.comp_def]
  rw [e1] at hr
  have kg : ∀ o, Kept w (w.drew.alloc o) := fun o => ⟨rfl, rfl, rfl, by simp, by first | exact Nat.le_refl _ | exact Nat.le_succ _⟩
  refine ⟨_, _, _, (by simp only [execOp, kn.ev hx, Sem.run_bind, hr, Result.andThen_ok]; rfl), sd.push _ true, kg _, k _ _ _ (.inr ⟨_, 0, _, bc bs ++ List.replicate (grownCap w bs.length 0 e - bs.length) (Value.int .u8 0), e, _, true, rfl, hge, List.mem_cons_self, by simp⟩)⟩

/-- slices.overlaps at two rows of our own -/
theorem Hd.overF {x y : Operand} {tS tR e sz : TypeId} {f : FuncId} {fn : Func} {ats : Array TypeId} {rb b o la ca lb cb : Nat} {xs cells : List Value} {TA TB : TypeId} {D E : List Ck} (hf : P.funcs[f]? = some fn) (hname : (fn.name == "runtime.NumGoroutine") = false)
    (hb : fn.body.isNone = true) (hn : Extern.findNext fn = none) (he : Extern.find fn = some (Extern.SlicesOverlaps.overlaps #[tS, tS] #[tR])) (hT : sliceOf P tS = some e) (hs : szOf P e = some sz)
    (hx : ev l x = some (.slice (some ⟨rb, 0, none⟩) la ca)) (hy : ev l y = some (.slice (some ⟨b, o, none⟩) lb cb)) (hA : Fr H (row rb xs TA) D) (hB : Fr D (row b cells TB) E) (hc : cells ≠ [])
    (k : K (.value (.bool false)) H) : Hd P ⟨d, .call ⟨.value (.func f), #[x, y], ats⟩, ty, pos, aft, g⟩ l H K := fun a w R kn s => by
  refine ⟨_, w, H, ?_, s, .refl w, k⟩
  have s1 : Sat w (row rb xs TA :: (row b cells TB :: (E ++ R))) := s.perm ((hA.p.trans (List.Perm.cons _ hB.p)).append_right R)
  have g1 := s1.holds _ List.mem_cons_self
  have g2 := s1.holds (row b cells TB) (List.mem_cons_of_mem _ List.mem_cons_self)
  have hne : rb ≠ b := (List.pairwise_cons.1 s1.apart).1 (row b cells TB) List.mem_cons_self (.inl rfl)
  have hz : ∀ w, (Go.sizeOf e).run P w = .ok sz w := run_sizeOf hs
  have h := Go.Lib.run_overlaps_apart (P := P) w tS tR e (underlying_slice hT) sz hz ⟨rb, 0, none⟩ ⟨b, o, none⟩ la ca lb cb hne TA TB xs.length cells.length
    (by simp [World.shape?, g1, row]) (by simp [World.shape?, g2, row]) (by simpa using hc) (by simp [World.frozen?, g1, row]) (by simp [World.frozen?, g1, row])
  have hcall := run_callFunc_extern (P := P) (f := f) hf hname hb hn he #[.slice (some ⟨rb, 0, none⟩) la ca, .slice (some ⟨b, o, none⟩) lb cb] w
  rw [h] at hcall
  have hev : a.eval (.func f) = Value.func (Fn.func f) #[] #[] := rfl
  simp [execOp, resolve, Deferred.ofValue, hev, invoke, kn.ev hx, kn.ev hy, hcall]

/-- a number, a result that lies in memory, and another one -/
theorem DN.retTCT {n : Nat} {w0 : World} {R : List Ck} {fn : Func} {Post : Value → List Ck → Prop} {t u q T s b : Nat} {cs : List Value} {T' : TypeId} {fr : Nat × Nat} {ex : Bool} {v z : Value} (H' : List Ck) (hr : fn.results = #[.tmp q, .cell t T, .tmp u]) (hT : isAggOf P T s = true) (hz : getv l q = some z) (hv : getv l t = some (.pointer (some ⟨b, 0, none⟩))) (hu : getv l u = some v)
    (hm : (⟨b, .cells cs.toArray T' fr, ex⟩ : Ck) ∈ H) (hs : cs.length = s) {D : List Ck} (hH : Sp H H' D) (hp : Post (.tuple #[z, .agg cs.toArray, v]) H') : DN P n w0 R (bodyPost P fn (Back P w0 R Post)) .ret l H := fun a w i => by
  have h := i.sat.holds _ (List.mem_append_left R hm)
  have hl := run_loadCells_list (P := P) w ⟨b, 0, none⟩ cs (fun j v hv => by rw [add_plain, cell_at h]; simpa using hv)
  rw [hs] at hl
  have hz' := i.kn q _ hz
  have hv' := i.kn t _ hv
  have hu' := i.kn u _ hu
  simp only [Array.getD_eq_getD_getElem?] at hz' hv' hu'
  have j := i.perm hH.p
  refine bodyPost_ret (v := .tuple #[z, .agg cs.toArray, v]) ?_ i.defers ⟨_, H', rfl, hp, (j.sublist (List.sublist_append_left _ _)).sat, i.kept⟩
  simp [results, hr, hz', hv', hu', asAddr, loadVar, (run_isAgg_yes hT w).1, (run_isAgg_yes hT w).2, hl]

/-! what is found by search, by a short name -/
theorem gr_ {A B : List Ck} (h : Gr A B := by repeat (first | exact Gr.refl | exact Gr.left Gr.refl | exact Gr.left (Gr.left Gr.refl) | exact Gr.left (Gr.app Gr.refl) | exact Gr.left (Gr.app (Gr.app Gr.refl)) | exact Gr.left (Gr.app (Gr.left Gr.refl)) | exact Gr.left (Gr.left (Gr.left Gr.refl)) | exact Gr.nil | exact Gr.app (Gr.left Gr.refl) | refine Gr.cons ?_ | refine Gr.app ?_ | refine Gr.both ?_ ?_ | refine Gr.put (by repeat (first | exact List.mem_cons_self | apply List.mem_cons_of_mem | apply List.mem_append_right)) ?_)) : ∀ c ∈ A, c ∈ B := h
theorem sp_ {H C D : List Ck} (h : Sp H C D := by repeat (first | exact Sp.here | exact Sp.sn | exact Sp.s0 | exact Fr.here | apply Sp.s2 | apply Sp.sx | apply Fr.fc | apply Fr.al | apply Fr.fa | apply Sp.sc | apply Sp.al | apply Sp.sa)) : Sp H C D := h
theorem fr_ {H : List Ck} {x : Ck} {D : List Ck} (h : Fr H x D := by repeat (first | exact Fr.here | apply Fr.fc | apply Fr.al | apply Fr.fa)) : Fr H x D := h
theorem mem_ {x : Ck} {H : List Ck} (h : x ∈ H := by repeat (first | exact List.mem_cons_self | apply List.mem_cons_of_mem | apply List.mem_append_right)) : x ∈ H := h
theorem one_ {vs : List Value} (h : ∀ u ∈ vs, u.oneCell' = true := by repeat (first | exact fun _ h => absurd h List.not_mem_nil | refine List.forall_mem_cons.2 ⟨by first | rfl | assumption, ?_⟩)) : ∀ u ∈ vs, u.oneCell' = true := h
theorem sx_ {ks : List Nat} {l r : Sl} (h : Sx ks l r := by repeat (first | exact Sx.refl | refine Sx.skip rfl ?_)) : Sx ks l r := h
theorem kr_ {α : Sort _} {a b : α} (h : a = b := by kernel_rfl) : a = b := h
end Go.SL
