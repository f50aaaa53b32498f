/-
  More rules: a slice's part struck out in place; arrays of numbers held against one another; comparisons.
-/
import Derived.Test.YtonnkgblligdkaaSLMore4
import Derived.Laws.StructEq
set_option linter.unusedVariables false
set_option linter.unusedSimpArgs false
namespace Go.SL

variable {P : Program} {l : Sl} {H : List Ck} {d : Option Nat} {ty : TypeId} {pos : String} {aft : Array Edge} {g : Option (Nat × Bool)} {K : Next → List Ck → Prop}

/-- the blocks fit what is asked, beside what is forgotten -/
theorem DN.fit {n : Nat} {w0 : World} {R : List Ck} {Q : Exit → Act → World → Prop} {e : Exit} {C D : List Ck} (h : Sp H C D) (k : DN P n w0 R Q e l C) : DN P n w0 R Q e l H :=
  DN.blocks (C ++ D) h.p (DN.forget C (List.sublist_append_left _ _) k)
theorem WL.fit {n : Nat} {w0 : World} {R : List Ck} {ops : Array Oper} {Q : Exit → Act → World → Prop} {rest : List Oper} {C D : List Ck} (h : Sp H C D) (k : WL P n w0 R ops Q rest l C) : WL P n w0 R ops Q rest l H :=
  WL.blocks (C ++ D) h.p (WL.forget C (List.sublist_append_left _ _) k)
theorem WC.fit {n : Nat} {w0 : World} {R : List Ck} {Q : Exit → Act → World → Prop} {c : Code} {C D : List Ck} (h : Sp H C D) (k : WC P n w0 R Q c l C) : WC P n w0 R Q c l H :=
  WC.blocks (C ++ D) h.p (WC.forget C (List.sublist_append_left _ _) k)

section
variable {n : Nat} {w0 : World} {R : List Ck} {Q : Exit → Act → World → Prop}
theorem WC.loopS {α : Type} (I : α → Prop) (S : α → Sl) (K : α → List Ck) (μ : α → Nat) {c : Code} (x0 : α) (h0 : I x0) (hl : Sx [] l (S x0 ++ l)) {D : List Ck} (hH : Sp H (K x0) D)
    (round : ∀ x, I x → WC P n w0 R (Exit.then (Again P n w0 R I (fun x => S x ++ l) K μ (μ x)) Q) c (S x ++ l) (K x)) : WC P n w0 R Q (.loop c) l H :=
  WC.fit hH (WC.loopK I S K μ x0 h0 hl (List.Perm.refl _) round)
theorem DN.againS {α : Type} {I : α → Prop} {S : α → Sl} {l0 : Sl} {K : α → List Ck} {μ : α → Nat} {m : Nat} (z : α) (hz : I z) (hm : μ z < m) (hl : Sx [] l (S z ++ l0)) {D : List Ck} (hH : Sp H (K z) D) :
    DN P n w0 R (Exit.then (Again P n w0 R I (fun x => S x ++ l0) K μ m) Q) .normal l H := DN.fit hH (DN.againK z hz hm hl (List.Perm.refl _))
theorem DN.reachS {α : Type} {I : α → Prop} {S : α → Sl} {l0 : Sl} {K : α → List Ck} (z : α) (hz : I z) (hl : Sx [] l (S z ++ l0)) {D : List Ck} (hH : Sp H (K z) D) :
    DN P n w0 R (Exit.then (Reach P n w0 R I (fun x => S x ++ l0) K) Q) .normal l H := DN.fit hH (DN.reachK z hz hl (List.Perm.refl _))
end

/-- 'x[lo:hi:max]' -/
theorem Yd.slice3 {x lo hi mx : Operand} {T e s : Nat} {ao : Option Addr} {n c : Nat} {i j q : Nat} {k1 k2 k3 : IntKind} {m1 m2 m3 : Int} (hT : sliceOf P T = some e) (hs : szOf P e = some s) (hx : ev l x = some (.slice ao n c))
    (hl : ev l lo = some (.int k1 m1)) (hh : ev l hi = some (.int k2 m2)) (hm : ev l mx = some (.int k3 m3)) (e1 : m1 = (i : Int)) (e2 : m2 = (j : Int)) (e3 : m3 = (q : Int)) (h1 : i ≤ j) (h2 : j ≤ q) (h3 : q ≤ c) :
    Yd P ⟨d, .slice T x (some lo) (some hi) (some mx), ty, pos, aft, g⟩ l (.slice (if q = i then ao else ao.map (·.add (i * s))) (j - i) (q - i)) := fun a kn w => by
  subst e1 e2 e3
  have hu := run_underlying (underlying_slice hT)
  have h4 : i ≤ j := h1
  simp [execOp, kn.ev hx, Instr.sliceAt, Instr.slice, hu, Instr.sliceBounds, Instr.sliceBound, asIntOf, kn.ev hl, kn.ev hh, kn.ev hm, run_sizeOf hs, Int.ofNat_le, h1, h2, h3]

/-- 'append' where there is room -/
theorem Hd.appendIn {x y : Operand} {T e sz bytes : Nat} {zs : List Value} {u : Value} {b n m cap : Nat} {cells news : List Value} {D : List Ck} (hT : sliceOf P T = some e) (hE : elemInfo P e = some (sz, zs, bytes))
    (hx : ev l x = some (.slice (some ⟨b, 0, none⟩) n cap)) (hy : ev l y = some u) (hm : Fr H (row b cells e) D) (src : Rs u m news H) (hl : news.length = m * sz) (h1 : ∀ u ∈ news, u.oneCell' = true) (hroom : n + m ≤ cap) (hfit : (n + m) * sz ≤ cells.length)
    (k : K (.value (.slice (some ⟨b, 0, none⟩) (n + m) cap)) (row b (cells.take (n * sz) ++ (news ++ cells.drop ((n + m) * sz))) e :: D)) : Hd P ⟨d, .call ⟨.builtin .append, #[x, y], #[T, T]⟩, ty, pos, aft, g⟩ l H K := fun a w R kn s => by
  obtain ⟨i, z, hi, hzr, rfl, rfl, rfl⟩ := elemInfo_spec hE
  have hu := underlying_slice hT
  have s' : Sat w (row b cells e :: (D ++ R)) := s.perm (hm.p.append_right R)
  have hg := s'.holds _ List.mem_cons_self
  rcases Rs.cells src s with ⟨uo, uc, rfl, rfl, rfl⟩ | ⟨q, c, rfl, hcells⟩
  · have e0 : cells.take (n * i.size) ++ ([] ++ cells.drop ((n + 0) * i.size)) = cells := by simp
    rw [e0] at k
    refine ⟨_, w, row b cells e :: D, ?_, s', .refl w, k⟩
    have hst : ∀ a' : Addr, (storeCells a' []).run P w = .ok () w := fun a' => by simp [storeCells]
    have hld : ∀ a' : Addr, (loadCells a' 0).run P w = .ok #[] w := fun a' => by simp [loadCells, loadCellsFrom]
    have hn : n ≤ cap := by omega
    simp only [execOp, resolve, invoke, builtin, List.map_toArray, List.map_cons, List.map_nil, kn.ev hx, kn.ev hy]
    cases uo <;> simp [Builtin.append_, run_underlying hu, sizeOf, typeInfo, hi, Builtin.lenOf, Builtin.firstCells, hn, hst, hld, kn.ev hx, kn.ev hy]
  · have hr := run_append_room (P := P) w T ty e i hu hi b n cap _ hg q m c news hl hcells h1 hroom (by simp only [List.size_toArray, hl, ← Nat.add_mul]; exact hfit)
    have e1 : (cells.toArray.toList.take (n * i.size) ++ news ++ cells.toArray.toList.drop (n * i.size + news.length)) = cells.take (n * i.size) ++ (news ++ cells.drop ((n + m) * i.size)) := by
      rw [hl, ← Nat.add_mul, List.append_assoc]
    rw [e1] at hr
    refine ⟨.value (.slice (some ⟨b, 0, none⟩) (n + m) cap), _, row b (cells.take (n * i.size) ++ (news ++ cells.drop ((n + m) * i.size))) e :: D, ?_, Sat.setRow s', kept_setRow _ _ _, k⟩
    simp [execOp, resolve, invoke, builtin, kn.ev hx, kn.ev hy, hr]

/-- 'clear(x)', x some elements of a block of our own -/
theorem Hd.clearN {x : Operand} {T e sz bytes : Nat} {zs : List Value} {b o m c : Nat} {cells : List Value} {D : List Ck} (hT : sliceOf P T = some e) (hE : elemInfo P e = some (sz, zs, bytes)) (hz : zs.length = sz) (hz1 : ∀ u ∈ zs, u.oneCell' = true)
    (hx : ev l x = some (.slice (some ⟨b, o, none⟩) m c)) (h0 : 0 < m) (hm : Fr H (row b cells e) D) (hfit : o + m * sz ≤ cells.length)
    (k : ∀ tl : List Value, tl.length = m * sz → K (.value (.tuple #[])) (row b (cells.take o ++ (tl ++ cells.drop (o + m * sz))) e :: D)) : Hd P ⟨d, .call ⟨.builtin .clear, #[x], #[T]⟩, ty, pos, aft, g⟩ l H K := fun a w R kn s => by
  obtain ⟨i, z, hi, hzr, rfl, rfl, rfl⟩ := elemInfo_spec hE
  have hu := underlying_slice hT
  have s' : Sat w (row b cells e :: (D ++ R)) := s.perm (hm.p.append_right R)
  have hg := s'.holds _ List.mem_cons_self
  have hzl : (Builtin.zeroCells z.cells m).toList.length = m * i.size := by
    rw [size_zeroCells']
    rw [← hz]
    simp
  have hone : ∀ u ∈ (Builtin.zeroCells z.cells m).toList, u.oneCell' = true := by
    intro u hu
    simp only [Builtin.zeroCells, Array.toList_map, List.mem_map] at hu
    obtain ⟨j, hj, rfl⟩ := hu
    by_cases hs : z.cells.size = 0
    · exfalso
      simp [hs] at hj
    · have hlt : j % z.cells.size < z.cells.size := Nat.mod_lt _ (by omega)
      rw [getElem!_pos z.cells _ hlt]
      exact hz1 _ (by simp)
  have hst := run_storeCells_at P b o e (Builtin.zeroCells z.cells m).toList 0 cells.toArray w hg (by rw [hzl]; simpa using hfit) hone
  simp only [Nat.add_zero, hzl] at hst
  have e1 : (cells.toArray.toList.take o ++ (Builtin.zeroCells z.cells m).toList ++ cells.toArray.toList.drop (o + m * i.size)) = cells.take o ++ ((Builtin.zeroCells z.cells m).toList ++ cells.drop (o + m * i.size)) := by simp
  rw [e1] at hst
  refine ⟨.value (.tuple #[]), _, row b (cells.take o ++ ((Builtin.zeroCells z.cells m).toList ++ cells.drop (o + m * i.size))) e :: D, ?_, Sat.setRow s', kept_setRow _ _ _, k _ hzl⟩
  obtain ⟨m', rfl⟩ : ∃ m', m = m' + 1 := ⟨m - 1, by omega⟩
  simp [execOp, resolve, invoke, builtin, kn.ev hx, Builtin.clear_, run_underlying hu, zeroValue, typeInfo, hi, hzr, hst]

/-! ### arrays of numbers -/
theorem run_forIn_all {w : World} (f : Nat → Sem Bool) (b : Nat → Bool) (n : Nat) (hf : ∀ i, i < n → (f i).run P w = .ok (b i) w) :
    ∀ (k : Nat), k ≤ n → (forIn (List.range' (n - k) k) ((none, ()) : Option Bool × PUnit) fun i (r : Option Bool × PUnit) => (do
      let c ← f i
      if !c then pure (ForInStep.done (some false, ())) else pure (ForInStep.yield (none, ())) : Sem (ForInStep (Option Bool × PUnit)))).run P w = .ok (if (List.range' (n - k) k).all b then none else some false, ()) w := by
  intro k
  induction k with
  | zero => intro _; simp
  | succ k ih =>
    intro hk
    rw [List.range'_succ, show n - (k + 1) + 1 = n - k by omega]
    simp only [List.forIn_cons, Sem.run_bind, hf (n - (k + 1)) (by omega), Result.andThen_ok, Sem.run_ite]
    cases hb : b (n - (k + 1)) with
    | false => simp [hb]
    | true =>
      simp only [Bool.not_true, Bool.false_eq_true, if_false, Sem.run_pure, Result.andThen_ok, List.all_cons, hb, Bool.true_and]
      exact ih (by omega)
theorem run_equalIn_arr {w : World} {T e n s dd : Nat} {xs ys : Array Value} {b : Nat → Bool} (hT : P.underlying T = some (.array n e)) (hs : szOf P e = some s)
    (hp : ∀ i, i < n → (do let u ← part e xs (i * s); let v ← part e ys (i * s); Op.equalIn dd e u v : Sem Bool).run P w = .ok (b i) w) : (Op.equalIn (dd + 1) T (.agg xs) (.agg ys)).run P w = .ok ((List.range' 0 n).all b) w := by
  have h := run_forIn_all (P := P) (w := w) (fun i => (do let u ← part e xs (i * s); let v ← part e ys (i * s); Op.equalIn dd e u v : Sem Bool)) b n hp n (Nat.le_refl _)
  rw [Nat.sub_self] at h
  simp only [Op.equalIn, Sem.run_bind, run_underlying hT, Result.andThen_ok, run_sizeOf hs, Std.Legacy.Range.forIn_eq_forIn_range', Std.Legacy.Range.size, Nat.sub_zero, Nat.add_sub_cancel, Nat.div_one]
  simp only [bind_assoc] at h ⊢
  rw [h]
  simp only [Result.andThen_ok]
  cases (List.range' 0 n).all b <;> simp

theorem run_equalIn_ints {w : World} {T e n dd : Nat} {kd : IntKind} {xs ys : List Int} (hT : P.underlying T = some (.array n e)) (hs : szOf P e = some 1) (hk : P.underlying e = some (.int kd)) (hx : xs.length = n) (hy : ys.length = n) :
    (Op.equalIn (dd + 2) T (.agg (ic xs).toArray) (.agg (ic ys).toArray)).run P w = .ok (decide (xs = ys)) w := by
  have hag : aggB P e = false := by simp [aggB, hk]
  have hp : ∀ (zs : List Int) i, i < zs.length → (part e (ic zs).toArray (i * 1)).run P w = .ok (.int .i64 (zs.getD i 0)) w := fun zs i hi => by
    simp [part, run_isAgg_no hag, ic_getD hi, Nat.mul_one]
  have h := run_equalIn_arr (P := P) (w := w) (dd := dd + 1) (xs := (ic xs).toArray) (ys := (ic ys).toArray) (b := fun i => xs.getD i 0 == ys.getD i 0) hT hs (fun i hi => by
    simp only [Sem.run_bind, hp xs i (by omega), hp ys i (by omega), Result.andThen_ok]
    simp [Op.equalIn, run_underlying hk])
  rw [h]
  congr 1
  rw [Bool.eq_iff_iff]
  simp only [List.all_eq_true, List.mem_range'_1, Nat.zero_le, true_and, Nat.zero_add, beq_iff_eq, decide_eq_true_eq]
  constructor
  · intro h
    apply List.ext_getElem (by omega)
    intro i h1 h2
    have := h i (by omega)
    simpa [List.getD, h1, h2] using this
  · rintro rfl i _; rfl
theorem ic_extract (xs : List Int) (a b : Nat) : (ic xs).toArray.extract a (a + b) = (ic ((xs.drop a).take b)).toArray := by
  apply Array.ext'
  simp [ic, List.extract_eq_take_drop, List.map_take, List.map_drop]
/-- arrays of arrays of numbers -/
theorem Yd.eqlArr2 {T T' T1 e n m : Nat} {kd : IntKind} {x y : Operand} {xs ys : List Int} (hT : P.underlying T = some (.array n T1)) (hT1 : P.underlying T1 = some (.array m e)) (hs1 : szOf P T1 = some m) (hs : szOf P e = some 1) (hk : P.underlying e = some (.int kd)) (hg : P.eqGuardType P.depth T = false)
    (hx : ev l x = some (.agg (ic xs).toArray)) (hy : ev l y = some (.agg (ic ys).toArray)) (lx : xs.length = n * m) (ly : ys.length = n * m) : Yd P ⟨d, .binOp .eql T x y T', ty, pos, aft, g⟩ l (.bool (decide (xs = ys))) := fun a kn w => by
  have hgd : (eqGuard .eql T x y (.agg (ic xs).toArray) (.agg (ic ys).toArray)).run P w = .ok () w := run_eqGuard_agg w .eql T x y _ _ hg
  have hag : aggK P T1 = some true := by simp [aggK, hT1]
  have hp : ∀ (zs : List Int) i, (part T1 (ic zs).toArray (i * m)).run P w = .ok (.agg (ic ((zs.drop (i * m)).take m)).toArray) w := fun zs i => by
    simp [part, run_isAgg_of hag, run_sizeOf hs1, ic, List.map_take, List.map_drop]
  have hb : ∀ i, i < n → i * m + m ≤ n * m := fun i hi => by
    have := Nat.mul_le_mul_right m (show i + 1 ≤ n from hi)
    rwa [Nat.add_mul, Nat.one_mul] at this
  have h := run_equalIn_arr (P := P) (w := w) (dd := 9999) (xs := (ic xs).toArray) (ys := (ic ys).toArray) (b := fun i => decide ((xs.drop (i * m)).take m = (ys.drop (i * m)).take m)) hT hs1 (fun i hi => by
    simp only [Sem.run_bind, hp, Result.andThen_ok]
    have := hb i hi
    exact run_equalIn_ints (dd := 9997) hT1 hs hk (by rw [List.length_take, List.length_drop]; omega) (by rw [List.length_take, List.length_drop]; omega))
  have e : ((List.range' 0 n).all fun i => decide ((xs.drop (i * m)).take m = (ys.drop (i * m)).take m)) = decide (xs = ys) := by
    rw [Bool.eq_iff_iff]
    simp only [List.all_eq_true, List.mem_range'_1, Nat.zero_le, true_and, Nat.zero_add, decide_eq_true_eq]
    constructor
    · intro h
      apply List.ext_getElem (by omega)
      intro j h1 h2
      have hm : 0 < m := by
        rcases Nat.eq_zero_or_pos m with h0 | h0
        · subst h0; simp at lx; omega
        · exact h0
      have hq : j / m < n := by rw [Nat.div_lt_iff_lt_mul hm]; omega
      have := congrArg (fun l => l[j % m]?) (h (j / m) hq)
      simp only [List.getElem?_take, Nat.mod_lt j hm, if_true, List.getElem?_drop] at this
      rw [show j / m * m + j % m = j by rw [Nat.mul_comm]; exact Nat.div_add_mod j m] at this
      simpa [h1, h2] using this
    · rintro rfl i _; rfl
  rw [e] at h
  simp only [execOp, kn.ev hx, kn.ev hy, Sem.run_bind, hgd, Result.andThen_ok]
  rw [run_eql_struct, h]
  simp
/-- a result that lies in memory, and another one -/
theorem DN.retCT {n : Nat} {w0 : World} {R : List Ck} {fn : Func} {Post : Value → List Ck → Prop} {t u T s b : Nat} {cs : List Value} {T' : TypeId} {fr : Nat × Nat} {ex : Bool} {v : Value} (H' : List Ck) (hr : fn.results = #[.cell t T, .tmp u]) (hT : isAggOf P T s = true) (hv : getv l t = some (.pointer (some ⟨b, 0, none⟩))) (hu : getv l u = some v)
    (hm : (⟨b, .cells cs.toArray T' fr, ex⟩ : Ck) ∈ H) (hs : cs.length = s) {D : List Ck} (hH : Sp H H' D) (hp : Post (.tuple #[.agg cs.toArray, v]) H') : DN P n w0 R (bodyPost P fn (Back P w0 R Post)) .ret l H := fun a w i => by
  have h := i.sat.holds _ (List.mem_append_left R hm)
  have hl := run_loadCells_list (P := P) w ⟨b, 0, none⟩ cs (fun j v hv => by rw [add_plain, cell_at h]; simpa using hv)
  rw [hs] at hl
  have hv' := i.kn t _ hv
  have hu' := i.kn u _ hu
  simp only [Array.getD_eq_getD_getElem?] at hv' hu'
  have j := i.perm hH.p
  refine bodyPost_ret (v := .tuple #[.agg cs.toArray, v]) ?_ i.defers ⟨_, H', rfl, hp, (j.sublist (List.sublist_append_left _ _)).sat, i.kept⟩
  simp [results, hr, hv', hu', asAddr, loadVar, (run_isAgg_yes hT w).1, (run_isAgg_yes hT w).2, hl]
/-- the same with the cell alone -/
theorem DN.retCS {n : Nat} {w0 : World} {R : List Ck} {fn : Func} {Post : Value → List Ck → Prop} {t T s b : Nat} {cs : List Value} {T' : TypeId} {fr : Nat × Nat} {ex : Bool} (H' : List Ck) (hr : fn.results = #[.cell t T]) (hT : isAggOf P T s = true) (hv : getv l t = some (.pointer (some ⟨b, 0, none⟩)))
    (hm : (⟨b, .cells cs.toArray T' fr, ex⟩ : Ck) ∈ H) (hs : cs.length = s) {D : List Ck} (hH : Sp H H' D) (hp : Post (.agg cs.toArray) H') : DN P n w0 R (bodyPost P fn (Back P w0 R Post)) .ret l H := fun a w i => by
  have h := i.sat.holds _ (List.mem_append_left R hm)
  have hl := run_loadCells_list (P := P) w ⟨b, 0, none⟩ cs (fun j v hv => by rw [add_plain, cell_at h]; simpa using hv)
  rw [hs] at hl
  have hv' := i.kn t _ hv
  simp only [Array.getD_eq_getD_getElem?] at hv'
  have j := i.perm hH.p
  refine bodyPost_ret (v := .agg cs.toArray) ?_ i.defers ⟨_, H', rfl, hp, (j.sublist (List.sublist_append_left _ _)).sat, i.kept⟩
  simp [results, hr, hv', asAddr, loadVar, (run_isAgg_yes hT w).1, (run_isAgg_yes hT w).2, hl]
/-- 'append' of bytes, the blocks found -/
theorem Hd.appendBs {x y : Operand} {T e : TypeId} {zs : List Value} {v u : Value} {a b : List (BitVec 8)} {C D : List Ck} {K : Next → List Ck → Prop} (hT : sliceOf P T = some e) (hE : elemInfo P e = some (1, zs, 1)) (hz : zs.length = 1)
    (hx : ev l x = some v) (hy : ev l y = some u) (own : Ob e v a C) (hH : Sp H C D) (src : Bs u b H) (hmax : a.length + b.length ≤ 140737488355328)
    (k : ∀ v' C', Ob e v' (a ++ b) C' → K (.value v') (C' ++ D)) : Hd P ⟨d, .call ⟨.builtin .append, #[x, y], #[T, T]⟩, ty, pos, aft, g⟩ l H K :=
  Hd.appendB hT hE hz hx hy own (src.mono fun c hc => hH.p.mem_iff.1 hc) hmax hH.p fun v' C' h _ => k v' C' h

end Go.SL
