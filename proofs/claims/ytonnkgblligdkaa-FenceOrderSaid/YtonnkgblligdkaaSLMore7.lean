/-
  More rules: structs of plain fields compared.
-/
import Derived.Test.YtonnkgblligdkaaSLMore6
set_option linter.unusedVariables false
set_option linter.unusedSimpArgs false
namespace Go.SL

variable {P : Program} {l : Sl} {H : List Ck} {d : Option Nat} {ty : TypeId} {pos : String} {aft : Array Edge} {g : Option (Nat × Bool)} {K : Next → List Ck → Prop}

/-- what a type's one cell holds: 0 a number, 1 a string, 2 a truth value -/
def leafKind (P : Program) (t : TypeId) : Option Nat := match P.underlying t with | some (.int _) => some 0 | some .string => some 1 | some .bool => some 2 | _ => none
def leafsGo (P : Program) : Nat → List Field → Option (List Nat)
  | _, [] => some []
  | o, f :: fs => if f.name ≠ "_" ∧ f.offset = o then (leafKind P f.type).bind fun k => (leafsGo P (o + 1) fs).map (k :: ·) else none
/-- a struct of plain fields: their kinds -/
def leafsOf (P : Program) (T : TypeId) : Option (List Nat) := match P.underlying T with
  | some (.struct fs) => if (!P.stoodInHeld T && !P.eqGuardType P.depth T) = true then leafsGo P 0 fs.toList else none
  | _ => none
def cellEq : Nat → Value → Value → Option Bool
  | 0, .int k a, .int k' b => if k = k' then some (decide (a = b)) else none
  | 1, .string a, .string b => some (decide (a = b))
  | 2, .bool a, .bool b => some (a == b)
  | _, _, _ => none
def cellsEq : List Nat → List Value → List Value → Option Bool
  | [], [], [] => some true
  | k :: ks, u :: us, v :: vs => (cellEq k u v).bind fun b => (cellsEq ks us vs).map (b && ·)
  | _, _, _ => none
theorem run_cellEq {t : TypeId} {k dd : Nat} {u v : Value} {b : Bool} {w : World} (hk : leafKind P t = some k) (h : cellEq k u v = some b) : (Op.equalIn (dd + 1) t u v).run P w = .ok b w := by
  unfold leafKind at hk
  split at hk
  · rename_i hu
    cases hk
    cases u <;> cases v <;> simp only [cellEq, Option.some.injEq, reduceCtorEq] at h
    split at h
    · rename_i hkk
      subst hkk
      cases h
      rw [run_equalIn_int w _ _ _ _ _ _ hu]
      rfl
    · cases h
  · rename_i hu
    cases hk
    cases u <;> cases v <;> simp only [cellEq, Option.some.injEq, reduceCtorEq] at h
    subst h
    rw [run_equalIn_string w _ _ _ _ hu, ← beq_toListBytes]
    congr 1
    rename_i s s'
    obtain ⟨⟨a⟩⟩ := s
    obtain ⟨⟨b⟩⟩ := s'
    show ((⟨a⟩ : Array UInt8) == ⟨b⟩) = _
    rw [Bool.eq_iff_iff]; simp
  · rename_i hu
    cases hk
    cases u <;> cases v <;> simp only [cellEq, Option.some.injEq, reduceCtorEq] at h
    subst h
    rw [run_equalIn_bool' w _ _ _ _ hu]
  · cases hk
theorem leaf_agg {t : TypeId} {k : Nat} (h : leafKind P t = some k) : aggK P t = some false := by
  unfold leafKind at h
  unfold aggK
  split at h <;> simp_all
theorem run_leafs {dd : Nat} {w : World} (xs ys : List Value) : ∀ (fs : List Field) (o : Nat) (ks : List Nat) (b : Bool), leafsGo P o fs = some ks → cellsEq ks (xs.drop o) (ys.drop o) = some b → (Op.eqFields (dd + 1) xs.toArray ys.toArray fs).run P w = .ok b w
  | [], o, ks, b, h, hb => by
    cases h
    cases hx : xs.drop o <;> cases hy : ys.drop o <;> rw [hx, hy] at hb <;> simp [cellsEq] at hb
    subst hb
    simp [Op.eqFields]
  | f :: fs, o, ks, b, h, hb => by
    simp only [leafsGo] at h
    split at h
    · rename_i hc
      cases hk : leafKind P f.type with
      | none => rw [hk] at h; simp at h
      | some k =>
        rw [hk] at h
        simp only [Option.bind_some, Option.map_eq_some_iff] at h
        obtain ⟨ks', h', rfl⟩ := h
        cases hx : xs.drop o with
        | nil => rw [hx] at hb; cases ys.drop o <;> simp [cellsEq] at hb
        | cons u us =>
          cases hy : ys.drop o with
          | nil => rw [hx, hy] at hb; simp [cellsEq] at hb
          | cons v vs =>
            rw [hx, hy] at hb
            simp only [cellsEq] at hb
            cases hb1 : cellEq k u v with
            | none => rw [hb1] at hb; simp at hb
            | some b1 =>
              rw [hb1] at hb
              simp only [Option.bind_some, Option.map_eq_some_iff] at hb
              obtain ⟨b2, hb2, rfl⟩ := hb
              have e1 : us = xs.drop (o + 1) := by rw [← List.drop_drop, hx]; rfl
              have e2 : vs = ys.drop (o + 1) := by rw [← List.drop_drop, hy]; rfl
              rw [e1, e2] at hb2
              have ih := run_leafs (dd := dd) (w := w) xs ys fs (o + 1) ks' b2 h' hb2
              have p1 : (part f.type xs.toArray f.offset).run P w = .ok u w := by
                have : xs[o]? = some u := by
                  have := congrArg List.head? hx
                  rwa [List.head?_drop, List.head?_cons] at this
                simp [part, run_isAgg_of (leaf_agg hk), hc.2, this]
              have p2 : (part f.type ys.toArray f.offset).run P w = .ok v w := by
                have : ys[o]? = some v := by
                  have := congrArg List.head? hy
                  rwa [List.head?_drop, List.head?_cons] at this
                simp [part, run_isAgg_of (leaf_agg hk), hc.2, this]
              simp only [Op.eqFields, Sem.run_ite, hc.1, ne_eq, not_false_eq_true, if_true, Sem.run_bind, p1, p2, Result.andThen_ok, run_cellEq hk hb1]
              cases b1
              · simp
              · simp [ih]
    · cases h
theorem Yd.eqlSt {T T' : TypeId} {x y : Operand} {us vs : List Value} (ks : List Nat) {b : Bool} (hT : leafsOf P T = some ks) (hx : ev l x = some (.agg us.toArray)) (hy : ev l y = some (.agg vs.toArray)) (hb : cellsEq ks us vs = some b) : Yd P ⟨d, .binOp .eql T x y T', ty, pos, aft, g⟩ l (.bool b) := fun a kn w => by
  unfold leafsOf at hT
  split at hT
  · rename_i fs hu
    split at hT
    · rename_i hc
      simp only [Bool.and_eq_true, Bool.not_eq_true'] at hc
      have hfs : P.fieldsOf T = fs := by simp [Program.fieldsOf, hu]
      have hgd : (eqGuard .eql T x y (.agg us.toArray) (.agg vs.toArray)).run P w = .ok () w := run_eqGuard_agg w .eql T x y _ _ hc.2
      have h := run_equalIn_struct w 9999 T us.toArray vs.toArray (by rw [hu, hfs]) hc.1
      rw [hfs, run_leafs us vs fs.toList 0 ks b hT (by simpa using hb)] at h
      simp only [execOp, kn.ev hx, kn.ev hy, Sem.run_bind, hgd, Result.andThen_ok]
      rw [run_eql_struct, h]
      simp
    · cases hT
  · cases hT
theorem Yd.neqSt {T T' : TypeId} {x y : Operand} {us vs : List Value} (ks : List Nat) {b : Bool} (hT : leafsOf P T = some ks) (hx : ev l x = some (.agg us.toArray)) (hy : ev l y = some (.agg vs.toArray)) (hb : cellsEq ks us vs = some b) : Yd P ⟨d, .binOp .neq T x y T', ty, pos, aft, g⟩ l (.bool (!b)) := fun a kn w => by
  unfold leafsOf at hT
  split at hT
  · rename_i fs hu
    split at hT
    · rename_i hc
      simp only [Bool.and_eq_true, Bool.not_eq_true'] at hc
      have hfs : P.fieldsOf T = fs := by simp [Program.fieldsOf, hu]
      have hgd : (eqGuard .neq T x y (.agg us.toArray) (.agg vs.toArray)).run P w = .ok () w := run_eqGuard_agg w .neq T x y _ _ hc.2
      have h := run_equalIn_struct w 9999 T us.toArray vs.toArray (by rw [hu, hfs]) hc.1
      rw [hfs, run_leafs us vs fs.toList 0 ks b hT (by simpa using hb)] at h
      simp only [execOp, kn.ev hx, kn.ev hy, Sem.run_bind, hgd, Result.andThen_ok]
      rw [run_neq_struct, h]
      simp
    · cases hT
  · cases hT

/-- a slice that has something: where it lies -/
theorem Rs.lies {ao : Option Addr} {n c m : Nat} {xs : List Value} (hr : Rs (.slice ao n c) m xs H) (hne : 0 < n) : ∃ (b o : Nat) (cs : List Value) (T : TypeId) (fr : Nat × Nat) (ex : Bool), ao = some ⟨b, o, none⟩ ∧ n = m ∧ (⟨b, .cells cs.toArray T fr, ex⟩ : Ck) ∈ H ∧ (cs.drop o).take xs.length = xs := by
  rcases hr with ⟨ao', cap', h, e1, e2⟩ | ⟨b, o, cap, cs, T', fr, ex, hsl, hc, hm, hcs⟩
  · simp only [Value.slice.injEq] at h; omega
  · simp only [Value.slice.injEq] at hsl
    exact ⟨b, o, cs, T', fr, ex, hsl.1, hsl.2.1, hm, hcs⟩
theorem rs_cell {cs xs vs : List Value} {o i s : Nat} (hcs : (cs.drop o).take xs.length = xs) (hi : i * s + s ≤ xs.length) (hv : (xs.drop (i * s)).take s = vs) : (cs.drop (o + (i : Int).toNat * s)).take s = vs := by
  rw [← hv, Int.toNat_natCast]
  rw [← hcs, List.drop_take, List.take_take, List.drop_drop]
  congr 1
  omega
theorem rs_cell1 {cs xs : List Value} {v : Value} {o i : Nat} (hcs : (cs.drop o).take xs.length = xs) (hv : xs[i]? = some v) : cs[o + (i : Int).toNat * 1]? = some v := by
  rw [Int.toNat_natCast, Nat.mul_one]
  rw [← hcs, List.getElem?_take] at hv
  split at hv
  · simpa using hv
  · cases hv
theorem flat_row {α : Type} (enc : α → List Value) (k : Nat) (hk : ∀ x, (enc x).length = k) : ∀ (ds : List α) (i : Nat) (h : i < ds.length), ((ds.flatMap enc).drop (i * k)).take k = enc ds[i]
  | d :: ds, 0, h => by
    rw [Nat.zero_mul, List.drop_zero, List.flatMap_cons, List.take_append_of_le_length (by rw [hk]; omega), List.take_of_length_le (by rw [hk]; omega)]
    rfl
  | d :: ds, i + 1, h => by
    rw [List.flatMap_cons, List.drop_append, List.drop_of_length_le (by rw [hk, Nat.add_mul]; omega), List.nil_append, hk, show (i + 1) * k - k = i * k by rw [Nat.add_mul]; omega, flat_row enc k hk ds i (by simpa using h)]
    rfl

theorem Hd.appendF {x y : Operand} {T e sz bytes : Nat} {zs : List Value} {v u : Value} {n m : Nat} {xs news : List Value} {C D : List Ck} (hT : sliceOf P T = some e) (hE : elemInfo P e = some (sz, zs, bytes)) (hz : zs.length = sz) (hsz : 0 < sz)
    (hx : ev l x = some v) (hy : ev l y = some u) (own : Own v n xs e sz C) (hH : Sp H C D) (src : Rs u m news H) (hl : news.length = m * sz) (h1 : ∀ u ∈ news, u.oneCell' = true) (hmax : n + m ≤ maxLen) (hb : (n + m) * bytes ≤ 140737488355328)
    (k : ∀ v' C', Own v' (n + m) (xs ++ news) e sz C' → K (.value v') (C' ++ D)) : Hd P ⟨d, .call ⟨.builtin .append, #[x, y], #[T, T]⟩, ty, pos, aft, g⟩ l H K :=
  Hd.append hT hE hz hsz hx hy own (src.mono fun c hc => hH.p.mem_iff.1 hc) hl h1 hmax hb hH.p fun v' C' h _ => k v' C' h
theorem Hd.store1q {T : TypeId} {x y : Operand} {b o : Nat} {cs cs' : List Value} {T' : TypeId} {v : Value} {D : List Ck} (hT : szOf P T = some 1) (hx : ev l x = some (.pointer (some ⟨b, o, none⟩))) (hy : ev l y = some v)
    (h1 : v.oneCell' = true) (hm : Fr H (row b cs T') D) (hc : o < cs.length) (he : cs.set o v = cs') (k : K .skip (row b cs' T' :: D)) : Hd P ⟨d, .store T x y, ty, pos, aft, g⟩ l H K := by
  subst he
  exact Hd.store1 hT hx hy h1 hm.p (by simpa using hc) k
theorem flat_one {α : Type} {enc : α → List Value} (h : ∀ x, ∀ v ∈ enc x, v.oneCell' = true) (ds : List α) : ∀ u ∈ ds.flatMap enc, u.oneCell' = true := by
  intro u hu
  obtain ⟨x, _, hx⟩ := List.mem_flatMap.1 hu
  exact h x u hx

end Go.SL
