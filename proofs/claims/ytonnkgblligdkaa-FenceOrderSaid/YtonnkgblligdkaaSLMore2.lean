/-
  More rules on operations: struct values, 'append' that keeps what was there.
-/
import Derived.Test.YtonnkgblligdkaaSLMore
set_option linter.unusedVariables false
set_option linter.unusedSimpArgs false
namespace Go.SL

variable {P : Program} {l : Sl} {H : List Ck} {d : Option Nat} {ty : TypeId} {pos : String} {aft : Array Edge} {g : Option (Nat × Bool)}

theorem Yd.neqS {T T' : TypeId} {x y : Operand} {s s' : ByteArray} (hx : ev l x = some (.string s)) (hy : ev l y = some (.string s')) : Yd P ⟨d, .binOp .neq T x y T', ty, pos, aft, g⟩ l (.bool (decide (s ≠ s'))) := fun a kn w => by
  have h : (eqGuard .neq T x y (.string s) (.string s')).run P w = .ok () w := by rfl
  have e : (s.toList == s'.toList) = decide (s = s') := by
    by_cases h : s = s'
    · simp [h]
    · have : s.toList ≠ s'.toList := fun e => h (by
        rw [ByteArray.toList_eq, ByteArray.toList_eq] at e
        cases s; cases s'; simp at e; simp [e])
      simp [h, this]
  simp [execOp, kn.ev hx, kn.ev hy, h, binOp, Op.stringOp, e]
/-- a part of bytes, from a place on, so many -/
theorem Bs.cut {ao : Option Addr} {c i j n : Nat} {bs : List (BitVec 8)} {A : List Ck} (h : Bs (.slice ao bs.length c) bs A) (hj : j = i + n) (h2 : j ≤ bs.length) :
    Bs (.slice (if c = i then ao else ao.map (·.add (i * 1))) (j - i) (c - i)) ((bs.drop i).take n) A := by
  have := h.sub (i := i) (j := j) (by omega) h2
  rwa [show (bs.drop i).take (j - i) = (bs.drop i).take n by rw [hj, Nat.add_sub_cancel_left]] at this

/-- where a struct's fields lie, and their sizes -/
def placesOf (P : Program) (t : TypeId) : Option (List (Nat × Nat)) := match P.underlying t with
  | some (.struct fs) => fs.toList.mapM fun f => (szOf P f.type).map fun n => (f.offset, n)
  | _ => none
theorem run_places {w : World} : ∀ (fs : List Field) (pl : List (Nat × Nat)), (fs.mapM fun f => (szOf P f.type).map fun n => (f.offset, n)) = some pl →
    (fs.mapM (m := Sem) fun f => do pure (f.offset, ← sizeOf f.type)).run P w = .ok pl w := by
  intro fs
  induction fs with
  | nil => intro pl h; simp at h; subst h; simp
  | cons f r ih =>
    intro pl h
    simp only [List.mapM_cons] at h ⊢
    cases hs : szOf P f.type with
    | none => simp [hs] at h
    | some n =>
      cases hr : (r.mapM fun f => (szOf P f.type).map fun n => (f.offset, n)) with
      | none => simp [hs, hr] at h
      | some pr =>
        simp [hs, hr] at h
        subst h
        have h1 := ih pr hr
        simp only [Sem.run_bind, run_sizeOf hs, Result.andThen_ok, Sem.run_pure, h1]
/-- 'T{..}' -/
theorem Yd.build {T : TypeId} {zs : List Value} {pl : List (Nat × Nat)} {parts : List (Nat × Operand)} {vs : List (Nat × Value)} {cells : List Value} (hP : placesOf P T = some pl) (hz : zeroOf P T = some zs) (hp : (parts.map fun p => (ev l p.2).map fun v => (p.1, v)) = vs.map some)
    (hf : Instr.fill (pl.toArray[·]?) zs.toArray vs = some cells.toArray) : Yd P ⟨d, .build T parts.toArray, ty, pos, aft, g⟩ l (.agg cells.toArray) := fun a kn w => by
  have hparts : (parts.toArray.map fun (x : Nat × Operand) => (x.1, a.eval x.2)).toList = vs := by
    simp only [List.map_toArray]
    have : ∀ (ps : List (Nat × Operand)) (us : List (Nat × Value)), (ps.map fun p => (ev l p.2).map fun v => (p.1, v)) = us.map some → ps.map (fun x => (x.1, a.eval x.2)) = us := by
      intro ps
      induction ps with
      | nil => intro us h; cases us <;> simp_all
      | cons p r ih =>
        intro us h
        cases us with
        | nil => simp at h
        | cons u us =>
          simp only [List.map_cons, List.cons.injEq] at h ⊢
          refine ⟨?_, ih us h.2⟩
          have h1 := h.1
          cases hev : ev l p.2 with
          | none => simp [hev] at h1
          | some v => simp [hev] at h1; rw [kn.ev hev]; exact h1
    exact this parts vs hp
  obtain ⟨z, hzc, hr⟩ := run_zeroOf hz
  unfold placesOf at hP
  split at hP
  · rename_i fs hu
    have h1 := run_places (w := w) _ _ hP
    have h2 : (fs.mapM (m := Sem) fun f => do pure (f.offset, ← sizeOf f.type)).run P w = .ok pl.toArray w := by
      rw [Array.mapM_eq_mapM_toList]
      simp only [map_eq_pure_bind, Sem.run_bind, h1, Result.andThen_ok, Sem.run_pure]
    simp only [execOp, Instr.build, Sem.run_bind, hr w, Result.andThen_ok, run_underlying hu, h2, hparts, hzc, hf]
    simp
  · cases hP

/-- a row of bytes of our own, whole -/
theorem Ob.block {T : TypeId} (b : Nat) (bs : List (BitVec 8)) (h : bs.length ≤ maxLen) : Ob T (.slice (some ⟨b, 0, none⟩) bs.length bs.length) bs [row b (bc bs) T] :=
  .inr ⟨b, bs.length, [], rfl, Nat.le_refl _, h, by rw [bc_length]; omega, by simp, by simp⟩

/-! lists of slices of our own -/
/-- these values are slices of these bytes, each in memory of its own -/
inductive Obs (T : TypeId) : List Value → List (List (BitVec 8)) → List Ck → Prop
  | nil : Obs T [] [] []
  | cons {v : Value} {l : List (BitVec 8)} {C : List Ck} {vs : List Value} {ls : List (List (BitVec 8))} {D : List Ck} : Ob T v l C → Obs T vs ls D → Obs T (v :: vs) (l :: ls) (C ++ D)
theorem Obs.length {T : TypeId} {vs : List Value} {ls : List (List (BitVec 8))} {D : List Ck} (h : Obs T vs ls D) : vs.length = ls.length := by
  induction h with
  | nil => rfl
  | cons _ _ ih => simp [ih]
theorem Obs.append {T : TypeId} {vs us : List Value} {ls ms : List (List (BitVec 8))} {D E : List Ck} (h : Obs T vs ls D) (k : Obs T us ms E) : Obs T (vs ++ us) (ls ++ ms) (D ++ E) := by
  induction h with
  | nil => exact k
  | cons h1 _ ih => rw [List.cons_append, List.cons_append, List.append_assoc]; exact .cons h1 ih
theorem Obs.one {T : TypeId} {v : Value} {l : List (BitVec 8)} {C : List Ck} (h : Ob T v l C) : Obs T [v] [l] C := by
  have := Obs.cons h Obs.nil
  simpa using this
theorem Obs.get {T : TypeId} {vs : List Value} {ls : List (List (BitVec 8))} {D : List Ck} (h : Obs T vs ls D) : ∀ i (hi : i < ls.length), ∃ u, vs[i]? = some u ∧ Bs u ls[i] D := by
  induction h with
  | nil => intro i hi; simp at hi
  | cons h1 _ ih =>
    intro i hi
    cases i with
    | zero => exact ⟨_, rfl, h1.bs.mono fun x hx => List.mem_append_left _ hx⟩
    | succ i =>
      obtain ⟨u, h2, h3⟩ := ih i (by simpa using hi)
      exact ⟨u, by simpa using h2, h3.mono fun x hx => List.mem_append_right _ hx⟩
theorem Obs.one_cells {T : TypeId} {vs : List Value} {ls : List (List (BitVec 8))} {D : List Ck} (h : Obs T vs ls D) : ∀ u ∈ vs, u.oneCell' = true := by
  induction h with
  | nil => intro u hu; cases hu
  | cons h1 _ ih =>
    intro u hu
    rcases List.mem_cons.1 hu with rfl | hu
    · obtain ⟨_, _, rfl, _⟩ := h1.form; rfl
    · exact ih u hu
/-- a list of slices of our own can be read -/
theorem Obs.bss {T E : TypeId} {v : Value} {vs : List Value} {ls : List (List (BitVec 8))} {C D : List Ck} (h : Obs T vs ls D) (o : Own v ls.length vs E 1 C) : Bss v ls (C ++ D) :=
  ⟨vs, o.rs.mono fun x hx => List.mem_append_left _ hx, h.length, fun i hi => by
    obtain ⟨u, h2, h3⟩ := h.get i hi
    exact ⟨u, h2, h3.mono fun x hx => List.mem_append_right _ hx⟩⟩
theorem Ob.one_cell {T : TypeId} {v : Value} {l : List (BitVec 8)} {C : List Ck} (h : Ob T v l C) : v.oneCell' = true := by
  obtain ⟨_, _, rfl, _⟩ := h.form; rfl
theorem perm_out (r : Ck) (G C X : List Ck) : (r :: (G ++ (C ++ X))).Perm (C ++ (r :: (G ++ X))) := by
  refine List.Perm.trans ?_ (List.perm_middle).symm
  refine List.Perm.cons _ ?_
  rw [← List.append_assoc, ← List.append_assoc]
  exact List.Perm.append_right X List.perm_append_comm
theorem perm_in (C G D X : List Ck) : (C ++ (G ++ (D ++ X))).Perm (C ++ ((D ++ G) ++ X)) := by
  refine List.Perm.append_left C ?_
  rw [← List.append_assoc]
  exact List.Perm.append_right X List.perm_append_comm

end Go.SL
