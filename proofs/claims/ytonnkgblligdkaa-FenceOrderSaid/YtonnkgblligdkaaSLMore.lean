/-
  More rules on operations: slices of one value, 'make', truth values in rows, slices of slices of bytes.
-/
import Derived.Test.YtonnkgblligdkaaSLOps
set_option linter.unusedVariables false
set_option linter.unusedSimpArgs false
namespace Go.SL

variable {P : Program} {l : Sl} {H : List Ck} {d : Option Nat} {ty : TypeId} {pos : String} {aft : Array Edge} {g : Option (Nat × Bool)}

/-- the return of a result that lies in memory, which is forgotten then -/
theorem DN.retCF {n : Nat} {w0 : World} {R : List Ck} {fn : Func} {Post : Value → List Ck → Prop} {t T s b : Nat} {cs : List Value} {T' : TypeId} {fr : Nat × Nat} {ex : Bool} (H' : List Ck) (hr : fn.results = #[.cell t T]) (hT : isAggOf P T s = true) (hv : getv l t = some (.pointer (some ⟨b, 0, none⟩)))
    (hm : (⟨b, .cells cs.toArray T' fr, ex⟩ : Ck) ∈ H) (hs : cs.length = s) (hH : H'.Sublist H) (hp : Post (.agg cs.toArray) H') : DN P n w0 R (bodyPost P fn (Back P w0 R Post)) .ret l H := fun a w i => by
  have h := i.sat.holds _ (List.mem_append_left R hm)
  have hl := run_loadCells_list (P := P) w ⟨b, 0, none⟩ cs (fun j v hv => by rw [add_plain, cell_at h]; simpa using hv)
  rw [hs] at hl
  have hv' := i.kn t _ hv
  simp only [Array.getD_eq_getD_getElem?] at hv'
  refine bodyPost_ret (v := .agg cs.toArray) ?_ i.defers ⟨_, H', rfl, hp, i.sat.sublist (hH.append_right R), i.kept⟩
  simp [results, hr, hv', asAddr, loadVar, (run_isAgg_yes hT w).1, (run_isAgg_yes hT w).2, hl]

/-- '[]T{x}', T of one cell -/
theorem Hd.build1 {T e : TypeId} {x : Operand} {v z : Value} {K : Next → List Ck → Prop} (hT : sliceOf P T = some e) (hS : szOf P e = some 1) (hz : zeroOf P e = some [z]) (hx : ev l x = some v) (h1 : v.oneCell' = true)
    (k : ∀ b, K (.value (.slice (some ⟨b, 0, none⟩) 1 1)) (row b [v] e :: H)) : Hd P ⟨d, .buildSlice T 1 #[(0, x)], ty, pos, aft, g⟩ l H K := by
  have hc : v.cells = #[v] := by cases v <;> first | rfl | cases h1
  refine Hd.buildSlice (parts := [(0, x)]) (vs := [(0, v)]) (cells := [v]) hT hS hz (by simp [hx]) rfl ?_ k
  have h01 : Array.range 1 = #[0] := rfl
  simp [Instr.fill, hc, h01]

/-- 'make([]T, n)', T of one cell -/
theorem Hd.make1 {T e n bytes : Nat} {x y : Operand} {z : Value} {k1 k2 : IntKind} {m m' : Int} {K : Next → List Ck → Prop} (hT : sliceOf P T = some e) (hE : elemInfo P e = some (1, [z], bytes)) (hx : ev l x = some (.int k1 m)) (hy : ev l y = some (.int k2 m')) (hm : m = (n : Int)) (hm' : m' = (n : Int)) (hb : bytes * n ≤ 140737488355328) (hn : n ≤ 4611686018427387904)
    (k : ∀ b, K (.value (.slice (some ⟨b, 0, none⟩) n n)) (row b (List.replicate n z) e :: H)) : Hd P ⟨d, .makeSlice T x y, ty, pos, aft, g⟩ l H K := fun a w R kn s => by
  obtain ⟨i, zz, hi, hzr, hs1, hby, hzc⟩ := elemInfo_spec hE
  subst hm hm'
  have hw : IntKind.i64.wrap (n : Int) = n := wrap64_in (by omega) (by omega)
  refine ⟨_, _, row w.heap.size (List.replicate n z) e :: H, ?_, s.push (.cells (List.replicate n z).toArray e) true, ⟨rfl, rfl, rfl, by simp, by first | exact Nat.le_refl _ | exact Nat.le_succ _⟩, k w.heap.size⟩
  have hbig : ¬ ((i.bytes : Int) * (n : Int) > 2 ^ 48) := by
    rw [hby]
    have : ((bytes * n : Nat) : Int) ≤ 140737488355328 := by omega
    rw [Int.natCast_mul] at this
    have e : (2 : Int) ^ 48 = 281474976710656 := by decide
    omega
  have hneg : ¬ ((n : Int) < 0) := by omega
  have hz2 : zz.cells = #[z] := by apply Array.ext'; simpa using hzc
  have hcells : ∀ m, (Array.range m).map (fun x => (#[z] : Array Value)[x % 1]!) = (List.replicate m z).toArray := fun m => by
    apply Array.ext
    · simp
    · intro j h1 h2; simp [Nat.mod_one]
  simp only [execOp, kn.ev hx, kn.ev hy, Instr.makeSlice]
  by_cases h0 : n = 0
  · subst h0
    have hw0 : IntKind.i64.wrap 0 = 0 := wrap64_in (by omega) (by omega)
    have h00 : Array.range 0 = #[] := rfl
    simp [hw0, h00, run_underlying (underlying_slice hT), asInt, asIntOf, typeInfo, hi, hw, sizeOf, hs1, newRow]
  · have hbig' : ¬ (281474976710656 < (i.bytes : Int) * (n : Int)) := by
      have e : (2 : Int) ^ 48 = 281474976710656 := by decide
      omega
    have hcells' : Array.map (fun x => [z][x % 1]?.getD default) (Array.range n) = Array.replicate n z := by
      apply Array.ext
      · simp
      · intro j h1 h2; simp [Nat.mod_one]
    simp [hcells', hbig', run_underlying (underlying_slice hT), asInt, asIntOf, typeInfo, hi, hw, hbig, hneg, sizeOf, hs1, h0, zeroValue, hzr, hz2, newRow, hcells]

/-- the cells of truth values -/
def boc (l : List Bool) : List Value := l.map Value.bool
theorem boc_length (l : List Bool) : (boc l).length = l.length := by simp [boc]
theorem boc_get {l : List Bool} {i : Nat} (h : i < l.length) : (boc l)[i]? = some (.bool l[i]) := by simp [boc, h]
theorem boc_getD {l : List Bool} {i : Nat} (h : i < l.length) : (boc l)[i]? = some (.bool (l.getD i false)) := by simp [boc, h]
theorem boc_set (l : List Bool) (i : Nat) (b : Bool) : (boc l).set i (.bool b) = boc (l.set i b) := by simp [boc, List.map_set]
theorem boc_append (a b : List Bool) : boc (a ++ b) = boc a ++ boc b := by simp [boc]
theorem boc_one (l : List Bool) : ∀ u ∈ boc l, u.oneCell' = true := by
  intro u hu
  simp [boc] at hu
  rcases hu with ⟨_, rfl⟩ | ⟨_, rfl⟩ <;> rfl

theorem bc_set (l : List (BitVec 8)) (i : Nat) (x : BitVec 8) : (bc l).set i (.int .u8 x.toNat) = bc (l.set i x) := by simp [bc, List.map_set]
theorem bc_getD {l : List (BitVec 8)} {i : Nat} (h : i < l.length) : (bc l)[i]? = some (.int .u8 (l.getD i 0#8).toNat) := by simp [bc, h]
theorem set_front {α : Type} (a b : List α) (i : Nat) (x : α) (h : i < a.length) : (a ++ b).set i x = a.set i x ++ b := by rw [List.set_append_left _ _ h]

/-- numbers of kind int in a row -/
def ic (l : List Int) : List Value := l.map (Value.int .i64)
theorem ic_length (l : List Int) : (ic l).length = l.length := by simp [ic]
theorem ic_getD {l : List Int} {i : Nat} (h : i < l.length) : (ic l)[i]? = some (.int .i64 (l.getD i 0)) := by simp [ic, h]
theorem ic_get {l : List Int} {i : Nat} (h : i < l.length) : (ic l)[i]? = some (.int .i64 l[i]) := by simp [ic, h]
theorem ic_append (a b : List Int) : ic (a ++ b) = ic a ++ ic b := by simp [ic]
theorem ic_one (l : List Int) : ∀ u ∈ ic l, u.oneCell' = true := by
  intro u hu
  simp [ic] at hu
  obtain ⟨x, _, rfl⟩ := hu
  rfl

/-- v is a slice of slices of these bytes -/
def Bss (v : Value) (ls : List (List (BitVec 8))) (H : List Ck) : Prop :=
  ∃ vs : List Value, Rs v ls.length vs H ∧ vs.length = ls.length ∧ ∀ i (h : i < ls.length), ∃ u, vs[i]? = some u ∧ Bs u ls[i] H
theorem Bss.form {v : Value} {ls : List (List (BitVec 8))} {H : List Ck} (h : Bss v ls H) : ∃ ao cap, v = .slice ao ls.length cap ∧ ls.length ≤ cap := by
  obtain ⟨vs, h, _⟩ := h
  exact h.form
theorem Bss.mono {v : Value} {ls : List (List (BitVec 8))} {A B : List Ck} (h : Bss v ls A) (s : ∀ c ∈ A, c ∈ B) : Bss v ls B := by
  obtain ⟨vs, h1, h2, h3⟩ := h
  exact ⟨vs, h1.mono s, h2, fun i hi => by obtain ⟨u, h4, h5⟩ := h3 i hi; exact ⟨u, h4, h5.mono s⟩⟩
/-- the values of the elements, as a function -/
theorem Bss.open {v : Value} {ls : List (List (BitVec 8))} {H : List Ck} (h : Bss v ls H) : ∃ vs : List Value, Rs v ls.length vs H ∧ vs.length = ls.length ∧ ∀ i (h : i < ls.length), ∃ ao c, vs[i]? = some (.slice ao ls[i].length c) ∧ Bs (.slice ao ls[i].length c) ls[i] H := by
  obtain ⟨vs, h1, h2, h3⟩ := h
  refine ⟨vs, h1, h2, fun i hi => ?_⟩
  obtain ⟨u, h4, h5⟩ := h3 i hi
  obtain ⟨ao, c, rfl, _⟩ := h5.form
  exact ⟨ao, c, h4, h5⟩

end Go.SL
