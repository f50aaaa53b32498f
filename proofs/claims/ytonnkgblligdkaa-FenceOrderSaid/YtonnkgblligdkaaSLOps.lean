/-
  The rules on single operations, over any program: slots alone ('Yd'), memory ('Hd').
-/
import Derived.Test.YtonnkgblligdkaaSL
import Derived.WalkKit
import Derived.KernelRfl
set_option linter.unusedVariables false
set_option linter.unusedSimpArgs false
namespace Go.SL
open Go.RowKit (Below)

variable {P : Program} {l : Sl} {H : List Ck} {d : Option Nat} {ty : TypeId} {pos : String} {aft : Array Edge} {g : Option (Nat × Bool)}

/-! ### closed facts on types, each by 'kernel_rfl' -/
def aggB (P : Program) (t : TypeId) : Bool := match P.underlying t with | some (.struct _) | some (.array _ _) => true | some _ => false | none => true
def szOf (P : Program) (t : TypeId) : Option Nat := (P.info? t).map (·.size)
def isAggOf (P : Program) (t : TypeId) (s : Nat) : Bool := match P.underlying t with | some (.struct _) | some (.array _ _) => szOf P t == some s | _ => false
def intOfTy (P : Program) (t : TypeId) : Option IntKind := match P.underlying t with | some (.int k) => some k | _ => none
def sliceOf (P : Program) (t : TypeId) : Option TypeId := match P.underlying t with | some (.slice e) => some e | _ => none
def arrayOf (P : Program) (t : TypeId) : Option (Nat × TypeId) := match P.underlying t with | some (.array n e) => some (n, e) | _ => none
def fieldOff (P : Program) (s f : Nat) : Option Nat := match P.underlying s with
  | some (.struct fs) => (match fs[f]? with
    | some fl => (match P.info? fl.type with | some i => if i.size = 0 then none else some fl.offset | none => none)
    | none => none)
  | _ => none
/-- whether a type's values are several cells -/
def aggK (P : Program) (t : TypeId) : Option Bool := match P.underlying t with | some (.struct _) | some (.array _ _) => some true | some _ => some false | none => none
/-- where a field lies in a value: its place, its size, whether it is one of several cells -/
def fieldPart (P : Program) (s f : Nat) : Option (Nat × Nat × Bool) := match P.underlying s with
  | some (.struct fs) => (match fs[f]? with
    | some fl => (match P.info? fl.type, aggK P fl.type with | some i, some b => some (fl.offset, i.size, b) | _, _ => none)
    | none => none)
  | _ => none
/-- of an element type: its size, its zero cells, its bytes -/
def elemInfo (P : Program) (e : TypeId) : Option (Nat × List Value × Nat) := match P.info? e with
  | some i => (match i.zero with | some z => some (i.size, z.cells.toList, i.bytes) | none => none)
  | none => none

theorem run_isAgg_no {t : TypeId} (h : aggB P t = false) (w : World) : (isAgg t).run P w = .ok false w := by
  unfold aggB at h
  split at h
  · cases h
  · cases h
  · rename_i x d h1 h2 hu
    simp only [isAgg, underlying]
    simp [hu]
  · cases h

theorem run_isAgg_of {t : TypeId} {b : Bool} (h : aggK P t = some b) (w : World) : (isAgg t).run P w = .ok b w := by
  unfold aggK at h
  split at h
  · rename_i fs hu; simp at h; subst h; simp [isAgg, underlying, hu]
  · rename_i n e hu; simp at h; subst h; simp [isAgg, underlying, hu]
  · rename_i x d' h1 h2 hu
    simp at h
    subst h
    simp only [isAgg, underlying]
    simp [hu]
  · cases h

theorem run_isAgg_yes {t s : Nat} (h : isAggOf P t s = true) (w : World) : (isAgg t).run P w = .ok true w ∧ (sizeOf t).run P w = .ok s w := by
  unfold isAggOf szOf at h
  split at h
  · rename_i fs hu
    simp at h
    obtain ⟨i, hi, hs⟩ := h
    exact ⟨by simp [isAgg, underlying, hu], by simp [sizeOf, typeInfo, hi, hs]⟩
  · rename_i n e hu
    simp at h
    obtain ⟨i, hi, hs⟩ := h
    exact ⟨by simp [isAgg, underlying, hu], by simp [sizeOf, typeInfo, hi, hs]⟩
  · cases h

theorem run_sizeOf {t s : Nat} (h : szOf P t = some s) (w : World) : (sizeOf t).run P w = .ok s w := by
  simp [szOf] at h
  obtain ⟨i, hi, hs⟩ := h
  simp [sizeOf, typeInfo, hi, hs]
theorem underlying_slice {t e : Nat} (h : sliceOf P t = some e) : P.underlying t = some (.slice e) := by
  unfold sliceOf at h; split at h <;> simp_all
theorem underlying_array {t n e : Nat} (h : arrayOf P t = some (n, e)) : P.underlying t = some (.array n e) := by
  unfold arrayOf at h; split at h <;> simp_all
theorem underlying_int {t : Nat} {k : IntKind} (h : intOfTy P t = some k) : P.underlying t = some (.int k) := by
  unfold intOfTy at h; split at h <;> simp_all

/-! ### what a wrap is -/
theorem wrap64_in {n : Int} (h1 : -9223372036854775808 ≤ n) (h2 : n ≤ 9223372036854775807) : IntKind.i64.wrap n = n := IntWalk.i64_in n ⟨h1, h2⟩

/-! ### slots -/
theorem Yd.move {x : Operand} {v : Value} (h : ev l x = some v) : Yd P ⟨d, .move x, ty, pos, aft, g⟩ l v := fun a k w => by
  simp [execOp, k.ev h]
theorem Yd.assign {x : Operand} {v : Value} (h : ev l x = some v) : Yd P ⟨d, .assign x, ty, pos, aft, g⟩ l v := fun a k w => by
  simp [execOp, k.ev h]
theorem Yd.pick {c x y : Operand} {b : Bool} {u v : Value} (hc : ev l c = some (.bool b)) (hx : ev l x = some u) (hy : ev l y = some v) : Yd P ⟨d, .pick c x y, ty, pos, aft, g⟩ l (if b then u else v) := fun a k w => by
  simp [execOp, k.ev hc, k.ev hx, k.ev hy, asBool]
theorem Yd.pickT {c x y : Operand} {u : Value} (hc : ev l c = some (.bool true)) (hx : ev l x = some u) : Yd P ⟨d, .pick c x y, ty, pos, aft, g⟩ l u := fun a k w => by
  simp [execOp, k.ev hc, k.ev hx, asBool]
theorem Yd.pickF {c x y : Operand} {v : Value} (hc : ev l c = some (.bool false)) (hy : ev l y = some v) : Yd P ⟨d, .pick c x y, ty, pos, aft, g⟩ l v := fun a k w => by
  simp [execOp, k.ev hc, k.ev hy, asBool]
theorem Yd.extract {x : Operand} {i : Nat} {vs : Array Value} {v : Value} (hx : ev l x = some (.tuple vs)) (hv : vs[i]? = some v) : Yd P ⟨d, .extract x i, ty, pos, aft, g⟩ l v := fun a k w => by
  simp [execOp, k.ev hx, Instr.extract, hv]
theorem Yd.notNil {x : Operand} {p : Addr} (hx : ev l x = some (.pointer (some p))) : Yd P ⟨d, .nilCheck x, ty, pos, aft, g⟩ l (.pointer (some p)) := fun a k w => by
  simp [execOp, k.ev hx]
theorem Yd.notB {x : Operand} {T : TypeId} {b : Bool} (hx : ev l x = some (.bool b)) : Yd P ⟨d, .unOp .not T x, ty, pos, aft, g⟩ l (.bool (!b)) := fun a k w => by
  simp [execOp, k.ev hx, Op.unary]
theorem Yd.len {x : Operand} {T : TypeId} {e : TypeId} {ao : Option Addr} {n c : Nat} (hT : sliceOf P T = some e) (hx : ev l x = some (.slice ao n c)) : Yd P ⟨d, .call ⟨.builtin .len, #[x], #[T]⟩, ty, pos, aft, g⟩ l (.int .i64 n) := fun a k w => by
  simp [execOp, resolve, invoke, builtin, k.ev hx, Builtin.len_, run_underlying (underlying_slice hT), goInt]
theorem Yd.lenS {x : Operand} {T : TypeId} {s : ByteArray} (hT : P.underlying T = some .string) (hx : ev l x = some (.string s)) : Yd P ⟨d, .call ⟨.builtin .len, #[x], #[T]⟩, ty, pos, aft, g⟩ l (.int .i64 s.size) := fun a k w => by
  simp [execOp, resolve, invoke, builtin, k.ev hx, Builtin.len_, run_underlying hT, goInt]

theorem add_plain (b o n : Nat) : (⟨b, o, none⟩ : Addr).add n = ⟨b, o + n, none⟩ := by
  unfold Addr.add; split <;> simp_all

theorem Yd.fieldAddr {x : Operand} {S f b o k : Nat} (hf : fieldOff P S f = some k) (hx : ev l x = some (.pointer (some ⟨b, o, none⟩))) : Yd P ⟨d, .fieldAddr S x f, ty, pos, aft, g⟩ l (.pointer (some ⟨b, o + k, none⟩)) := fun a kn w => by
  unfold fieldOff at hf
  split at hf
  · rename_i fs hu
    split at hf
    · rename_i fl hfl
      split at hf
      · rename_i i hi
        split at hf
        · cases hf
        · rename_i hz
          simp at hf
          subst hf
          simp [execOp, kn.ev hx, Instr.fieldAt, run_underlying hu, hfl, Instr.sureAddr, fieldPlace, sizeOf, typeInfo, hi, hz, add_plain]
      · cases hf
    · cases hf
  · cases hf

theorem Yd.indexAddr {x y : Operand} {T e s b o n c : Nat} {k : IntKind} {m : Int} (hT : sliceOf P T = some e) (hs : szOf P e = some s) (hx : ev l x = some (.slice (some ⟨b, o, none⟩) n c)) (hy : ev l y = some (.int k m)) (h0 : 0 ≤ m) (hm : m < n) :
    Yd P ⟨d, .indexAddr T x y, ty, pos, aft, g⟩ l (.pointer (some ⟨b, o + m.toNat * s, none⟩)) := fun a kn w => by
  simp [execOp, kn.ev hx, kn.ev hy, Instr.indexAt, asIntOf, run_underlying (underlying_slice hT), run_sizeOf hs, h0, hm, add_plain]
theorem Yd.indexArr {x y : Operand} {T e s b o n : Nat} {k : IntKind} {m : Int} (hT : arrayOf P T = some (n, e)) (hs : szOf P e = some s) (hx : ev l x = some (.pointer (some ⟨b, o, none⟩))) (hy : ev l y = some (.int k m)) (h0 : 0 ≤ m) (hm : m < n) :
    Yd P ⟨d, .indexAddr T x y, ty, pos, aft, g⟩ l (.pointer (some ⟨b, o + m.toNat * s, none⟩)) := fun a kn w => by
  simp [execOp, kn.ev hx, kn.ev hy, Instr.indexAt, asIntOf, run_underlying (underlying_array hT), run_sizeOf hs, Instr.sureAddr, h0, hm, add_plain]

/-- 'x[lo:hi]' of a slice. -/
theorem Yd.slice {x : Operand} {lo hi : Option Operand} {T e s : Nat} {ao : Option Addr} {n c : Nat} {i j : Nat} (hT : sliceOf P T = some e) (hs : szOf P e = some s) (hx : ev l x = some (.slice ao n c))
    (hl : match lo with | none => i = 0 | some y => ∃ k m, ev l y = some (.int k m) ∧ m = (i : Int)) (hh : match hi with | none => j = n | some y => ∃ k m, ev l y = some (.int k m) ∧ m = (j : Int)) (h1 : i ≤ j) (h2 : j ≤ c) :
    Yd P ⟨d, .slice T x lo hi none, ty, pos, aft, g⟩ l (.slice (if c = i then ao else ao.map (·.add (i * s))) (j - i) (c - i)) := fun a kn w => by
  have hu := run_underlying (underlying_slice hT)
  have ho : ∀ (y : Operand) (k : IntKind) (m : Int), ev l y = some (.int k m) → a.eval y = .int k m := fun y k m h => kn.ev h
  cases lo with
  | none =>
    subst hl
    cases hi with
    | none => subst hh; simp [execOp, kn.ev hx, Instr.sliceAt, Instr.slice, hu, Instr.sliceBounds, run_sizeOf hs]
    | some y =>
      obtain ⟨k, m, hy, rfl⟩ := hh
      simp [execOp, kn.ev hx, Instr.sliceAt, Instr.slice, hu, Instr.sliceBounds, Instr.sliceBound, asIntOf, ho y k _ hy, run_sizeOf hs, Int.ofNat_le, h1, h2]
  | some z =>
    obtain ⟨k', m', hz, rfl⟩ := hl
    cases hi with
    | none => subst hh; simp [execOp, kn.ev hx, Instr.sliceAt, Instr.slice, hu, Instr.sliceBounds, Instr.sliceBound, asIntOf, ho z k' _ hz, run_sizeOf hs, Int.ofNat_le, h1, h2]
    | some y =>
      obtain ⟨k, m, hy, rfl⟩ := hh
      simp [execOp, kn.ev hx, Instr.sliceAt, Instr.slice, hu, Instr.sliceBounds, Instr.sliceBound, asIntOf, ho y k _ hy, ho z k' _ hz, run_sizeOf hs, Int.ofNat_le, h1, h2]

theorem fieldPart_spec {S f o n : Nat} {b : Bool} (hf : fieldPart P S f = some (o, n, b)) : ∃ fs fl i, P.underlying S = some (.struct fs) ∧ fs[f]? = some fl ∧ P.info? fl.type = some i ∧ fl.offset = o ∧ i.size = n ∧ aggK P fl.type = some b := by
  unfold fieldPart at hf
  split at hf
  · rename_i fs hu
    split at hf
    · rename_i fl hfl
      split at hf
      · rename_i i b' hi hb
        simp at hf
        obtain ⟨h1, h2, h3⟩ := hf
        subst h3
        exact ⟨fs, fl, i, hu, hfl, hi, h1, h2, hb⟩
      · cases hf
    · cases hf
  · cases hf
/-- A field of a value. -/
theorem Yd.field1 {x : Operand} {S f o n : Nat} {cs : Array Value} {v : Value} (hf : fieldPart P S f = some (o, n, false)) (hx : ev l x = some (.agg cs)) (hv : cs[o]? = some v) : Yd P ⟨d, .field S x f, ty, pos, aft, g⟩ l v := fun a kn w => by
  obtain ⟨fs, fl, i, hu, hfl, hi, rfl, rfl, hb⟩ := fieldPart_spec hf
  simp [execOp, kn.ev hx, Instr.field, run_underlying hu, hfl, part, run_isAgg_of hb, asAgg, hv]
theorem Yd.fieldA {x : Operand} {S f o n : Nat} {cs vs : Array Value} (hf : fieldPart P S f = some (o, n, true)) (hx : ev l x = some (.agg cs)) (hv : cs.extract o (o + n) = vs) : Yd P ⟨d, .field S x f, ty, pos, aft, g⟩ l (.agg vs) := fun a kn w => by
  subst hv
  obtain ⟨fs, fl, i, hu, hfl, hi, rfl, rfl, hb⟩ := fieldPart_spec hf
  simp [execOp, kn.ev hx, Instr.field, run_underlying hu, hfl, part, run_isAgg_of hb, sizeOf, typeInfo, hi, asAgg]

/-! numbers of kind int -/
theorem run_eqGuard_int (op : BinOp) (T : TypeId) (x y : Operand) (k k' : IntKind) (m m' : Int) (w : World) : (eqGuard op T x y (.int k m) (.int k' m')).run P w = .ok () w := by
  cases op <;> rfl
theorem Yd.bin {op : BinOp} {T T' : TypeId} {x y : Operand} {k : IntKind} {m m' : Int} {v : Value} (hx : ev l x = some (.int k m)) (hy : ev l y = some (.int k m')) (hr : ∀ w, (binOp op T (.int k m) (.int k m')).run P w = .ok v w) : Yd P ⟨d, .binOp op T x y T', ty, pos, aft, g⟩ l v := fun a kn w => by
  simp only [execOp, kn.ev hx, kn.ev hy, Sem.run_bind, run_eqGuard_int, Result.andThen_ok, hr, Sem.run_pure]
theorem Yd.add {T T' : TypeId} {x y : Operand} {m m' : Int} (hx : ev l x = some (.int .i64 m)) (hy : ev l y = some (.int .i64 m')) (h1 : -9223372036854775808 ≤ m + m') (h2 : m + m' ≤ 9223372036854775807) : Yd P ⟨d, .binOp .add T x y T', ty, pos, aft, g⟩ l (.int .i64 (m + m')) :=
  Yd.bin hx hy fun w => by simp [binOp, Op.intArith, wrap64_in h1 h2]
theorem Yd.sub {T T' : TypeId} {x y : Operand} {m m' : Int} (hx : ev l x = some (.int .i64 m)) (hy : ev l y = some (.int .i64 m')) (h1 : -9223372036854775808 ≤ m - m') (h2 : m - m' ≤ 9223372036854775807) : Yd P ⟨d, .binOp .sub T x y T', ty, pos, aft, g⟩ l (.int .i64 (m - m')) :=
  Yd.bin hx hy fun w => by simp [binOp, Op.intArith, wrap64_in h1 h2]
theorem Yd.mul {T T' : TypeId} {x y : Operand} {m m' : Int} (hx : ev l x = some (.int .i64 m)) (hy : ev l y = some (.int .i64 m')) (h1 : -9223372036854775808 ≤ m * m') (h2 : m * m' ≤ 9223372036854775807) : Yd P ⟨d, .binOp .mul T x y T', ty, pos, aft, g⟩ l (.int .i64 (m * m')) :=
  Yd.bin hx hy fun w => by simp [binOp, Op.intArith, wrap64_in h1 h2]
theorem Yd.quo {T T' : TypeId} {x y : Operand} {m m' : Int} (hx : ev l x = some (.int .i64 m)) (hy : ev l y = some (.int .i64 m')) (h0 : 0 ≤ m) (h2 : m ≤ 9223372036854775807) (h1 : 1 ≤ m') : Yd P ⟨d, .binOp .quo T x y T', ty, pos, aft, g⟩ l (.int .i64 (m / m')) :=
  Yd.bin hx hy fun w => by
    have hne : ¬ m' = 0 := by omega
    simp [binOp, Op.intDiv, hne, IntWalk.i64_quo m m' ⟨h0, h2, h1⟩]
theorem Yd.rem {T T' : TypeId} {x y : Operand} {m m' : Int} (hx : ev l x = some (.int .i64 m)) (hy : ev l y = some (.int .i64 m')) (h0 : 0 ≤ m) (h1 : 1 ≤ m') : Yd P ⟨d, .binOp .rem T x y T', ty, pos, aft, g⟩ l (.int .i64 (m % m')) :=
  Yd.bin hx hy fun w => by
    have hne : ¬ m' = 0 := by omega
    simp [binOp, Op.intDiv, hne, Int.tmod_eq_emod_of_nonneg h0]
theorem Yd.lss {T T' : TypeId} {x y : Operand} {k : IntKind} {m m' : Int} (hx : ev l x = some (.int k m)) (hy : ev l y = some (.int k m')) : Yd P ⟨d, .binOp .lss T x y T', ty, pos, aft, g⟩ l (.bool (decide (m < m'))) :=
  Yd.bin hx hy fun w => by simp [binOp, Op.intCmp]
theorem Yd.leq {T T' : TypeId} {x y : Operand} {k : IntKind} {m m' : Int} (hx : ev l x = some (.int k m)) (hy : ev l y = some (.int k m')) : Yd P ⟨d, .binOp .leq T x y T', ty, pos, aft, g⟩ l (.bool (decide (m ≤ m'))) :=
  Yd.bin hx hy fun w => by simp [binOp, Op.intCmp]
theorem Yd.gtr {T T' : TypeId} {x y : Operand} {k : IntKind} {m m' : Int} (hx : ev l x = some (.int k m)) (hy : ev l y = some (.int k m')) : Yd P ⟨d, .binOp .gtr T x y T', ty, pos, aft, g⟩ l (.bool (decide (m' < m))) :=
  Yd.bin hx hy fun w => by simp [binOp, Op.intCmp]
theorem Yd.geq {T T' : TypeId} {x y : Operand} {k : IntKind} {m m' : Int} (hx : ev l x = some (.int k m)) (hy : ev l y = some (.int k m')) : Yd P ⟨d, .binOp .geq T x y T', ty, pos, aft, g⟩ l (.bool (decide (m' ≤ m))) :=
  Yd.bin hx hy fun w => by simp [binOp, Op.intCmp]
theorem Yd.eql {T T' : TypeId} {x y : Operand} {k : IntKind} {m m' : Int} (hx : ev l x = some (.int k m)) (hy : ev l y = some (.int k m')) : Yd P ⟨d, .binOp .eql T x y T', ty, pos, aft, g⟩ l (.bool (decide (m = m'))) :=
  Yd.bin hx hy fun w => by simp [binOp, Op.intCmp]; rfl
theorem Yd.neq {T T' : TypeId} {x y : Operand} {k : IntKind} {m m' : Int} (hx : ev l x = some (.int k m)) (hy : ev l y = some (.int k m')) : Yd P ⟨d, .binOp .neq T x y T', ty, pos, aft, g⟩ l (.bool (decide (m ≠ m'))) :=
  Yd.bin hx hy fun w => by
    simp [binOp, Op.intCmp, bne]
    by_cases h : m = m' <;> simp [h]
/-- A number of one kind made one of kind int that holds it. -/
theorem Yd.toInt {x : Operand} {S T : TypeId} {k : IntKind} {m : Int} (hS : (P.underlying S).isSome = true) (hT : intOfTy P T = some .i64) (hx : ev l x = some (.int k m)) (h1 : -9223372036854775808 ≤ m) (h2 : m ≤ 9223372036854775807) : Yd P ⟨d, .convert S T x, ty, pos, aft, g⟩ l (.int .i64 m) := fun a kn w => by
  obtain ⟨dS, hS'⟩ := Option.isSome_iff_exists.mp hS
  simp [execOp, kn.ev hx, convert, run_underlying hS', run_underlying (underlying_int hT), Conv.intToInt, wrap64_in h1 h2]
theorem run_equal_bool {T : TypeId} (hT : P.underlying T = some .bool) (a b : Bool) (w : World) : (Op.equal T (.bool a) (.bool b)).run P w = .ok (a == b) w := by
  have h : ∀ d, (Op.equalIn (d + 1) T (.bool a) (.bool b)).run P w = .ok (a == b) w := fun d => by simp [Op.equalIn, run_underlying hT]
  exact h 9999
theorem run_equal_nil {T e : TypeId} (hT : P.underlying T = some (.pointer e)) (p : Option Addr) (w : World) : (Op.equal T (.pointer p) (.pointer none)).run P w = .ok p.isNone w := by
  have h : ∀ d, (Op.equalIn (d + 1) T (.pointer p) (.pointer none)).run P w = .ok p.isNone w := fun d => by cases p <;> simp [Op.equalIn, run_underlying hT]
  exact h 9999
/-- The one and the other truth value. -/
theorem Yd.eqlB {T T' : TypeId} {x y : Operand} {b b' : Bool} (hT : P.underlying T = some .bool) (hx : ev l x = some (.bool b)) (hy : ev l y = some (.bool b')) : Yd P ⟨d, .binOp .eql T x y T', ty, pos, aft, g⟩ l (.bool (b == b')) := fun a kn w => by
  have : (eqGuard .eql T x y (.bool b) (.bool b')).run P w = .ok () w := by unfold eqGuard; simp
  simp [execOp, kn.ev hx, kn.ev hy, this, binOp, run_equal_bool hT]
theorem Yd.neqB {T T' : TypeId} {x y : Operand} {b b' : Bool} (hT : P.underlying T = some .bool) (hx : ev l x = some (.bool b)) (hy : ev l y = some (.bool b')) : Yd P ⟨d, .binOp .neq T x y T', ty, pos, aft, g⟩ l (.bool (!(b == b'))) := fun a kn w => by
  have : (eqGuard .neq T x y (.bool b) (.bool b')).run P w = .ok () w := by unfold eqGuard; simp
  simp [execOp, kn.ev hx, kn.ev hy, this, binOp, run_equal_bool hT]
/-- A pointer against nil. -/
theorem Yd.eqlNil {T T' e : TypeId} {x y : Operand} {p : Option Addr} (hT : P.underlying T = some (.pointer e)) (hx : ev l x = some (.pointer p)) (hy : ev l y = some (.pointer none)) : Yd P ⟨d, .binOp .eql T x y T', ty, pos, aft, g⟩ l (.bool p.isNone) := fun a kn w => by
  have : (eqGuard .eql T x y (.pointer p) (.pointer none)).run P w = .ok () w := by unfold eqGuard; simp
  cases p <;> simp [execOp, kn.ev hx, kn.ev hy, this, binOp, run_equal_nil hT]
theorem Yd.neqNil {T T' e : TypeId} {x y : Operand} {p : Option Addr} (hT : P.underlying T = some (.pointer e)) (hx : ev l x = some (.pointer p)) (hy : ev l y = some (.pointer none)) : Yd P ⟨d, .binOp .neq T x y T', ty, pos, aft, g⟩ l (.bool p.isSome) := fun a kn w => by
  have : (eqGuard .neq T x y (.pointer p) (.pointer none)).run P w = .ok () w := by unfold eqGuard; simp
  cases p <;> simp [execOp, kn.ev hx, kn.ev hy, this, binOp, run_equal_nil hT]
theorem Yd.min2 {x y : Operand} {Ts : Array TypeId} {k k' : IntKind} {m m' : Int} (hx : ev l x = some (.int k m)) (hy : ev l y = some (.int k' m')) : Yd P ⟨d, .call ⟨.builtin .min, #[x, y], Ts⟩, ty, pos, aft, g⟩ l (.int k (min m m')) := fun a kn w => by
  have : (if m' < m then m' else m) = min m m' := by simp only [Int.min_def]; split <;> split <;> omega
  simp [execOp, resolve, invoke, builtin, kn.ev hx, kn.ev hy, Builtin.min_, Builtin.min2, this]
theorem Yd.max2 {x y : Operand} {Ts : Array TypeId} {k k' : IntKind} {m m' : Int} (hx : ev l x = some (.int k m)) (hy : ev l y = some (.int k' m')) : Yd P ⟨d, .call ⟨.builtin .max, #[x, y], Ts⟩, ty, pos, aft, g⟩ l (.int k (max m m')) := fun a kn w => by
  have : (if m' > m then m' else m) = max m m' := by simp only [Int.max_def]; split <;> split <;> omega
  simp [execOp, resolve, invoke, builtin, kn.ev hx, kn.ev hy, Builtin.max_, Builtin.max2, this]

/-! numbers of kind u8: each the number of a vector of 8 bits -/
theorem wrap8_u (n : Int) : IntKind.u8.wrap n = ((BitVec.ofInt 8 n).toNat : Int) := by
  simp [IntKind.wrap, IntKind.bits, IntKind.signed, BitVec.toNat_ofInt]
  omega
theorem ofInt_toNat8 (x : BitVec 8) : BitVec.ofInt 8 (x.toNat : Int) = x := by
  apply BitVec.eq_of_toNat_eq
  simp [BitVec.toNat_ofInt]
theorem lt8 (x : BitVec 8) : (x.toNat : Int) < 256 := by have := x.isLt; omega
theorem bits8 (op : BinOp) (x y : BitVec 8) (z : BitVec 8) (h : match op with | .and => z = x &&& y | .or => z = x ||| y | .xor => z = x ^^^ y | .andNot => z = x &&& ~~~y | _ => False) (w : World) :
    (Op.intBits op .u8 (x.toNat : Int) (y.toNat : Int)).run P w = .ok (.int .u8 (z.toNat : Int)) w := by
  have e : ∀ z : BitVec 8, IntKind.u8.wrap (z.toNat : Int) = (z.toNat : Int) := fun z => by rw [wrap8_u, ofInt_toNat8]
  cases op <;> first | exact h.elim | skip
  all_goals
    simp only at h
    subst h
    have hx := ofInt_toNat8 x
    have hy := ofInt_toNat8 y
    simp only [Op.intBits, IntKind.bits]
    rw [hx, hy, e]
    rfl
theorem BitVec.not_eq_allOnes_xor8 (p : BitVec 8) : ~~~p = BitVec.allOnes 8 ^^^ p := by
  rw [BitVec.allOnes_xor]
theorem Yd.and8 {T T' : TypeId} {x y : Operand} {m m' : Int} (p q : BitVec 8) (hx : ev l x = some (.int .u8 m)) (hy : ev l y = some (.int .u8 m')) (hm : m = (p.toNat : Int)) (hm' : m' = (q.toNat : Int)) : Yd P ⟨d, .binOp .and T x y T', ty, pos, aft, g⟩ l (.int .u8 ((p &&& q).toNat : Int)) := by
  subst hm hm'; exact Yd.bin hx hy fun w => by simp [binOp]; exact bits8 .and p q _ rfl w
theorem Yd.or8 {T T' : TypeId} {x y : Operand} {m m' : Int} (p q : BitVec 8) (hx : ev l x = some (.int .u8 m)) (hy : ev l y = some (.int .u8 m')) (hm : m = (p.toNat : Int)) (hm' : m' = (q.toNat : Int)) : Yd P ⟨d, .binOp .or T x y T', ty, pos, aft, g⟩ l (.int .u8 ((p ||| q).toNat : Int)) := by
  subst hm hm'; exact Yd.bin hx hy fun w => by simp [binOp]; exact bits8 .or p q _ rfl w
theorem Yd.xor8 {T T' : TypeId} {x y : Operand} {m m' : Int} (p q : BitVec 8) (hx : ev l x = some (.int .u8 m)) (hy : ev l y = some (.int .u8 m')) (hm : m = (p.toNat : Int)) (hm' : m' = (q.toNat : Int)) : Yd P ⟨d, .binOp .xor T x y T', ty, pos, aft, g⟩ l (.int .u8 ((p ^^^ q).toNat : Int)) := by
  subst hm hm'; exact Yd.bin hx hy fun w => by simp [binOp]; exact bits8 .xor p q _ rfl w
theorem Yd.not8 {T : TypeId} {x : Operand} {m : Int} (p : BitVec 8) (hx : ev l x = some (.int .u8 m)) (hm : m = (p.toNat : Int)) : Yd P ⟨d, .unOp .xor T x, ty, pos, aft, g⟩ l (.int .u8 ((~~~p).toNat : Int)) := fun a kn w => by
  subst hm
  have h := bits8 (P := P) .xor (BitVec.allOnes 8) p (~~~p) (BitVec.not_eq_allOnes_xor8 p) w
  have e : ((BitVec.allOnes 8).toNat : Int) = IntKind.u8.max := by decide
  rw [e] at h
  simp [execOp, kn.ev hx, Op.unary, IntKind.signed, h]
theorem Yd.add8 {T T' : TypeId} {x y : Operand} {m m' : Int} (p q : BitVec 8) (hx : ev l x = some (.int .u8 m)) (hy : ev l y = some (.int .u8 m')) (hm : m = (p.toNat : Int)) (hm' : m' = (q.toNat : Int)) : Yd P ⟨d, .binOp .add T x y T', ty, pos, aft, g⟩ l (.int .u8 ((p + q).toNat : Int)) := by
  subst hm hm'
  exact Yd.bin hx hy fun w => by
    have : BitVec.ofInt 8 ((p.toNat : Int) + (q.toNat : Int)) = p + q := by rw [BitVec.ofInt_add, ofInt_toNat8, ofInt_toNat8]
    simp [binOp, Op.intArith, wrap8_u, this]
theorem Yd.sub8 {T T' : TypeId} {x y : Operand} {m m' : Int} (p q : BitVec 8) (hx : ev l x = some (.int .u8 m)) (hy : ev l y = some (.int .u8 m')) (hm : m = (p.toNat : Int)) (hm' : m' = (q.toNat : Int)) : Yd P ⟨d, .binOp .sub T x y T', ty, pos, aft, g⟩ l (.int .u8 ((p - q).toNat : Int)) := by
  subst hm hm'
  exact Yd.bin hx hy fun w => by
    have : BitVec.ofInt 8 ((p.toNat : Int) - (q.toNat : Int)) = p - q := by rw [Int.sub_eq_add_neg, BitVec.ofInt_add, BitVec.ofInt_neg, ofInt_toNat8, ofInt_toNat8, ← BitVec.sub_eq_add_neg]
    simp [binOp, Op.intArith, wrap8_u, this]
theorem Yd.mul8 {T T' : TypeId} {x y : Operand} {m m' : Int} (p q : BitVec 8) (hx : ev l x = some (.int .u8 m)) (hy : ev l y = some (.int .u8 m')) (hm : m = (p.toNat : Int)) (hm' : m' = (q.toNat : Int)) : Yd P ⟨d, .binOp .mul T x y T', ty, pos, aft, g⟩ l (.int .u8 ((p * q).toNat : Int)) := by
  subst hm hm'
  exact Yd.bin hx hy fun w => by
    have : BitVec.ofInt 8 ((p.toNat : Int) * (q.toNat : Int)) = p * q := by rw [BitVec.ofInt_mul, ofInt_toNat8, ofInt_toNat8]
    simp [binOp, Op.intArith, wrap8_u, this]
theorem Yd.quo8 {T T' : TypeId} {x y : Operand} {m m' : Int} (p q : BitVec 8) (hx : ev l x = some (.int .u8 m)) (hy : ev l y = some (.int .u8 m')) (hm : m = (p.toNat : Int)) (hm' : m' = (q.toNat : Int)) (h0 : q.toNat ≠ 0) : Yd P ⟨d, .binOp .quo T x y T', ty, pos, aft, g⟩ l (.int .u8 ((p / q).toNat : Int)) := by
  subst hm hm'
  exact Yd.bin hx hy fun w => by
    have hne : ¬ ((q.toNat : Int) = 0) := by omega
    have e : (p.toNat : Int).tdiv (q.toNat : Int) = (((p / q).toNat : Nat) : Int) := by
      rw [Int.tdiv_eq_ediv_of_nonneg (by omega), BitVec.toNat_udiv]; rfl
    have e2 : IntKind.u8.wrap ((p.toNat : Int).tdiv (q.toNat : Int)) = ((p / q).toNat : Int) := by rw [e, wrap8_u, ofInt_toNat8]
    have e3 : (binOp .quo T (.int .u8 (p.toNat : Int)) (.int .u8 (q.toNat : Int))).run P w = .ok (.int .u8 (IntKind.u8.wrap ((p.toNat : Int).tdiv (q.toNat : Int)))) w := by simp [binOp, Op.intDiv, h0]
    rw [e3, e2]
theorem Yd.rem8 {T T' : TypeId} {x y : Operand} {m m' : Int} (p q : BitVec 8) (hx : ev l x = some (.int .u8 m)) (hy : ev l y = some (.int .u8 m')) (hm : m = (p.toNat : Int)) (hm' : m' = (q.toNat : Int)) (h0 : q.toNat ≠ 0) : Yd P ⟨d, .binOp .rem T x y T', ty, pos, aft, g⟩ l (.int .u8 ((p % q).toNat : Int)) := by
  subst hm hm'
  exact Yd.bin hx hy fun w => by
    have hne : ¬ ((q.toNat : Int) = 0) := by omega
    have e : (p.toNat : Int).tmod (q.toNat : Int) = (((p % q).toNat : Nat) : Int) := by
      rw [Int.tmod_eq_emod_of_nonneg (by omega), BitVec.toNat_umod]; rfl
    simp only [binOp, Op.intDiv, if_neg hne]
    simp [e]
theorem Yd.shl8 {T T' : TypeId} {x y : Operand} {k' : IntKind} {m m' : Int} (p : BitVec 8) (s : Nat) (hx : ev l x = some (.int .u8 m)) (hy : ev l y = some (.int k' m')) (hm : m = (p.toNat : Int)) (hm' : m' = (s : Int)) : Yd P ⟨d, .binOp .shl T x y T', ty, pos, aft, g⟩ l (.int .u8 ((p <<< s).toNat : Int)) := fun a kn w => by
  subst hm hm'
  have hge : (eqGuard .shl T x y (.int .u8 (p.toNat : Int)) (.int k' (s : Int))).run P w = .ok () w := by unfold eqGuard; simp
  have hneg : ¬ ((s : Int) < 0) := by omega
  have e : IntKind.u8.wrap ((p.toNat : Int) * 2 ^ (min s 8)) = ((p <<< s).toNat : Int) := by
    rw [wrap8_u]
    congr 1
    have h2 : ((p.toNat : Int) * 2 ^ (min s 8)) = ((p.toNat * 2 ^ (min s 8) : Nat) : Int) := by simp
    rw [h2]
    simp only [BitVec.toNat_ofInt, BitVec.toNat_shiftLeft, Nat.shiftLeft_eq]
    rw [show ((2 ^ 8 : Nat) : Int) = ((2 ^ 8 : Nat) : Int) from rfl, ← Int.natCast_emod, Int.toNat_natCast]
    by_cases h : s ≤ 8
    · rw [Nat.min_eq_left h]
    · rw [Nat.min_eq_right (by omega)]
      have h3 : p.toNat * 2 ^ s = p.toNat * 2 ^ (s - 8) * 2 ^ 8 := by
        rw [Nat.mul_assoc, ← Nat.pow_add]; congr 2; omega
      rw [h3, Nat.mul_mod_left, Nat.mul_mod_left]
  simp only [execOp, kn.ev hx, kn.ev hy]
  simp [hge, binOp, Op.shift, hneg, IntKind.bits, e]
theorem Yd.shr8 {T T' : TypeId} {x y : Operand} {k' : IntKind} {m m' : Int} (p : BitVec 8) (s : Nat) (hx : ev l x = some (.int .u8 m)) (hy : ev l y = some (.int k' m')) (hm : m = (p.toNat : Int)) (hm' : m' = (s : Int)) : Yd P ⟨d, .binOp .shr T x y T', ty, pos, aft, g⟩ l (.int .u8 ((p >>> s).toNat : Int)) := fun a kn w => by
  subst hm hm'
  have hge : (eqGuard .shr T x y (.int .u8 (p.toNat : Int)) (.int k' (s : Int))).run P w = .ok () w := by unfold eqGuard; simp
  have hneg : ¬ ((s : Int) < 0) := by omega
  have e : (p.toNat : Int).fdiv (2 ^ (min s 8)) = ((p >>> s).toNat : Int) := by
    have h2 : ((2 : Int) ^ (min s 8)) = ((2 ^ (min s 8) : Nat) : Int) := by simp
    rw [h2, Int.fdiv_eq_ediv_of_nonneg _ (Int.natCast_nonneg _), ← Int.natCast_ediv]
    congr 1
    simp only [BitVec.toNat_ushiftRight, Nat.shiftRight_eq_div_pow]
    by_cases h : s ≤ 8
    · rw [Nat.min_eq_left h]
    · rw [Nat.min_eq_right (by omega), Nat.div_eq_of_lt p.isLt, Nat.div_eq_of_lt]
      exact Nat.lt_of_lt_of_le p.isLt (Nat.pow_le_pow_right (by omega) (by omega))
  simp only [execOp, kn.ev hx, kn.ev hy]
  simp [hge, binOp, Op.shift, hneg, IntKind.bits, e]
theorem Yd.eql8 {T T' : TypeId} {x y : Operand} {m m' : Int} (p q : BitVec 8) (hx : ev l x = some (.int .u8 m)) (hy : ev l y = some (.int .u8 m')) (hm : m = (p.toNat : Int)) (hm' : m' = (q.toNat : Int)) : Yd P ⟨d, .binOp .eql T x y T', ty, pos, aft, g⟩ l (.bool (decide (p = q))) := by
  have h := Yd.eql (P := P) (d := d) (ty := ty) (pos := pos) (aft := aft) (g := g) (T := T) (T' := T') hx hy
  have e : decide (m = m') = decide (p = q) := by subst hm hm'; rw [decide_eq_decide]; exact ⟨fun h => BitVec.eq_of_toNat_eq (by omega), fun h => by rw [h]⟩
  rw [e] at h; exact h
theorem Yd.neq8 {T T' : TypeId} {x y : Operand} {m m' : Int} (p q : BitVec 8) (hx : ev l x = some (.int .u8 m)) (hy : ev l y = some (.int .u8 m')) (hm : m = (p.toNat : Int)) (hm' : m' = (q.toNat : Int)) : Yd P ⟨d, .binOp .neq T x y T', ty, pos, aft, g⟩ l (.bool (decide (p ≠ q))) := by
  have h := Yd.neq (P := P) (d := d) (ty := ty) (pos := pos) (aft := aft) (g := g) (T := T) (T' := T') hx hy
  have e : decide (m ≠ m') = decide (p ≠ q) := by subst hm hm'; rw [decide_eq_decide]; exact ⟨fun h e => h (by rw [e]), fun h e => h (BitVec.eq_of_toNat_eq (by omega))⟩
  rw [e] at h; exact h
theorem Yd.to8 {x : Operand} {S T : TypeId} {k' : IntKind} {m : Int} (p : BitVec 8) (hS : (P.underlying S).isSome = true) (hT : intOfTy P T = some .u8) (hx : ev l x = some (.int k' m)) (hp : BitVec.ofInt 8 m = p) : Yd P ⟨d, .convert S T x, ty, pos, aft, g⟩ l (.int .u8 (p.toNat : Int)) := fun a kn w => by
  obtain ⟨dS, hS'⟩ := Option.isSome_iff_exists.mp hS
  subst hp
  simp [execOp, kn.ev hx, convert, run_underlying hS', run_underlying (underlying_int hT), Conv.intToInt, wrap8_u]

/-! numbers of kind u16: each the number of a vector of 16 bits -/
theorem wrap16_u (n : Int) : IntKind.u16.wrap n = ((BitVec.ofInt 16 n).toNat : Int) := by
  simp [IntKind.wrap, IntKind.bits, IntKind.signed, BitVec.toNat_ofInt]
  omega
theorem ofInt_toNat16 (x : BitVec 16) : BitVec.ofInt 16 (x.toNat : Int) = x := by
  apply BitVec.eq_of_toNat_eq
  simp [BitVec.toNat_ofInt]
theorem lt16 (x : BitVec 16) : (x.toNat : Int) < 65536 := by have := x.isLt; omega
theorem bits16 (op : BinOp) (x y : BitVec 16) (z : BitVec 16) (h : match op with | .and => z = x &&& y | .or => z = x ||| y | .xor => z = x ^^^ y | .andNot => z = x &&& ~~~y | _ => False) (w : World) :
    (Op.intBits op .u16 (x.toNat : Int) (y.toNat : Int)).run P w = .ok (.int .u16 (z.toNat : Int)) w := by
  have e : ∀ z : BitVec 16, IntKind.u16.wrap (z.toNat : Int) = (z.toNat : Int) := fun z => by rw [wrap16_u, ofInt_toNat16]
  cases op <;> first | exact h.elim | skip
  all_goals
    simp only at h
    subst h
    have hx := ofInt_toNat16 x
    have hy := ofInt_toNat16 y
    simp only [Op.intBits, IntKind.bits]
    rw [hx, hy, e]
    rfl
theorem BitVec.not_eq_allOnes_xor16 (p : BitVec 16) : ~~~p = BitVec.allOnes 16 ^^^ p := by
  rw [BitVec.allOnes_xor]
theorem Yd.and16 {T T' : TypeId} {x y : Operand} {m m' : Int} (p q : BitVec 16) (hx : ev l x = some (.int .u16 m)) (hy : ev l y = some (.int .u16 m')) (hm : m = (p.toNat : Int)) (hm' : m' = (q.toNat : Int)) : Yd P ⟨d, .binOp .and T x y T', ty, pos, aft, g⟩ l (.int .u16 ((p &&& q).toNat : Int)) := by
  subst hm hm'; exact Yd.bin hx hy fun w => by simp [binOp]; exact bits16 .and p q _ rfl w
theorem Yd.or16 {T T' : TypeId} {x y : Operand} {m m' : Int} (p q : BitVec 16) (hx : ev l x = some (.int .u16 m)) (hy : ev l y = some (.int .u16 m')) (hm : m = (p.toNat : Int)) (hm' : m' = (q.toNat : Int)) : Yd P ⟨d, .binOp .or T x y T', ty, pos, aft, g⟩ l (.int .u16 ((p ||| q).toNat : Int)) := by
  subst hm hm'; exact Yd.bin hx hy fun w => by simp [binOp]; exact bits16 .or p q _ rfl w
theorem Yd.xor16 {T T' : TypeId} {x y : Operand} {m m' : Int} (p q : BitVec 16) (hx : ev l x = some (.int .u16 m)) (hy : ev l y = some (.int .u16 m')) (hm : m = (p.toNat : Int)) (hm' : m' = (q.toNat : Int)) : Yd P ⟨d, .binOp .xor T x y T', ty, pos, aft, g⟩ l (.int .u16 ((p ^^^ q).toNat : Int)) := by
  subst hm hm'; exact Yd.bin hx hy fun w => by simp [binOp]; exact bits16 .xor p q _ rfl w
theorem Yd.not16 {T : TypeId} {x : Operand} {m : Int} (p : BitVec 16) (hx : ev l x = some (.int .u16 m)) (hm : m = (p.toNat : Int)) : Yd P ⟨d, .unOp .xor T x, ty, pos, aft, g⟩ l (.int .u16 ((~~~p).toNat : Int)) := fun a kn w => by
  subst hm
  have h := bits16 (P := P) .xor (BitVec.allOnes 16) p (~~~p) (BitVec.not_eq_allOnes_xor16 p) w
  have e : ((BitVec.allOnes 16).toNat : Int) = IntKind.u16.max := by decide
  rw [e] at h
  simp [execOp, kn.ev hx, Op.unary, IntKind.signed, h]
theorem Yd.add16 {T T' : TypeId} {x y : Operand} {m m' : Int} (p q : BitVec 16) (hx : ev l x = some (.int .u16 m)) (hy : ev l y = some (.int .u16 m')) (hm : m = (p.toNat : Int)) (hm' : m' = (q.toNat : Int)) : Yd P ⟨d, .binOp .add T x y T', ty, pos, aft, g⟩ l (.int .u16 ((p + q).toNat : Int)) := by
  subst hm hm'
  exact Yd.bin hx hy fun w => by
    have : BitVec.ofInt 16 ((p.toNat : Int) + (q.toNat : Int)) = p + q := by rw [BitVec.ofInt_add, ofInt_toNat16, ofInt_toNat16]
    simp [binOp, Op.intArith, wrap16_u, this]
theorem Yd.sub16 {T T' : TypeId} {x y : Operand} {m m' : Int} (p q : BitVec 16) (hx : ev l x = some (.int .u16 m)) (hy : ev l y = some (.int .u16 m')) (hm : m = (p.toNat : Int)) (hm' : m' = (q.toNat : Int)) : Yd P ⟨d, .binOp .sub T x y T', ty, pos, aft, g⟩ l (.int .u16 ((p - q).toNat : Int)) := by
  subst hm hm'
  exact Yd.bin hx hy fun w => by
    have : BitVec.ofInt 16 ((p.toNat : Int) - (q.toNat : Int)) = p - q := by rw [Int.sub_eq_add_neg, BitVec.ofInt_add, BitVec.ofInt_neg, ofInt_toNat16, ofInt_toNat16, ← BitVec.sub_eq_add_neg]
    simp [binOp, Op.intArith, wrap16_u, this]
theorem Yd.mul16 {T T' : TypeId} {x y : Operand} {m m' : Int} (p q : BitVec 16) (hx : ev l x = some (.int .u16 m)) (hy : ev l y = some (.int .u16 m')) (hm : m = (p.toNat : Int)) (hm' : m' = (q.toNat : Int)) : Yd P ⟨d, .binOp .mul T x y T', ty, pos, aft, g⟩ l (.int .u16 ((p * q).toNat : Int)) := by
  subst hm hm'
  exact Yd.bin hx hy fun w => by
    have : BitVec.ofInt 16 ((p.toNat : Int) * (q.toNat : Int)) = p * q := by rw [BitVec.ofInt_mul, ofInt_toNat16, ofInt_toNat16]
    simp [binOp, Op.intArith, wrap16_u, this]
theorem Yd.quo16 {T T' : TypeId} {x y : Operand} {m m' : Int} (p q : BitVec 16) (hx : ev l x = some (.int .u16 m)) (hy : ev l y = some (.int .u16 m')) (hm : m = (p.toNat : Int)) (hm' : m' = (q.toNat : Int)) (h0 : q.toNat ≠ 0) : Yd P ⟨d, .binOp .quo T x y T', ty, pos, aft, g⟩ l (.int .u16 ((p / q).toNat : Int)) := by
  subst hm hm'
  exact Yd.bin hx hy fun w => by
    have hne : ¬ ((q.toNat : Int) = 0) := by omega
    have e : (p.toNat : Int).tdiv (q.toNat : Int) = (((p / q).toNat : Nat) : Int) := by
      rw [Int.tdiv_eq_ediv_of_nonneg (by omega), BitVec.toNat_udiv]; rfl
    have e2 : IntKind.u16.wrap ((p.toNat : Int).tdiv (q.toNat : Int)) = ((p / q).toNat : Int) := by rw [e, wrap16_u, ofInt_toNat16]
    have e3 : (binOp .quo T (.int .u16 (p.toNat : Int)) (.int .u16 (q.toNat : Int))).run P w = .ok (.int .u16 (IntKind.u16.wrap ((p.toNat : Int).tdiv (q.toNat : Int)))) w := by simp [binOp, Op.intDiv, h0]
    rw [e3, e2]
theorem Yd.rem16 {T T' : TypeId} {x y : Operand} {m m' : Int} (p q : BitVec 16) (hx : ev l x = some (.int .u16 m)) (hy : ev l y = some (.int .u16 m')) (hm : m = (p.toNat : Int)) (hm' : m' = (q.toNat : Int)) (h0 : q.toNat ≠ 0) : Yd P ⟨d, .binOp .rem T x y T', ty, pos, aft, g⟩ l (.int .u16 ((p % q).toNat : Int)) := by
  subst hm hm'
  exact Yd.bin hx hy fun w => by
    have hne : ¬ ((q.toNat : Int) = 0) := by omega
    have e : (p.toNat : Int).tmod (q.toNat : Int) = (((p % q).toNat : Nat) : Int) := by
      rw [Int.tmod_eq_emod_of_nonneg (by omega), BitVec.toNat_umod]; rfl
    simp only [binOp, Op.intDiv, if_neg hne]
    simp [e]
theorem Yd.shl16 {T T' : TypeId} {x y : Operand} {k' : IntKind} {m m' : Int} (p : BitVec 16) (s : Nat) (hx : ev l x = some (.int .u16 m)) (hy : ev l y = some (.int k' m')) (hm : m = (p.toNat : Int)) (hm' : m' = (s : Int)) : Yd P ⟨d, .binOp .shl T x y T', ty, pos, aft, g⟩ l (.int .u16 ((p <<< s).toNat : Int)) := fun a kn w => by
  subst hm hm'
  have hge : (eqGuard .shl T x y (.int .u16 (p.toNat : Int)) (.int k' (s : Int))).run P w = .ok () w := by unfold eqGuard; simp
  have hneg : ¬ ((s : Int) < 0) := by omega
  have e : IntKind.u16.wrap ((p.toNat : Int) * 2 ^ (min s 16)) = ((p <<< s).toNat : Int) := by
    rw [wrap16_u]
    congr 1
    have h2 : ((p.toNat : Int) * 2 ^ (min s 16)) = ((p.toNat * 2 ^ (min s 16) : Nat) : Int) := by simp
    rw [h2]
    simp only [BitVec.toNat_ofInt, BitVec.toNat_shiftLeft, Nat.shiftLeft_eq]
    rw [show ((2 ^ 16 : Nat) : Int) = ((2 ^ 16 : Nat) : Int) from rfl, ← Int.natCast_emod, Int.toNat_natCast]
    by_cases h : s ≤ 16
    · rw [Nat.min_eq_left h]
    · rw [Nat.min_eq_right (by omega)]
      have h3 : p.toNat * 2 ^ s = p.toNat * 2 ^ (s - 16) * 2 ^ 16 := by
        rw [Nat.mul_assoc, ← Nat.pow_add]; congr 2; omega
      rw [h3, Nat.mul_mod_left, Nat.mul_mod_left]
  simp only [execOp, kn.ev hx, kn.ev hy]
  simp [hge, binOp, Op.shift, hneg, IntKind.bits, e]
theorem Yd.shr16 {T T' : TypeId} {x y : Operand} {k' : IntKind} {m m' : Int} (p : BitVec 16) (s : Nat) (hx : ev l x = some (.int .u16 m)) (hy : ev l y = some (.int k' m')) (hm : m = (p.toNat : Int)) (hm' : m' = (s : Int)) : Yd P ⟨d, .binOp .shr T x y T', ty, pos, aft, g⟩ l (.int .u16 ((p >>> s).toNat : Int)) := fun a kn w => by
  subst hm hm'
  have hge : (eqGuard .shr T x y (.int .u16 (p.toNat : Int)) (.int k' (s : Int))).run P w = .ok () w := by unfold eqGuard; simp
  have hneg : ¬ ((s : Int) < 0) := by omega
  have e : (p.toNat : Int).fdiv (2 ^ (min s 16)) = ((p >>> s).toNat : Int) := by
    have h2 : ((2 : Int) ^ (min s 16)) = ((2 ^ (min s 16) : Nat) : Int) := by simp
    rw [h2, Int.fdiv_eq_ediv_of_nonneg _ (Int.natCast_nonneg _), ← Int.natCast_ediv]
    congr 1
    simp only [BitVec.toNat_ushiftRight, Nat.shiftRight_eq_div_pow]
    by_cases h : s ≤ 16
    · rw [Nat.min_eq_left h]
    · rw [Nat.min_eq_right (by omega), Nat.div_eq_of_lt p.isLt, Nat.div_eq_of_lt]
      exact Nat.lt_of_lt_of_le p.isLt (Nat.pow_le_pow_right (by omega) (by omega))
  simp only [execOp, kn.ev hx, kn.ev hy]
  simp [hge, binOp, Op.shift, hneg, IntKind.bits, e]
theorem Yd.eql16 {T T' : TypeId} {x y : Operand} {m m' : Int} (p q : BitVec 16) (hx : ev l x = some (.int .u16 m)) (hy : ev l y = some (.int .u16 m')) (hm : m = (p.toNat : Int)) (hm' : m' = (q.toNat : Int)) : Yd P ⟨d, .binOp .eql T x y T', ty, pos, aft, g⟩ l (.bool (decide (p = q))) := by
  have h := Yd.eql (P := P) (d := d) (ty := ty) (pos := pos) (aft := aft) (g := g) (T := T) (T' := T') hx hy
  have e : decide (m = m') = decide (p = q) := by subst hm hm'; rw [decide_eq_decide]; exact ⟨fun h => BitVec.eq_of_toNat_eq (by omega), fun h => by rw [h]⟩
  rw [e] at h; exact h
theorem Yd.neq16 {T T' : TypeId} {x y : Operand} {m m' : Int} (p q : BitVec 16) (hx : ev l x = some (.int .u16 m)) (hy : ev l y = some (.int .u16 m')) (hm : m = (p.toNat : Int)) (hm' : m' = (q.toNat : Int)) : Yd P ⟨d, .binOp .neq T x y T', ty, pos, aft, g⟩ l (.bool (decide (p ≠ q))) := by
  have h := Yd.neq (P := P) (d := d) (ty := ty) (pos := pos) (aft := aft) (g := g) (T := T) (T' := T') hx hy
  have e : decide (m ≠ m') = decide (p ≠ q) := by subst hm hm'; rw [decide_eq_decide]; exact ⟨fun h e => h (by rw [e]), fun h e => h (BitVec.eq_of_toNat_eq (by omega))⟩
  rw [e] at h; exact h
theorem Yd.to16 {x : Operand} {S T : TypeId} {k' : IntKind} {m : Int} (p : BitVec 16) (hS : (P.underlying S).isSome = true) (hT : intOfTy P T = some .u16) (hx : ev l x = some (.int k' m)) (hp : BitVec.ofInt 16 m = p) : Yd P ⟨d, .convert S T x, ty, pos, aft, g⟩ l (.int .u16 (p.toNat : Int)) := fun a kn w => by
  obtain ⟨dS, hS'⟩ := Option.isSome_iff_exists.mp hS
  subst hp
  simp [execOp, kn.ev hx, convert, run_underlying hS', run_underlying (underlying_int hT), Conv.intToInt, wrap16_u]

/-! numbers of kind u32: each the number of a vector of 32 bits -/
theorem wrap32_u (n : Int) : IntKind.u32.wrap n = ((BitVec.ofInt 32 n).toNat : Int) := by
  simp [IntKind.wrap, IntKind.bits, IntKind.signed, BitVec.toNat_ofInt]
  omega
theorem ofInt_toNat32 (x : BitVec 32) : BitVec.ofInt 32 (x.toNat : Int) = x := by
  apply BitVec.eq_of_toNat_eq
  simp [BitVec.toNat_ofInt]
theorem lt32 (x : BitVec 32) : (x.toNat : Int) < 4294967296 := by have := x.isLt; omega
theorem bits32 (op : BinOp) (x y : BitVec 32) (z : BitVec 32) (h : match op with | .and => z = x &&& y | .or => z = x ||| y | .xor => z = x ^^^ y | .andNot => z = x &&& ~~~y | _ => False) (w : World) :
    (Op.intBits op .u32 (x.toNat : Int) (y.toNat : Int)).run P w = .ok (.int .u32 (z.toNat : Int)) w := by
  have e : ∀ z : BitVec 32, IntKind.u32.wrap (z.toNat : Int) = (z.toNat : Int) := fun z => by rw [wrap32_u, ofInt_toNat32]
  cases op <;> first | exact h.elim | skip
  all_goals
    simp only at h
    subst h
    have hx := ofInt_toNat32 x
    have hy := ofInt_toNat32 y
    simp only [Op.intBits, IntKind.bits]
    rw [hx, hy, e]
    rfl
theorem BitVec.not_eq_allOnes_xor32 (p : BitVec 32) : ~~~p = BitVec.allOnes 32 ^^^ p := by
  rw [BitVec.allOnes_xor]
theorem Yd.and32 {T T' : TypeId} {x y : Operand} {m m' : Int} (p q : BitVec 32) (hx : ev l x = some (.int .u32 m)) (hy : ev l y = some (.int .u32 m')) (hm : m = (p.toNat : Int)) (hm' : m' = (q.toNat : Int)) : Yd P ⟨d, .binOp .and T x y T', ty, pos, aft, g⟩ l (.int .u32 ((p &&& q).toNat : Int)) := by
  subst hm hm'; exact Yd.bin hx hy fun w => by simp [binOp]; exact bits32 .and p q _ rfl w
theorem Yd.or32 {T T' : TypeId} {x y : Operand} {m m' : Int} (p q : BitVec 32) (hx : ev l x = some (.int .u32 m)) (hy : ev l y = some (.int .u32 m')) (hm : m = (p.toNat : Int)) (hm' : m' = (q.toNat : Int)) : Yd P ⟨d, .binOp .or T x y T', ty, pos, aft, g⟩ l (.int .u32 ((p ||| q).toNat : Int)) := by
  subst hm hm'; exact Yd.bin hx hy fun w => by simp [binOp]; exact bits32 .or p q _ rfl w
theorem Yd.xor32 {T T' : TypeId} {x y : Operand} {m m' : Int} (p q : BitVec 32) (hx : ev l x = some (.int .u32 m)) (hy : ev l y = some (.int .u32 m')) (hm : m = (p.toNat : Int)) (hm' : m' = (q.toNat : Int)) : Yd P ⟨d, .binOp .xor T x y T', ty, pos, aft, g⟩ l (.int .u32 ((p ^^^ q).toNat : Int)) := by
  subst hm hm'; exact Yd.bin hx hy fun w => by simp [binOp]; exact bits32 .xor p q _ rfl w
theorem Yd.not32 {T : TypeId} {x : Operand} {m : Int} (p : BitVec 32) (hx : ev l x = some (.int .u32 m)) (hm : m = (p.toNat : Int)) : Yd P ⟨d, .unOp .xor T x, ty, pos, aft, g⟩ l (.int .u32 ((~~~p).toNat : Int)) := fun a kn w => by
  subst hm
  have h := bits32 (P := P) .xor (BitVec.allOnes 32) p (~~~p) (BitVec.not_eq_allOnes_xor32 p) w
  have e : ((BitVec.allOnes 32).toNat : Int) = IntKind.u32.max := by decide
  rw [e] at h
  simp [execOp, kn.ev hx, Op.unary, IntKind.signed, h]
theorem Yd.add32 {T T' : TypeId} {x y : Operand} {m m' : Int} (p q : BitVec 32) (hx : ev l x = some (.int .u32 m)) (hy : ev l y = some (.int .u32 m')) (hm : m = (p.toNat : Int)) (hm' : m' = (q.toNat : Int)) : Yd P ⟨d, .binOp .add T x y T', ty, pos, aft, g⟩ l (.int .u32 ((p + q).toNat : Int)) := by
  subst hm hm'
  exact Yd.bin hx hy fun w => by
    have : BitVec.ofInt 32 ((p.toNat : Int) + (q.toNat : Int)) = p + q := by rw [BitVec.ofInt_add, ofInt_toNat32, ofInt_toNat32]
    simp [binOp, Op.intArith, wrap32_u, this]
theorem Yd.sub32 {T T' : TypeId} {x y : Operand} {m m' : Int} (p q : BitVec 32) (hx : ev l x = some (.int .u32 m)) (hy : ev l y = some (.int .u32 m')) (hm : m = (p.toNat : Int)) (hm' : m' = (q.toNat : Int)) : Yd P ⟨d, .binOp .sub T x y T', ty, pos, aft, g⟩ l (.int .u32 ((p - q).toNat : Int)) := by
  subst hm hm'
  exact Yd.bin hx hy fun w => by
    have : BitVec.ofInt 32 ((p.toNat : Int) - (q.toNat : Int)) = p - q := by rw [Int.sub_eq_add_neg, BitVec.ofInt_add, BitVec.ofInt_neg, ofInt_toNat32, ofInt_toNat32, ← BitVec.sub_eq_add_neg]
    simp [binOp, Op.intArith, wrap32_u, this]
theorem Yd.mul32 {T T' : TypeId} {x y : Operand} {m m' : Int} (p q : BitVec 32) (hx : ev l x = some (.int .u32 m)) (hy : ev l y = some (.int .u32 m')) (hm : m = (p.toNat : Int)) (hm' : m' = (q.toNat : Int)) : Yd P ⟨d, .binOp .mul T x y T', ty, pos, aft, g⟩ l (.int .u32 ((p * q).toNat : Int)) := by
  subst hm hm'
  exact Yd.bin hx hy fun w => by
    have : BitVec.ofInt 32 ((p.toNat : Int) * (q.toNat : Int)) = p * q := by rw [BitVec.ofInt_mul, ofInt_toNat32, ofInt_toNat32]
    simp [binOp, Op.intArith, wrap32_u, this]
theorem Yd.quo32 {T T' : TypeId} {x y : Operand} {m m' : Int} (p q : BitVec 32) (hx : ev l x = some (.int .u32 m)) (hy : ev l y = some (.int .u32 m')) (hm : m = (p.toNat : Int)) (hm' : m' = (q.toNat : Int)) (h0 : q.toNat ≠ 0) : Yd P ⟨d, .binOp .quo T x y T', ty, pos, aft, g⟩ l (.int .u32 ((p / q).toNat : Int)) := by
  subst hm hm'
  exact Yd.bin hx hy fun w => by
    have hne : ¬ ((q.toNat : Int) = 0) := by omega
    have e : (p.toNat : Int).tdiv (q.toNat : Int) = (((p / q).toNat : Nat) : Int) := by
      rw [Int.tdiv_eq_ediv_of_nonneg (by omega), BitVec.toNat_udiv]; rfl
    have e2 : IntKind.u32.wrap ((p.toNat : Int).tdiv (q.toNat : Int)) = ((p / q).toNat : Int) := by rw [e, wrap32_u, ofInt_toNat32]
    have e3 : (binOp .quo T (.int .u32 (p.toNat : Int)) (.int .u32 (q.toNat : Int))).run P w = .ok (.int .u32 (IntKind.u32.wrap ((p.toNat : Int).tdiv (q.toNat : Int)))) w := by simp [binOp, Op.intDiv, h0]
    rw [e3, e2]
theorem Yd.rem32 {T T' : TypeId} {x y : Operand} {m m' : Int} (p q : BitVec 32) (hx : ev l x = some (.int .u32 m)) (hy : ev l y = some (.int .u32 m')) (hm : m = (p.toNat : Int)) (hm' : m' = (q.toNat : Int)) (h0 : q.toNat ≠ 0) : Yd P ⟨d, .binOp .rem T x y T', ty, pos, aft, g⟩ l (.int .u32 ((p % q).toNat : Int)) := by
  subst hm hm'
  exact Yd.bin hx hy fun w => by
    have hne : ¬ ((q.toNat : Int) = 0) := by omega
    have e : (p.toNat : Int).tmod (q.toNat : Int) = (((p % q).toNat : Nat) : Int) := by
      rw [Int.tmod_eq_emod_of_nonneg (by omega), BitVec.toNat_umod]; rfl
    simp only [binOp, Op.intDiv, if_neg hne]
    simp [e]
theorem Yd.shl32 {T T' : TypeId} {x y : Operand} {k' : IntKind} {m m' : Int} (p : BitVec 32) (s : Nat) (hx : ev l x = some (.int .u32 m)) (hy : ev l y = some (.int k' m')) (hm : m = (p.toNat : Int)) (hm' : m' = (s : Int)) : Yd P ⟨d, .binOp .shl T x y T', ty, pos, aft, g⟩ l (.int .u32 ((p <<< s).toNat : Int)) := fun a kn w => by
  subst hm hm'
  have hge : (eqGuard .shl T x y (.int .u32 (p.toNat : Int)) (.int k' (s : Int))).run P w = .ok () w := by unfold eqGuard; simp
  have hneg : ¬ ((s : Int) < 0) := by omega
  have e : IntKind.u32.wrap ((p.toNat : Int) * 2 ^ (min s 32)) = ((p <<< s).toNat : Int) := by
    rw [wrap32_u]
    congr 1
    have h2 : ((p.toNat : Int) * 2 ^ (min s 32)) = ((p.toNat * 2 ^ (min s 32) : Nat) : Int) := by simp
    rw [h2]
    simp only [BitVec.toNat_ofInt, BitVec.toNat_shiftLeft, Nat.shiftLeft_eq]
    rw [show ((2 ^ 32 : Nat) : Int) = ((2 ^ 32 : Nat) : Int) from rfl, ← Int.natCast_emod, Int.toNat_natCast]
    by_cases h : s ≤ 32
    · rw [Nat.min_eq_left h]
    · rw [Nat.min_eq_right (by omega)]
      have h3 : p.toNat * 2 ^ s = p.toNat * 2 ^ (s - 32) * 2 ^ 32 := by
        rw [Nat.mul_assoc, ← Nat.pow_add]; congr 2; omega
      rw [h3, Nat.mul_mod_left, Nat.mul_mod_left]
  simp only [execOp, kn.ev hx, kn.ev hy]
  simp [hge, binOp, Op.shift, hneg, IntKind.bits, e]
theorem Yd.shr32 {T T' : TypeId} {x y : Operand} {k' : IntKind} {m m' : Int} (p : BitVec 32) (s : Nat) (hx : ev l x = some (.int .u32 m)) (hy : ev l y = some (.int k' m')) (hm : m = (p.toNat : Int)) (hm' : m' = (s : Int)) : Yd P ⟨d, .binOp .shr T x y T', ty, pos, aft, g⟩ l (.int .u32 ((p >>> s).toNat : Int)) := fun a kn w => by
  subst hm hm'
  have hge : (eqGuard .shr T x y (.int .u32 (p.toNat : Int)) (.int k' (s : Int))).run P w = .ok () w := by unfold eqGuard; simp
  have hneg : ¬ ((s : Int) < 0) := by omega
  have e : (p.toNat : Int).fdiv (2 ^ (min s 32)) = ((p >>> s).toNat : Int) := by
    have h2 : ((2 : Int) ^ (min s 32)) = ((2 ^ (min s 32) : Nat) : Int) := by simp
    rw [h2, Int.fdiv_eq_ediv_of_nonneg _ (Int.natCast_nonneg _), ← Int.natCast_ediv]
    congr 1
    simp only [BitVec.toNat_ushiftRight, Nat.shiftRight_eq_div_pow]
    by_cases h : s ≤ 32
    · rw [Nat.min_eq_left h]
    · rw [Nat.min_eq_right (by omega), Nat.div_eq_of_lt p.isLt, Nat.div_eq_of_lt]
      exact Nat.lt_of_lt_of_le p.isLt (Nat.pow_le_pow_right (by omega) (by omega))
  simp only [execOp, kn.ev hx, kn.ev hy]
  simp [hge, binOp, Op.shift, hneg, IntKind.bits, e]
theorem Yd.eql32 {T T' : TypeId} {x y : Operand} {m m' : Int} (p q : BitVec 32) (hx : ev l x = some (.int .u32 m)) (hy : ev l y = some (.int .u32 m')) (hm : m = (p.toNat : Int)) (hm' : m' = (q.toNat : Int)) : Yd P ⟨d, .binOp .eql T x y T', ty, pos, aft, g⟩ l (.bool (decide (p = q))) := by
  have h := Yd.eql (P := P) (d := d) (ty := ty) (pos := pos) (aft := aft) (g := g) (T := T) (T' := T') hx hy
  have e : decide (m = m') = decide (p = q) := by subst hm hm'; rw [decide_eq_decide]; exact ⟨fun h => BitVec.eq_of_toNat_eq (by omega), fun h => by rw [h]⟩
  rw [e] at h; exact h
theorem Yd.neq32 {T T' : TypeId} {x y : Operand} {m m' : Int} (p q : BitVec 32) (hx : ev l x = some (.int .u32 m)) (hy : ev l y = some (.int .u32 m')) (hm : m = (p.toNat : Int)) (hm' : m' = (q.toNat : Int)) : Yd P ⟨d, .binOp .neq T x y T', ty, pos, aft, g⟩ l (.bool (decide (p ≠ q))) := by
  have h := Yd.neq (P := P) (d := d) (ty := ty) (pos := pos) (aft := aft) (g := g) (T := T) (T' := T') hx hy
  have e : decide (m ≠ m') = decide (p ≠ q) := by subst hm hm'; rw [decide_eq_decide]; exact ⟨fun h e => h (by rw [e]), fun h e => h (BitVec.eq_of_toNat_eq (by omega))⟩
  rw [e] at h; exact h
theorem Yd.to32 {x : Operand} {S T : TypeId} {k' : IntKind} {m : Int} (p : BitVec 32) (hS : (P.underlying S).isSome = true) (hT : intOfTy P T = some .u32) (hx : ev l x = some (.int k' m)) (hp : BitVec.ofInt 32 m = p) : Yd P ⟨d, .convert S T x, ty, pos, aft, g⟩ l (.int .u32 (p.toNat : Int)) := fun a kn w => by
  obtain ⟨dS, hS'⟩ := Option.isSome_iff_exists.mp hS
  subst hp
  simp [execOp, kn.ev hx, convert, run_underlying hS', run_underlying (underlying_int hT), Conv.intToInt, wrap32_u]

/-! numbers of kind u64: each the number of a vector of 64 bits -/
theorem wrap64_u (n : Int) : IntKind.u64.wrap n = ((BitVec.ofInt 64 n).toNat : Int) := by
  simp [IntKind.wrap, IntKind.bits, IntKind.signed, BitVec.toNat_ofInt]
  omega
theorem ofInt_toNat64 (x : BitVec 64) : BitVec.ofInt 64 (x.toNat : Int) = x := by
  apply BitVec.eq_of_toNat_eq
  simp [BitVec.toNat_ofInt]
theorem lt64 (x : BitVec 64) : (x.toNat : Int) < 18446744073709551616 := by have := x.isLt; omega
theorem bits64 (op : BinOp) (x y : BitVec 64) (z : BitVec 64) (h : match op with | .and => z = x &&& y | .or => z = x ||| y | .xor => z = x ^^^ y | .andNot => z = x &&& ~~~y | _ => False) (w : World) :
    (Op.intBits op .u64 (x.toNat : Int) (y.toNat : Int)).run P w = .ok (.int .u64 (z.toNat : Int)) w := by
  have e : ∀ z : BitVec 64, IntKind.u64.wrap (z.toNat : Int) = (z.toNat : Int) := fun z => by rw [wrap64_u, ofInt_toNat64]
  cases op <;> first | exact h.elim | skip
  all_goals
    simp only at h
    subst h
    have hx := ofInt_toNat64 x
    have hy := ofInt_toNat64 y
    simp only [Op.intBits, IntKind.bits]
    rw [hx, hy, e]
    rfl
theorem BitVec.not_eq_allOnes_xor64 (p : BitVec 64) : ~~~p = BitVec.allOnes 64 ^^^ p := by
  rw [BitVec.allOnes_xor]
theorem Yd.and64 {T T' : TypeId} {x y : Operand} {m m' : Int} (p q : BitVec 64) (hx : ev l x = some (.int .u64 m)) (hy : ev l y = some (.int .u64 m')) (hm : m = (p.toNat : Int)) (hm' : m' = (q.toNat : Int)) : Yd P ⟨d, .binOp .and T x y T', ty, pos, aft, g⟩ l (.int .u64 ((p &&& q).toNat : Int)) := by
  subst hm hm'; exact Yd.bin hx hy fun w => by simp [binOp]; exact bits64 .and p q _ rfl w
theorem Yd.or64 {T T' : TypeId} {x y : Operand} {m m' : Int} (p q : BitVec 64) (hx : ev l x = some (.int .u64 m)) (hy : ev l y = some (.int .u64 m')) (hm : m = (p.toNat : Int)) (hm' : m' = (q.toNat : Int)) : Yd P ⟨d, .binOp .or T x y T', ty, pos, aft, g⟩ l (.int .u64 ((p ||| q).toNat : Int)) := by
  subst hm hm'; exact Yd.bin hx hy fun w => by simp [binOp]; exact bits64 .or p q _ rfl w
theorem Yd.xor64 {T T' : TypeId} {x y : Operand} {m m' : Int} (p q : BitVec 64) (hx : ev l x = some (.int .u64 m)) (hy : ev l y = some (.int .u64 m')) (hm : m = (p.toNat : Int)) (hm' : m' = (q.toNat : Int)) : Yd P ⟨d, .binOp .xor T x y T', ty, pos, aft, g⟩ l (.int .u64 ((p ^^^ q).toNat : Int)) := by
  subst hm hm'; exact Yd.bin hx hy fun w => by simp [binOp]; exact bits64 .xor p q _ rfl w
theorem Yd.not64 {T : TypeId} {x : Operand} {m : Int} (p : BitVec 64) (hx : ev l x = some (.int .u64 m)) (hm : m = (p.toNat : Int)) : Yd P ⟨d, .unOp .xor T x, ty, pos, aft, g⟩ l (.int .u64 ((~~~p).toNat : Int)) := fun a kn w => by
  subst hm
  have h := bits64 (P := P) .xor (BitVec.allOnes 64) p (~~~p) (BitVec.not_eq_allOnes_xor64 p) w
  have e : ((BitVec.allOnes 64).toNat : Int) = IntKind.u64.max := by decide
  rw [e] at h
  simp [execOp, kn.ev hx, Op.unary, IntKind.signed, h]
theorem Yd.add64 {T T' : TypeId} {x y : Operand} {m m' : Int} (p q : BitVec 64) (hx : ev l x = some (.int .u64 m)) (hy : ev l y = some (.int .u64 m')) (hm : m = (p.toNat : Int)) (hm' : m' = (q.toNat : Int)) : Yd P ⟨d, .binOp .add T x y T', ty, pos, aft, g⟩ l (.int .u64 ((p + q).toNat : Int)) := by
  subst hm hm'
  exact Yd.bin hx hy fun w => by
    have : BitVec.ofInt 64 ((p.toNat : Int) + (q.toNat : Int)) = p + q := by rw [BitVec.ofInt_add, ofInt_toNat64, ofInt_toNat64]
    simp [binOp, Op.intArith, wrap64_u, this]
theorem Yd.sub64 {T T' : TypeId} {x y : Operand} {m m' : Int} (p q : BitVec 64) (hx : ev l x = some (.int .u64 m)) (hy : ev l y = some (.int .u64 m')) (hm : m = (p.toNat : Int)) (hm' : m' = (q.toNat : Int)) : Yd P ⟨d, .binOp .sub T x y T', ty, pos, aft, g⟩ l (.int .u64 ((p - q).toNat : Int)) := by
  subst hm hm'
  exact Yd.bin hx hy fun w => by
    have : BitVec.ofInt 64 ((p.toNat : Int) - (q.toNat : Int)) = p - q := by rw [Int.sub_eq_add_neg, BitVec.ofInt_add, BitVec.ofInt_neg, ofInt_toNat64, ofInt_toNat64, ← BitVec.sub_eq_add_neg]
    simp [binOp, Op.intArith, wrap64_u, this]
theorem Yd.mul64 {T T' : TypeId} {x y : Operand} {m m' : Int} (p q : BitVec 64) (hx : ev l x = some (.int .u64 m)) (hy : ev l y = some (.int .u64 m')) (hm : m = (p.toNat : Int)) (hm' : m' = (q.toNat : Int)) : Yd P ⟨d, .binOp .mul T x y T', ty, pos, aft, g⟩ l (.int .u64 ((p * q).toNat : Int)) := by
  subst hm hm'
  exact Yd.bin hx hy fun w => by
    have : BitVec.ofInt 64 ((p.toNat : Int) * (q.toNat : Int)) = p * q := by rw [BitVec.ofInt_mul, ofInt_toNat64, ofInt_toNat64]
    simp [binOp, Op.intArith, wrap64_u, this]
theorem Yd.quo64 {T T' : TypeId} {x y : Operand} {m m' : Int} (p q : BitVec 64) (hx : ev l x = some (.int .u64 m)) (hy : ev l y = some (.int .u64 m')) (hm : m = (p.toNat : Int)) (hm' : m' = (q.toNat : Int)) (h0 : q.toNat ≠ 0) : Yd P ⟨d, .binOp .quo T x y T', ty, pos, aft, g⟩ l (.int .u64 ((p / q).toNat : Int)) := by
  subst hm hm'
  exact Yd.bin hx hy fun w => by
    have hne : ¬ ((q.toNat : Int) = 0) := by omega
    have e : (p.toNat : Int).tdiv (q.toNat : Int) = (((p / q).toNat : Nat) : Int) := by
      rw [Int.tdiv_eq_ediv_of_nonneg (by omega), BitVec.toNat_udiv]; rfl
    have e2 : IntKind.u64.wrap ((p.toNat : Int).tdiv (q.toNat : Int)) = ((p / q).toNat : Int) := by rw [e, wrap64_u, ofInt_toNat64]
    have e3 : (binOp .quo T (.int .u64 (p.toNat : Int)) (.int .u64 (q.toNat : Int))).run P w = .ok (.int .u64 (IntKind.u64.wrap ((p.toNat : Int).tdiv (q.toNat : Int)))) w := by simp [binOp, Op.intDiv, h0]
    rw [e3, e2]
theorem Yd.rem64 {T T' : TypeId} {x y : Operand} {m m' : Int} (p q : BitVec 64) (hx : ev l x = some (.int .u64 m)) (hy : ev l y = some (.int .u64 m')) (hm : m = (p.toNat : Int)) (hm' : m' = (q.toNat : Int)) (h0 : q.toNat ≠ 0) : Yd P ⟨d, .binOp .rem T x y T', ty, pos, aft, g⟩ l (.int .u64 ((p % q).toNat : Int)) := by
  subst hm hm'
  exact Yd.bin hx hy fun w => by
    have hne : ¬ ((q.toNat : Int) = 0) := by omega
    have e : (p.toNat : Int).tmod (q.toNat : Int) = (((p % q).toNat : Nat) : Int) := by
      rw [Int.tmod_eq_emod_of_nonneg (by omega), BitVec.toNat_umod]; rfl
    simp only [binOp, Op.intDiv, if_neg hne]
    simp [e]
theorem Yd.shl64 {T T' : TypeId} {x y : Operand} {k' : IntKind} {m m' : Int} (p : BitVec 64) (s : Nat) (hx : ev l x = some (.int .u64 m)) (hy : ev l y = some (.int k' m')) (hm : m = (p.toNat : Int)) (hm' : m' = (s : Int)) : Yd P ⟨d, .binOp .shl T x y T', ty, pos, aft, g⟩ l (.int .u64 ((p <<< s).toNat : Int)) := fun a kn w => by
  subst hm hm'
  have hge : (eqGuard .shl T x y (.int .u64 (p.toNat : Int)) (.int k' (s : Int))).run P w = .ok () w := by unfold eqGuard; simp
  have hneg : ¬ ((s : Int) < 0) := by omega
  have e : IntKind.u64.wrap ((p.toNat : Int) * 2 ^ (min s 64)) = ((p <<< s).toNat : Int) := by
    rw [wrap64_u]
    congr 1
    have h2 : ((p.toNat : Int) * 2 ^ (min s 64)) = ((p.toNat * 2 ^ (min s 64) : Nat) : Int) := by simp
    rw [h2]
    simp only [BitVec.toNat_ofInt, BitVec.toNat_shiftLeft, Nat.shiftLeft_eq]
    rw [show ((2 ^ 64 : Nat) : Int) = ((2 ^ 64 : Nat) : Int) from rfl, ← Int.natCast_emod, Int.toNat_natCast]
    by_cases h : s ≤ 64
    · rw [Nat.min_eq_left h]
    · rw [Nat.min_eq_right (by omega)]
      have h3 : p.toNat * 2 ^ s = p.toNat * 2 ^ (s - 64) * 2 ^ 64 := by
        rw [Nat.mul_assoc, ← Nat.pow_add]; congr 2; omega
      rw [h3, Nat.mul_mod_left, Nat.mul_mod_left]
  simp only [execOp, kn.ev hx, kn.ev hy]
  simp [hge, binOp, Op.shift, hneg, IntKind.bits, e]
theorem Yd.shr64 {T T' : TypeId} {x y : Operand} {k' : IntKind} {m m' : Int} (p : BitVec 64) (s : Nat) (hx : ev l x = some (.int .u64 m)) (hy : ev l y = some (.int k' m')) (hm : m = (p.toNat : Int)) (hm' : m' = (s : Int)) : Yd P ⟨d, .binOp .shr T x y T', ty, pos, aft, g⟩ l (.int .u64 ((p >>> s).toNat : Int)) := fun a kn w => by
  subst hm hm'
  have hge : (eqGuard .shr T x y (.int .u64 (p.toNat : Int)) (.int k' (s : Int))).run P w = .ok () w := by unfold eqGuard; simp
  have hneg : ¬ ((s : Int) < 0) := by omega
  have e : (p.toNat : Int).fdiv (2 ^ (min s 64)) = ((p >>> s).toNat : Int) := by
    have h2 : ((2 : Int) ^ (min s 64)) = ((2 ^ (min s 64) : Nat) : Int) := by simp
    rw [h2, Int.fdiv_eq_ediv_of_nonneg _ (Int.natCast_nonneg _), ← Int.natCast_ediv]
    congr 1
    simp only [BitVec.toNat_ushiftRight, Nat.shiftRight_eq_div_pow]
    by_cases h : s ≤ 64
    · rw [Nat.min_eq_left h]
    · rw [Nat.min_eq_right (by omega), Nat.div_eq_of_lt p.isLt, Nat.div_eq_of_lt]
      exact Nat.lt_of_lt_of_le p.isLt (Nat.pow_le_pow_right (by omega) (by omega))
  simp only [execOp, kn.ev hx, kn.ev hy]
  simp [hge, binOp, Op.shift, hneg, IntKind.bits, e]
theorem Yd.eql64 {T T' : TypeId} {x y : Operand} {m m' : Int} (p q : BitVec 64) (hx : ev l x = some (.int .u64 m)) (hy : ev l y = some (.int .u64 m')) (hm : m = (p.toNat : Int)) (hm' : m' = (q.toNat : Int)) : Yd P ⟨d, .binOp .eql T x y T', ty, pos, aft, g⟩ l (.bool (decide (p = q))) := by
  have h := Yd.eql (P := P) (d := d) (ty := ty) (pos := pos) (aft := aft) (g := g) (T := T) (T' := T') hx hy
  have e : decide (m = m') = decide (p = q) := by subst hm hm'; rw [decide_eq_decide]; exact ⟨fun h => BitVec.eq_of_toNat_eq (by omega), fun h => by rw [h]⟩
  rw [e] at h; exact h
theorem Yd.neq64 {T T' : TypeId} {x y : Operand} {m m' : Int} (p q : BitVec 64) (hx : ev l x = some (.int .u64 m)) (hy : ev l y = some (.int .u64 m')) (hm : m = (p.toNat : Int)) (hm' : m' = (q.toNat : Int)) : Yd P ⟨d, .binOp .neq T x y T', ty, pos, aft, g⟩ l (.bool (decide (p ≠ q))) := by
  have h := Yd.neq (P := P) (d := d) (ty := ty) (pos := pos) (aft := aft) (g := g) (T := T) (T' := T') hx hy
  have e : decide (m ≠ m') = decide (p ≠ q) := by subst hm hm'; rw [decide_eq_decide]; exact ⟨fun h e => h (by rw [e]), fun h e => h (BitVec.eq_of_toNat_eq (by omega))⟩
  rw [e] at h; exact h
theorem Yd.to64 {x : Operand} {S T : TypeId} {k' : IntKind} {m : Int} (p : BitVec 64) (hS : (P.underlying S).isSome = true) (hT : intOfTy P T = some .u64) (hx : ev l x = some (.int k' m)) (hp : BitVec.ofInt 64 m = p) : Yd P ⟨d, .convert S T x, ty, pos, aft, g⟩ l (.int .u64 (p.toNat : Int)) := fun a kn w => by
  obtain ⟨dS, hS'⟩ := Option.isSome_iff_exists.mp hS
  subst hp
  simp [execOp, kn.ev hx, convert, run_underlying hS', run_underlying (underlying_int hT), Conv.intToInt, wrap64_u]

/-! from one kind to another -/
theorem Yd.conv8_16 {x : Operand} {S T : TypeId} {m : Int} (p : BitVec 8) (hS : (P.underlying S).isSome = true) (hT : intOfTy P T = some .u16) (hx : ev l x = some (.int .u8 m)) (hm : m = (p.toNat : Int)) : Yd P ⟨d, .convert S T x, ty, pos, aft, g⟩ l (.int .u16 ((p.setWidth 16).toNat : Int)) := by
  subst hm
  refine Yd.to16 _ hS hT hx ?_
  apply BitVec.eq_of_toNat_eq
  simp [BitVec.toNat_ofInt]
theorem Yd.conv8_32 {x : Operand} {S T : TypeId} {m : Int} (p : BitVec 8) (hS : (P.underlying S).isSome = true) (hT : intOfTy P T = some .u32) (hx : ev l x = some (.int .u8 m)) (hm : m = (p.toNat : Int)) : Yd P ⟨d, .convert S T x, ty, pos, aft, g⟩ l (.int .u32 ((p.setWidth 32).toNat : Int)) := by
  subst hm
  refine Yd.to32 _ hS hT hx ?_
  apply BitVec.eq_of_toNat_eq
  simp [BitVec.toNat_ofInt]
theorem Yd.conv8_64 {x : Operand} {S T : TypeId} {m : Int} (p : BitVec 8) (hS : (P.underlying S).isSome = true) (hT : intOfTy P T = some .u64) (hx : ev l x = some (.int .u8 m)) (hm : m = (p.toNat : Int)) : Yd P ⟨d, .convert S T x, ty, pos, aft, g⟩ l (.int .u64 ((p.setWidth 64).toNat : Int)) := by
  subst hm
  refine Yd.to64 _ hS hT hx ?_
  apply BitVec.eq_of_toNat_eq
  simp [BitVec.toNat_ofInt]
theorem Yd.int8 {x : Operand} {S T : TypeId} {m : Int} (p : BitVec 8) (hS : (P.underlying S).isSome = true) (hT : intOfTy P T = some .i64) (hx : ev l x = some (.int .u8 m)) (hm : m = (p.toNat : Int)) : Yd P ⟨d, .convert S T x, ty, pos, aft, g⟩ l (.int .i64 (p.toNat : Int)) := by
  subst hm
  have := p.isLt
  exact Yd.toInt hS hT hx (by omega) (by omega)
theorem Yd.conv16_8 {x : Operand} {S T : TypeId} {m : Int} (p : BitVec 16) (hS : (P.underlying S).isSome = true) (hT : intOfTy P T = some .u8) (hx : ev l x = some (.int .u16 m)) (hm : m = (p.toNat : Int)) : Yd P ⟨d, .convert S T x, ty, pos, aft, g⟩ l (.int .u8 ((p.setWidth 8).toNat : Int)) := by
  subst hm
  refine Yd.to8 _ hS hT hx ?_
  apply BitVec.eq_of_toNat_eq
  simp [BitVec.toNat_ofInt]
theorem Yd.conv16_32 {x : Operand} {S T : TypeId} {m : Int} (p : BitVec 16) (hS : (P.underlying S).isSome = true) (hT : intOfTy P T = some .u32) (hx : ev l x = some (.int .u16 m)) (hm : m = (p.toNat : Int)) : Yd P ⟨d, .convert S T x, ty, pos, aft, g⟩ l (.int .u32 ((p.setWidth 32).toNat : Int)) := by
  subst hm
  refine Yd.to32 _ hS hT hx ?_
  apply BitVec.eq_of_toNat_eq
  simp [BitVec.toNat_ofInt]
theorem Yd.conv16_64 {x : Operand} {S T : TypeId} {m : Int} (p : BitVec 16) (hS : (P.underlying S).isSome = true) (hT : intOfTy P T = some .u64) (hx : ev l x = some (.int .u16 m)) (hm : m = (p.toNat : Int)) : Yd P ⟨d, .convert S T x, ty, pos, aft, g⟩ l (.int .u64 ((p.setWidth 64).toNat : Int)) := by
  subst hm
  refine Yd.to64 _ hS hT hx ?_
  apply BitVec.eq_of_toNat_eq
  simp [BitVec.toNat_ofInt]
theorem Yd.int16 {x : Operand} {S T : TypeId} {m : Int} (p : BitVec 16) (hS : (P.underlying S).isSome = true) (hT : intOfTy P T = some .i64) (hx : ev l x = some (.int .u16 m)) (hm : m = (p.toNat : Int)) : Yd P ⟨d, .convert S T x, ty, pos, aft, g⟩ l (.int .i64 (p.toNat : Int)) := by
  subst hm
  have := p.isLt
  exact Yd.toInt hS hT hx (by omega) (by omega)
theorem Yd.conv32_8 {x : Operand} {S T : TypeId} {m : Int} (p : BitVec 32) (hS : (P.underlying S).isSome = true) (hT : intOfTy P T = some .u8) (hx : ev l x = some (.int .u32 m)) (hm : m = (p.toNat : Int)) : Yd P ⟨d, .convert S T x, ty, pos, aft, g⟩ l (.int .u8 ((p.setWidth 8).toNat : Int)) := by
  subst hm
  refine Yd.to8 _ hS hT hx ?_
  apply BitVec.eq_of_toNat_eq
  simp [BitVec.toNat_ofInt]
theorem Yd.conv32_16 {x : Operand} {S T : TypeId} {m : Int} (p : BitVec 32) (hS : (P.underlying S).isSome = true) (hT : intOfTy P T = some .u16) (hx : ev l x = some (.int .u32 m)) (hm : m = (p.toNat : Int)) : Yd P ⟨d, .convert S T x, ty, pos, aft, g⟩ l (.int .u16 ((p.setWidth 16).toNat : Int)) := by
  subst hm
  refine Yd.to16 _ hS hT hx ?_
  apply BitVec.eq_of_toNat_eq
  simp [BitVec.toNat_ofInt]
theorem Yd.conv32_64 {x : Operand} {S T : TypeId} {m : Int} (p : BitVec 32) (hS : (P.underlying S).isSome = true) (hT : intOfTy P T = some .u64) (hx : ev l x = some (.int .u32 m)) (hm : m = (p.toNat : Int)) : Yd P ⟨d, .convert S T x, ty, pos, aft, g⟩ l (.int .u64 ((p.setWidth 64).toNat : Int)) := by
  subst hm
  refine Yd.to64 _ hS hT hx ?_
  apply BitVec.eq_of_toNat_eq
  simp [BitVec.toNat_ofInt]
theorem Yd.int32 {x : Operand} {S T : TypeId} {m : Int} (p : BitVec 32) (hS : (P.underlying S).isSome = true) (hT : intOfTy P T = some .i64) (hx : ev l x = some (.int .u32 m)) (hm : m = (p.toNat : Int)) : Yd P ⟨d, .convert S T x, ty, pos, aft, g⟩ l (.int .i64 (p.toNat : Int)) := by
  subst hm
  have := p.isLt
  exact Yd.toInt hS hT hx (by omega) (by omega)
theorem Yd.conv64_8 {x : Operand} {S T : TypeId} {m : Int} (p : BitVec 64) (hS : (P.underlying S).isSome = true) (hT : intOfTy P T = some .u8) (hx : ev l x = some (.int .u64 m)) (hm : m = (p.toNat : Int)) : Yd P ⟨d, .convert S T x, ty, pos, aft, g⟩ l (.int .u8 ((p.setWidth 8).toNat : Int)) := by
  subst hm
  refine Yd.to8 _ hS hT hx ?_
  apply BitVec.eq_of_toNat_eq
  simp [BitVec.toNat_ofInt]
theorem Yd.conv64_16 {x : Operand} {S T : TypeId} {m : Int} (p : BitVec 64) (hS : (P.underlying S).isSome = true) (hT : intOfTy P T = some .u16) (hx : ev l x = some (.int .u64 m)) (hm : m = (p.toNat : Int)) : Yd P ⟨d, .convert S T x, ty, pos, aft, g⟩ l (.int .u16 ((p.setWidth 16).toNat : Int)) := by
  subst hm
  refine Yd.to16 _ hS hT hx ?_
  apply BitVec.eq_of_toNat_eq
  simp [BitVec.toNat_ofInt]
theorem Yd.conv64_32 {x : Operand} {S T : TypeId} {m : Int} (p : BitVec 64) (hS : (P.underlying S).isSome = true) (hT : intOfTy P T = some .u32) (hx : ev l x = some (.int .u64 m)) (hm : m = (p.toNat : Int)) : Yd P ⟨d, .convert S T x, ty, pos, aft, g⟩ l (.int .u32 ((p.setWidth 32).toNat : Int)) := by
  subst hm
  refine Yd.to32 _ hS hT hx ?_
  apply BitVec.eq_of_toNat_eq
  simp [BitVec.toNat_ofInt]

/-! ### memory -/
/-- A block of cells that is ours alone. -/
abbrev row (b : Nat) (cs : List Value) (T : TypeId) : Ck := ⟨b, .cells cs.toArray T (0, 0), true⟩

theorem cell_at {w : World} {b o : Nat} {cs : Array Value} {T : TypeId} {fr : Nat × Nat} (h : w.heap[b]? = some (.cells cs T fr)) : w.cell? ⟨b, o, none⟩ = cs[o]? := by
  simp [World.cell?, h]

theorem Hd.load1 {T : TypeId} {x : Operand} {b o : Nat} {cs : List Value} {T' : TypeId} {fr : Nat × Nat} {ex : Bool} {v : Value} {K : Next → List Ck → Prop} (hT : aggB P T = false) (hx : ev l x = some (.pointer (some ⟨b, o, none⟩)))
    (hm : (⟨b, .cells cs.toArray T' fr, ex⟩ : Ck) ∈ H) (hc : cs[o]? = some v) (k : K (.value v) H) : Hd P ⟨d, .load T x, ty, pos, aft, g⟩ l H K := fun a w R kn s => by
  have h := s.holds _ (List.mem_append_left R hm)
  have hcell : w.cell? ⟨b, o, none⟩ = some v := by rw [cell_at h]; simpa using hc
  refine ⟨.value v, w, H, ?_, s, .refl w, k⟩
  simp [execOp, kn.ev hx, Instr.loadAt, Instr.sureAddr, loadVar, run_isAgg_no hT, hcell]

theorem Hd.loadA {T : TypeId} {x : Operand} {b o n : Nat} {cs : List Value} {T' : TypeId} {fr : Nat × Nat} {ex : Bool} {vs : List Value} {K : Next → List Ck → Prop} (hT : isAggOf P T n = true) (hx : ev l x = some (.pointer (some ⟨b, o, none⟩)))
    (hm : (⟨b, .cells cs.toArray T' fr, ex⟩ : Ck) ∈ H) (hn : vs.length = n) (hc : (cs.drop o).take n = vs) (k : K (.value (.agg vs.toArray)) H) : Hd P ⟨d, .load T x, ty, pos, aft, g⟩ l H K := fun a w R kn s => by
  have h := s.holds _ (List.mem_append_left R hm)
  have hl := run_loadCells_list (P := P) w ⟨b, o, none⟩ vs (fun j v hv => by
    rw [add_plain, cell_at h]
    subst hc
    rw [List.getElem?_take] at hv
    split at hv
    · simpa using hv
    · cases hv)
  rw [hn] at hl
  refine ⟨.value (.agg vs.toArray), w, H, ?_, s, .refl w, k⟩
  simp [execOp, kn.ev hx, Instr.loadAt, Instr.sureAddr, loadVar, (run_isAgg_yes hT w).1, (run_isAgg_yes hT w).2, hl]

theorem kept_setRow (w : World) (b : Nat) (cs : Array Value) : Kept w (w.setRow b cs) := ⟨rfl, rfl, rfl, by simp, by first | exact Nat.le_refl _ | exact Nat.le_succ _⟩

theorem Sat.setRow {w : World} {b : Nat} {cs cs' : Array Value} {T : TypeId} {D : List Ck} (s : Sat w (⟨b, .cells cs T (0, 0), true⟩ :: D)) : Sat (w.setRow b cs') (⟨b, .cells cs' T (0, 0), true⟩ :: D) :=
  s.write (setRow_heap w b cs cs' T (0, 0) (s.holds _ List.mem_cons_self)) (fun k hk => setRow_other w b k cs' hk)

theorem sz_ne {T n : Nat} {v : Value} (h : szOf P T = some n) (hv : v.cells.size = n) (w : World) : (storeVar T ⟨0, 0, none⟩ v) = storeVar T ⟨0, 0, none⟩ v := rfl

/-- What is written over a part of a block. -/
def splice (cs : List Value) (o : Nat) (vs : List Value) : List Value := cs.take o ++ vs ++ cs.drop (o + vs.length)

theorem Hd.storeN {T : TypeId} {x y : Operand} {b o n : Nat} {cs : List Value} {T' : TypeId} {v : Value} {D : List Ck} {K : Next → List Ck → Prop} (hT : szOf P T = some n) (hx : ev l x = some (.pointer (some ⟨b, o, none⟩))) (hy : ev l y = some v)
    (hv : v.cells.size = n) (h1 : ∀ u ∈ v.cells.toList, u.oneCell' = true) (hm : H.Perm (row b cs T' :: D)) (hc : o + n ≤ cs.length) (k : K .skip (row b (splice cs o v.cells.toList) T' :: D)) : Hd P ⟨d, .store T x y, ty, pos, aft, g⟩ l H K := fun a w R kn s => by
  have s' : Sat w (row b cs T' :: (D ++ R)) := s.perm (hm.append_right R)
  have h := s'.holds _ List.mem_cons_self
  have hst := run_storeCells_at P b o T' v.cells.toList 0 cs.toArray w h (by simp; omega) h1
  refine ⟨.skip, _, row b (splice cs o v.cells.toList) T' :: D, ?_, Sat.setRow (cs' := (splice cs o v.cells.toList).toArray) s', kept_setRow _ _ _, k⟩
  simp only [Nat.add_zero] at hst
  have e : (cs.toArray.toList.take o ++ v.cells.toList ++ cs.toArray.toList.drop (o + v.cells.toList.length)).toArray = (splice cs o v.cells.toList).toArray := by simp [splice]
  rw [e] at hst
  simp only [execOp, kn.ev hx, kn.ev hy, Instr.storeAt, Instr.sureAddr, storeVar]
  simp [run_sizeOf hT, hv, hst]

theorem splice_one (cs : List Value) (o : Nat) (v : Value) (h : o < cs.length) : splice cs o [v] = cs.set o v := by
  rw [splice, List.set_eq_take_append_cons_drop, if_pos h]
  simp

/-- A store of one cell. -/
theorem Hd.store1 {T : TypeId} {x y : Operand} {b o : Nat} {cs : List Value} {T' : TypeId} {v : Value} {D : List Ck} {K : Next → List Ck → Prop} (hT : szOf P T = some 1) (hx : ev l x = some (.pointer (some ⟨b, o, none⟩))) (hy : ev l y = some v)
    (h1 : v.oneCell' = true) (hm : H.Perm (row b cs T' :: D)) (hc : o < cs.length) (k : K .skip (row b (cs.set o v) T' :: D)) : Hd P ⟨d, .store T x y, ty, pos, aft, g⟩ l H K := by
  have hcells : v.cells = #[v] := by cases v <;> first | rfl | cases h1
  refine Hd.storeN hT hx hy (by rw [hcells]; rfl) (by rw [hcells]; simpa using h1) hm hc ?_
  rw [hcells]
  rw [show (#[v] : Array Value).toList = [v] from rfl, splice_one _ _ _ hc]
  exact k

def zeroOf (P : Program) (t : TypeId) : Option (List Value) := match P.info? t with
  | some i => (match i.zero with | some z => some z.cells.toList | none => none)
  | none => none
theorem run_zeroOf {t : TypeId} {zs : List Value} (h : zeroOf P t = some zs) : ∃ z : Value, z.cells = zs.toArray ∧ ∀ w, (zeroValue t).run P w = .ok z w := by
  unfold zeroOf at h
  split at h
  · rename_i i hi
    split at h
    · rename_i z hz
      simp at h
      exact ⟨z, by rw [← h], fun w => by simp [zeroValue, typeInfo, hi, hz]⟩
    · cases h
  · cases h

theorem Hd.alloc {T : TypeId} {zs : List Value} {K : Next → List Ck → Prop} (hz : zeroOf P T = some zs) (k : ∀ b, K (.value (.pointer (some ⟨b, 0, none⟩))) (row b zs T :: H)) : Hd P ⟨d, .alloc T, ty, pos, aft, g⟩ l H K := fun a w R kn s => by
  obtain ⟨z, hzc, hr⟩ := run_zeroOf hz
  refine ⟨_, _, row w.heap.size zs T :: H, ?_, s.push (.cells zs.toArray T) true, ⟨rfl, rfl, rfl, by simp, by first | exact Nat.le_refl _ | exact Nat.le_succ _⟩, k w.heap.size⟩
  simp [execOp, Instr.alloc, hr, newVar, newRow, hzc]

theorem Hd.box {T : TypeId} {x : Operand} {v : Value} {K : Next → List Ck → Prop} (hx : ev l x = some v) (k : ∀ b, K (.value (.pointer (some ⟨b, 0, none⟩))) (row b v.cells.toList T :: H)) : Hd P ⟨d, .box T x, ty, pos, aft, g⟩ l H K := fun a w R kn s => by
  refine ⟨_, _, row w.heap.size v.cells.toList T :: H, ?_, s.push (.cells v.cells.toList.toArray T) true, ⟨rfl, rfl, rfl, by simp, by first | exact Nat.le_refl _ | exact Nat.le_succ _⟩, k w.heap.size⟩
  simp [execOp, kn.ev hx, Instr.box, newVar, newRow]

/-! slices that are read -/
/-- v is a slice of m elements, whose cells are xs; they lie in a block of H. -/
def Rs (v : Value) (m : Nat) (xs : List Value) (H : List Ck) : Prop :=
  (∃ ao cap, v = .slice ao 0 cap ∧ m = 0 ∧ xs = []) ∨
  ∃ (b o cap : Nat) (cs : List Value) (T : TypeId) (fr : Nat × Nat) (ex : Bool), v = .slice (some ⟨b, o, none⟩) m cap ∧ m ≤ cap ∧ (⟨b, .cells cs.toArray T fr, ex⟩ : Ck) ∈ H ∧ (cs.drop o).take xs.length = xs

theorem Rs.mono {v : Value} {m : Nat} {xs : List Value} {A B : List Ck} (h : Rs v m xs A) (s : ∀ c ∈ A, c ∈ B) : Rs v m xs B := by
  rcases h with h | ⟨b, o, cap, cs, T, fr, ex, h1, h2, h3, h4⟩
  · exact .inl h
  · exact .inr ⟨b, o, cap, cs, T, fr, ex, h1, h2, s _ h3, h4⟩
theorem Rs.form {v : Value} {m : Nat} {xs : List Value} {A : List Ck} (h : Rs v m xs A) : ∃ ao cap, v = .slice ao m cap ∧ m ≤ cap := by
  rcases h with ⟨ao, cap, rfl, rfl, rfl⟩ | ⟨b, o, cap, cs, T, fr, ex, h1, h2, h3, h4⟩
  · exact ⟨_, _, rfl, Nat.zero_le _⟩
  · exact ⟨_, _, h1, h2⟩
/-- The place of an element, and its cells. -/
theorem Rs.at {ao : Option Addr} {n c m : Nat} {xs : List Value} {A : List Ck} (h : Rs (.slice ao n c) m xs A) (hne : xs ≠ []) : ∃ (b o : Nat) (cs : Array Value) (T : TypeId) (fr : Nat × Nat) (ex : Bool), ao = some ⟨b, o, none⟩ ∧ (⟨b, .cells cs T fr, ex⟩ : Ck) ∈ A ∧ ∀ i v, xs[i]? = some v → cs[o + i]? = some v := by
  rcases h with ⟨_, _, h, rfl, rfl⟩ | ⟨b, o, cap, cs, T, fr, ex, h1, h2, h3, h4⟩
  · exact absurd rfl hne
  · cases h1
    refine ⟨b, o, cs.toArray, T, fr, ex, rfl, h3, fun i v hv => ?_⟩
    rw [← h4, List.getElem?_take] at hv
    split at hv
    · simpa using hv
    · cases hv

/-- 'x[i]' of a slice whose elements are one cell each: the two operations at once. -/
theorem WL.elem {n : Nat} {w0 : World} {R : List Ck} {ops : Array Oper} {Q : Exit → Act → World → Prop} {d1 d2 : Nat} {T e T2 : TypeId} {x y : Operand} {ty1 ty2 : TypeId} {p1 p2 : String} {a1 a2 : Array Edge} {rest : List Oper} {ao : Option Addr} {len c m : Nat} {xs : List Value} {k : IntKind} {i : Nat} {mi : Int} {v : Value}
    (hT : sliceOf P T = some e) (hs : szOf P e = some 1) (hT2 : aggB P T2 = false) (hx : ev l x = some (.slice ao len c)) (hy : ev l y = some (.int k mi)) (hmi : mi = (i : Int)) (hr : Rs (.slice ao len c) m xs H) (hv : xs[i]? = some v) (hlt : i < len) (h1 : Nat.blt d1 n = true) (h2 : Nat.blt d2 n = true)
    (h : ∀ p, WL P n w0 R ops Q rest ((d2, v) :: (d1, p) :: l) H) : WL P n w0 R ops Q (⟨some d1, .indexAddr T x y, ty1, p1, a1, none⟩ :: ⟨some d2, .load T2 (.tmp d1), ty2, p2, a2, none⟩ :: rest) l H := by
  subst hmi
  have hne : xs ≠ [] := fun e => by subst e; simp at hv
  obtain ⟨b, o, cs, T', fr, ex, rfl, hm, hcs⟩ := hr.at hne
  refine WL.y h1 (Yd.indexAddr hT hs hx hy (by omega) (by omega)) ?_
  refine WL.h h2 (Hd.load1 (b := b) (o := o + (i : Int).toNat * 1) (cs := cs.toList) hT2 (by simp [ev, getv_cons]) (by simpa using hm) (by have := hcs i v hv; simpa using this) ⟨v, rfl, h _⟩)

/-- The block of a state that is told to be one of H's. -/
theorem WL.elemN {n : Nat} {w0 : World} {R : List Ck} {ops : Array Oper} {Q : Exit → Act → World → Prop} {d1 d2 j dj : Nat} {b : Bool} {T e T2 : TypeId} {x y : Operand} {ty1 ty2 : TypeId} {p1 p2 : String} {a1 a2 : Array Edge} {rest : List Oper} {ao : Option Addr} {len c m : Nat} {xs : List Value} {k : IntKind} {i : Nat} {mi : Int} {v : Value}
    (hT : sliceOf P T = some e) (hs : szOf P e = some 1) (hT2 : aggB P T2 = false) (hx : ev l x = some (.slice ao len c)) (hy : ev l y = some (.int k mi)) (hmi : mi = (i : Int)) (hr : Rs (.slice ao len c) m xs H) (hv : xs[i]? = some v) (hlt : i < len) (h1 : Nat.blt d1 n = true) (h2 : Nat.blt d2 n = true)
    (hj : (ops[j]?).bind (·.dst) = some dj) (hg : getv l dj = some (.bool b)) (hne : Nat.beq d1 dj = false)
    (h : ∀ p, WL P n w0 R ops Q rest ((d2, v) :: (d1, p) :: l) H) : WL P n w0 R ops Q (⟨some d1, .indexAddr T x y, ty1, p1, a1, some (j, b)⟩ :: ⟨some d2, .load T2 (.tmp d1), ty2, p2, a2, some (j, b)⟩ :: rest) l H := by
  subst hmi
  have hne' : xs ≠ [] := fun e => by subst e; simp at hv
  obtain ⟨bb, o, cs, T', fr, ex, rfl, hm, hcs⟩ := hr.at hne'
  refine WL.gy hj hg h1 (Yd.indexAddr hT hs hx hy (by omega) (by omega)) ?_
  refine WL.gh hj (by rw [getv]; rw [hne]; exact hg) h2 (Hd.load1 (b := bb) (o := o + (i : Int).toNat * 1) (cs := cs.toList) hT2 (by simp [ev, getv_cons]) (by simpa using hm) (by have := hcs i v hv; simpa using this) ⟨v, rfl, h _⟩)

/-! slices that are our own -/
/-- v is a slice of n elements of size sz, whose cells are xs; its block, of elements of type T, is C, ours alone. -/
def Own (v : Value) (n : Nat) (xs : List Value) (T : TypeId) (sz : Nat) (C : List Ck) : Prop :=
  (v = .slice none 0 0 ∧ n = 0 ∧ xs = [] ∧ C = []) ∨
  ∃ (b cap : Nat) (extra : List Value), v = .slice (some ⟨b, 0, none⟩) n cap ∧ n ≤ cap ∧ cap ≤ maxLen ∧ xs.length = n * sz ∧ extra.length = (cap - n) * sz ∧ C = [row b (xs ++ extra) T]

theorem Own.len {v : Value} {n : Nat} {xs : List Value} {T : TypeId} {sz : Nat} {C : List Ck} (h : Own v n xs T sz C) : xs.length = n * sz := by
  rcases h with ⟨_, rfl, rfl, _⟩ | ⟨_, _, _, _, _, _, h, _⟩
  · simp
  · exact h
theorem Own.nil (T : TypeId) (sz : Nat) : Own (.slice none 0 0) 0 [] T sz [] := .inl ⟨rfl, rfl, rfl, rfl⟩
theorem Own.rs {v : Value} {n : Nat} {xs : List Value} {T : TypeId} {sz : Nat} {C : List Ck} (h : Own v n xs T sz C) : Rs v n xs C := by
  rcases h with ⟨rfl, rfl, rfl, rfl⟩ | ⟨b, cap, extra, rfl, h1, h2, h3, h4, rfl⟩
  · exact .inl ⟨_, _, rfl, rfl, rfl⟩
  · exact .inr ⟨b, 0, cap, xs ++ extra, T, (0, 0), true, rfl, h1, List.mem_cons_self, by simp⟩
theorem Own.form {v : Value} {n : Nat} {xs : List Value} {T : TypeId} {sz : Nat} {C : List Ck} (h : Own v n xs T sz C) : ∃ ao cap, v = .slice ao n cap ∧ n ≤ cap := h.rs.form

theorem elemInfo_spec {e sz bytes : Nat} {zs : List Value} (h : elemInfo P e = some (sz, zs, bytes)) : ∃ i z, P.info? e = some i ∧ i.zero = some z ∧ i.size = sz ∧ i.bytes = bytes ∧ z.cells.toList = zs := by
  unfold elemInfo at h
  split at h
  · rename_i i hi
    split at h
    · rename_i z hz
      simp at h
      exact ⟨i, z, hi, hz, h.1, h.2.2, h.2.1⟩
    · cases h
  · cases h

theorem Rs.cells {w : World} {u : Value} {m : Nat} {xs : List Value} {A R : List Ck} (h : Rs u m xs A) (s : Sat w (A ++ R)) :
    (∃ ao cap, u = .slice ao 0 cap ∧ m = 0 ∧ xs = []) ∨ ∃ (a : Addr) (c : Nat), u = .slice (some a) m c ∧ ∀ j v, xs[j]? = some v → w.cell? (a.add j) = some v := by
  rcases h with h | ⟨b, o, cap, cs, T, fr, ex, rfl, h2, h3, h4⟩
  · exact .inl h
  · refine .inr ⟨_, _, rfl, fun j v hv => ?_⟩
    rw [add_plain, cell_at (s.holds _ (List.mem_append_left R h3))]
    rw [← h4, List.getElem?_take] at hv
    split at hv
    · simpa using hv
    · cases hv

theorem size_zeroCells' (z : Array Value) (n : Nat) : (Builtin.zeroCells z n).toList.length = n * z.size := by simp [Builtin.zeroCells]

/-- What an append does. -/
theorem run_append {w : World} {T e sz bytes : Nat} {zs : List Value} {v u : Value} {n m : Nat} {xs news : List Value} {C D : List Ck} {ty : TypeId} (hT : sliceOf P T = some e) (hE : elemInfo P e = some (sz, zs, bytes)) (hz : zs.length = sz) (hsz : 0 < sz)
    (own : Own v n xs e sz C) (src : Rs u m news (C ++ D)) (hl : news.length = m * sz) (h1 : ∀ u ∈ news, u.oneCell' = true) (hmax : n + m ≤ maxLen) (hb : (n + m) * bytes ≤ 140737488355328) (s : Sat w (C ++ D)) :
    ∃ v' w' C', (Builtin.append_ #[T, T] ty #[v, u]).run P w = .ok v' w' ∧ Own v' (n + m) (xs ++ news) e sz C' ∧ Sat w' (C' ++ D) ∧ Kept w w' ∧ (v' = .slice none 0 0 ↔ v = .slice none 0 0 ∧ m = 0) := by
  obtain ⟨i, z, hi, hzr, rfl, rfl, rfl⟩ := elemInfo_spec hE
  have hu := underlying_slice hT
  have hsmall : n + m ≤ 9223372036854775807 := by simp only [maxLen] at hmax; omega
  have hlen : (xs ++ news).length = (n + m) * i.size := by rw [List.length_append, own.len, hl, Nat.add_mul]
  have grown : ∀ (old : Nat), old < n + m →
      Own (.slice (some ⟨w.heap.size, 0, none⟩) (n + m) (grownCap w (n + m) old e)) (n + m) (xs ++ news) e i.size [row w.heap.size ((xs ++ news) ++ (Builtin.zeroCells z.cells (grownCap w (n + m) old e - (n + m))).toList) e] ∧
      Sat (w.drew.alloc (.cells (xs.toArray ++ news.toArray ++ Builtin.zeroCells z.cells (grownCap w (n + m) old e - (n + m))) e)) ([row w.heap.size ((xs ++ news) ++ (Builtin.zeroCells z.cells (grownCap w (n + m) old e - (n + m))).toList) e] ++ D) := by
    intro old ho
    have hge := grownCap_ge w (n + m) old e
    have hcm : grownCap w (n + m) old e ≤ maxLen := grownCap_le_maxLen w (n + m) old e hmax
    refine ⟨.inr ⟨_, _, _, rfl, hge, hcm, hlen, ?_, rfl⟩, ?_⟩
    · rw [size_zeroCells']
      congr 1
    · have := (s.drop).heap (w' := w.drew) rfl
      have h2 := this.push (.cells (xs.toArray ++ news.toArray ++ Builtin.zeroCells z.cells (grownCap w (n + m) old e - (n + m))) e) true
      have e1 : (xs.toArray ++ news.toArray ++ Builtin.zeroCells z.cells (grownCap w (n + m) old e - (n + m))) = (((xs ++ news) ++ (Builtin.zeroCells z.cells (grownCap w (n + m) old e - (n + m))).toList)).toArray := by
        apply Array.ext'
        simp
      rw [e1] at h2 ⊢
      exact h2
  have kg : ∀ o, Kept w (w.drew.alloc o) := fun o => ⟨rfl, rfl, rfl, by simp, by first | exact Nat.le_refl _ | exact Nat.le_succ _⟩
  rcases Rs.cells (R := []) src (by simpa using s) with ⟨uo, uc, rfl, rfl, rfl⟩ | ⟨a, c, rfl, hcells⟩
  · refine ⟨v, w, C, ?_, by simpa using own, s, .refl w, by simp⟩
    obtain ⟨ao, cap, rfl, hc⟩ := own.form
    have hst : ∀ a' : Addr, (storeCells a' []).run P w = .ok () w := fun a' => by simp [storeCells]
    have hld : ∀ a' : Addr, (loadCells a' 0).run P w = .ok #[] w := fun a' => by simp [loadCells, loadCellsFrom]
    cases ao with
    | none => cases uo <;> simp [Builtin.append_, run_underlying hu, sizeOf, typeInfo, hi, Builtin.lenOf, hc, Builtin.firstCells, hld]
    | some a' => cases uo <;> simp [Builtin.append_, run_underlying hu, sizeOf, typeInfo, hi, Builtin.lenOf, hc, Builtin.firstCells, hst, hld]
  · rcases own with ⟨rfl, rfl, rfl, rfl⟩ | ⟨b, cap, extra, rfl, hnc, hcm, hxl, hel, rfl⟩
    · by_cases hm : m = 0
      · subst hm
        have hn : news = [] := List.eq_nil_of_length_eq_zero (by simpa using hl)
        subst hn
        refine ⟨.slice none 0 0, w, [], ?_, Own.nil e i.size, by simpa using s, .refl w, by simp⟩
        simp [Builtin.append_, run_underlying hu, sizeOf, typeInfo, hi, Builtin.lenOf, Builtin.firstCells, loadCells, loadCellsFrom]
      · have hr := run_append_nil (P := P) w T ty e i z hu hi hzr a m c news hl hcells (by omega) (by omega) (by simp only [Nat.zero_add] at hb; omega)
        have hgr := grown 0 (by omega)
        simp only [Nat.zero_add, List.nil_append] at hgr hr ⊢
        refine ⟨_, _, _, hr, hgr.1, ?_, kg _, by simp [hm]⟩
        simpa using hgr.2
    · by_cases hroom : n + m ≤ cap
      · have hg := s.holds _ (List.mem_append_left D List.mem_cons_self)
        have hfit : n * i.size + news.length ≤ (xs ++ extra).toArray.size := by
          simp only [List.size_toArray, List.length_append, hxl, hel, hl, ← Nat.add_mul]
          apply Nat.mul_le_mul_right
          omega
        have hr := run_append_room (P := P) w T ty e i hu hi b n cap _ hg a m c news hl hcells h1 hroom hfit
        have e1 : ((xs ++ extra).toArray.toList.take (n * i.size) ++ news ++ (xs ++ extra).toArray.toList.drop (n * i.size + news.length)) = (xs ++ news) ++ extra.drop news.length := by
          rw [← hxl]
          simp [List.drop_append]
        rw [e1] at hr
        refine ⟨_, _, [row b ((xs ++ news) ++ extra.drop news.length) e], hr, .inr ⟨b, cap, _, rfl, hroom, hcm, hlen, ?_, rfl⟩, Sat.setRow s, kept_setRow _ _ _, by simp⟩
        rw [List.length_drop, hel, hl, ← Nat.sub_mul]
        congr 1
        omega
      · have holds : ∀ j u, xs[j]? = some u → w.cell? ((⟨b, 0, none⟩ : Addr).add j) = some u := fun j u hu => by
          rw [add_plain, cell_at (s.holds _ (List.mem_append_left D List.mem_cons_self))]
          have hj : j < xs.length := (List.getElem?_eq_some_iff.1 hu).1
          simp only [List.getElem?_toArray, Nat.zero_add]
          rw [List.getElem?_append_left hj]
          exact hu
        have hr := run_append_grow (P := P) w T ty e i z hu hi hzr ⟨b, 0, none⟩ n cap xs hxl holds a m c news hl hcells (by omega) (by omega) (growslice_fits (by omega) hb)
        have hgr := grown cap (by omega)
        exact ⟨_, _, _, hr, hgr.1, hgr.2, kg _, by simp⟩

theorem Hd.append {x y : Operand} {T e sz bytes : Nat} {zs : List Value} {v u : Value} {n m : Nat} {xs news : List Value} {C D : List Ck} {K : Next → List Ck → Prop} (hT : sliceOf P T = some e) (hE : elemInfo P e = some (sz, zs, bytes)) (hz : zs.length = sz) (hsz : 0 < sz)
    (hx : ev l x = some v) (hy : ev l y = some u) (own : Own v n xs e sz C) (src : Rs u m news (C ++ D)) (hl : news.length = m * sz) (h1 : ∀ u ∈ news, u.oneCell' = true) (hmax : n + m ≤ maxLen) (hb : (n + m) * bytes ≤ 140737488355328) (hH : H.Perm (C ++ D))
    (k : ∀ v' C', Own v' (n + m) (xs ++ news) e sz C' → (v' = .slice none 0 0 ↔ v = .slice none 0 0 ∧ m = 0) → K (.value v') (C' ++ D)) : Hd P ⟨d, .call ⟨.builtin .append, #[x, y], #[T, T]⟩, ty, pos, aft, g⟩ l H K := fun a w R kn s => by
  have s' : Sat w (C ++ (D ++ R)) := by have := s.perm (hH.append_right R); simpa using this
  obtain ⟨v', w', C', hr, ho, hs', hk, hn⟩ := run_append (ty := ty) (D := D ++ R) hT hE hz hsz own (src.mono fun c hc => by simp at hc ⊢; rcases hc with hc | hc <;> simp [hc]) hl h1 hmax hb s'
  refine ⟨.value v', w', C' ++ D, ?_, by simpa using hs', hk, k v' C' ho hn⟩
  simp [execOp, resolve, invoke, builtin, kn.ev hx, kn.ev hy, hr]

/-! literal slices -/
theorem Hd.buildSlice {T e sz len : Nat} {zs : List Value} {parts : List (Nat × Operand)} {vs : List (Nat × Value)} {cells : List Value} {K : Next → List Ck → Prop} (hT : sliceOf P T = some e) (hS : szOf P e = some sz) (hz : zeroOf P e = some zs) (hp : (parts.map fun p => (ev l p.2).map fun v => (p.1, v)) = vs.map some) (hsmall : Nat.ble (len * sz) 16777216 = true)
    (hf : Instr.fill (fun i => some (i * sz, sz)) ((Array.range (len * sz)).map (zs.toArray[· % zs.toArray.size]!)) vs = some cells.toArray)
    (k : ∀ b, K (.value (.slice (some ⟨b, 0, none⟩) len len)) (row b cells e :: H)) : Hd P ⟨d, .buildSlice T len parts.toArray, ty, pos, aft, g⟩ l H K := fun a w R kn s => by
  have hparts : (parts.toArray.map fun (x : Nat × Operand) => (x.1, a.eval x.2)).toList = vs := by
    simp only [List.map_toArray]
    have : ∀ (ps : List (Nat × Operand)) (us : List (Nat × Value)), (ps.map fun p => (ev l p.2).map fun v => (p.1, v)) = us.map some → ps.map (fun x => (x.1, a.eval x.2)) = us := by
      intro ps
      induction ps with
      | nil => intro us h; cases us <;> simp_all
      | cons p r ih =>
        intro us h
        cases us with
        | nil => simp at h
        | cons u us =>
          simp only [List.map_cons, List.cons.injEq] at h ⊢
          refine ⟨?_, ih us h.2⟩
          have h1 := h.1
          cases hev : ev l p.2 with
          | none => simp [hev] at h1
          | some v => simp [hev] at h1; rw [kn.ev hev]; exact h1
    exact this parts vs hp
  obtain ⟨z, hzc, hr⟩ := run_zeroOf hz
  have hle : ¬ (len * sz > 2 ^ 24) := by have := Nat.le_of_ble_eq_true hsmall; simp; omega
  refine ⟨_, _, row w.heap.size cells e :: H, ?_, s.push (.cells cells.toArray e) true, ⟨rfl, rfl, rfl, by simp, by first | exact Nat.le_refl _ | exact Nat.le_succ _⟩, k w.heap.size⟩
  simp only [execOp, Instr.buildSlice, Sem.run_bind, run_underlying (underlying_slice hT), run_sizeOf hS, Result.andThen_ok, hle, if_false, hparts]
  by_cases h0 : len * sz = 0
  · have e0 : (Array.range (len * sz)).map (zs.toArray[· % zs.toArray.size]!) = (Array.range (len * sz)).map ((#[] : Array Value)[· % (#[] : Array Value).size]!) := by rw [h0]; simp
    rw [e0] at hf
    rw [if_pos h0]
    simp only [Sem.run_bind, Sem.run_pure, Result.andThen_ok]
    rw [hf]
    simp [newRow]
  · rw [if_neg h0]
    simp only [Sem.run_bind, Sem.run_pure, Result.andThen_ok, hr, hzc]
    rw [hf]
    simp [newRow]

/-! ### bytes -/
/-- the cells of bytes -/
def bc (l : List (BitVec 8)) : List Value := l.map fun x => .int .u8 x.toNat
theorem bc_length (l : List (BitVec 8)) : (bc l).length = l.length := by simp [bc]
theorem bc_get {l : List (BitVec 8)} {i : Nat} (h : i < l.length) : (bc l)[i]? = some (.int .u8 l[i].toNat) := by simp [bc, h]
theorem bc_append (a b : List (BitVec 8)) : bc (a ++ b) = bc a ++ bc b := by simp [bc]
theorem bc_take (a : List (BitVec 8)) (k : Nat) : bc (a.take k) = (bc a).take k := by simp [bc]
theorem bc_drop (a : List (BitVec 8)) (k : Nat) : bc (a.drop k) = (bc a).drop k := by simp [bc]
theorem bc_one (l : List (BitVec 8)) : ∀ u ∈ bc l, u.oneCell' = true := by
  intro u hu
  simp [bc] at hu
  obtain ⟨x, _, rfl⟩ := hu
  rfl
theorem bc_inj {a b : List (BitVec 8)} (h : bc a = bc b) : a = b := by
  induction a generalizing b with
  | nil => cases b <;> simp [bc] at h ⊢
  | cons x a ih =>
    cases b with
    | nil => simp [bc] at h
    | cons y b =>
      simp only [bc, List.map_cons, List.cons.injEq, Value.int.injEq, true_and] at h
      rw [ih h.2, BitVec.eq_of_toNat_eq (x := x) (y := y) (by omega)]
/-- v is a slice of these bytes -/
def Bs (v : Value) (l : List (BitVec 8)) (H : List Ck) : Prop := Rs v l.length (bc l) H
theorem Bs.mono {v : Value} {l : List (BitVec 8)} {A B : List Ck} (h : Bs v l A) (s : ∀ c ∈ A, c ∈ B) : Bs v l B := Rs.mono h s
theorem Bs.form {v : Value} {l : List (BitVec 8)} {A : List Ck} (h : Bs v l A) : ∃ ao cap, v = .slice ao l.length cap ∧ l.length ≤ cap := Rs.form h
/-- v is a slice of these bytes in memory of its own -/
def Ob (T : TypeId) (v : Value) (l : List (BitVec 8)) (C : List Ck) : Prop := Own v l.length (bc l) T 1 C
theorem Ob.bs {T : TypeId} {v : Value} {l : List (BitVec 8)} {C : List Ck} (h : Ob T v l C) : Bs v l C := Own.rs h
theorem Ob.form {T : TypeId} {v : Value} {l : List (BitVec 8)} {A : List Ck} (h : Ob T v l A) : ∃ ao cap, v = .slice ao l.length cap ∧ l.length ≤ cap := Own.form h

/-- the string of bytes -/
def str (l : List (BitVec 8)) : ByteArray := ⟨(l.map fun x => UInt8.ofNat x.toNat).toArray⟩
theorem chars_inj : ∀ {a b : List (BitVec 8)}, a.map (fun x => UInt8.ofNat x.toNat) = b.map (fun x => UInt8.ofNat x.toNat) → a = b
  | [], [], _ => rfl
  | [], _ :: _, h => by simp at h
  | _ :: _, [], h => by simp at h
  | x :: a, y :: b, h => by
    simp only [List.map_cons, List.cons.injEq] at h
    have e : x = y := by
      have := congrArg UInt8.toNat h.1
      simp at this
      exact BitVec.eq_of_toNat_eq (by have := x.isLt; have := y.isLt; omega)
    rw [e, chars_inj h.2]
theorem str_inj {a b : List (BitVec 8)} : str a = str b ↔ a = b := by
  refine ⟨fun h => ?_, fun h => by rw [h]⟩
  simp only [str, ByteArray.mk.injEq] at h
  exact chars_inj (by simpa using congrArg Array.toList h)
theorem str_size (l : List (BitVec 8)) : (str l).size = l.length := by simp [str, ByteArray.size]

theorem foldl_push (l : List (BitVec 8)) : ∀ s : ByteArray, (l.map fun x => (x.toNat : Int)).foldl (fun r n => r.push (UInt8.ofNat n.toNat)) s = ⟨s.data ++ (l.map fun x => UInt8.ofNat x.toNat).toArray⟩ := by
  induction l with
  | nil => intro s; simp
  | cons x l ih =>
    intro s
    simp only [List.map_cons, List.foldl_cons]
    rw [ih]
    simp [ByteArray.push]

/-- 'string(b)' -/
theorem Hd.toStr {x : Operand} {S T e : TypeId} {v : Value} {bs : List (BitVec 8)} {K : Next → List Ck → Prop} (hS : sliceOf P S = some e) (he : intOfTy P e = some .u8) (hT : P.underlying T = some .string) (hx : ev l x = some v) (hb : Bs v bs H) (k : K (.value (.string (str bs))) H) :
    Hd P ⟨d, .convert S T x, ty, pos, aft, g⟩ l H K := fun a w R kn s => by
  refine ⟨.value (.string (str bs)), w, H, ?_, s, .refl w, k⟩
  obtain ⟨ao, c, rfl, hc⟩ := hb.form
  have h1 := run_convert_bytes_string w S T e ao bs.length c (underlying_slice hS) (underlying_int he) hT
  have h2 : (Conv.bytesToString (.slice ao bs.length c)).run P w = .ok (.string (str bs)) w := by
    rcases Rs.cells (R := R) hb s with ⟨uo, uc, h3, h4, h5⟩ | ⟨ad, c', h3, h4⟩
    · simp at h3
      obtain ⟨rfl, h5, rfl⟩ := h3
      have : bs = [] := List.eq_nil_of_length_eq_zero h4
      subst this
      have hld : ∀ a' : Addr, (loadCells a' 0).run P w = .ok #[] w := fun a' => by simp [loadCells, loadCellsFrom]
      cases ao <;> simp [Conv.bytesToString, str, hld]
      all_goals rfl
    · cases h3
      have hl := run_loadCells_list (P := P) w ad (bc bs) h4
      rw [bc_length] at hl
      have e1 : (bc bs).toArray = ((bs.map fun x => (x.toNat : Int)).map (Value.int .u8)).toArray := by simp [bc]
      rw [e1] at hl
      rw [run_bytesToString w ad bs.length c (bs.map fun x => (x.toNat : Int)) hl, foldl_push]
      simp [str]
  simp [execOp, kn.ev hx, h1, h2]

theorem Yd.eqlS {T T' : TypeId} {x y : Operand} {s s' : ByteArray} (hx : ev l x = some (.string s)) (hy : ev l y = some (.string s')) : Yd P ⟨d, .binOp .eql T x y T', ty, pos, aft, g⟩ l (.bool (decide (s = s'))) := fun a kn w => by
  have h : (eqGuard .eql T x y (.string s) (.string s')).run P w = .ok () w := by rfl
  have e : (s.toList == s'.toList) = decide (s = s') := by
    by_cases h : s = s'
    · simp [h]
    · have : s.toList ≠ s'.toList := fun e => h (by
        rw [ByteArray.toList_eq, ByteArray.toList_eq] at e
        cases s; cases s'; simp at e; simp [e])
      simp [h, this]
  simp [execOp, kn.ev hx, kn.ev hy, h, binOp, Op.stringOp, e]

/-- '[]byte("..")' behind its literal: the mark that it may share a string's bytes. -/
theorem Hd.mark {x : Operand} {T e b len cap : Nat} {cs : List Value} {T' : TypeId} {D : List Ck} {K : Next → List Ck → Prop} (hS : sliceOf P T = some e) (he : intOfTy P e = some .u8) (hx : ev l x = some (.slice (some ⟨b, 0, none⟩) len cap)) (hH : H.Perm (row b cs T' :: D))
    (k : K (.value (.slice (some ⟨b, 0, none⟩) len cap)) (⟨b, .cells cs.toArray T' (cs.length, cs.length + 1), true⟩ :: D)) : Hd P ⟨d, .convert T T x, ty, pos, aft, g⟩ l H K := fun a w R kn s => by
  have s' : Sat w (row b cs T' :: (D ++ R)) := s.perm (hH.append_right R)
  have h := s'.holds _ List.mem_cons_self
  have hsh : w.shape? b = some (T', cs.length) := by simp [World.shape?, h]
  have hw : (w.freeze { block := b, off := cs.length } 1).heap[b]? = some (.cells cs.toArray T' (cs.length, cs.length + 1)) := by
    simp only [World.freeze, if_neg (show ¬ (1 = 0) by omega)]
    rw [Array.getElem?_modify, if_pos rfl, h]
    simp
  refine ⟨_, w.freeze { block := b, off := cs.length } 1, ⟨b, .cells cs.toArray T' (cs.length, cs.length + 1), true⟩ :: D, ?_, s'.write hw ?_, ⟨rfl, rfl, rfl, by simp [World.freeze], by simp [World.freeze]⟩, k⟩
  · simp [execOp, kn.ev hx, convert, run_underlying (underlying_slice hS), run_underlying (underlying_int he), markStringish, hsh]
  · intro j hj
    simp only [World.freeze, if_neg (show ¬ (1 = 0) by omega)]
    rw [Array.getElem?_modify, if_neg (Ne.symm hj)]

/-- A result that lies in a variable of its own. -/
theorem DN.retC {n : Nat} {w0 : World} {R : List Ck} {fn : Func} {Post : Value → List Ck → Prop} {t T s b : Nat} {cs : List Value} {T' : TypeId} {fr : Nat × Nat} {ex : Bool} (hr : fn.results = #[.cell t T]) (hT : isAggOf P T s = true) (hv : getv l t = some (.pointer (some ⟨b, 0, none⟩)))
    (hm : (⟨b, .cells cs.toArray T' fr, ex⟩ : Ck) ∈ H) (hs : cs.length = s) (hp : Post (.agg cs.toArray) H) : DN P n w0 R (bodyPost P fn (Back P w0 R Post)) .ret l H := fun a w i => by
  have h := i.sat.holds _ (List.mem_append_left R hm)
  have hl := run_loadCells_list (P := P) w ⟨b, 0, none⟩ cs (fun j v hv => by rw [add_plain, cell_at h]; simpa using hv)
  rw [hs] at hl
  have hv' := i.kn t _ hv
  simp only [Array.getD_eq_getD_getElem?] at hv'
  refine bodyPost_ret (v := .agg cs.toArray) ?_ i.defers ⟨_, H, rfl, hp, i.sat, i.kept⟩
  simp [results, hr, hv', asAddr, loadVar, (run_isAgg_yes hT w).1, (run_isAgg_yes hT w).2, hl]

theorem Ob.nil (T : TypeId) : Ob T (.slice none 0 0) [] [] := Own.nil T 1
/-- 'append' of bytes to bytes of our own -/
theorem Hd.appendB {x y : Operand} {T e : TypeId} {zs : List Value} {v u : Value} {a b : List (BitVec 8)} {C D : List Ck} {K : Next → List Ck → Prop} (hT : sliceOf P T = some e) (hE : elemInfo P e = some (1, zs, 1)) (hz : zs.length = 1)
    (hx : ev l x = some v) (hy : ev l y = some u) (own : Ob e v a C) (src : Bs u b (C ++ D)) (hmax : a.length + b.length ≤ 140737488355328) (hH : H.Perm (C ++ D))
    (k : ∀ v' C', Ob e v' (a ++ b) C' → (v' = .slice none 0 0 ↔ v = .slice none 0 0 ∧ b.length = 0) → K (.value v') (C' ++ D)) : Hd P ⟨d, .call ⟨.builtin .append, #[x, y], #[T, T]⟩, ty, pos, aft, g⟩ l H K :=
  Hd.append hT hE hz (by omega) hx hy own src (by rw [bc_length]; omega) (bc_one b) (by simp only [maxLen]; omega) (by omega) hH fun v' C' h hn => k v' C' (by
    show Own _ _ _ _ _ _
    rw [List.length_append, bc_append]; exact h) hn

theorem Rs.sub {ao : Option Addr} {n c i j s : Nat} {xs : List Value} {A : List Ck} (h : Rs (.slice ao n c) n xs A) (hl : xs.length = n * s) (h1 : i ≤ j) (h2 : j ≤ n) :
    Rs (.slice (if c = i then ao else ao.map (·.add (i * s))) (j - i) (c - i)) (j - i) ((xs.drop (i * s)).take ((j - i) * s)) A := by
  rcases h with ⟨ao', cap', h, rfl, rfl⟩ | ⟨b, o, cap, cs, T, fr, ex, h3, h4, h5, h6⟩
  · have : j = 0 := by omega
    subst this
    have : i = 0 := by omega
    subst this
    exact .inl ⟨_, _, rfl, rfl, by simp⟩
  · simp at h3
    obtain ⟨rfl, rfl⟩ := h3
    have hlen : ((xs.drop (i * s)).take ((j - i) * s)).length = (j - i) * s := by
      rw [List.length_take, List.length_drop, hl, ← Nat.sub_mul]
      exact Nat.min_eq_left (Nat.mul_le_mul_right _ (by omega))
    by_cases hci : c = i
    · have : j = i := by omega
      subst this
      refine .inr ⟨b, o, c - j, cs, T, fr, ex, by simp [hci], by omega, h5, ?_⟩
      simp
    · refine .inr ⟨b, o + i * s, c - i, cs, T, fr, ex, by simp [hci, add_plain], by omega, h5, ?_⟩
      rw [hlen, ← h6]
      simp only [hl, List.drop_take, List.drop_drop, List.take_take]
      congr 1
      rw [← Nat.sub_mul]
      exact (Nat.min_eq_left (Nat.mul_le_mul_right _ (by omega))).symm

theorem Bs.sub {ao : Option Addr} {c i j : Nat} {bs : List (BitVec 8)} {A : List Ck} (h : Bs (.slice ao bs.length c) bs A) (h1 : i ≤ j) (h2 : j ≤ bs.length) :
    Bs (.slice (if c = i then ao else ao.map (·.add (i * 1))) (j - i) (c - i)) ((bs.drop i).take (j - i)) A := by
  have := Rs.sub (s := 1) h (by rw [bc_length]; omega) h1 h2
  have hl : ((bs.drop i).take (j - i)).length = j - i := by simp; omega
  show Rs _ ((bs.drop i).take (j - i)).length _ _
  rw [hl, bc_take, bc_drop]
  simpa using this

/-- 'x[:hi]', 'x[:]' -/
theorem Yd.sliceTo {x y : Operand} {T e s : Nat} {ao : Option Addr} {n c : Nat} {k : IntKind} {m : Int} {j : Nat} (hT : sliceOf P T = some e) (hs : szOf P e = some s) (hx : ev l x = some (.slice ao n c)) (hy : ev l y = some (.int k m)) (hm : m = (j : Int)) (h2 : j ≤ c) :
    Yd P ⟨d, .slice T x none (some y) none, ty, pos, aft, g⟩ l (.slice ao j c) := by
  have h := Yd.slice (P := P) (d := d) (ty := ty) (pos := pos) (aft := aft) (g := g) (lo := none) (hi := some y) (i := 0) (j := j) hT hs hx rfl ⟨k, m, hy, hm⟩ (Nat.zero_le _) h2
  have e1 : (if c = 0 then ao else ao.map (·.add (0 * s))) = ao := by
    split
    · rfl
    · cases ao <;> simp [Addr.add]
  rw [e1] at h
  simpa using h
theorem Rs.upto {ao : Option Addr} {n c j s : Nat} {xs : List Value} {A : List Ck} (h : Rs (.slice ao n c) n xs A) (hl : xs.length = n * s) (h2 : j ≤ n) : Rs (.slice ao j c) j (xs.take (j * s)) A := by
  have h := Rs.sub (i := 0) h hl (Nat.zero_le _) h2
  have e1 : (if c = 0 then ao else ao.map (·.add (0 * s))) = ao := by
    split
    · rfl
    · cases ao <;> simp [Addr.add]
  rw [e1] at h
  simpa using h
theorem Bs.len {ao : Option Addr} {n c : Nat} {bs : List (BitVec 8)} {A : List Ck} (h : Bs (.slice ao n c) bs A) : n = bs.length := by
  obtain ⟨_, _, h1, _⟩ := Bs.form h
  simp at h1
  exact h1.2.1
theorem Bs.upto {ao : Option Addr} {n c j : Nat} {bs : List (BitVec 8)} {A : List Ck} (h : Bs (.slice ao n c) bs A) (h2 : j ≤ n) : Bs (.slice ao j c) (bs.take j) A := by
  have hn := Bs.len h
  subst hn
  have := Rs.upto (s := 1) h (by rw [bc_length]; omega) h2
  have hl : (bs.take j).length = j := by simp; omega
  show Rs _ (bs.take j).length _ _
  rw [hl, bc_take]
  simpa using this

theorem Bs.block {b n cap : Nat} {T : TypeId} {fr : Nat × Nat} {ex : Bool} {bs : List (BitVec 8)} (hn : n = bs.length) (hc : n ≤ cap) (hm : (⟨b, .cells (bc bs).toArray T fr, ex⟩ : Ck) ∈ H) : Bs (.slice (some ⟨b, 0, none⟩) n cap) bs H := by
  subst hn
  exact .inr ⟨b, 0, cap, bc bs, T, fr, ex, rfl, hc, hm, by simp⟩
/-- '[]byte{..}' of constants -/
theorem Hd.buildBytes {T e len : Nat} {parts : List (Nat × Operand)} (bs : List (BitVec 8)) {K : Next → List Ck → Prop} (hT : sliceOf P T = some e) (hS : szOf P e = some 1) (hz : zeroOf P e = some [.int .u8 0]) (hp : (parts.map fun p => (ev l p.2).map fun v => (p.1, v)) = (bs.zipIdx.map fun p => (p.2, Value.int .u8 p.1.toNat)).map some) (hsmall : Nat.ble (len * 1) 16777216 = true)
    (hf : Instr.fill (fun i => some (i * 1, 1)) ((Array.range (len * 1)).map ([Value.int .u8 0].toArray[· % [Value.int .u8 0].toArray.size]!)) (bs.zipIdx.map fun p => (p.2, Value.int .u8 p.1.toNat)) = some (bc bs).toArray)
    (k : ∀ b, K (.value (.slice (some ⟨b, 0, none⟩) len len)) (row b (bc bs) e :: H)) : Hd P ⟨d, .buildSlice T len parts.toArray, ty, pos, aft, g⟩ l H K :=
  Hd.buildSlice hT hS hz hp hsmall hf k

end Go.SL
