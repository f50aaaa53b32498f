/-
  Rules: a string's byte.
-/
import Derived.Test.YtonnkgblligdkaaSLMore8
set_option linter.unusedVariables false
set_option linter.unusedSimpArgs false
namespace Go.SL
variable {P : Program} {l : Sl} {H : List Ck} {d : Option Nat} {ty : TypeId} {pos : String} {aft : Array Edge} {g : Option (Nat × Bool)}
theorem Yd.indexS {x y : Operand} {T : TypeId} {s : ByteArray} {k : IntKind} {m : Int} {i : Nat} {b : BitVec 8} (hT : P.underlying T = some .string) (hx : ev l x = some (.string s)) (hy : ev l y = some (.int k m)) (hm : m = (i : Int)) (hb : s[i]? = some (UInt8.ofNat b.toNat)) :
    Yd P ⟨d, .index T x y, ty, pos, aft, g⟩ l (.int .u8 b.toNat) := fun a kn w => by
  subst hm
  have h0 : (UInt8.ofNat b.toNat).toNat = b.toNat := by
    have := b.isLt
    simp [UInt8.toNat_ofNat]
  simp [execOp, kn.ev hx, kn.ev hy, Instr.index, asIntOf, run_underlying hT, hb, h0]
theorem str_get {l : List (BitVec 8)} {i : Nat} (h : i < l.length) : (str l)[i]? = some (UInt8.ofNat (l[i]).toNat) := by
  have hs : i < (str l).size := by rw [show (str l).size = l.length by simp [str, ByteArray.size]]; exact h
  rw [getElem?_pos (str l) i hs]
  congr 1
  show (str l).data[i]'_ = _
  simp [str]
end Go.SL
