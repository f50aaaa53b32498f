/-
  The plain law of frames: numbers' bytes, a frame's bytes, what stands at a place.
-/
import Derived.Test.YtfacofbobmlmiaaSumMore
set_option linter.unusedVariables false
set_option linter.unusedSimpArgs false
namespace Go.Sum

/-- a number's bytes, the highest first -/
def beW (n : BitVec 64) (k : Nat) : List B8 := (List.range k).map fun i => (n >>> (8 * (k - 1 - i))).setWidth 8
theorem beW_length (n : BitVec 64) (k : Nat) : (beW n k).length = k := by simp [beW]
theorem beW_next (n : BitVec 64) (k i : Nat) (h : i < k) : (beW n k).take (i + 1) = (beW n k).take i ++ [(n >>> (8 * (k - 1 - i))).setWidth 8] := by
  rw [List.take_succ_eq_append_getElem (by rw [beW_length]; exact h)]
  simp [beW]
/-- the number of bytes -/
def beN (l : List B8) : BitVec 64 := l.foldl (fun n c => (n <<< 8) ||| c.setWidth 64) 0#64
theorem beN_next (l : List B8) (i : Nat) (h : i < l.length) : beN (l.take (i + 1)) = ((beN (l.take i)) <<< 8) ||| l[i].setWidth 64 := by
  unfold beN
  rw [List.take_succ_eq_append_getElem h, List.foldl_append]
  rfl
/-! a reader's state: what is left, and whether it fell short -/
def rdShort (bs : List B8) (sh : Bool) (k : Nat) : Bool := sh || decide (bs.length < k)
def rdGot (bs : List B8) (sh : Bool) (k : Nat) : List B8 := if rdShort bs sh k then [] else bs.take k
def rdRest (bs : List B8) (sh : Bool) (k : Nat) : List B8 := if rdShort bs sh k then bs else bs.drop k

def be2 (n : Nat) : List B8 := beW (BitVec.ofNat 16 n |>.setWidth 64) 2
def be4 (s : B32) : List B8 := beW (s.setWidth 64) 4
theorem be2_length (n : Nat) : (be2 n).length = 2 := beW_length _ _
theorem be4_length (s : B32) : (be4 s).length = 4 := beW_length _ _
/-- a body's frame -/
def frameOf (l : List B8) : List B8 := [215#8, 166#8] ++ be2 l.length ++ be4 (crcOf (be2 l.length ++ l)) ++ l
theorem frameOf_length (l : List B8) : (frameOf l).length = l.length + 8 := by simp [frameOf, be2_length, be4_length]; omega

/-- the bytes that a body is put as -/
def putOf (l : List B8) : List B8 := if l.length ≤ 2000 then frameOf l else []
def putErr (l : List B8) : Int := if l.length ≤ 2000 then 0 else 3
def frameSize (n : Int) : Int := if 0 ≤ n ∧ n ≤ 2000 then n + 8 else 0

/-! what stands at the begin of a rest -/
/-- the body of a rest's frame, where the rest begins with one -/
def bodyAt (b : List B8) : Option (List B8) :=
  let n := (b.getD 2 0#8).toNat * 256 + (b.getD 3 0#8).toNat
  if 8 + n ≤ b.length ∧ n ≤ 2000 ∧ frameOf ((b.drop 8).take n) = b.take (8 + n) then some ((b.drop 8).take n) else none
/-- a frame's reading: the body, where it ends, why not -/
def getOf (b : List B8) (at_ : Int) : List B8 × Int × Int :=
  if at_ < 0 ∨ (b.length : Int) < at_ then ([], 0, 2)
  else if at_ = b.length ∨ b.getD at_.toNat 0#8 = 0#8 then ([], 0, 30)
  else match bodyAt (b.drop at_.toNat) with
    | some l => (l, at_ + 8 + l.length, 0)
    | none => ([], 0, 31)
theorem beW2 (n : Nat) : be2 n = [(BitVec.ofNat 16 n >>> 8).setWidth 8, (BitVec.ofNat 16 n).setWidth 8] := by
  have h1 : (BitVec.setWidth 64 (BitVec.ofNat 16 n) >>> 8).setWidth 8 = (BitVec.ofNat 16 n >>> 8).setWidth 8 := by
    apply BitVec.eq_of_getLsbD_eq
    intro i hi
    simp only [BitVec.getLsbD_setWidth, BitVec.getLsbD_ushiftRight, hi, decide_true, Bool.true_and]
    simp
    try (intro h; omega)
  have h2 : (BitVec.setWidth 64 (BitVec.ofNat 16 n) >>> 0).setWidth 8 = (BitVec.ofNat 16 n).setWidth 8 := by
    apply BitVec.eq_of_getLsbD_eq
    intro i hi
    simp [BitVec.getLsbD_setWidth, hi]
  show [(BitVec.setWidth 64 (BitVec.ofNat 16 n) >>> 8).setWidth 8, (BitVec.setWidth 64 (BitVec.ofNat 16 n) >>> 0).setWidth 8] = _
  rw [h1, h2]

end Go.Sum
