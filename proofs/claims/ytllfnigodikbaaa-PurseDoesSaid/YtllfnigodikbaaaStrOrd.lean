/-
  The order of strings: by bytes.
-/
import Derived.Test.YtllfnigodikbaaaSLMapG
import Derived.Test.YtllfnigodikbaaaSLMore7
import Derived.Lib.Bytealg
set_option linter.unusedVariables false
set_option linter.unusedSimpArgs false
namespace Go.SL

variable {P : Program} {l : Sl} {d : Option Nat} {ty : TypeId} {pos : String} {aft : Array Edge} {g : Option (Nat × Bool)}

theorem lt_spec : ∀ a b : List UInt8, (Go.Lib.compareBytes a b < 0) ↔ Op.bytesLess a b = true
  | [], [] => by simp [Go.Lib.compareBytes, Op.bytesLess]
  | [], _ :: _ => by simp [Go.Lib.compareBytes, Op.bytesLess]
  | _ :: _, [] => by simp [Go.Lib.compareBytes, Op.bytesLess]
  | a :: x, b :: y => by
    have ih := lt_spec x y
    simp only [Go.Lib.compareBytes, Op.bytesLess, Bool.or_eq_true, Bool.and_eq_true, decide_eq_true_eq, beq_iff_eq]
    by_cases h : a < b
    · simp [h]
    · by_cases h2 : b < a
      · have hne : a ≠ b := fun e => by subst e; exact h h2
        simp [h, h2, hne]
      · have : a = b := UInt8.le_antisymm (UInt8.not_lt.1 h2) (UInt8.not_lt.1 h)
        subst this
        simp [h, ih]
theorem bl_irrefl : ∀ a : List UInt8, Op.bytesLess a a = false
  | [] => rfl
  | a :: x => by simp [Op.bytesLess, bl_irrefl x, UInt8.lt_irrefl]
theorem bl_trans : ∀ a b c : List UInt8, Op.bytesLess a b = true → Op.bytesLess b c = true → Op.bytesLess a c = true
  | _, [], _, h, _ => by simp [Op.bytesLess] at h
  | _, _ :: _, [], _, h => by simp [Op.bytesLess] at h
  | [], _ :: _, _ :: _, _, _ => by simp [Op.bytesLess]
  | a :: x, b :: y, c :: z, h1, h2 => by
    simp only [Op.bytesLess, Bool.or_eq_true, Bool.and_eq_true, decide_eq_true_eq, beq_iff_eq] at *
    rcases h1 with h1 | ⟨rfl, h1⟩
    · rcases h2 with h2 | ⟨rfl, h2⟩
      · exact .inl (UInt8.lt_trans h1 h2)
      · exact .inl h1
    · rcases h2 with h2 | ⟨rfl, h2⟩
      · exact .inl h2
      · exact .inr ⟨rfl, bl_trans x y z h1 h2⟩
theorem bl_tri : ∀ a b : List UInt8, Op.bytesLess a b = true ∨ a = b ∨ Op.bytesLess b a = true
  | [], [] => by simp
  | [], _ :: _ => by simp [Op.bytesLess]
  | _ :: _, [] => by simp [Op.bytesLess]
  | a :: x, b :: y => by
    simp only [Op.bytesLess, Bool.or_eq_true, Bool.and_eq_true, decide_eq_true_eq, beq_iff_eq, List.cons.injEq]
    by_cases h : a < b
    · exact .inl (.inl h)
    · by_cases h2 : b < a
      · exact .inr (.inr (.inl h2))
      · have : a = b := UInt8.le_antisymm (UInt8.not_lt.1 h2) (UInt8.not_lt.1 h)
        subst this
        rcases bl_tri x y with h3 | h3 | h3
        · exact .inl (.inr ⟨rfl, h3⟩)
        · exact .inr (.inl ⟨rfl, h3⟩)
        · exact .inr (.inr (.inr ⟨rfl, h3⟩))
/-- below, as strings -/
def sLt (a b : ByteArray) : Bool := Op.bytesLess a.data.toList b.data.toList
theorem toList_data (a : ByteArray) : a.toList = a.data.toList := ByteArray.toList_eq a
theorem sLt_irrefl (a : ByteArray) : sLt a a = false := bl_irrefl _
theorem sLt_trans {a b c : ByteArray} (h1 : sLt a b = true) (h2 : sLt b c = true) : sLt a c = true := bl_trans _ _ _ h1 h2
theorem sLt_tri (a b : ByteArray) : sLt a b = true ∨ a = b ∨ sLt b a = true := by
  rcases bl_tri a.data.toList b.data.toList with h | h | h
  · exact .inl h
  · refine .inr (.inl ?_)
    cases a; cases b
    simp only at h
    congr 1
    exact Array.ext' h
  · exact .inr (.inr h)
theorem sLt_asymm {a b : ByteArray} (h : sLt a b = true) : sLt b a = false := by
  cases h2 : sLt b a with
  | false => rfl
  | true => have := sLt_trans h h2; rw [sLt_irrefl] at this; cases this
def cmpS (a b : ByteArray) : Int := Go.Lib.compareBytes a.data.toList b.data.toList
theorem cmpS_lt (a b : ByteArray) : (cmpS a b < 0) ↔ sLt a b = true := lt_spec _ _
theorem Yd.lssS {T T' : TypeId} {x y : Operand} {s s' : ByteArray} (hx : ev l x = some (.string s)) (hy : ev l y = some (.string s')) : Yd P ⟨d, .binOp .lss T x y T', ty, pos, aft, g⟩ l (.bool (sLt s s')) := fun a kn w => by
  have hg : (eqGuard .lss T x y (.string s) (.string s')).run P w = .ok () w := by unfold eqGuard; simp
  simp [execOp, kn.ev hx, kn.ev hy, hg, binOp, Op.stringOp, sLt, toList_data]

end Go.SL
