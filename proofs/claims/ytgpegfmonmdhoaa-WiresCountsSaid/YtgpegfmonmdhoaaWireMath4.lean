/-
  The plain wires, continued: WiresNil.
-/
import Derived.Test.YtgpegfmonmdhoaaWireMath3
set_option linter.unusedVariables false
set_option linter.unusedSimpArgs false
namespace Go.SL

/-- a net of three whose first clocks ticked so often -/
def tickN (ns : List (BitVec 64)) : Wn := ⟨3, [], List.replicate 36 0, ns ++ List.replicate 3 0#64⟩
theorem tickN_inv {ns : List (BitVec 64)} (h : ns.length = 3) : WInv (tickN ns) := ⟨by simp [tickN], by simp [tickN], by simp [tickN, h], by simp [tickN], by simp [tickN], by simp [tickN]⟩
theorem tickN_tick {ns : List (BitVec 64)} (h : ns.length = 3) {q : Nat} (hq : q < 3) : tickV (tickN ns) (q : Int) = ns.getD q 0#64 + 1#64 ∧ tickE (tickN ns) (q : Int) = 0 ∧ tickW (tickN ns) (q : Int) = tickN (ns.set q (ns.getD q 0#64 + 1#64)) := by
  have hn : isNode (tickN ns) (q : Int) = true := isNode_iff.2 ⟨by omega, by show (q : Int) < 3; omega⟩
  have e : (tickN ns).clk.getD ((q : Int)).toNat 0#64 = ns.getD q 0#64 := by
    simp [tickN, List.getD, List.getElem?_append_left, h, hq]
  refine ⟨by unfold tickV; rw [hn, e]; rfl, by unfold tickE; rw [hn]; rfl, ?_⟩
  unfold tickW
  rw [hn, e]
  simp only [Bool.true_eq_false, if_false]
  unfold tickN
  simp only [Int.toNat_natCast]
  rw [List.set_append_left _ _ (by omega)]
theorem tickN_clock {ns : List (BitVec 64)} (h : ns.length = 3) {q : Nat} (hq : q < 3) : clockV (tickN ns) (q : Int) = ns.getD q 0#64 := by
  have hn : isNode (tickN ns) (q : Int) = true := isNode_iff.2 ⟨by omega, by show (q : Int) < 3; omega⟩
  unfold clockV
  rw [hn]
  simp [tickN, List.getD, List.getElem?_append_left, h, hq]
/-- the same with a way that is cut -/
def tickC (ns : List (BitVec 64)) : Wn := ⟨3, [], cutV false, ns ++ List.replicate 3 0#64⟩
theorem tickN_cut (ns : List (BitVec 64)) : cutW (tickN ns) 0 1 true = tickC ns := rfl
theorem tickC_clock {ns : List (BitVec 64)} (h : ns.length = 3) {q : Nat} (hq : q < 3) : clockV (tickC ns) (q : Int) = ns.getD q 0#64 := tickN_clock h hq
theorem tickC_send (ns : List (BitVec 64)) (x : BitVec 64) : sendE (tickC ns) (ackL 0 1 x) = 0 ∧ sendW (tickC ns) (ackL 0 1 x) = tickC ns := by
  have e : sendE (tickC ns) (ackL 0 1 x) = 0 := sendE_ok (isNode_iff.2 (show (0 : Int) ≤ 0 ∧ (0 : Int) < 3 by decide)) (isNode_iff.2 (show (0 : Int) ≤ 1 ∧ (1 : Int) < 3 by decide)) (noteBad_ack _ _ _) (show 0 < 200 by decide)
  refine ⟨e, ?_⟩
  unfold sendW
  rw [if_neg]
  rintro ⟨_, h⟩
  have : openB (tickC ns) (ackL 0 1 x) = false := rfl
  rw [this] at h
  cases h
theorem uc_getD {l : List (BitVec 64)} {i : Nat} (h : i < l.length) : (uc l)[i]? = some (.int .u64 (l.getD i 0#64).toNat) := by simp [uc, h]
theorem uc_setW (l : List (BitVec 64)) (i : Nat) (x : BitVec 64) : (uc l).set i (.int .u64 x.toNat) = uc (l.set i x) := by simp [uc, List.map_set]

end Go.SL
