/-
  No cell of these rows narrows 'for every input' (looked for: loops, veiled, ifaces, maps, wideKeys, modest, calm, conditions, laid).
  DERIVED. THE GIVEN ROWS OF THIS SEAT. 8 by the template 'for every input the law returns true; each argument reads behind the call as it read before'; 0 by the template 'total and deterministic' (their statements: YtonnkgblligdkaaTotals.lean).
  GIVEN WITH THE SEED: the statements are not yours to turn. If you find one false, say at which input.
  Laid BY PROGRAM, IN A SANDBOX (cutbox-rows.mjs): the forced cells as the released guide's own fill.sh prints them over the translation 1da8f64298fc8133… (all of the seat's roots in one cut). By AI agents, Wed Nov 11 2026. No macro, syntax, notation, axiom, sorry.
-/
import Derived.Test.YtonnkgblligdkaaChecked
import GoSem.Claim
import GoSem.ClaimJoined
import GoSem.ClaimMapViews
import Derived.JoinedTies
import Derived.KernelRfl
namespace Go.Proofs.Ytonnkgblligdkaa
/- THE CELL 'sum', in the pinned program and in every row, IS THE sha256 OF THE DUMP (.gsa) THAT YtonnkgblligdkaaProg.lean LOADS. Nothing in Lean hashes anything: it is a label: what it is worth is what the hold of that sum in a sandbox is worth. -/
noncomputable def Try.pinned : Pinned := { name := "ytonnkgblligdkaa", sum := "1da8f64298fc8133156fab04654ce77d9c461945ae118c3dc174b2fdba09671f", checked := Try.checked }
namespace Rows
def none {H : Type} : Left H := { results := [], args := [] }

/-- 'drayagelaw08.FenceKeeps': WHATEVER THE INPUT: true; the input reads as it did. -/
def fenceKeepsSpec : ChangeSpec := { name := "fenceKeeps", fn := fun _ => fun
  | [d1, d2, d3, d4] => { results := [.lit (.bool true)], args := [d1, d2, d3, d4] }
  | _ => none }
def fenceKeepsRow : OpenClaim := { program := "ytonnkgblligdkaa", sum := "1da8f64298fc8133156fab04654ce77d9c461945ae118c3dc174b2fdba09671f", func := "drayage/drayagelaw08.FenceKeeps", spec := "fenceKeeps", inPlace := ["slices.overlaps[drayage/api.Kept]"], unfollowed := true, recurses := true, apart := false }
def FenceKeepsSaid : Prop := fenceKeepsRow.holds Try.pinned (OpenSpec.ofChange fenceKeepsSpec)

/-- ITS FALSE NEIGHBOUR: 'it returns false'. Refute it at one input. -/
def fenceKeepsWrong : ChangeSpec := { name := "fenceKeeps", fn := fun _ => fun
  | [d1, d2, d3, d4] => { results := [.lit (.bool false)], args := [d1, d2, d3, d4] }
  | _ => none }
def FenceKeepsWrongFalsely : Prop := fenceKeepsRow.holds Try.pinned (OpenSpec.ofChange fenceKeepsWrong)

/-- 'drayagelaw08.FenceOnce': WHATEVER THE INPUT: true; the input reads as it did. -/
def fenceOnceSpec : ChangeSpec := { name := "fenceOnce", fn := fun _ => fun
  | [d] => { results := [.lit (.bool true)], args := [d] }
  | _ => none }
def fenceOnceRow : OpenClaim := { program := "ytonnkgblligdkaa", sum := "1da8f64298fc8133156fab04654ce77d9c461945ae118c3dc174b2fdba09671f", func := "drayage/drayagelaw08.FenceOnce", spec := "fenceOnce", inPlace := ["slices.overlaps[drayage/api.Kept]"], unfollowed := true, recurses := true, apart := false }
def FenceOnceSaid : Prop := fenceOnceRow.holds Try.pinned (OpenSpec.ofChange fenceOnceSpec)

/-- ITS FALSE NEIGHBOUR: 'it returns false'. Refute it at one input. -/
def fenceOnceWrong : ChangeSpec := { name := "fenceOnce", fn := fun _ => fun
  | [d] => { results := [.lit (.bool false)], args := [d] }
  | _ => none }
def FenceOnceWrongFalsely : Prop := fenceOnceRow.holds Try.pinned (OpenSpec.ofChange fenceOnceWrong)

/-- 'drayagelaw08.FenceUndo': WHATEVER THE INPUT: true; the input reads as it did. -/
def fenceUndoSpec : ChangeSpec := { name := "fenceUndo", fn := fun _ => fun
  | [d] => { results := [.lit (.bool true)], args := [d] }
  | _ => none }
def fenceUndoRow : OpenClaim := { program := "ytonnkgblligdkaa", sum := "1da8f64298fc8133156fab04654ce77d9c461945ae118c3dc174b2fdba09671f", func := "drayage/drayagelaw08.FenceUndo", spec := "fenceUndo", inPlace := ["slices.overlaps[drayage/api.Kept]"], unfollowed := true, recurses := true, apart := false }
def FenceUndoSaid : Prop := fenceUndoRow.holds Try.pinned (OpenSpec.ofChange fenceUndoSpec)

/-- ITS FALSE NEIGHBOUR: 'it returns false'. Refute it at one input. -/
def fenceUndoWrong : ChangeSpec := { name := "fenceUndo", fn := fun _ => fun
  | [d] => { results := [.lit (.bool false)], args := [d] }
  | _ => none }
def FenceUndoWrongFalsely : Prop := fenceUndoRow.holds Try.pinned (OpenSpec.ofChange fenceUndoWrong)

/-- 'drayagelaw08.FenceFull': WHATEVER THE INPUT: true; the input reads as it did. -/
def fenceFullSpec : ChangeSpec := { name := "fenceFull", fn := fun _ => fun
  | [d1, d2] => { results := [.lit (.bool true)], args := [d1, d2] }
  | _ => none }
def fenceFullRow : OpenClaim := { program := "ytonnkgblligdkaa", sum := "1da8f64298fc8133156fab04654ce77d9c461945ae118c3dc174b2fdba09671f", func := "drayage/drayagelaw08.FenceFull", spec := "fenceFull", inPlace := ["slices.overlaps[drayage/api.Kept]"], unfollowed := true, recurses := true, apart := false }
def FenceFullSaid : Prop := fenceFullRow.holds Try.pinned (OpenSpec.ofChange fenceFullSpec)

/-- ITS FALSE NEIGHBOUR: 'it returns false'. Refute it at one input. -/
def fenceFullWrong : ChangeSpec := { name := "fenceFull", fn := fun _ => fun
  | [d1, d2] => { results := [.lit (.bool false)], args := [d1, d2] }
  | _ => none }
def FenceFullWrongFalsely : Prop := fenceFullRow.holds Try.pinned (OpenSpec.ofChange fenceFullWrong)

/-- 'drayagelaw08.FenceAsks': WHATEVER THE INPUT: true; the input reads as it did. -/
def fenceAsksSpec : ChangeSpec := { name := "fenceAsks", fn := fun _ => fun
  | [d1, d2, d3] => { results := [.lit (.bool true)], args := [d1, d2, d3] }
  | _ => none }
def fenceAsksRow : OpenClaim := { program := "ytonnkgblligdkaa", sum := "1da8f64298fc8133156fab04654ce77d9c461945ae118c3dc174b2fdba09671f", func := "drayage/drayagelaw08.FenceAsks", spec := "fenceAsks", inPlace := ["slices.overlaps[drayage/api.Kept]"], unfollowed := true, recurses := true, apart := false }
def FenceAsksSaid : Prop := fenceAsksRow.holds Try.pinned (OpenSpec.ofChange fenceAsksSpec)

/-- ITS FALSE NEIGHBOUR: 'it returns false'. Refute it at one input. -/
def fenceAsksWrong : ChangeSpec := { name := "fenceAsks", fn := fun _ => fun
  | [d1, d2, d3] => { results := [.lit (.bool false)], args := [d1, d2, d3] }
  | _ => none }
def FenceAsksWrongFalsely : Prop := fenceAsksRow.holds Try.pinned (OpenSpec.ofChange fenceAsksWrong)

/-- 'drayagelaw08.FenceEpoch': WHATEVER THE INPUT: true; the input reads as it did. -/
def fenceEpochSpec : ChangeSpec := { name := "fenceEpoch", fn := fun _ => fun
  | [d1, d2] => { results := [.lit (.bool true)], args := [d1, d2] }
  | _ => none }
def fenceEpochRow : OpenClaim := { program := "ytonnkgblligdkaa", sum := "1da8f64298fc8133156fab04654ce77d9c461945ae118c3dc174b2fdba09671f", func := "drayage/drayagelaw08.FenceEpoch", spec := "fenceEpoch", inPlace := ["slices.overlaps[drayage/api.Kept]"], unfollowed := true, recurses := true, apart := false }
def FenceEpochSaid : Prop := fenceEpochRow.holds Try.pinned (OpenSpec.ofChange fenceEpochSpec)

/-- ITS FALSE NEIGHBOUR: 'it returns false'. Refute it at one input. -/
def fenceEpochWrong : ChangeSpec := { name := "fenceEpoch", fn := fun _ => fun
  | [d1, d2] => { results := [.lit (.bool false)], args := [d1, d2] }
  | _ => none }
def FenceEpochWrongFalsely : Prop := fenceEpochRow.holds Try.pinned (OpenSpec.ofChange fenceEpochWrong)

/-- 'drayagelaw08.FenceOrder': WHATEVER THE INPUT: true; the input reads as it did. -/
def fenceOrderSpec : ChangeSpec := { name := "fenceOrder", fn := fun _ => fun
  | [d1, d2] => { results := [.lit (.bool true)], args := [d1, d2] }
  | _ => none }
def fenceOrderRow : OpenClaim := { program := "ytonnkgblligdkaa", sum := "1da8f64298fc8133156fab04654ce77d9c461945ae118c3dc174b2fdba09671f", func := "drayage/drayagelaw08.FenceOrder", spec := "fenceOrder", inPlace := ["slices.overlaps[drayage/api.Kept]"], unfollowed := true, recurses := true, apart := false }
def FenceOrderSaid : Prop := fenceOrderRow.holds Try.pinned (OpenSpec.ofChange fenceOrderSpec)

/-- ITS FALSE NEIGHBOUR: 'it returns false'. Refute it at one input. -/
def fenceOrderWrong : ChangeSpec := { name := "fenceOrder", fn := fun _ => fun
  | [d1, d2] => { results := [.lit (.bool false)], args := [d1, d2] }
  | _ => none }
def FenceOrderWrongFalsely : Prop := fenceOrderRow.holds Try.pinned (OpenSpec.ofChange fenceOrderWrong)

/-- 'drayagelaw08.FenceSaves': WHATEVER THE INPUT: true; the input reads as it did. -/
def fenceSavesSpec : ChangeSpec := { name := "fenceSaves", fn := fun _ => fun
  | [d1, d2] => { results := [.lit (.bool true)], args := [d1, d2] }
  | _ => none }
def fenceSavesRow : OpenClaim := { program := "ytonnkgblligdkaa", sum := "1da8f64298fc8133156fab04654ce77d9c461945ae118c3dc174b2fdba09671f", func := "drayage/drayagelaw08.FenceSaves", spec := "fenceSaves", inPlace := ["slices.overlaps[drayage/api.Kept]"], unfollowed := true, recurses := true, apart := false }
def FenceSavesSaid : Prop := fenceSavesRow.holds Try.pinned (OpenSpec.ofChange fenceSavesSpec)

/-- ITS FALSE NEIGHBOUR: 'it returns false'. Refute it at one input. -/
def fenceSavesWrong : ChangeSpec := { name := "fenceSaves", fn := fun _ => fun
  | [d1, d2] => { results := [.lit (.bool false)], args := [d1, d2] }
  | _ => none }
def FenceSavesWrongFalsely : Prop := fenceSavesRow.holds Try.pinned (OpenSpec.ofChange fenceSavesWrong)

/- THE SECOND FORM. 'bulk': how many values and letters a reading holds, each counted each time it is reached (what is shared counts as often as it is met; a slice's spare places count too). A statement '..UptoSaid' is the law's where the arguments, and the package variables that the reading takes, are together of bulk at most 1048576: NARROWER than '..Said'. Prove '..Said' where nothing that the law and all that it calls make is longer than what came in: it says more and counts as full. Else prove '..UptoSaid'. A law counts once. -/
mutual
def uptoBulk {H : Type} : DataW H → Nat
  | .lit (.string bytes) => bytes.length + 1
  | .lit _ => 1
  | .nil => 1
  | .ptr d => uptoBulk d + 1
  | .slice elems spare => uptoBulkAll elems + uptoBulkAll spare + 1
  | .agg parts => uptoBulkAll parts + 1
  | .iface _ d => uptoBulk d + 1
  | .map entries => uptoBulkEntries entries + 1
  | .held _ => 1
def uptoBulkAll {H : Type} : List (DataW H) → Nat
  | [] => 0
  | d :: r => uptoBulk d + uptoBulkAll r
def uptoBulkEntries {H : Type} : List (Lit × DataW H) → Nat
  | [] => 0
  | x :: r => uptoBulkEntry x + uptoBulkEntries r
def uptoBulkEntry {H : Type} : Lit × DataW H → Nat
  | (.string bytes, d) => bytes.length + uptoBulk d + 1
  | (_, d) => uptoBulk d + 1
 end
def uptoSmall : (H : Type) → List (DataW H) → Bool := fun _ ds => decide (uptoBulkAll ds ≤ 1048576)
def OpenSpec.upto (s : _root_.Go.ChangeSpec) : _root_.Go.OpenSpec := { _root_.Go.OpenSpec.ofChange s with cond := some uptoSmall }

/-- 'drayagelaw08.FenceKeeps', WHERE WHAT IT READS IS OF BULK AT MOST 1048576: true; the input reads as it did. -/
def fenceKeepsUptoRow : OpenClaim := { program := "ytonnkgblligdkaa", sum := "1da8f64298fc8133156fab04654ce77d9c461945ae118c3dc174b2fdba09671f", func := "drayage/drayagelaw08.FenceKeeps", spec := "fenceKeeps", inPlace := ["slices.overlaps[drayage/api.Kept]"], unfollowed := true, recurses := true, apart := false, narrowed := true }
def FenceKeepsUptoSaid : Prop := fenceKeepsUptoRow.holds Try.pinned (OpenSpec.upto fenceKeepsSpec)

/-- 'drayagelaw08.FenceOnce', WHERE WHAT IT READS IS OF BULK AT MOST 1048576: true; the input reads as it did. -/
def fenceOnceUptoRow : OpenClaim := { program := "ytonnkgblligdkaa", sum := "1da8f64298fc8133156fab04654ce77d9c461945ae118c3dc174b2fdba09671f", func := "drayage/drayagelaw08.FenceOnce", spec := "fenceOnce", inPlace := ["slices.overlaps[drayage/api.Kept]"], unfollowed := true, recurses := true, apart := false, narrowed := true }
def FenceOnceUptoSaid : Prop := fenceOnceUptoRow.holds Try.pinned (OpenSpec.upto fenceOnceSpec)

/-- 'drayagelaw08.FenceUndo', WHERE WHAT IT READS IS OF BULK AT MOST 1048576: true; the input reads as it did. -/
def fenceUndoUptoRow : OpenClaim := { program := "ytonnkgblligdkaa", sum := "1da8f64298fc8133156fab04654ce77d9c461945ae118c3dc174b2fdba09671f", func := "drayage/drayagelaw08.FenceUndo", spec := "fenceUndo", inPlace := ["slices.overlaps[drayage/api.Kept]"], unfollowed := true, recurses := true, apart := false, narrowed := true }
def FenceUndoUptoSaid : Prop := fenceUndoUptoRow.holds Try.pinned (OpenSpec.upto fenceUndoSpec)

/-- 'drayagelaw08.FenceFull', WHERE WHAT IT READS IS OF BULK AT MOST 1048576: true; the input reads as it did. -/
def fenceFullUptoRow : OpenClaim := { program := "ytonnkgblligdkaa", sum := "1da8f64298fc8133156fab04654ce77d9c461945ae118c3dc174b2fdba09671f", func := "drayage/drayagelaw08.FenceFull", spec := "fenceFull", inPlace := ["slices.overlaps[drayage/api.Kept]"], unfollowed := true, recurses := true, apart := false, narrowed := true }
def FenceFullUptoSaid : Prop := fenceFullUptoRow.holds Try.pinned (OpenSpec.upto fenceFullSpec)

/-- 'drayagelaw08.FenceAsks', WHERE WHAT IT READS IS OF BULK AT MOST 1048576: true; the input reads as it did. -/
def fenceAsksUptoRow : OpenClaim := { program := "ytonnkgblligdkaa", sum := "1da8f64298fc8133156fab04654ce77d9c461945ae118c3dc174b2fdba09671f", func := "drayage/drayagelaw08.FenceAsks", spec := "fenceAsks", inPlace := ["slices.overlaps[drayage/api.Kept]"], unfollowed := true, recurses := true, apart := false, narrowed := true }
def FenceAsksUptoSaid : Prop := fenceAsksUptoRow.holds Try.pinned (OpenSpec.upto fenceAsksSpec)

/-- 'drayagelaw08.FenceEpoch', WHERE WHAT IT READS IS OF BULK AT MOST 1048576: true; the input reads as it did. -/
def fenceEpochUptoRow : OpenClaim := { program := "ytonnkgblligdkaa", sum := "1da8f64298fc8133156fab04654ce77d9c461945ae118c3dc174b2fdba09671f", func := "drayage/drayagelaw08.FenceEpoch", spec := "fenceEpoch", inPlace := ["slices.overlaps[drayage/api.Kept]"], unfollowed := true, recurses := true, apart := false, narrowed := true }
def FenceEpochUptoSaid : Prop := fenceEpochUptoRow.holds Try.pinned (OpenSpec.upto fenceEpochSpec)

/-- 'drayagelaw08.FenceOrder', WHERE WHAT IT READS IS OF BULK AT MOST 1048576: true; the input reads as it did. -/
def fenceOrderUptoRow : OpenClaim := { program := "ytonnkgblligdkaa", sum := "1da8f64298fc8133156fab04654ce77d9c461945ae118c3dc174b2fdba09671f", func := "drayage/drayagelaw08.FenceOrder", spec := "fenceOrder", inPlace := ["slices.overlaps[drayage/api.Kept]"], unfollowed := true, recurses := true, apart := false, narrowed := true }
def FenceOrderUptoSaid : Prop := fenceOrderUptoRow.holds Try.pinned (OpenSpec.upto fenceOrderSpec)

/-- 'drayagelaw08.FenceSaves', WHERE WHAT IT READS IS OF BULK AT MOST 1048576: true; the input reads as it did. -/
def fenceSavesUptoRow : OpenClaim := { program := "ytonnkgblligdkaa", sum := "1da8f64298fc8133156fab04654ce77d9c461945ae118c3dc174b2fdba09671f", func := "drayage/drayagelaw08.FenceSaves", spec := "fenceSaves", inPlace := ["slices.overlaps[drayage/api.Kept]"], unfollowed := true, recurses := true, apart := false, narrowed := true }
def FenceSavesUptoSaid : Prop := fenceSavesUptoRow.holds Try.pinned (OpenSpec.upto fenceSavesSpec)

end Rows
end Go.Proofs.Ytonnkgblligdkaa
