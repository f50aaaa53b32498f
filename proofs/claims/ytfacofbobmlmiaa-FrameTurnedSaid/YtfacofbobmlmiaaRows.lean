/-
  No cell of these rows narrows 'for every input' (looked for: loops, veiled, ifaces, maps, wideKeys, modest, calm, conditions, laid).
  DERIVED. THE GIVEN ROWS OF THIS SEAT. 14 by the template 'for every input the law returns true; each argument reads behind the call as it read before'; 0 by the template 'total and deterministic' (their statements: YtfacofbobmlmiaaTotals.lean).
  GIVEN WITH THE SEED: the statements are not yours to turn. If you find one false, say at which input.
  Laid BY PROGRAM, IN A SANDBOX (cutbox-rows.mjs): the forced cells as the released guide's own fill.sh prints them over the translation f16052f3f821263e… (all of the seat's roots in one cut). By AI agents, Wed Nov 11 2026. No macro, syntax, notation, axiom, sorry.
-/
import Derived.Test.YtfacofbobmlmiaaChecked
import GoSem.Claim
import GoSem.ClaimJoined
import GoSem.ClaimMapViews
import Derived.JoinedTies
import Derived.KernelRfl
namespace Go.Proofs.Ytfacofbobmlmiaa
/- THE CELL 'sum', in the pinned program and in every row, IS THE sha256 OF THE DUMP (.gsa) THAT YtfacofbobmlmiaaProg.lean LOADS. Nothing in Lean hashes anything: it is a label: what it is worth is what the hold of that sum in a sandbox is worth. -/
noncomputable def Try.pinned : Pinned := { name := "ytfacofbobmlmiaa", sum := "f16052f3f821263e4a0c09810a8865f2823bb225176340e3a6f364945528d80e", checked := Try.checked }
namespace Rows
def none {H : Type} : Left H := { results := [], args := [] }

/-- 'drayagelaw02.SumOf': WHATEVER THE INPUT: true; the input reads as it did. -/
def sumOfSpec : ChangeSpec := { name := "sumOf", fn := fun _ => fun
  | [d] => { results := [.lit (.bool true)], args := [d] }
  | _ => none }
def sumOfRow : OpenClaim := { program := "ytfacofbobmlmiaa", sum := "f16052f3f821263e4a0c09810a8865f2823bb225176340e3a6f364945528d80e", func := "drayage/drayagelaw02.SumOf", spec := "sumOf", apart := false }
def SumOfSaid : Prop := sumOfRow.holds Try.pinned (OpenSpec.ofChange sumOfSpec)

/-- ITS FALSE NEIGHBOUR: 'it returns false'. Refute it at one input. -/
def sumOfWrong : ChangeSpec := { name := "sumOf", fn := fun _ => fun
  | [d] => { results := [.lit (.bool false)], args := [d] }
  | _ => none }
def SumOfWrongFalsely : Prop := sumOfRow.holds Try.pinned (OpenSpec.ofChange sumOfWrong)

/-- 'drayagelaw02.SumPieces': WHATEVER THE INPUT: true; the input reads as it did. -/
def sumPiecesSpec : ChangeSpec := { name := "sumPieces", fn := fun _ => fun
  | [d] => { results := [.lit (.bool true)], args := [d] }
  | _ => none }
def sumPiecesRow : OpenClaim := { program := "ytfacofbobmlmiaa", sum := "f16052f3f821263e4a0c09810a8865f2823bb225176340e3a6f364945528d80e", func := "drayage/drayagelaw02.SumPieces", spec := "sumPieces", apart := false }
def SumPiecesSaid : Prop := sumPiecesRow.holds Try.pinned (OpenSpec.ofChange sumPiecesSpec)

/-- ITS FALSE NEIGHBOUR: 'it returns false'. Refute it at one input. -/
def sumPiecesWrong : ChangeSpec := { name := "sumPieces", fn := fun _ => fun
  | [d] => { results := [.lit (.bool false)], args := [d] }
  | _ => none }
def SumPiecesWrongFalsely : Prop := sumPiecesRow.holds Try.pinned (OpenSpec.ofChange sumPiecesWrong)

/-- 'drayagelaw02.SumJoins': WHATEVER THE INPUT: true; the input reads as it did. -/
def sumJoinsSpec : ChangeSpec := { name := "sumJoins", fn := fun _ => fun
  | [d1, d2, d3, d4, d5] => { results := [.lit (.bool true)], args := [d1, d2, d3, d4, d5] }
  | _ => none }
def sumJoinsRow : OpenClaim := { program := "ytfacofbobmlmiaa", sum := "f16052f3f821263e4a0c09810a8865f2823bb225176340e3a6f364945528d80e", func := "drayage/drayagelaw02.SumJoins", spec := "sumJoins", apart := false }
def SumJoinsSaid : Prop := sumJoinsRow.holds Try.pinned (OpenSpec.ofChange sumJoinsSpec)

/-- ITS FALSE NEIGHBOUR: 'it returns false'. Refute it at one input. -/
def sumJoinsWrong : ChangeSpec := { name := "sumJoins", fn := fun _ => fun
  | [d1, d2, d3, d4, d5] => { results := [.lit (.bool false)], args := [d1, d2, d3, d4, d5] }
  | _ => none }
def SumJoinsWrongFalsely : Prop := sumJoinsRow.holds Try.pinned (OpenSpec.ofChange sumJoinsWrong)

/-- 'drayagelaw02.SumLinear': WHATEVER THE INPUT: true; the input reads as it did. -/
def sumLinearSpec : ChangeSpec := { name := "sumLinear", fn := fun _ => fun
  | [d1, d2] => { results := [.lit (.bool true)], args := [d1, d2] }
  | _ => none }
def sumLinearRow : OpenClaim := { program := "ytfacofbobmlmiaa", sum := "f16052f3f821263e4a0c09810a8865f2823bb225176340e3a6f364945528d80e", func := "drayage/drayagelaw02.SumLinear", spec := "sumLinear", apart := false }
def SumLinearSaid : Prop := sumLinearRow.holds Try.pinned (OpenSpec.ofChange sumLinearSpec)

/-- ITS FALSE NEIGHBOUR: 'it returns false'. Refute it at one input. -/
def sumLinearWrong : ChangeSpec := { name := "sumLinear", fn := fun _ => fun
  | [d1, d2] => { results := [.lit (.bool false)], args := [d1, d2] }
  | _ => none }
def SumLinearWrongFalsely : Prop := sumLinearRow.holds Try.pinned (OpenSpec.ofChange sumLinearWrong)

/-- 'drayagelaw02.SumBursts': WHATEVER THE INPUT: true; the input reads as it did. -/
def sumBurstsSpec : ChangeSpec := { name := "sumBursts", fn := fun _ => fun
  | [d1, d2, d3] => { results := [.lit (.bool true)], args := [d1, d2, d3] }
  | _ => none }
def sumBurstsRow : OpenClaim := { program := "ytfacofbobmlmiaa", sum := "f16052f3f821263e4a0c09810a8865f2823bb225176340e3a6f364945528d80e", func := "drayage/drayagelaw02.SumBursts", spec := "sumBursts", apart := false }
def SumBurstsSaid : Prop := sumBurstsRow.holds Try.pinned (OpenSpec.ofChange sumBurstsSpec)

/-- ITS FALSE NEIGHBOUR: 'it returns false'. Refute it at one input. -/
def sumBurstsWrong : ChangeSpec := { name := "sumBursts", fn := fun _ => fun
  | [d1, d2, d3] => { results := [.lit (.bool false)], args := [d1, d2, d3] }
  | _ => none }
def SumBurstsWrongFalsely : Prop := sumBurstsRow.holds Try.pinned (OpenSpec.ofChange sumBurstsWrong)

/-- 'drayagelaw02.SumHolds': WHATEVER THE INPUT: true; the input reads as it did. -/
def sumHoldsSpec : ChangeSpec := { name := "sumHolds", fn := fun _ => fun
  | [d1, d2, d3, d4] => { results := [.lit (.bool true)], args := [d1, d2, d3, d4] }
  | _ => none }
def sumHoldsRow : OpenClaim := { program := "ytfacofbobmlmiaa", sum := "f16052f3f821263e4a0c09810a8865f2823bb225176340e3a6f364945528d80e", func := "drayage/drayagelaw02.SumHolds", spec := "sumHolds", apart := false }
def SumHoldsSaid : Prop := sumHoldsRow.holds Try.pinned (OpenSpec.ofChange sumHoldsSpec)

/-- ITS FALSE NEIGHBOUR: 'it returns false'. Refute it at one input. -/
def sumHoldsWrong : ChangeSpec := { name := "sumHolds", fn := fun _ => fun
  | [d1, d2, d3, d4] => { results := [.lit (.bool false)], args := [d1, d2, d3, d4] }
  | _ => none }
def SumHoldsWrongFalsely : Prop := sumHoldsRow.holds Try.pinned (OpenSpec.ofChange sumHoldsWrong)

/-- 'drayagelaw03.FramePuts': WHATEVER THE INPUT: true; the input reads as it did. -/
def framePutsSpec : ChangeSpec := { name := "framePuts", fn := fun _ => fun
  | [d1, d2] => { results := [.lit (.bool true)], args := [d1, d2] }
  | _ => none }
def framePutsRow : OpenClaim := { program := "ytfacofbobmlmiaa", sum := "f16052f3f821263e4a0c09810a8865f2823bb225176340e3a6f364945528d80e", func := "drayage/drayagelaw03.FramePuts", spec := "framePuts", apart := false }
def FramePutsSaid : Prop := framePutsRow.holds Try.pinned (OpenSpec.ofChange framePutsSpec)

/-- ITS FALSE NEIGHBOUR: 'it returns false'. Refute it at one input. -/
def framePutsWrong : ChangeSpec := { name := "framePuts", fn := fun _ => fun
  | [d1, d2] => { results := [.lit (.bool false)], args := [d1, d2] }
  | _ => none }
def FramePutsWrongFalsely : Prop := framePutsRow.holds Try.pinned (OpenSpec.ofChange framePutsWrong)

/-- 'drayagelaw03.FrameGets': WHATEVER THE INPUT: true; the input reads as it did. -/
def frameGetsSpec : ChangeSpec := { name := "frameGets", fn := fun _ => fun
  | [d1, d2] => { results := [.lit (.bool true)], args := [d1, d2] }
  | _ => none }
def frameGetsRow : OpenClaim := { program := "ytfacofbobmlmiaa", sum := "f16052f3f821263e4a0c09810a8865f2823bb225176340e3a6f364945528d80e", func := "drayage/drayagelaw03.FrameGets", spec := "frameGets", apart := false }
def FrameGetsSaid : Prop := frameGetsRow.holds Try.pinned (OpenSpec.ofChange frameGetsSpec)

/-- ITS FALSE NEIGHBOUR: 'it returns false'. Refute it at one input. -/
def frameGetsWrong : ChangeSpec := { name := "frameGets", fn := fun _ => fun
  | [d1, d2] => { results := [.lit (.bool false)], args := [d1, d2] }
  | _ => none }
def FrameGetsWrongFalsely : Prop := frameGetsRow.holds Try.pinned (OpenSpec.ofChange frameGetsWrong)

/-- 'drayagelaw03.FrameAlls': WHATEVER THE INPUT: true; the input reads as it did. -/
def frameAllsSpec : ChangeSpec := { name := "frameAlls", fn := fun _ => fun
  | [d] => { results := [.lit (.bool true)], args := [d] }
  | _ => none }
def frameAllsRow : OpenClaim := { program := "ytfacofbobmlmiaa", sum := "f16052f3f821263e4a0c09810a8865f2823bb225176340e3a6f364945528d80e", func := "drayage/drayagelaw03.FrameAlls", spec := "frameAlls", apart := false }
def FrameAllsSaid : Prop := frameAllsRow.holds Try.pinned (OpenSpec.ofChange frameAllsSpec)

/-- ITS FALSE NEIGHBOUR: 'it returns false'. Refute it at one input. -/
def frameAllsWrong : ChangeSpec := { name := "frameAlls", fn := fun _ => fun
  | [d] => { results := [.lit (.bool false)], args := [d] }
  | _ => none }
def FrameAllsWrongFalsely : Prop := frameAllsRow.holds Try.pinned (OpenSpec.ofChange frameAllsWrong)

/-- 'drayagelaw03.FrameBack': WHATEVER THE INPUT: true; the input reads as it did. -/
def frameBackSpec : ChangeSpec := { name := "frameBack", fn := fun _ => fun
  | [d1, d2] => { results := [.lit (.bool true)], args := [d1, d2] }
  | _ => none }
def frameBackRow : OpenClaim := { program := "ytfacofbobmlmiaa", sum := "f16052f3f821263e4a0c09810a8865f2823bb225176340e3a6f364945528d80e", func := "drayage/drayagelaw03.FrameBack", spec := "frameBack", apart := false }
def FrameBackSaid : Prop := frameBackRow.holds Try.pinned (OpenSpec.ofChange frameBackSpec)

/-- ITS FALSE NEIGHBOUR: 'it returns false'. Refute it at one input. -/
def frameBackWrong : ChangeSpec := { name := "frameBack", fn := fun _ => fun
  | [d1, d2] => { results := [.lit (.bool false)], args := [d1, d2] }
  | _ => none }
def FrameBackWrongFalsely : Prop := frameBackRow.holds Try.pinned (OpenSpec.ofChange frameBackWrong)

/-- 'drayagelaw03.FrameCut': WHATEVER THE INPUT: true; the input reads as it did. -/
def frameCutSpec : ChangeSpec := { name := "frameCut", fn := fun _ => fun
  | [d1, d2] => { results := [.lit (.bool true)], args := [d1, d2] }
  | _ => none }
def frameCutRow : OpenClaim := { program := "ytfacofbobmlmiaa", sum := "f16052f3f821263e4a0c09810a8865f2823bb225176340e3a6f364945528d80e", func := "drayage/drayagelaw03.FrameCut", spec := "frameCut", apart := false }
def FrameCutSaid : Prop := frameCutRow.holds Try.pinned (OpenSpec.ofChange frameCutSpec)

/-- ITS FALSE NEIGHBOUR: 'it returns false'. Refute it at one input. -/
def frameCutWrong : ChangeSpec := { name := "frameCut", fn := fun _ => fun
  | [d1, d2] => { results := [.lit (.bool false)], args := [d1, d2] }
  | _ => none }
def FrameCutWrongFalsely : Prop := frameCutRow.holds Try.pinned (OpenSpec.ofChange frameCutWrong)

/-- 'drayagelaw03.FrameTurned': WHATEVER THE INPUT: true; the input reads as it did. -/
def frameTurnedSpec : ChangeSpec := { name := "frameTurned", fn := fun _ => fun
  | [d1, d2, d3, d4, d5] => { results := [.lit (.bool true)], args := [d1, d2, d3, d4, d5] }
  | _ => none }
def frameTurnedRow : OpenClaim := { program := "ytfacofbobmlmiaa", sum := "f16052f3f821263e4a0c09810a8865f2823bb225176340e3a6f364945528d80e", func := "drayage/drayagelaw03.FrameTurned", spec := "frameTurned", apart := false }
def FrameTurnedSaid : Prop := frameTurnedRow.holds Try.pinned (OpenSpec.ofChange frameTurnedSpec)

/-- ITS FALSE NEIGHBOUR: 'it returns false'. Refute it at one input. -/
def frameTurnedWrong : ChangeSpec := { name := "frameTurned", fn := fun _ => fun
  | [d1, d2, d3, d4, d5] => { results := [.lit (.bool false)], args := [d1, d2, d3, d4, d5] }
  | _ => none }
def FrameTurnedWrongFalsely : Prop := frameTurnedRow.holds Try.pinned (OpenSpec.ofChange frameTurnedWrong)

/-- 'drayagelaw03.FrameJoins': WHATEVER THE INPUT: true; the input reads as it did. -/
def frameJoinsSpec : ChangeSpec := { name := "frameJoins", fn := fun _ => fun
  | [d1, d2] => { results := [.lit (.bool true)], args := [d1, d2] }
  | _ => none }
def frameJoinsRow : OpenClaim := { program := "ytfacofbobmlmiaa", sum := "f16052f3f821263e4a0c09810a8865f2823bb225176340e3a6f364945528d80e", func := "drayage/drayagelaw03.FrameJoins", spec := "frameJoins", apart := false }
def FrameJoinsSaid : Prop := frameJoinsRow.holds Try.pinned (OpenSpec.ofChange frameJoinsSpec)

/-- ITS FALSE NEIGHBOUR: 'it returns false'. Refute it at one input. -/
def frameJoinsWrong : ChangeSpec := { name := "frameJoins", fn := fun _ => fun
  | [d1, d2] => { results := [.lit (.bool false)], args := [d1, d2] }
  | _ => none }
def FrameJoinsWrongFalsely : Prop := frameJoinsRow.holds Try.pinned (OpenSpec.ofChange frameJoinsWrong)

/-- 'drayagelaw03.FrameApart': WHATEVER THE INPUT: true; the input reads as it did. -/
def frameApartSpec : ChangeSpec := { name := "frameApart", fn := fun _ => fun
  | [d1, d2] => { results := [.lit (.bool true)], args := [d1, d2] }
  | _ => none }
def frameApartRow : OpenClaim := { program := "ytfacofbobmlmiaa", sum := "f16052f3f821263e4a0c09810a8865f2823bb225176340e3a6f364945528d80e", func := "drayage/drayagelaw03.FrameApart", spec := "frameApart", apart := false }
def FrameApartSaid : Prop := frameApartRow.holds Try.pinned (OpenSpec.ofChange frameApartSpec)

/-- ITS FALSE NEIGHBOUR: 'it returns false'. Refute it at one input. -/
def frameApartWrong : ChangeSpec := { name := "frameApart", fn := fun _ => fun
  | [d1, d2] => { results := [.lit (.bool false)], args := [d1, d2] }
  | _ => none }
def FrameApartWrongFalsely : Prop := frameApartRow.holds Try.pinned (OpenSpec.ofChange frameApartWrong)

/- THE SECOND FORM. 'bulk': how many values and letters a reading holds, each counted each time it is reached (what is shared counts as often as it is met; a slice's spare places count too). A statement '..UptoSaid' is the law's where the arguments, and the package variables that the reading takes, are together of bulk at most 1048576: NARROWER than '..Said'. Prove '..Said' where nothing that the law and all that it calls make is longer than what came in: it says more and counts as full. Else prove '..UptoSaid'. A law counts once. -/
mutual
def uptoBulk {H : Type} : DataW H → Nat
  | .lit (.string bytes) => bytes.length + 1
  | .lit _ => 1
  | .nil => 1
  | .ptr d => uptoBulk d + 1
  | .slice elems spare => uptoBulkAll elems + uptoBulkAll spare + 1
  | .agg parts => uptoBulkAll parts + 1
  | .iface _ d => uptoBulk d + 1
  | .map entries => uptoBulkEntries entries + 1
  | .held _ => 1
def uptoBulkAll {H : Type} : List (DataW H) → Nat
  | [] => 0
  | d :: r => uptoBulk d + uptoBulkAll r
def uptoBulkEntries {H : Type} : List (Lit × DataW H) → Nat
  | [] => 0
  | x :: r => uptoBulkEntry x + uptoBulkEntries r
def uptoBulkEntry {H : Type} : Lit × DataW H → Nat
  | (.string bytes, d) => bytes.length + uptoBulk d + 1
  | (_, d) => uptoBulk d + 1
 end
def uptoSmall : (H : Type) → List (DataW H) → Bool := fun _ ds => decide (uptoBulkAll ds ≤ 1048576)
def OpenSpec.upto (s : _root_.Go.ChangeSpec) : _root_.Go.OpenSpec := { _root_.Go.OpenSpec.ofChange s with cond := some uptoSmall }

/-- 'drayagelaw02.SumOf', WHERE WHAT IT READS IS OF BULK AT MOST 1048576: true; the input reads as it did. -/
def sumOfUptoRow : OpenClaim := { program := "ytfacofbobmlmiaa", sum := "f16052f3f821263e4a0c09810a8865f2823bb225176340e3a6f364945528d80e", func := "drayage/drayagelaw02.SumOf", spec := "sumOf", apart := false, narrowed := true }
def SumOfUptoSaid : Prop := sumOfUptoRow.holds Try.pinned (OpenSpec.upto sumOfSpec)

/-- 'drayagelaw02.SumPieces', WHERE WHAT IT READS IS OF BULK AT MOST 1048576: true; the input reads as it did. -/
def sumPiecesUptoRow : OpenClaim := { program := "ytfacofbobmlmiaa", sum := "f16052f3f821263e4a0c09810a8865f2823bb225176340e3a6f364945528d80e", func := "drayage/drayagelaw02.SumPieces", spec := "sumPieces", apart := false, narrowed := true }
def SumPiecesUptoSaid : Prop := sumPiecesUptoRow.holds Try.pinned (OpenSpec.upto sumPiecesSpec)

/-- 'drayagelaw02.SumJoins', WHERE WHAT IT READS IS OF BULK AT MOST 1048576: true; the input reads as it did. -/
def sumJoinsUptoRow : OpenClaim := { program := "ytfacofbobmlmiaa", sum := "f16052f3f821263e4a0c09810a8865f2823bb225176340e3a6f364945528d80e", func := "drayage/drayagelaw02.SumJoins", spec := "sumJoins", apart := false, narrowed := true }
def SumJoinsUptoSaid : Prop := sumJoinsUptoRow.holds Try.pinned (OpenSpec.upto sumJoinsSpec)

/-- 'drayagelaw02.SumLinear', WHERE WHAT IT READS IS OF BULK AT MOST 1048576: true; the input reads as it did. -/
def sumLinearUptoRow : OpenClaim := { program := "ytfacofbobmlmiaa", sum := "f16052f3f821263e4a0c09810a8865f2823bb225176340e3a6f364945528d80e", func := "drayage/drayagelaw02.SumLinear", spec := "sumLinear", apart := false, narrowed := true }
def SumLinearUptoSaid : Prop := sumLinearUptoRow.holds Try.pinned (OpenSpec.upto sumLinearSpec)

/-- 'drayagelaw02.SumBursts', WHERE WHAT IT READS IS OF BULK AT MOST 1048576: true; the input reads as it did. -/
def sumBurstsUptoRow : OpenClaim := { program := "ytfacofbobmlmiaa", sum := "f16052f3f821263e4a0c09810a8865f2823bb225176340e3a6f364945528d80e", func := "drayage/drayagelaw02.SumBursts", spec := "sumBursts", apart := false, narrowed := true }
def SumBurstsUptoSaid : Prop := sumBurstsUptoRow.holds Try.pinned (OpenSpec.upto sumBurstsSpec)

/-- 'drayagelaw02.SumHolds', WHERE WHAT IT READS IS OF BULK AT MOST 1048576: true; the input reads as it did. -/
def sumHoldsUptoRow : OpenClaim := { program := "ytfacofbobmlmiaa", sum := "f16052f3f821263e4a0c09810a8865f2823bb225176340e3a6f364945528d80e", func := "drayage/drayagelaw02.SumHolds", spec := "sumHolds", apart := false, narrowed := true }
def SumHoldsUptoSaid : Prop := sumHoldsUptoRow.holds Try.pinned (OpenSpec.upto sumHoldsSpec)

/-- 'drayagelaw03.FramePuts', WHERE WHAT IT READS IS OF BULK AT MOST 1048576: true; the input reads as it did. -/
def framePutsUptoRow : OpenClaim := { program := "ytfacofbobmlmiaa", sum := "f16052f3f821263e4a0c09810a8865f2823bb225176340e3a6f364945528d80e", func := "drayage/drayagelaw03.FramePuts", spec := "framePuts", apart := false, narrowed := true }
def FramePutsUptoSaid : Prop := framePutsUptoRow.holds Try.pinned (OpenSpec.upto framePutsSpec)

/-- 'drayagelaw03.FrameGets', WHERE WHAT IT READS IS OF BULK AT MOST 1048576: true; the input reads as it did. -/
def frameGetsUptoRow : OpenClaim := { program := "ytfacofbobmlmiaa", sum := "f16052f3f821263e4a0c09810a8865f2823bb225176340e3a6f364945528d80e", func := "drayage/drayagelaw03.FrameGets", spec := "frameGets", apart := false, narrowed := true }
def FrameGetsUptoSaid : Prop := frameGetsUptoRow.holds Try.pinned (OpenSpec.upto frameGetsSpec)

/-- 'drayagelaw03.FrameAlls', WHERE WHAT IT READS IS OF BULK AT MOST 1048576: true; the input reads as it did. -/
def frameAllsUptoRow : OpenClaim := { program := "ytfacofbobmlmiaa", sum := "f16052f3f821263e4a0c09810a8865f2823bb225176340e3a6f364945528d80e", func := "drayage/drayagelaw03.FrameAlls", spec := "frameAlls", apart := false, narrowed := true }
def FrameAllsUptoSaid : Prop := frameAllsUptoRow.holds Try.pinned (OpenSpec.upto frameAllsSpec)

/-- 'drayagelaw03.FrameBack', WHERE WHAT IT READS IS OF BULK AT MOST 1048576: true; the input reads as it did. -/
def frameBackUptoRow : OpenClaim := { program := "ytfacofbobmlmiaa", sum := "f16052f3f821263e4a0c09810a8865f2823bb225176340e3a6f364945528d80e", func := "drayage/drayagelaw03.FrameBack", spec := "frameBack", apart := false, narrowed := true }
def FrameBackUptoSaid : Prop := frameBackUptoRow.holds Try.pinned (OpenSpec.upto frameBackSpec)

/-- 'drayagelaw03.FrameCut', WHERE WHAT IT READS IS OF BULK AT MOST 1048576: true; the input reads as it did. -/
def frameCutUptoRow : OpenClaim := { program := "ytfacofbobmlmiaa", sum := "f16052f3f821263e4a0c09810a8865f2823bb225176340e3a6f364945528d80e", func := "drayage/drayagelaw03.FrameCut", spec := "frameCut", apart := false, narrowed := true }
def FrameCutUptoSaid : Prop := frameCutUptoRow.holds Try.pinned (OpenSpec.upto frameCutSpec)

/-- 'drayagelaw03.FrameTurned', WHERE WHAT IT READS IS OF BULK AT MOST 1048576: true; the input reads as it did. -/
def frameTurnedUptoRow : OpenClaim := { program := "ytfacofbobmlmiaa", sum := "f16052f3f821263e4a0c09810a8865f2823bb225176340e3a6f364945528d80e", func := "drayage/drayagelaw03.FrameTurned", spec := "frameTurned", apart := false, narrowed := true }
def FrameTurnedUptoSaid : Prop := frameTurnedUptoRow.holds Try.pinned (OpenSpec.upto frameTurnedSpec)

/-- 'drayagelaw03.FrameJoins', WHERE WHAT IT READS IS OF BULK AT MOST 1048576: true; the input reads as it did. -/
def frameJoinsUptoRow : OpenClaim := { program := "ytfacofbobmlmiaa", sum := "f16052f3f821263e4a0c09810a8865f2823bb225176340e3a6f364945528d80e", func := "drayage/drayagelaw03.FrameJoins", spec := "frameJoins", apart := false, narrowed := true }
def FrameJoinsUptoSaid : Prop := frameJoinsUptoRow.holds Try.pinned (OpenSpec.upto frameJoinsSpec)

/-- 'drayagelaw03.FrameApart', WHERE WHAT IT READS IS OF BULK AT MOST 1048576: true; the input reads as it did. -/
def frameApartUptoRow : OpenClaim := { program := "ytfacofbobmlmiaa", sum := "f16052f3f821263e4a0c09810a8865f2823bb225176340e3a6f364945528d80e", func := "drayage/drayagelaw03.FrameApart", spec := "frameApart", apart := false, narrowed := true }
def FrameApartUptoSaid : Prop := frameApartUptoRow.holds Try.pinned (OpenSpec.upto frameApartSpec)

end Rows
end Go.Proofs.Ytfacofbobmlmiaa
