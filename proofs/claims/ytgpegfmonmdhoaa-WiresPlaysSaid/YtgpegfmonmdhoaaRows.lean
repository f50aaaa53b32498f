/-
  No cell of these rows narrows 'for every input' (looked for: loops, veiled, ifaces, maps, wideKeys, modest, calm, conditions, laid).
  DERIVED. THE GIVEN ROWS OF THIS SEAT. 6 by the template 'for every input the law returns true; each argument reads behind the call as it read before'; 0 by the template 'total and deterministic' (their statements: YtgpegfmonmdhoaaTotals.lean).
  GIVEN WITH THE SEED: the statements are not yours to turn. If you find one false, say at which input.
  Laid BY PROGRAM, IN A SANDBOX (cutbox-rows.mjs): the forced cells as the released guide's own fill.sh prints them over the translation 5f43e73f1966a391… (all of the seat's roots in one cut). By AI agents, Wed Nov 11 2026. No macro, syntax, notation, axiom, sorry.
-/
import Derived.Test.YtgpegfmonmdhoaaChecked
import GoSem.Claim
import GoSem.ClaimJoined
import GoSem.ClaimMapViews
import Derived.JoinedTies
import Derived.KernelRfl
namespace Go.Proofs.Ytgpegfmonmdhoaa
/- THE CELL 'sum', in the pinned program and in every row, IS THE sha256 OF THE DUMP (.gsa) THAT YtgpegfmonmdhoaaProg.lean LOADS. Nothing in Lean hashes anything: it is a label: what it is worth is what the hold of that sum in a sandbox is worth. -/
noncomputable def Try.pinned : Pinned := { name := "ytgpegfmonmdhoaa", sum := "5f43e73f1966a39119d19696cd3f4d82933d0ed44215d3d00979881a31ebd67b", checked := Try.checked }
namespace Rows
def none {H : Type} : Left H := { results := [], args := [] }

/-- 'drayagelaw18.WiresOrder': WHATEVER THE INPUT: true; the input reads as it did. -/
def wiresOrderSpec : ChangeSpec := { name := "wiresOrder", fn := fun _ => fun
  | [d1, d2] => { results := [.lit (.bool true)], args := [d1, d2] }
  | _ => none }
def wiresOrderRow : OpenClaim := { program := "ytgpegfmonmdhoaa", sum := "5f43e73f1966a39119d19696cd3f4d82933d0ed44215d3d00979881a31ebd67b", func := "drayage/drayagelaw18.WiresOrder", spec := "wiresOrder", apart := false }
def WiresOrderSaid : Prop := wiresOrderRow.holds Try.pinned (OpenSpec.ofChange wiresOrderSpec)

/-- ITS FALSE NEIGHBOUR: 'it returns false'. Refute it at one input. -/
def wiresOrderWrong : ChangeSpec := { name := "wiresOrder", fn := fun _ => fun
  | [d1, d2] => { results := [.lit (.bool false)], args := [d1, d2] }
  | _ => none }
def WiresOrderWrongFalsely : Prop := wiresOrderRow.holds Try.pinned (OpenSpec.ofChange wiresOrderWrong)

/-- 'drayagelaw18.WiresCut': WHATEVER THE INPUT: true; the input reads as it did. -/
def wiresCutSpec : ChangeSpec := { name := "wiresCut", fn := fun _ => fun
  | [d1, d2] => { results := [.lit (.bool true)], args := [d1, d2] }
  | _ => none }
def wiresCutRow : OpenClaim := { program := "ytgpegfmonmdhoaa", sum := "5f43e73f1966a39119d19696cd3f4d82933d0ed44215d3d00979881a31ebd67b", func := "drayage/drayagelaw18.WiresCut", spec := "wiresCut", apart := false }
def WiresCutSaid : Prop := wiresCutRow.holds Try.pinned (OpenSpec.ofChange wiresCutSpec)

/-- ITS FALSE NEIGHBOUR: 'it returns false'. Refute it at one input. -/
def wiresCutWrong : ChangeSpec := { name := "wiresCut", fn := fun _ => fun
  | [d1, d2] => { results := [.lit (.bool false)], args := [d1, d2] }
  | _ => none }
def WiresCutWrongFalsely : Prop := wiresCutRow.holds Try.pinned (OpenSpec.ofChange wiresCutWrong)

/-- 'drayagelaw18.WiresCounts': WHATEVER THE INPUT: true; the input reads as it did. -/
def wiresCountsSpec : ChangeSpec := { name := "wiresCounts", fn := fun _ => fun
  | [d] => { results := [.lit (.bool true)], args := [d] }
  | _ => none }
def wiresCountsRow : OpenClaim := { program := "ytgpegfmonmdhoaa", sum := "5f43e73f1966a39119d19696cd3f4d82933d0ed44215d3d00979881a31ebd67b", func := "drayage/drayagelaw18.WiresCounts", spec := "wiresCounts", apart := false }
def WiresCountsSaid : Prop := wiresCountsRow.holds Try.pinned (OpenSpec.ofChange wiresCountsSpec)

/-- ITS FALSE NEIGHBOUR: 'it returns false'. Refute it at one input. -/
def wiresCountsWrong : ChangeSpec := { name := "wiresCounts", fn := fun _ => fun
  | [d] => { results := [.lit (.bool false)], args := [d] }
  | _ => none }
def WiresCountsWrongFalsely : Prop := wiresCountsRow.holds Try.pinned (OpenSpec.ofChange wiresCountsWrong)

/-- 'drayagelaw18.WiresFull': WHATEVER THE INPUT: true; the input reads as it did. -/
def wiresFullSpec : ChangeSpec := { name := "wiresFull", fn := fun _ => fun
  | [d1, d2] => { results := [.lit (.bool true)], args := [d1, d2] }
  | _ => none }
def wiresFullRow : OpenClaim := { program := "ytgpegfmonmdhoaa", sum := "5f43e73f1966a39119d19696cd3f4d82933d0ed44215d3d00979881a31ebd67b", func := "drayage/drayagelaw18.WiresFull", spec := "wiresFull", apart := false }
def WiresFullSaid : Prop := wiresFullRow.holds Try.pinned (OpenSpec.ofChange wiresFullSpec)

/-- ITS FALSE NEIGHBOUR: 'it returns false'. Refute it at one input. -/
def wiresFullWrong : ChangeSpec := { name := "wiresFull", fn := fun _ => fun
  | [d1, d2] => { results := [.lit (.bool false)], args := [d1, d2] }
  | _ => none }
def WiresFullWrongFalsely : Prop := wiresFullRow.holds Try.pinned (OpenSpec.ofChange wiresFullWrong)

/-- 'drayagelaw18.WiresPlays': WHATEVER THE INPUT: true; the input reads as it did. -/
def wiresPlaysSpec : ChangeSpec := { name := "wiresPlays", fn := fun _ => fun
  | [d1, d2] => { results := [.lit (.bool true)], args := [d1, d2] }
  | _ => none }
def wiresPlaysRow : OpenClaim := { program := "ytgpegfmonmdhoaa", sum := "5f43e73f1966a39119d19696cd3f4d82933d0ed44215d3d00979881a31ebd67b", func := "drayage/drayagelaw18.WiresPlays", spec := "wiresPlays", apart := false }
def WiresPlaysSaid : Prop := wiresPlaysRow.holds Try.pinned (OpenSpec.ofChange wiresPlaysSpec)

/-- ITS FALSE NEIGHBOUR: 'it returns false'. Refute it at one input. -/
def wiresPlaysWrong : ChangeSpec := { name := "wiresPlays", fn := fun _ => fun
  | [d1, d2] => { results := [.lit (.bool false)], args := [d1, d2] }
  | _ => none }
def WiresPlaysWrongFalsely : Prop := wiresPlaysRow.holds Try.pinned (OpenSpec.ofChange wiresPlaysWrong)

/-- 'drayagelaw18.WiresNil': WHATEVER THE INPUT: true; the input reads as it did. -/
def wiresNilSpec : ChangeSpec := { name := "wiresNil", fn := fun _ => fun
  | [d1, d2] => { results := [.lit (.bool true)], args := [d1, d2] }
  | _ => none }
def wiresNilRow : OpenClaim := { program := "ytgpegfmonmdhoaa", sum := "5f43e73f1966a39119d19696cd3f4d82933d0ed44215d3d00979881a31ebd67b", func := "drayage/drayagelaw18.WiresNil", spec := "wiresNil", apart := false }
def WiresNilSaid : Prop := wiresNilRow.holds Try.pinned (OpenSpec.ofChange wiresNilSpec)

/-- ITS FALSE NEIGHBOUR: 'it returns false'. Refute it at one input. -/
def wiresNilWrong : ChangeSpec := { name := "wiresNil", fn := fun _ => fun
  | [d1, d2] => { results := [.lit (.bool false)], args := [d1, d2] }
  | _ => none }
def WiresNilWrongFalsely : Prop := wiresNilRow.holds Try.pinned (OpenSpec.ofChange wiresNilWrong)

/- THE SECOND FORM. 'bulk': how many values and letters a reading holds, each counted each time it is reached (what is shared counts as often as it is met; a slice's spare places count too). A statement '..UptoSaid' is the law's where the arguments, and the package variables that the reading takes, are together of bulk at most 1048576: NARROWER than '..Said'. Prove '..Said' where nothing that the law and all that it calls make is longer than what came in: it says more and counts as full. Else prove '..UptoSaid'. A law counts once. -/
mutual
def uptoBulk {H : Type} : DataW H → Nat
  | .lit (.string bytes) => bytes.length + 1
  | .lit _ => 1
  | .nil => 1
  | .ptr d => uptoBulk d + 1
  | .slice elems spare => uptoBulkAll elems + uptoBulkAll spare + 1
  | .agg parts => uptoBulkAll parts + 1
  | .iface _ d => uptoBulk d + 1
  | .map entries => uptoBulkEntries entries + 1
  | .held _ => 1
def uptoBulkAll {H : Type} : List (DataW H) → Nat
  | [] => 0
  | d :: r => uptoBulk d + uptoBulkAll r
def uptoBulkEntries {H : Type} : List (Lit × DataW H) → Nat
  | [] => 0
  | x :: r => uptoBulkEntry x + uptoBulkEntries r
def uptoBulkEntry {H : Type} : Lit × DataW H → Nat
  | (.string bytes, d) => bytes.length + uptoBulk d + 1
  | (_, d) => uptoBulk d + 1
 end
def uptoSmall : (H : Type) → List (DataW H) → Bool := fun _ ds => decide (uptoBulkAll ds ≤ 1048576)
def OpenSpec.upto (s : _root_.Go.ChangeSpec) : _root_.Go.OpenSpec := { _root_.Go.OpenSpec.ofChange s with cond := some uptoSmall }

/-- 'drayagelaw18.WiresOrder', WHERE WHAT IT READS IS OF BULK AT MOST 1048576: true; the input reads as it did. -/
def wiresOrderUptoRow : OpenClaim := { program := "ytgpegfmonmdhoaa", sum := "5f43e73f1966a39119d19696cd3f4d82933d0ed44215d3d00979881a31ebd67b", func := "drayage/drayagelaw18.WiresOrder", spec := "wiresOrder", apart := false, narrowed := true }
def WiresOrderUptoSaid : Prop := wiresOrderUptoRow.holds Try.pinned (OpenSpec.upto wiresOrderSpec)

/-- 'drayagelaw18.WiresCut', WHERE WHAT IT READS IS OF BULK AT MOST 1048576: true; the input reads as it did. -/
def wiresCutUptoRow : OpenClaim := { program := "ytgpegfmonmdhoaa", sum := "5f43e73f1966a39119d19696cd3f4d82933d0ed44215d3d00979881a31ebd67b", func := "drayage/drayagelaw18.WiresCut", spec := "wiresCut", apart := false, narrowed := true }
def WiresCutUptoSaid : Prop := wiresCutUptoRow.holds Try.pinned (OpenSpec.upto wiresCutSpec)

/-- 'drayagelaw18.WiresCounts', WHERE WHAT IT READS IS OF BULK AT MOST 1048576: true; the input reads as it did. -/
def wiresCountsUptoRow : OpenClaim := { program := "ytgpegfmonmdhoaa", sum := "5f43e73f1966a39119d19696cd3f4d82933d0ed44215d3d00979881a31ebd67b", func := "drayage/drayagelaw18.WiresCounts", spec := "wiresCounts", apart := false, narrowed := true }
def WiresCountsUptoSaid : Prop := wiresCountsUptoRow.holds Try.pinned (OpenSpec.upto wiresCountsSpec)

/-- 'drayagelaw18.WiresFull', WHERE WHAT IT READS IS OF BULK AT MOST 1048576: true; the input reads as it did. -/
def wiresFullUptoRow : OpenClaim := { program := "ytgpegfmonmdhoaa", sum := "5f43e73f1966a39119d19696cd3f4d82933d0ed44215d3d00979881a31ebd67b", func := "drayage/drayagelaw18.WiresFull", spec := "wiresFull", apart := false, narrowed := true }
def WiresFullUptoSaid : Prop := wiresFullUptoRow.holds Try.pinned (OpenSpec.upto wiresFullSpec)

/-- 'drayagelaw18.WiresPlays', WHERE WHAT IT READS IS OF BULK AT MOST 1048576: true; the input reads as it did. -/
def wiresPlaysUptoRow : OpenClaim := { program := "ytgpegfmonmdhoaa", sum := "5f43e73f1966a39119d19696cd3f4d82933d0ed44215d3d00979881a31ebd67b", func := "drayage/drayagelaw18.WiresPlays", spec := "wiresPlays", apart := false, narrowed := true }
def WiresPlaysUptoSaid : Prop := wiresPlaysUptoRow.holds Try.pinned (OpenSpec.upto wiresPlaysSpec)

/-- 'drayagelaw18.WiresNil', WHERE WHAT IT READS IS OF BULK AT MOST 1048576: true; the input reads as it did. -/
def wiresNilUptoRow : OpenClaim := { program := "ytgpegfmonmdhoaa", sum := "5f43e73f1966a39119d19696cd3f4d82933d0ed44215d3d00979881a31ebd67b", func := "drayage/drayagelaw18.WiresNil", spec := "wiresNil", apart := false, narrowed := true }
def WiresNilUptoSaid : Prop := wiresNilUptoRow.holds Try.pinned (OpenSpec.upto wiresNilSpec)

end Rows
end Go.Proofs.Ytgpegfmonmdhoaa
