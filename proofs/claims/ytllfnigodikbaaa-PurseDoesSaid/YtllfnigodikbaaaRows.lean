/-
  No cell of these rows narrows 'for every input' (looked for: loops, veiled, ifaces, maps, wideKeys, modest, calm, conditions, laid).
  DERIVED. THE GIVEN ROWS OF THIS SEAT. 6 by the template 'for every input the law returns true; each argument reads behind the call as it read before'; 0 by the template 'total and deterministic' (their statements: YtllfnigodikbaaaTotals.lean).
  GIVEN WITH THE SEED: the statements are not yours to turn. If you find one false, say at which input.
  Laid BY PROGRAM, IN A SANDBOX (cutbox-rows.mjs): the forced cells as the released guide's own fill.sh prints them over the translation 56bd90779fa80dbd… (all of the seat's roots in one cut). By AI agents, Wed Nov 11 2026. No macro, syntax, notation, axiom, sorry.
-/
import Derived.Test.YtllfnigodikbaaaChecked
import GoSem.Claim
import GoSem.ClaimJoined
import GoSem.ClaimMapViews
import Derived.JoinedTies
import Derived.KernelRfl
namespace Go.Proofs.Ytllfnigodikbaaa
/- THE CELL 'sum', in the pinned program and in every row, IS THE sha256 OF THE DUMP (.gsa) THAT YtllfnigodikbaaaProg.lean LOADS. Nothing in Lean hashes anything: it is a label: what it is worth is what the hold of that sum in a sandbox is worth. -/
noncomputable def Try.pinned : Pinned := { name := "ytllfnigodikbaaa", sum := "56bd90779fa80dbdb7e97c035545f957ca7bb22814d446666100cf71b7d473e0", checked := Try.checked }
namespace Rows
def none {H : Type} : Left H := { results := [], args := [] }

/-- 'drayagelaw10.PurseDoes': WHATEVER THE INPUT: true; the input reads as it did. -/
def purseDoesSpec : ChangeSpec := { name := "purseDoes", fn := fun _ => fun
  | [d1, d2] => { results := [.lit (.bool true)], args := [d1, d2] }
  | _ => none }
def purseDoesRow : OpenClaim := { program := "ytllfnigodikbaaa", sum := "56bd90779fa80dbdb7e97c035545f957ca7bb22814d446666100cf71b7d473e0", func := "drayage/drayagelaw10.PurseDoes", spec := "purseDoes", inPlace := ["internal/bytealg.abigen_runtime_cmpstring"], unfollowed := true, recurses := true, apart := false }
def PurseDoesSaid : Prop := purseDoesRow.holds Try.pinned (OpenSpec.ofChange purseDoesSpec)

/-- ITS FALSE NEIGHBOUR: 'it returns false'. Refute it at one input. -/
def purseDoesWrong : ChangeSpec := { name := "purseDoes", fn := fun _ => fun
  | [d1, d2] => { results := [.lit (.bool false)], args := [d1, d2] }
  | _ => none }
def PurseDoesWrongFalsely : Prop := purseDoesRow.holds Try.pinned (OpenSpec.ofChange purseDoesWrong)

/-- 'drayagelaw10.PurseSum': WHATEVER THE INPUT: true; the input reads as it did. -/
def purseSumSpec : ChangeSpec := { name := "purseSum", fn := fun _ => fun
  | [d1, d2] => { results := [.lit (.bool true)], args := [d1, d2] }
  | _ => none }
def purseSumRow : OpenClaim := { program := "ytllfnigodikbaaa", sum := "56bd90779fa80dbdb7e97c035545f957ca7bb22814d446666100cf71b7d473e0", func := "drayage/drayagelaw10.PurseSum", spec := "purseSum", inPlace := ["internal/bytealg.abigen_runtime_cmpstring"], unfollowed := true, recurses := true, apart := false }
def PurseSumSaid : Prop := purseSumRow.holds Try.pinned (OpenSpec.ofChange purseSumSpec)

/-- ITS FALSE NEIGHBOUR: 'it returns false'. Refute it at one input. -/
def purseSumWrong : ChangeSpec := { name := "purseSum", fn := fun _ => fun
  | [d1, d2] => { results := [.lit (.bool false)], args := [d1, d2] }
  | _ => none }
def PurseSumWrongFalsely : Prop := purseSumRow.holds Try.pinned (OpenSpec.ofChange purseSumWrong)

/-- 'drayagelaw10.PurseStates': WHATEVER THE INPUT: true; the input reads as it did. -/
def purseStatesSpec : ChangeSpec := { name := "purseStates", fn := fun _ => fun
  | [d1, d2] => { results := [.lit (.bool true)], args := [d1, d2] }
  | _ => none }
def purseStatesRow : OpenClaim := { program := "ytllfnigodikbaaa", sum := "56bd90779fa80dbdb7e97c035545f957ca7bb22814d446666100cf71b7d473e0", func := "drayage/drayagelaw10.PurseStates", spec := "purseStates", inPlace := ["internal/bytealg.abigen_runtime_cmpstring"], unfollowed := true, recurses := true, apart := false }
def PurseStatesSaid : Prop := purseStatesRow.holds Try.pinned (OpenSpec.ofChange purseStatesSpec)

/-- ITS FALSE NEIGHBOUR: 'it returns false'. Refute it at one input. -/
def purseStatesWrong : ChangeSpec := { name := "purseStates", fn := fun _ => fun
  | [d1, d2] => { results := [.lit (.bool false)], args := [d1, d2] }
  | _ => none }
def PurseStatesWrongFalsely : Prop := purseStatesRow.holds Try.pinned (OpenSpec.ofChange purseStatesWrong)

/-- 'drayagelaw10.PurseWays': WHATEVER THE INPUT: true; the input reads as it did. -/
def purseWaysSpec : ChangeSpec := { name := "purseWays", fn := fun _ => fun
  | [d1, d2, d3, d4, d5, d6] => { results := [.lit (.bool true)], args := [d1, d2, d3, d4, d5, d6] }
  | _ => none }
def purseWaysRow : OpenClaim := { program := "ytllfnigodikbaaa", sum := "56bd90779fa80dbdb7e97c035545f957ca7bb22814d446666100cf71b7d473e0", func := "drayage/drayagelaw10.PurseWays", spec := "purseWays", inPlace := ["internal/bytealg.abigen_runtime_cmpstring"], unfollowed := true, recurses := true, apart := false }
def PurseWaysSaid : Prop := purseWaysRow.holds Try.pinned (OpenSpec.ofChange purseWaysSpec)

/-- ITS FALSE NEIGHBOUR: 'it returns false'. Refute it at one input. -/
def purseWaysWrong : ChangeSpec := { name := "purseWays", fn := fun _ => fun
  | [d1, d2, d3, d4, d5, d6] => { results := [.lit (.bool false)], args := [d1, d2, d3, d4, d5, d6] }
  | _ => none }
def PurseWaysWrongFalsely : Prop := purseWaysRow.holds Try.pinned (OpenSpec.ofChange purseWaysWrong)

/-- 'drayagelaw10.PurseMost': WHATEVER THE INPUT: true; the input reads as it did. -/
def purseMostSpec : ChangeSpec := { name := "purseMost", fn := fun _ => fun
  | [d1, d2, d3] => { results := [.lit (.bool true)], args := [d1, d2, d3] }
  | _ => none }
def purseMostRow : OpenClaim := { program := "ytllfnigodikbaaa", sum := "56bd90779fa80dbdb7e97c035545f957ca7bb22814d446666100cf71b7d473e0", func := "drayage/drayagelaw10.PurseMost", spec := "purseMost", inPlace := ["internal/bytealg.abigen_runtime_cmpstring"], unfollowed := true, recurses := true, apart := false }
def PurseMostSaid : Prop := purseMostRow.holds Try.pinned (OpenSpec.ofChange purseMostSpec)

/-- ITS FALSE NEIGHBOUR: 'it returns false'. Refute it at one input. -/
def purseMostWrong : ChangeSpec := { name := "purseMost", fn := fun _ => fun
  | [d1, d2, d3] => { results := [.lit (.bool false)], args := [d1, d2, d3] }
  | _ => none }
def PurseMostWrongFalsely : Prop := purseMostRow.holds Try.pinned (OpenSpec.ofChange purseMostWrong)

/-- 'drayagelaw10.PurseApart': WHATEVER THE INPUT: true; the input reads as it did. -/
def purseApartSpec : ChangeSpec := { name := "purseApart", fn := fun _ => fun
  | [d1, d2] => { results := [.lit (.bool true)], args := [d1, d2] }
  | _ => none }
def purseApartRow : OpenClaim := { program := "ytllfnigodikbaaa", sum := "56bd90779fa80dbdb7e97c035545f957ca7bb22814d446666100cf71b7d473e0", func := "drayage/drayagelaw10.PurseApart", spec := "purseApart", inPlace := ["internal/bytealg.abigen_runtime_cmpstring"], unfollowed := true, recurses := true, apart := false }
def PurseApartSaid : Prop := purseApartRow.holds Try.pinned (OpenSpec.ofChange purseApartSpec)

/-- ITS FALSE NEIGHBOUR: 'it returns false'. Refute it at one input. -/
def purseApartWrong : ChangeSpec := { name := "purseApart", fn := fun _ => fun
  | [d1, d2] => { results := [.lit (.bool false)], args := [d1, d2] }
  | _ => none }
def PurseApartWrongFalsely : Prop := purseApartRow.holds Try.pinned (OpenSpec.ofChange purseApartWrong)

/- THE SECOND FORM. 'bulk': how many values and letters a reading holds, each counted each time it is reached (what is shared counts as often as it is met; a slice's spare places count too). A statement '..UptoSaid' is the law's where the arguments, and the package variables that the reading takes, are together of bulk at most 1048576: NARROWER than '..Said'. Prove '..Said' where nothing that the law and all that it calls make is longer than what came in: it says more and counts as full. Else prove '..UptoSaid'. A law counts once. -/
mutual
def uptoBulk {H : Type} : DataW H → Nat
  | .lit (.string bytes) => bytes.length + 1
  | .lit _ => 1
  | .nil => 1
  | .ptr d => uptoBulk d + 1
  | .slice elems spare => uptoBulkAll elems + uptoBulkAll spare + 1
  | .agg parts => uptoBulkAll parts + 1
  | .iface _ d => uptoBulk d + 1
  | .map entries => uptoBulkEntries entries + 1
  | .held _ => 1
def uptoBulkAll {H : Type} : List (DataW H) → Nat
  | [] => 0
  | d :: r => uptoBulk d + uptoBulkAll r
def uptoBulkEntries {H : Type} : List (Lit × DataW H) → Nat
  | [] => 0
  | x :: r => uptoBulkEntry x + uptoBulkEntries r
def uptoBulkEntry {H : Type} : Lit × DataW H → Nat
  | (.string bytes, d) => bytes.length + uptoBulk d + 1
  | (_, d) => uptoBulk d + 1
 end
def uptoSmall : (H : Type) → List (DataW H) → Bool := fun _ ds => decide (uptoBulkAll ds ≤ 1048576)
def OpenSpec.upto (s : _root_.Go.ChangeSpec) : _root_.Go.OpenSpec := { _root_.Go.OpenSpec.ofChange s with cond := some uptoSmall }

/-- 'drayagelaw10.PurseDoes', WHERE WHAT IT READS IS OF BULK AT MOST 1048576: true; the input reads as it did. -/
def purseDoesUptoRow : OpenClaim := { program := "ytllfnigodikbaaa", sum := "56bd90779fa80dbdb7e97c035545f957ca7bb22814d446666100cf71b7d473e0", func := "drayage/drayagelaw10.PurseDoes", spec := "purseDoes", inPlace := ["internal/bytealg.abigen_runtime_cmpstring"], unfollowed := true, recurses := true, apart := false, narrowed := true }
def PurseDoesUptoSaid : Prop := purseDoesUptoRow.holds Try.pinned (OpenSpec.upto purseDoesSpec)

/-- 'drayagelaw10.PurseSum', WHERE WHAT IT READS IS OF BULK AT MOST 1048576: true; the input reads as it did. -/
def purseSumUptoRow : OpenClaim := { program := "ytllfnigodikbaaa", sum := "56bd90779fa80dbdb7e97c035545f957ca7bb22814d446666100cf71b7d473e0", func := "drayage/drayagelaw10.PurseSum", spec := "purseSum", inPlace := ["internal/bytealg.abigen_runtime_cmpstring"], unfollowed := true, recurses := true, apart := false, narrowed := true }
def PurseSumUptoSaid : Prop := purseSumUptoRow.holds Try.pinned (OpenSpec.upto purseSumSpec)

/-- 'drayagelaw10.PurseStates', WHERE WHAT IT READS IS OF BULK AT MOST 1048576: true; the input reads as it did. -/
def purseStatesUptoRow : OpenClaim := { program := "ytllfnigodikbaaa", sum := "56bd90779fa80dbdb7e97c035545f957ca7bb22814d446666100cf71b7d473e0", func := "drayage/drayagelaw10.PurseStates", spec := "purseStates", inPlace := ["internal/bytealg.abigen_runtime_cmpstring"], unfollowed := true, recurses := true, apart := false, narrowed := true }
def PurseStatesUptoSaid : Prop := purseStatesUptoRow.holds Try.pinned (OpenSpec.upto purseStatesSpec)

/-- 'drayagelaw10.PurseWays', WHERE WHAT IT READS IS OF BULK AT MOST 1048576: true; the input reads as it did. -/
def purseWaysUptoRow : OpenClaim := { program := "ytllfnigodikbaaa", sum := "56bd90779fa80dbdb7e97c035545f957ca7bb22814d446666100cf71b7d473e0", func := "drayage/drayagelaw10.PurseWays", spec := "purseWays", inPlace := ["internal/bytealg.abigen_runtime_cmpstring"], unfollowed := true, recurses := true, apart := false, narrowed := true }
def PurseWaysUptoSaid : Prop := purseWaysUptoRow.holds Try.pinned (OpenSpec.upto purseWaysSpec)

/-- 'drayagelaw10.PurseMost', WHERE WHAT IT READS IS OF BULK AT MOST 1048576: true; the input reads as it did. -/
def purseMostUptoRow : OpenClaim := { program := "ytllfnigodikbaaa", sum := "56bd90779fa80dbdb7e97c035545f957ca7bb22814d446666100cf71b7d473e0", func := "drayage/drayagelaw10.PurseMost", spec := "purseMost", inPlace := ["internal/bytealg.abigen_runtime_cmpstring"], unfollowed := true, recurses := true, apart := false, narrowed := true }
def PurseMostUptoSaid : Prop := purseMostUptoRow.holds Try.pinned (OpenSpec.upto purseMostSpec)

/-- 'drayagelaw10.PurseApart', WHERE WHAT IT READS IS OF BULK AT MOST 1048576: true; the input reads as it did. -/
def purseApartUptoRow : OpenClaim := { program := "ytllfnigodikbaaa", sum := "56bd90779fa80dbdb7e97c035545f957ca7bb22814d446666100cf71b7d473e0", func := "drayage/drayagelaw10.PurseApart", spec := "purseApart", inPlace := ["internal/bytealg.abigen_runtime_cmpstring"], unfollowed := true, recurses := true, apart := false, narrowed := true }
def PurseApartUptoSaid : Prop := purseApartUptoRow.holds Try.pinned (OpenSpec.upto purseApartSpec)

end Rows
end Go.Proofs.Ytllfnigodikbaaa
