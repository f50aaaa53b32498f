/-
  No cell of these rows narrows 'for every input' (looked for: loops, veiled, ifaces, maps, wideKeys, modest, calm, conditions, laid).
  DERIVED. THE GIVEN ROWS OF THIS SEAT. 6 by the template 'for every input the law returns true; each argument reads behind the call as it read before'; 0 by the template 'total and deterministic' (their statements: YtdbbkodjhmfjfaaTotals.lean).
  GIVEN WITH THE SEED: the statements are not yours to turn. If you find one false, say at which input.
  Laid BY PROGRAM, IN A SANDBOX (cutbox-rows.mjs): the forced cells as the released guide's own fill.sh prints them over the translation 29a4c5196e5040f3… (all of the seat's roots in one cut). By AI agents, Wed Nov 11 2026. No macro, syntax, notation, axiom, sorry.
-/
import Derived.Test.YtdbbkodjhmfjfaaChecked
import GoSem.Claim
import GoSem.ClaimJoined
import GoSem.ClaimMapViews
import Derived.JoinedTies
import Derived.KernelRfl
namespace Go.Proofs.Ytdbbkodjhmfjfaa
/- THE CELL 'sum', in the pinned program and in every row, IS THE sha256 OF THE DUMP (.gsa) THAT YtdbbkodjhmfjfaaProg.lean LOADS. Nothing in Lean hashes anything: it is a label: what it is worth is what the hold of that sum in a sandbox is worth. -/
noncomputable def Try.pinned : Pinned := { name := "ytdbbkodjhmfjfaa", sum := "29a4c5196e5040f315c5170f67005132dea6b49f334e509c062196f4c86a955b", checked := Try.checked }
namespace Rows
def none {H : Type} : Left H := { results := [], args := [] }

/-- 'drayagelaw09.StockMost': WHATEVER THE INPUT: true; the input reads as it did. -/
def stockMostSpec : ChangeSpec := { name := "stockMost", fn := fun _ => fun
  | [d1, d2, d3] => { results := [.lit (.bool true)], args := [d1, d2, d3] }
  | _ => none }
def stockMostRow : OpenClaim := { program := "ytdbbkodjhmfjfaa", sum := "29a4c5196e5040f315c5170f67005132dea6b49f334e509c062196f4c86a955b", func := "drayage/drayagelaw09.StockMost", spec := "stockMost", inPlace := ["internal/bytealg.abigen_runtime_cmpstring"], unfollowed := true, recurses := true, apart := false }
def StockMostSaid : Prop := stockMostRow.holds Try.pinned (OpenSpec.ofChange stockMostSpec)

/-- ITS FALSE NEIGHBOUR: 'it returns false'. Refute it at one input. -/
def stockMostWrong : ChangeSpec := { name := "stockMost", fn := fun _ => fun
  | [d1, d2, d3] => { results := [.lit (.bool false)], args := [d1, d2, d3] }
  | _ => none }
def StockMostWrongFalsely : Prop := stockMostRow.holds Try.pinned (OpenSpec.ofChange stockMostWrong)

/-- 'drayagelaw09.StockDoes': WHATEVER THE INPUT: true; the input reads as it did. -/
def stockDoesSpec : ChangeSpec := { name := "stockDoes", fn := fun _ => fun
  | [d1, d2, d3] => { results := [.lit (.bool true)], args := [d1, d2, d3] }
  | _ => none }
def stockDoesRow : OpenClaim := { program := "ytdbbkodjhmfjfaa", sum := "29a4c5196e5040f315c5170f67005132dea6b49f334e509c062196f4c86a955b", func := "drayage/drayagelaw09.StockDoes", spec := "stockDoes", inPlace := ["internal/bytealg.abigen_runtime_cmpstring"], unfollowed := true, recurses := true, apart := false }
def StockDoesSaid : Prop := stockDoesRow.holds Try.pinned (OpenSpec.ofChange stockDoesSpec)

/-- ITS FALSE NEIGHBOUR: 'it returns false'. Refute it at one input. -/
def stockDoesWrong : ChangeSpec := { name := "stockDoes", fn := fun _ => fun
  | [d1, d2, d3] => { results := [.lit (.bool false)], args := [d1, d2, d3] }
  | _ => none }
def StockDoesWrongFalsely : Prop := stockDoesRow.holds Try.pinned (OpenSpec.ofChange stockDoesWrong)

/-- 'drayagelaw09.StockSum': WHATEVER THE INPUT: true; the input reads as it did. -/
def stockSumSpec : ChangeSpec := { name := "stockSum", fn := fun _ => fun
  | [d1, d2] => { results := [.lit (.bool true)], args := [d1, d2] }
  | _ => none }
def stockSumRow : OpenClaim := { program := "ytdbbkodjhmfjfaa", sum := "29a4c5196e5040f315c5170f67005132dea6b49f334e509c062196f4c86a955b", func := "drayage/drayagelaw09.StockSum", spec := "stockSum", inPlace := ["internal/bytealg.abigen_runtime_cmpstring"], unfollowed := true, recurses := true, apart := false }
def StockSumSaid : Prop := stockSumRow.holds Try.pinned (OpenSpec.ofChange stockSumSpec)

/-- ITS FALSE NEIGHBOUR: 'it returns false'. Refute it at one input. -/
def stockSumWrong : ChangeSpec := { name := "stockSum", fn := fun _ => fun
  | [d1, d2] => { results := [.lit (.bool false)], args := [d1, d2] }
  | _ => none }
def StockSumWrongFalsely : Prop := stockSumRow.holds Try.pinned (OpenSpec.ofChange stockSumWrong)

/-- 'drayagelaw09.StockOnce': WHATEVER THE INPUT: true; the input reads as it did. -/
def stockOnceSpec : ChangeSpec := { name := "stockOnce", fn := fun _ => fun
  | [d1, d2, d3, d4, d5] => { results := [.lit (.bool true)], args := [d1, d2, d3, d4, d5] }
  | _ => none }
def stockOnceRow : OpenClaim := { program := "ytdbbkodjhmfjfaa", sum := "29a4c5196e5040f315c5170f67005132dea6b49f334e509c062196f4c86a955b", func := "drayage/drayagelaw09.StockOnce", spec := "stockOnce", inPlace := ["internal/bytealg.abigen_runtime_cmpstring"], unfollowed := true, recurses := true, apart := false }
def StockOnceSaid : Prop := stockOnceRow.holds Try.pinned (OpenSpec.ofChange stockOnceSpec)

/-- ITS FALSE NEIGHBOUR: 'it returns false'. Refute it at one input. -/
def stockOnceWrong : ChangeSpec := { name := "stockOnce", fn := fun _ => fun
  | [d1, d2, d3, d4, d5] => { results := [.lit (.bool false)], args := [d1, d2, d3, d4, d5] }
  | _ => none }
def StockOnceWrongFalsely : Prop := stockOnceRow.holds Try.pinned (OpenSpec.ofChange stockOnceWrong)

/-- 'drayagelaw09.StockApart': WHATEVER THE INPUT: true; the input reads as it did. -/
def stockApartSpec : ChangeSpec := { name := "stockApart", fn := fun _ => fun
  | [d1, d2] => { results := [.lit (.bool true)], args := [d1, d2] }
  | _ => none }
def stockApartRow : OpenClaim := { program := "ytdbbkodjhmfjfaa", sum := "29a4c5196e5040f315c5170f67005132dea6b49f334e509c062196f4c86a955b", func := "drayage/drayagelaw09.StockApart", spec := "stockApart", inPlace := ["internal/bytealg.abigen_runtime_cmpstring"], unfollowed := true, recurses := true, apart := false }
def StockApartSaid : Prop := stockApartRow.holds Try.pinned (OpenSpec.ofChange stockApartSpec)

/-- ITS FALSE NEIGHBOUR: 'it returns false'. Refute it at one input. -/
def stockApartWrong : ChangeSpec := { name := "stockApart", fn := fun _ => fun
  | [d1, d2] => { results := [.lit (.bool false)], args := [d1, d2] }
  | _ => none }
def StockApartWrongFalsely : Prop := stockApartRow.holds Try.pinned (OpenSpec.ofChange stockApartWrong)

/-- 'drayagelaw09.StockGone': WHATEVER THE INPUT: true; the input reads as it did. -/
def stockGoneSpec : ChangeSpec := { name := "stockGone", fn := fun _ => fun
  | [d1, d2, d3] => { results := [.lit (.bool true)], args := [d1, d2, d3] }
  | _ => none }
def stockGoneRow : OpenClaim := { program := "ytdbbkodjhmfjfaa", sum := "29a4c5196e5040f315c5170f67005132dea6b49f334e509c062196f4c86a955b", func := "drayage/drayagelaw09.StockGone", spec := "stockGone", inPlace := ["internal/bytealg.abigen_runtime_cmpstring"], unfollowed := true, recurses := true, apart := false }
def StockGoneSaid : Prop := stockGoneRow.holds Try.pinned (OpenSpec.ofChange stockGoneSpec)

/-- ITS FALSE NEIGHBOUR: 'it returns false'. Refute it at one input. -/
def stockGoneWrong : ChangeSpec := { name := "stockGone", fn := fun _ => fun
  | [d1, d2, d3] => { results := [.lit (.bool false)], args := [d1, d2, d3] }
  | _ => none }
def StockGoneWrongFalsely : Prop := stockGoneRow.holds Try.pinned (OpenSpec.ofChange stockGoneWrong)

/- THE SECOND FORM. 'bulk': how many values and letters a reading holds, each counted each time it is reached (what is shared counts as often as it is met; a slice's spare places count too). A statement '..UptoSaid' is the law's where the arguments, and the package variables that the reading takes, are together of bulk at most 1048576: NARROWER than '..Said'. Prove '..Said' where nothing that the law and all that it calls make is longer than what came in: it says more and counts as full. Else prove '..UptoSaid'. A law counts once. -/
mutual
def uptoBulk {H : Type} : DataW H → Nat
  | .lit (.string bytes) => bytes.length + 1
  | .lit _ => 1
  | .nil => 1
  | .ptr d => uptoBulk d + 1
  | .slice elems spare => uptoBulkAll elems + uptoBulkAll spare + 1
  | .agg parts => uptoBulkAll parts + 1
  | .iface _ d => uptoBulk d + 1
  | .map entries => uptoBulkEntries entries + 1
  | .held _ => 1
def uptoBulkAll {H : Type} : List (DataW H) → Nat
  | [] => 0
  | d :: r => uptoBulk d + uptoBulkAll r
def uptoBulkEntries {H : Type} : List (Lit × DataW H) → Nat
  | [] => 0
  | x :: r => uptoBulkEntry x + uptoBulkEntries r
def uptoBulkEntry {H : Type} : Lit × DataW H → Nat
  | (.string bytes, d) => bytes.length + uptoBulk d + 1
  | (_, d) => uptoBulk d + 1
 end
def uptoSmall : (H : Type) → List (DataW H) → Bool := fun _ ds => decide (uptoBulkAll ds ≤ 1048576)
def OpenSpec.upto (s : _root_.Go.ChangeSpec) : _root_.Go.OpenSpec := { _root_.Go.OpenSpec.ofChange s with cond := some uptoSmall }

/-- 'drayagelaw09.StockMost', WHERE WHAT IT READS IS OF BULK AT MOST 1048576: true; the input reads as it did. -/
def stockMostUptoRow : OpenClaim := { program := "ytdbbkodjhmfjfaa", sum := "29a4c5196e5040f315c5170f67005132dea6b49f334e509c062196f4c86a955b", func := "drayage/drayagelaw09.StockMost", spec := "stockMost", inPlace := ["internal/bytealg.abigen_runtime_cmpstring"], unfollowed := true, recurses := true, apart := false, narrowed := true }
def StockMostUptoSaid : Prop := stockMostUptoRow.holds Try.pinned (OpenSpec.upto stockMostSpec)

/-- 'drayagelaw09.StockDoes', WHERE WHAT IT READS IS OF BULK AT MOST 1048576: true; the input reads as it did. -/
def stockDoesUptoRow : OpenClaim := { program := "ytdbbkodjhmfjfaa", sum := "29a4c5196e5040f315c5170f67005132dea6b49f334e509c062196f4c86a955b", func := "drayage/drayagelaw09.StockDoes", spec := "stockDoes", inPlace := ["internal/bytealg.abigen_runtime_cmpstring"], unfollowed := true, recurses := true, apart := false, narrowed := true }
def StockDoesUptoSaid : Prop := stockDoesUptoRow.holds Try.pinned (OpenSpec.upto stockDoesSpec)

/-- 'drayagelaw09.StockSum', WHERE WHAT IT READS IS OF BULK AT MOST 1048576: true; the input reads as it did. -/
def stockSumUptoRow : OpenClaim := { program := "ytdbbkodjhmfjfaa", sum := "29a4c5196e5040f315c5170f67005132dea6b49f334e509c062196f4c86a955b", func := "drayage/drayagelaw09.StockSum", spec := "stockSum", inPlace := ["internal/bytealg.abigen_runtime_cmpstring"], unfollowed := true, recurses := true, apart := false, narrowed := true }
def StockSumUptoSaid : Prop := stockSumUptoRow.holds Try.pinned (OpenSpec.upto stockSumSpec)

/-- 'drayagelaw09.StockOnce', WHERE WHAT IT READS IS OF BULK AT MOST 1048576: true; the input reads as it did. -/
def stockOnceUptoRow : OpenClaim := { program := "ytdbbkodjhmfjfaa", sum := "29a4c5196e5040f315c5170f67005132dea6b49f334e509c062196f4c86a955b", func := "drayage/drayagelaw09.StockOnce", spec := "stockOnce", inPlace := ["internal/bytealg.abigen_runtime_cmpstring"], unfollowed := true, recurses := true, apart := false, narrowed := true }
def StockOnceUptoSaid : Prop := stockOnceUptoRow.holds Try.pinned (OpenSpec.upto stockOnceSpec)

/-- 'drayagelaw09.StockApart', WHERE WHAT IT READS IS OF BULK AT MOST 1048576: true; the input reads as it did. -/
def stockApartUptoRow : OpenClaim := { program := "ytdbbkodjhmfjfaa", sum := "29a4c5196e5040f315c5170f67005132dea6b49f334e509c062196f4c86a955b", func := "drayage/drayagelaw09.StockApart", spec := "stockApart", inPlace := ["internal/bytealg.abigen_runtime_cmpstring"], unfollowed := true, recurses := true, apart := false, narrowed := true }
def StockApartUptoSaid : Prop := stockApartUptoRow.holds Try.pinned (OpenSpec.upto stockApartSpec)

/-- 'drayagelaw09.StockGone', WHERE WHAT IT READS IS OF BULK AT MOST 1048576: true; the input reads as it did. -/
def stockGoneUptoRow : OpenClaim := { program := "ytdbbkodjhmfjfaa", sum := "29a4c5196e5040f315c5170f67005132dea6b49f334e509c062196f4c86a955b", func := "drayage/drayagelaw09.StockGone", spec := "stockGone", inPlace := ["internal/bytealg.abigen_runtime_cmpstring"], unfollowed := true, recurses := true, apart := false, narrowed := true }
def StockGoneUptoSaid : Prop := stockGoneUptoRow.holds Try.pinned (OpenSpec.upto stockGoneSpec)

end Rows
end Go.Proofs.Ytdbbkodjhmfjfaa
