/-
  No cell of these rows narrows 'for every input' (looked for: loops, veiled, ifaces, maps, wideKeys, modest, calm, conditions, laid).
  DERIVED. THE GIVEN ROWS OF THIS SEAT. 6 by the template 'for every input the law returns true; each argument reads behind the call as it read before'; 0 by the template 'total and deterministic' (their statements: YtmdbmcicbambjaaTotals.lean).
  GIVEN WITH THE SEED: the statements are not yours to turn. If you find one false, say at which input.
  Laid BY PROGRAM, IN A SANDBOX (cutbox-rows.mjs): the forced cells as the released guide's own fill.sh prints them over the translation cf00296988822da0… (all of the seat's roots in one cut). By AI agents, Wed Nov 11 2026. No macro, syntax, notation, axiom, sorry.
-/
import Derived.Test.YtmdbmcicbambjaaChecked
import GoSem.Claim
import GoSem.ClaimJoined
import GoSem.ClaimMapViews
import Derived.JoinedTies
import Derived.KernelRfl
namespace Go.Proofs.Ytmdbmcicbambjaa
/- THE CELL 'sum', in the pinned program and in every row, IS THE sha256 OF THE DUMP (.gsa) THAT YtmdbmcicbambjaaProg.lean LOADS. Nothing in Lean hashes anything: it is a label: what it is worth is what the hold of that sum in a sandbox is worth. -/
noncomputable def Try.pinned : Pinned := { name := "ytmdbmcicbambjaa", sum := "cf00296988822da01ce44cb1d9d3a6c5792b9cf59fb1bd98295c8dbcc3da3758", checked := Try.checked }
namespace Rows
def none {H : Type} : Left H := { results := [], args := [] }

/-- 'drayagelaw11.DockFirst': WHATEVER THE INPUT: true; the input reads as it did. -/
def dockFirstSpec : ChangeSpec := { name := "dockFirst", fn := fun _ => fun
  | [d1, d2, d3, d4, d5] => { results := [.lit (.bool true)], args := [d1, d2, d3, d4, d5] }
  | _ => none }
def dockFirstRow : OpenClaim := { program := "ytmdbmcicbambjaa", sum := "cf00296988822da01ce44cb1d9d3a6c5792b9cf59fb1bd98295c8dbcc3da3758", func := "drayage/drayagelaw11.DockFirst", spec := "dockFirst", unfollowed := true, recurses := true, apart := false }
def DockFirstSaid : Prop := dockFirstRow.holds Try.pinned (OpenSpec.ofChange dockFirstSpec)

/-- ITS FALSE NEIGHBOUR: 'it returns false'. Refute it at one input. -/
def dockFirstWrong : ChangeSpec := { name := "dockFirst", fn := fun _ => fun
  | [d1, d2, d3, d4, d5] => { results := [.lit (.bool false)], args := [d1, d2, d3, d4, d5] }
  | _ => none }
def DockFirstWrongFalsely : Prop := dockFirstRow.holds Try.pinned (OpenSpec.ofChange dockFirstWrong)

/-- 'drayagelaw11.DockLater': WHATEVER THE INPUT: true; the input reads as it did. -/
def dockLaterSpec : ChangeSpec := { name := "dockLater", fn := fun _ => fun
  | [d1, d2, d3, d4, d5] => { results := [.lit (.bool true)], args := [d1, d2, d3, d4, d5] }
  | _ => none }
def dockLaterRow : OpenClaim := { program := "ytmdbmcicbambjaa", sum := "cf00296988822da01ce44cb1d9d3a6c5792b9cf59fb1bd98295c8dbcc3da3758", func := "drayage/drayagelaw11.DockLater", spec := "dockLater", unfollowed := true, recurses := true, apart := false }
def DockLaterSaid : Prop := dockLaterRow.holds Try.pinned (OpenSpec.ofChange dockLaterSpec)

/-- ITS FALSE NEIGHBOUR: 'it returns false'. Refute it at one input. -/
def dockLaterWrong : ChangeSpec := { name := "dockLater", fn := fun _ => fun
  | [d1, d2, d3, d4, d5] => { results := [.lit (.bool false)], args := [d1, d2, d3, d4, d5] }
  | _ => none }
def DockLaterWrongFalsely : Prop := dockLaterRow.holds Try.pinned (OpenSpec.ofChange dockLaterWrong)

/-- 'drayagelaw11.DockDoes': WHATEVER THE INPUT: true; the input reads as it did. -/
def dockDoesSpec : ChangeSpec := { name := "dockDoes", fn := fun _ => fun
  | [d1, d2] => { results := [.lit (.bool true)], args := [d1, d2] }
  | _ => none }
def dockDoesRow : OpenClaim := { program := "ytmdbmcicbambjaa", sum := "cf00296988822da01ce44cb1d9d3a6c5792b9cf59fb1bd98295c8dbcc3da3758", func := "drayage/drayagelaw11.DockDoes", spec := "dockDoes", unfollowed := true, recurses := true, apart := false }
def DockDoesSaid : Prop := dockDoesRow.holds Try.pinned (OpenSpec.ofChange dockDoesSpec)

/-- ITS FALSE NEIGHBOUR: 'it returns false'. Refute it at one input. -/
def dockDoesWrong : ChangeSpec := { name := "dockDoes", fn := fun _ => fun
  | [d1, d2] => { results := [.lit (.bool false)], args := [d1, d2] }
  | _ => none }
def DockDoesWrongFalsely : Prop := dockDoesRow.holds Try.pinned (OpenSpec.ofChange dockDoesWrong)

/-- 'drayagelaw11.DockSum': WHATEVER THE INPUT: true; the input reads as it did. -/
def dockSumSpec : ChangeSpec := { name := "dockSum", fn := fun _ => fun
  | [d1, d2] => { results := [.lit (.bool true)], args := [d1, d2] }
  | _ => none }
def dockSumRow : OpenClaim := { program := "ytmdbmcicbambjaa", sum := "cf00296988822da01ce44cb1d9d3a6c5792b9cf59fb1bd98295c8dbcc3da3758", func := "drayage/drayagelaw11.DockSum", spec := "dockSum", unfollowed := true, recurses := true, apart := false }
def DockSumSaid : Prop := dockSumRow.holds Try.pinned (OpenSpec.ofChange dockSumSpec)

/-- ITS FALSE NEIGHBOUR: 'it returns false'. Refute it at one input. -/
def dockSumWrong : ChangeSpec := { name := "dockSum", fn := fun _ => fun
  | [d1, d2] => { results := [.lit (.bool false)], args := [d1, d2] }
  | _ => none }
def DockSumWrongFalsely : Prop := dockSumRow.holds Try.pinned (OpenSpec.ofChange dockSumWrong)

/-- 'drayagelaw11.DockOnce': WHATEVER THE INPUT: true; the input reads as it did. -/
def dockOnceSpec : ChangeSpec := { name := "dockOnce", fn := fun _ => fun
  | [d1, d2, d3, d4, d5] => { results := [.lit (.bool true)], args := [d1, d2, d3, d4, d5] }
  | _ => none }
def dockOnceRow : OpenClaim := { program := "ytmdbmcicbambjaa", sum := "cf00296988822da01ce44cb1d9d3a6c5792b9cf59fb1bd98295c8dbcc3da3758", func := "drayage/drayagelaw11.DockOnce", spec := "dockOnce", unfollowed := true, recurses := true, apart := false }
def DockOnceSaid : Prop := dockOnceRow.holds Try.pinned (OpenSpec.ofChange dockOnceSpec)

/-- ITS FALSE NEIGHBOUR: 'it returns false'. Refute it at one input. -/
def dockOnceWrong : ChangeSpec := { name := "dockOnce", fn := fun _ => fun
  | [d1, d2, d3, d4, d5] => { results := [.lit (.bool false)], args := [d1, d2, d3, d4, d5] }
  | _ => none }
def DockOnceWrongFalsely : Prop := dockOnceRow.holds Try.pinned (OpenSpec.ofChange dockOnceWrong)

/-- 'drayagelaw11.DockOrder': WHATEVER THE INPUT: true; the input reads as it did. -/
def dockOrderSpec : ChangeSpec := { name := "dockOrder", fn := fun _ => fun
  | [d1, d2] => { results := [.lit (.bool true)], args := [d1, d2] }
  | _ => none }
def dockOrderRow : OpenClaim := { program := "ytmdbmcicbambjaa", sum := "cf00296988822da01ce44cb1d9d3a6c5792b9cf59fb1bd98295c8dbcc3da3758", func := "drayage/drayagelaw11.DockOrder", spec := "dockOrder", unfollowed := true, recurses := true, apart := false }
def DockOrderSaid : Prop := dockOrderRow.holds Try.pinned (OpenSpec.ofChange dockOrderSpec)

/-- ITS FALSE NEIGHBOUR: 'it returns false'. Refute it at one input. -/
def dockOrderWrong : ChangeSpec := { name := "dockOrder", fn := fun _ => fun
  | [d1, d2] => { results := [.lit (.bool false)], args := [d1, d2] }
  | _ => none }
def DockOrderWrongFalsely : Prop := dockOrderRow.holds Try.pinned (OpenSpec.ofChange dockOrderWrong)

/- THE SECOND FORM. 'bulk': how many values and letters a reading holds, each counted each time it is reached (what is shared counts as often as it is met; a slice's spare places count too). A statement '..UptoSaid' is the law's where the arguments, and the package variables that the reading takes, are together of bulk at most 1048576: NARROWER than '..Said'. Prove '..Said' where nothing that the law and all that it calls make is longer than what came in: it says more and counts as full. Else prove '..UptoSaid'. A law counts once. -/
mutual
def uptoBulk {H : Type} : DataW H → Nat
  | .lit (.string bytes) => bytes.length + 1
  | .lit _ => 1
  | .nil => 1
  | .ptr d => uptoBulk d + 1
  | .slice elems spare => uptoBulkAll elems + uptoBulkAll spare + 1
  | .agg parts => uptoBulkAll parts + 1
  | .iface _ d => uptoBulk d + 1
  | .map entries => uptoBulkEntries entries + 1
  | .held _ => 1
def uptoBulkAll {H : Type} : List (DataW H) → Nat
  | [] => 0
  | d :: r => uptoBulk d + uptoBulkAll r
def uptoBulkEntries {H : Type} : List (Lit × DataW H) → Nat
  | [] => 0
  | x :: r => uptoBulkEntry x + uptoBulkEntries r
def uptoBulkEntry {H : Type} : Lit × DataW H → Nat
  | (.string bytes, d) => bytes.length + uptoBulk d + 1
  | (_, d) => uptoBulk d + 1
 end
def uptoSmall : (H : Type) → List (DataW H) → Bool := fun _ ds => decide (uptoBulkAll ds ≤ 1048576)
def OpenSpec.upto (s : _root_.Go.ChangeSpec) : _root_.Go.OpenSpec := { _root_.Go.OpenSpec.ofChange s with cond := some uptoSmall }

/-- 'drayagelaw11.DockFirst', WHERE WHAT IT READS IS OF BULK AT MOST 1048576: true; the input reads as it did. -/
def dockFirstUptoRow : OpenClaim := { program := "ytmdbmcicbambjaa", sum := "cf00296988822da01ce44cb1d9d3a6c5792b9cf59fb1bd98295c8dbcc3da3758", func := "drayage/drayagelaw11.DockFirst", spec := "dockFirst", unfollowed := true, recurses := true, apart := false, narrowed := true }
def DockFirstUptoSaid : Prop := dockFirstUptoRow.holds Try.pinned (OpenSpec.upto dockFirstSpec)

/-- 'drayagelaw11.DockLater', WHERE WHAT IT READS IS OF BULK AT MOST 1048576: true; the input reads as it did. -/
def dockLaterUptoRow : OpenClaim := { program := "ytmdbmcicbambjaa", sum := "cf00296988822da01ce44cb1d9d3a6c5792b9cf59fb1bd98295c8dbcc3da3758", func := "drayage/drayagelaw11.DockLater", spec := "dockLater", unfollowed := true, recurses := true, apart := false, narrowed := true }
def DockLaterUptoSaid : Prop := dockLaterUptoRow.holds Try.pinned (OpenSpec.upto dockLaterSpec)

/-- 'drayagelaw11.DockDoes', WHERE WHAT IT READS IS OF BULK AT MOST 1048576: true; the input reads as it did. -/
def dockDoesUptoRow : OpenClaim := { program := "ytmdbmcicbambjaa", sum := "cf00296988822da01ce44cb1d9d3a6c5792b9cf59fb1bd98295c8dbcc3da3758", func := "drayage/drayagelaw11.DockDoes", spec := "dockDoes", unfollowed := true, recurses := true, apart := false, narrowed := true }
def DockDoesUptoSaid : Prop := dockDoesUptoRow.holds Try.pinned (OpenSpec.upto dockDoesSpec)

/-- 'drayagelaw11.DockSum', WHERE WHAT IT READS IS OF BULK AT MOST 1048576: true; the input reads as it did. -/
def dockSumUptoRow : OpenClaim := { program := "ytmdbmcicbambjaa", sum := "cf00296988822da01ce44cb1d9d3a6c5792b9cf59fb1bd98295c8dbcc3da3758", func := "drayage/drayagelaw11.DockSum", spec := "dockSum", unfollowed := true, recurses := true, apart := false, narrowed := true }
def DockSumUptoSaid : Prop := dockSumUptoRow.holds Try.pinned (OpenSpec.upto dockSumSpec)

/-- 'drayagelaw11.DockOnce', WHERE WHAT IT READS IS OF BULK AT MOST 1048576: true; the input reads as it did. -/
def dockOnceUptoRow : OpenClaim := { program := "ytmdbmcicbambjaa", sum := "cf00296988822da01ce44cb1d9d3a6c5792b9cf59fb1bd98295c8dbcc3da3758", func := "drayage/drayagelaw11.DockOnce", spec := "dockOnce", unfollowed := true, recurses := true, apart := false, narrowed := true }
def DockOnceUptoSaid : Prop := dockOnceUptoRow.holds Try.pinned (OpenSpec.upto dockOnceSpec)

/-- 'drayagelaw11.DockOrder', WHERE WHAT IT READS IS OF BULK AT MOST 1048576: true; the input reads as it did. -/
def dockOrderUptoRow : OpenClaim := { program := "ytmdbmcicbambjaa", sum := "cf00296988822da01ce44cb1d9d3a6c5792b9cf59fb1bd98295c8dbcc3da3758", func := "drayage/drayagelaw11.DockOrder", spec := "dockOrder", unfollowed := true, recurses := true, apart := false, narrowed := true }
def DockOrderUptoSaid : Prop := dockOrderUptoRow.holds Try.pinned (OpenSpec.upto dockOrderSpec)

end Rows
end Go.Proofs.Ytmdbmcicbambjaa
