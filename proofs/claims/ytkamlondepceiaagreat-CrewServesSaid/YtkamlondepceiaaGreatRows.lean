/-
  No cell of these rows narrows 'for every input' (looked for: loops, veiled, ifaces, maps, wideKeys, modest, calm, conditions, laid).
  DERIVED. THE GIVEN ROWS OF THIS SEAT. 6 by the template 'for every input the law returns true; each argument reads behind the call as it read before'; 0 by the template 'total and deterministic' (their statements: YtkamlondepceiaaGreatTotals.lean).
  GIVEN WITH THE SEED: the statements are not yours to turn. If you find one false, say at which input.
  Laid BY PROGRAM, IN A SANDBOX (cutbox-rows.mjs): the forced cells as the released guide's own fill.sh prints them over the translation a6b723f3c20edd31… (all of the seat's roots in one cut). By AI agents, Wed Nov 11 2026. No macro, syntax, notation, axiom, sorry.
-/
import Derived.Test.YtkamlondepceiaaGreatChecked
import GoSem.Claim
import GoSem.ClaimJoined
import GoSem.ClaimMapViews
import Derived.JoinedTies
import Derived.KernelRfl
namespace Go.Proofs.YtkamlondepceiaaGreat
/- THE CELL 'sum', in the pinned program and in every row, IS THE sha256 OF THE DUMP (.gsa) THAT YtkamlondepceiaaGreatProg.lean LOADS. Nothing in Lean hashes anything: it is a label: what it is worth is what the hold of that sum in a sandbox is worth. -/
noncomputable def Tryz.pinned : Pinned := { name := "ytkamlondepceiaagreat", sum := "a6b723f3c20edd31890e05c7808c62459ecb1843885093966057a40d93b172ef", checked := Tryz.checked }
namespace Rows
def none {H : Type} : Left H := { results := [], args := [] }

/-- 'drayagelaw12.CrewWorks': WHATEVER THE INPUT: true; the input reads as it did. -/
def crewWorksSpec : ChangeSpec := { name := "crewWorks", fn := fun _ => fun
  | [d1, d2] => { results := [.lit (.bool true)], args := [d1, d2] }
  | _ => none }
def crewWorksRow : OpenClaim := { program := "ytkamlondepceiaagreat", sum := "a6b723f3c20edd31890e05c7808c62459ecb1843885093966057a40d93b172ef", func := "drayage/drayagelaw12.CrewWorks", spec := "crewWorks", inPlace := ["slices.overlaps[drayage/api.Kept]", "internal/bytealg.abigen_runtime_cmpstring"], unfollowed := true, recurses := true, apart := false }
def CrewWorksSaid : Prop := crewWorksRow.holds Tryz.pinned (OpenSpec.ofChange crewWorksSpec)

/-- ITS FALSE NEIGHBOUR: 'it returns false'. Refute it at one input. -/
def crewWorksWrong : ChangeSpec := { name := "crewWorks", fn := fun _ => fun
  | [d1, d2] => { results := [.lit (.bool false)], args := [d1, d2] }
  | _ => none }
def CrewWorksWrongFalsely : Prop := crewWorksRow.holds Tryz.pinned (OpenSpec.ofChange crewWorksWrong)

/-- 'drayagelaw12.CrewNotices': WHATEVER THE INPUT: true; the input reads as it did. -/
def crewNoticesSpec : ChangeSpec := { name := "crewNotices", fn := fun _ => fun
  | [d] => { results := [.lit (.bool true)], args := [d] }
  | _ => none }
def crewNoticesRow : OpenClaim := { program := "ytkamlondepceiaagreat", sum := "a6b723f3c20edd31890e05c7808c62459ecb1843885093966057a40d93b172ef", func := "drayage/drayagelaw12.CrewNotices", spec := "crewNotices", inPlace := ["slices.overlaps[drayage/api.Kept]", "internal/bytealg.abigen_runtime_cmpstring"], unfollowed := true, recurses := true, apart := false }
def CrewNoticesSaid : Prop := crewNoticesRow.holds Tryz.pinned (OpenSpec.ofChange crewNoticesSpec)

/-- ITS FALSE NEIGHBOUR: 'it returns false'. Refute it at one input. -/
def crewNoticesWrong : ChangeSpec := { name := "crewNotices", fn := fun _ => fun
  | [d] => { results := [.lit (.bool false)], args := [d] }
  | _ => none }
def CrewNoticesWrongFalsely : Prop := crewNoticesRow.holds Tryz.pinned (OpenSpec.ofChange crewNoticesWrong)

/-- 'drayagelaw12.CrewStale': WHATEVER THE INPUT: true; the input reads as it did. -/
def crewStaleSpec : ChangeSpec := { name := "crewStale", fn := fun _ => fun
  | [d] => { results := [.lit (.bool true)], args := [d] }
  | _ => none }
def crewStaleRow : OpenClaim := { program := "ytkamlondepceiaagreat", sum := "a6b723f3c20edd31890e05c7808c62459ecb1843885093966057a40d93b172ef", func := "drayage/drayagelaw12.CrewStale", spec := "crewStale", inPlace := ["slices.overlaps[drayage/api.Kept]", "internal/bytealg.abigen_runtime_cmpstring"], unfollowed := true, recurses := true, apart := false }
def CrewStaleSaid : Prop := crewStaleRow.holds Tryz.pinned (OpenSpec.ofChange crewStaleSpec)

/-- ITS FALSE NEIGHBOUR: 'it returns false'. Refute it at one input. -/
def crewStaleWrong : ChangeSpec := { name := "crewStale", fn := fun _ => fun
  | [d] => { results := [.lit (.bool false)], args := [d] }
  | _ => none }
def CrewStaleWrongFalsely : Prop := crewStaleRow.holds Tryz.pinned (OpenSpec.ofChange crewStaleWrong)

/-- 'drayagelaw12.CrewUndone': WHATEVER THE INPUT: true; the input reads as it did. -/
def crewUndoneSpec : ChangeSpec := { name := "crewUndone", fn := fun _ => fun
  | [d] => { results := [.lit (.bool true)], args := [d] }
  | _ => none }
def crewUndoneRow : OpenClaim := { program := "ytkamlondepceiaagreat", sum := "a6b723f3c20edd31890e05c7808c62459ecb1843885093966057a40d93b172ef", func := "drayage/drayagelaw12.CrewUndone", spec := "crewUndone", inPlace := ["slices.overlaps[drayage/api.Kept]", "internal/bytealg.abigen_runtime_cmpstring"], unfollowed := true, recurses := true, apart := false }
def CrewUndoneSaid : Prop := crewUndoneRow.holds Tryz.pinned (OpenSpec.ofChange crewUndoneSpec)

/-- ITS FALSE NEIGHBOUR: 'it returns false'. Refute it at one input. -/
def crewUndoneWrong : ChangeSpec := { name := "crewUndone", fn := fun _ => fun
  | [d] => { results := [.lit (.bool false)], args := [d] }
  | _ => none }
def CrewUndoneWrongFalsely : Prop := crewUndoneRow.holds Tryz.pinned (OpenSpec.ofChange crewUndoneWrong)

/-- 'drayagelaw12.CrewMoney': WHATEVER THE INPUT: true; the input reads as it did. -/
def crewMoneySpec : ChangeSpec := { name := "crewMoney", fn := fun _ => fun
  | [d] => { results := [.lit (.bool true)], args := [d] }
  | _ => none }
def crewMoneyRow : OpenClaim := { program := "ytkamlondepceiaagreat", sum := "a6b723f3c20edd31890e05c7808c62459ecb1843885093966057a40d93b172ef", func := "drayage/drayagelaw12.CrewMoney", spec := "crewMoney", inPlace := ["slices.overlaps[drayage/api.Kept]", "internal/bytealg.abigen_runtime_cmpstring"], unfollowed := true, recurses := true, apart := false }
def CrewMoneySaid : Prop := crewMoneyRow.holds Tryz.pinned (OpenSpec.ofChange crewMoneySpec)

/-- ITS FALSE NEIGHBOUR: 'it returns false'. Refute it at one input. -/
def crewMoneyWrong : ChangeSpec := { name := "crewMoney", fn := fun _ => fun
  | [d] => { results := [.lit (.bool false)], args := [d] }
  | _ => none }
def CrewMoneyWrongFalsely : Prop := crewMoneyRow.holds Tryz.pinned (OpenSpec.ofChange crewMoneyWrong)

/-- 'drayagelaw12.CrewServes': WHATEVER THE INPUT: true; the input reads as it did. -/
def crewServesSpec : ChangeSpec := { name := "crewServes", fn := fun _ => fun
  | [d1, d2] => { results := [.lit (.bool true)], args := [d1, d2] }
  | _ => none }
def crewServesRow : OpenClaim := { program := "ytkamlondepceiaagreat", sum := "a6b723f3c20edd31890e05c7808c62459ecb1843885093966057a40d93b172ef", func := "drayage/drayagelaw12.CrewServes", spec := "crewServes", inPlace := ["slices.overlaps[drayage/api.Kept]", "internal/bytealg.abigen_runtime_cmpstring"], unfollowed := true, recurses := true, apart := false }
def CrewServesSaid : Prop := crewServesRow.holds Tryz.pinned (OpenSpec.ofChange crewServesSpec)

/-- ITS FALSE NEIGHBOUR: 'it returns false'. Refute it at one input. -/
def crewServesWrong : ChangeSpec := { name := "crewServes", fn := fun _ => fun
  | [d1, d2] => { results := [.lit (.bool false)], args := [d1, d2] }
  | _ => none }
def CrewServesWrongFalsely : Prop := crewServesRow.holds Tryz.pinned (OpenSpec.ofChange crewServesWrong)

/- THE SECOND FORM. 'bulk': how many values and letters a reading holds, each counted each time it is reached (what is shared counts as often as it is met; a slice's spare places count too). A statement '..UptoSaid' is the law's where the arguments, and the package variables that the reading takes, are together of bulk at most 1048576: NARROWER than '..Said'. Prove '..Said' where nothing that the law and all that it calls make is longer than what came in: it says more and counts as full. Else prove '..UptoSaid'. A law counts once. -/
mutual
def uptoBulk {H : Type} : DataW H → Nat
  | .lit (.string bytes) => bytes.length + 1
  | .lit _ => 1
  | .nil => 1
  | .ptr d => uptoBulk d + 1
  | .slice elems spare => uptoBulkAll elems + uptoBulkAll spare + 1
  | .agg parts => uptoBulkAll parts + 1
  | .iface _ d => uptoBulk d + 1
  | .map entries => uptoBulkEntries entries + 1
  | .held _ => 1
def uptoBulkAll {H : Type} : List (DataW H) → Nat
  | [] => 0
  | d :: r => uptoBulk d + uptoBulkAll r
def uptoBulkEntries {H : Type} : List (Lit × DataW H) → Nat
  | [] => 0
  | x :: r => uptoBulkEntry x + uptoBulkEntries r
def uptoBulkEntry {H : Type} : Lit × DataW H → Nat
  | (.string bytes, d) => bytes.length + uptoBulk d + 1
  | (_, d) => uptoBulk d + 1
 end
def uptoSmall : (H : Type) → List (DataW H) → Bool := fun _ ds => decide (uptoBulkAll ds ≤ 1048576)
def OpenSpec.upto (s : _root_.Go.ChangeSpec) : _root_.Go.OpenSpec := { _root_.Go.OpenSpec.ofChange s with cond := some uptoSmall }

/-- 'drayagelaw12.CrewWorks', WHERE WHAT IT READS IS OF BULK AT MOST 1048576: true; the input reads as it did. -/
def crewWorksUptoRow : OpenClaim := { program := "ytkamlondepceiaagreat", sum := "a6b723f3c20edd31890e05c7808c62459ecb1843885093966057a40d93b172ef", func := "drayage/drayagelaw12.CrewWorks", spec := "crewWorks", inPlace := ["slices.overlaps[drayage/api.Kept]", "internal/bytealg.abigen_runtime_cmpstring"], unfollowed := true, recurses := true, apart := false, narrowed := true }
def CrewWorksUptoSaid : Prop := crewWorksUptoRow.holds Tryz.pinned (OpenSpec.upto crewWorksSpec)

/-- 'drayagelaw12.CrewNotices', WHERE WHAT IT READS IS OF BULK AT MOST 1048576: true; the input reads as it did. -/
def crewNoticesUptoRow : OpenClaim := { program := "ytkamlondepceiaagreat", sum := "a6b723f3c20edd31890e05c7808c62459ecb1843885093966057a40d93b172ef", func := "drayage/drayagelaw12.CrewNotices", spec := "crewNotices", inPlace := ["slices.overlaps[drayage/api.Kept]", "internal/bytealg.abigen_runtime_cmpstring"], unfollowed := true, recurses := true, apart := false, narrowed := true }
def CrewNoticesUptoSaid : Prop := crewNoticesUptoRow.holds Tryz.pinned (OpenSpec.upto crewNoticesSpec)

/-- 'drayagelaw12.CrewStale', WHERE WHAT IT READS IS OF BULK AT MOST 1048576: true; the input reads as it did. -/
def crewStaleUptoRow : OpenClaim := { program := "ytkamlondepceiaagreat", sum := "a6b723f3c20edd31890e05c7808c62459ecb1843885093966057a40d93b172ef", func := "drayage/drayagelaw12.CrewStale", spec := "crewStale", inPlace := ["slices.overlaps[drayage/api.Kept]", "internal/bytealg.abigen_runtime_cmpstring"], unfollowed := true, recurses := true, apart := false, narrowed := true }
def CrewStaleUptoSaid : Prop := crewStaleUptoRow.holds Tryz.pinned (OpenSpec.upto crewStaleSpec)

/-- 'drayagelaw12.CrewUndone', WHERE WHAT IT READS IS OF BULK AT MOST 1048576: true; the input reads as it did. -/
def crewUndoneUptoRow : OpenClaim := { program := "ytkamlondepceiaagreat", sum := "a6b723f3c20edd31890e05c7808c62459ecb1843885093966057a40d93b172ef", func := "drayage/drayagelaw12.CrewUndone", spec := "crewUndone", inPlace := ["slices.overlaps[drayage/api.Kept]", "internal/bytealg.abigen_runtime_cmpstring"], unfollowed := true, recurses := true, apart := false, narrowed := true }
def CrewUndoneUptoSaid : Prop := crewUndoneUptoRow.holds Tryz.pinned (OpenSpec.upto crewUndoneSpec)

/-- 'drayagelaw12.CrewMoney', WHERE WHAT IT READS IS OF BULK AT MOST 1048576: true; the input reads as it did. -/
def crewMoneyUptoRow : OpenClaim := { program := "ytkamlondepceiaagreat", sum := "a6b723f3c20edd31890e05c7808c62459ecb1843885093966057a40d93b172ef", func := "drayage/drayagelaw12.CrewMoney", spec := "crewMoney", inPlace := ["slices.overlaps[drayage/api.Kept]", "internal/bytealg.abigen_runtime_cmpstring"], unfollowed := true, recurses := true, apart := false, narrowed := true }
def CrewMoneyUptoSaid : Prop := crewMoneyUptoRow.holds Tryz.pinned (OpenSpec.upto crewMoneySpec)

/-- 'drayagelaw12.CrewServes', WHERE WHAT IT READS IS OF BULK AT MOST 1048576: true; the input reads as it did. -/
def crewServesUptoRow : OpenClaim := { program := "ytkamlondepceiaagreat", sum := "a6b723f3c20edd31890e05c7808c62459ecb1843885093966057a40d93b172ef", func := "drayage/drayagelaw12.CrewServes", spec := "crewServes", inPlace := ["slices.overlaps[drayage/api.Kept]", "internal/bytealg.abigen_runtime_cmpstring"], unfollowed := true, recurses := true, apart := false, narrowed := true }
def CrewServesUptoSaid : Prop := crewServesUptoRow.holds Tryz.pinned (OpenSpec.upto crewServesSpec)

end Rows
end Go.Proofs.YtkamlondepceiaaGreat
