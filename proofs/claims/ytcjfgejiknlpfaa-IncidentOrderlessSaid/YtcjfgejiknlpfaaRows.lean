/-
  No cell of these rows narrows 'for every input' (looked for: loops, veiled, ifaces, maps, wideKeys, modest, calm, conditions, laid).
  DERIVED. THE GIVEN ROWS OF THIS SEAT. 8 by the template 'for every input the law returns true; each argument reads behind the call as it read before'; 0 by the template 'total and deterministic' (their statements: YtcjfgejiknlpfaaTotals.lean).
  GIVEN WITH THE SEED: the statements are not yours to turn. If you find one false, say at which input.
  Laid BY PROGRAM, IN A SANDBOX (cutbox-rows.mjs): the forced cells as the released guide's own fill.sh prints them over the translation 5e3318efacc23404… (all of the seat's roots in one cut). By AI agents, Wed Nov 11 2026. No macro, syntax, notation, axiom, sorry.
-/
import Derived.Test.YtcjfgejiknlpfaaChecked
import GoSem.Claim
import GoSem.ClaimJoined
import GoSem.ClaimMapViews
import Derived.JoinedTies
import Derived.KernelRfl
namespace Go.Proofs.Ytcjfgejiknlpfaa
/- THE CELL 'sum', in the pinned program and in every row, IS THE sha256 OF THE DUMP (.gsa) THAT YtcjfgejiknlpfaaProg.lean LOADS. Nothing in Lean hashes anything: it is a label: what it is worth is what the hold of that sum in a sandbox is worth. -/
noncomputable def Try.pinned : Pinned := { name := "ytcjfgejiknlpfaa", sum := "5e3318efacc234044a8163774fd106516c769ddd98ebbb745db3bbdc2994a8c1", checked := Try.checked }
namespace Rows
def none {H : Type} : Left H := { results := [], args := [] }

/-- 'sleuthlaw51.IncidentOrders': WHATEVER THE INPUT: true; the input reads as it did. -/
def incidentOrdersSpec : ChangeSpec := { name := "incidentOrders", fn := fun _ => fun
  | [d1, d2, d3] => { results := [.lit (.bool true)], args := [d1, d2, d3] }
  | _ => none }
def incidentOrdersRow : OpenClaim := { program := "ytcjfgejiknlpfaa", sum := "5e3318efacc234044a8163774fd106516c769ddd98ebbb745db3bbdc2994a8c1", func := "sleuth/sleuthlaw51.IncidentOrders", spec := "incidentOrders", inPlace := ["slices.overlaps[sleuth/incident.Person]"], unfollowed := true, recurses := true, plainKeys := false, apart := false }
def IncidentOrdersSaid : Prop := incidentOrdersRow.holds Try.pinned (OpenSpec.ofChange incidentOrdersSpec)

/-- ITS FALSE NEIGHBOUR: 'it returns false'. Refute it at one input. -/
def incidentOrdersWrong : ChangeSpec := { name := "incidentOrders", fn := fun _ => fun
  | [d1, d2, d3] => { results := [.lit (.bool false)], args := [d1, d2, d3] }
  | _ => none }
def IncidentOrdersWrongFalsely : Prop := incidentOrdersRow.holds Try.pinned (OpenSpec.ofChange incidentOrdersWrong)

/-- 'sleuthlaw51.IncidentFolds': WHATEVER THE INPUT: true; the input reads as it did. -/
def incidentFoldsSpec : ChangeSpec := { name := "incidentFolds", fn := fun _ => fun
  | [d] => { results := [.lit (.bool true)], args := [d] }
  | _ => none }
def incidentFoldsRow : OpenClaim := { program := "ytcjfgejiknlpfaa", sum := "5e3318efacc234044a8163774fd106516c769ddd98ebbb745db3bbdc2994a8c1", func := "sleuth/sleuthlaw51.IncidentFolds", spec := "incidentFolds", inPlace := ["slices.overlaps[sleuth/incident.Person]"], unfollowed := true, recurses := true, plainKeys := false, apart := false }
def IncidentFoldsSaid : Prop := incidentFoldsRow.holds Try.pinned (OpenSpec.ofChange incidentFoldsSpec)

/-- ITS FALSE NEIGHBOUR: 'it returns false'. Refute it at one input. -/
def incidentFoldsWrong : ChangeSpec := { name := "incidentFolds", fn := fun _ => fun
  | [d] => { results := [.lit (.bool false)], args := [d] }
  | _ => none }
def IncidentFoldsWrongFalsely : Prop := incidentFoldsRow.holds Try.pinned (OpenSpec.ofChange incidentFoldsWrong)

/-- 'sleuthlaw51.IncidentResolves': WHATEVER THE INPUT: true; the input reads as it did. -/
def incidentResolvesSpec : ChangeSpec := { name := "incidentResolves", fn := fun _ => fun
  | [d] => { results := [.lit (.bool true)], args := [d] }
  | _ => none }
def incidentResolvesRow : OpenClaim := { program := "ytcjfgejiknlpfaa", sum := "5e3318efacc234044a8163774fd106516c769ddd98ebbb745db3bbdc2994a8c1", func := "sleuth/sleuthlaw51.IncidentResolves", spec := "incidentResolves", inPlace := ["slices.overlaps[sleuth/incident.Person]"], unfollowed := true, recurses := true, plainKeys := false, apart := false }
def IncidentResolvesSaid : Prop := incidentResolvesRow.holds Try.pinned (OpenSpec.ofChange incidentResolvesSpec)

/-- ITS FALSE NEIGHBOUR: 'it returns false'. Refute it at one input. -/
def incidentResolvesWrong : ChangeSpec := { name := "incidentResolves", fn := fun _ => fun
  | [d] => { results := [.lit (.bool false)], args := [d] }
  | _ => none }
def IncidentResolvesWrongFalsely : Prop := incidentResolvesRow.holds Try.pinned (OpenSpec.ofChange incidentResolvesWrong)

/-- 'sleuthlaw51.IncidentStates': WHATEVER THE INPUT: true; the input reads as it did. -/
def incidentStatesSpec : ChangeSpec := { name := "incidentStates", fn := fun _ => fun
  | [d1, d2, d3] => { results := [.lit (.bool true)], args := [d1, d2, d3] }
  | _ => none }
def incidentStatesRow : OpenClaim := { program := "ytcjfgejiknlpfaa", sum := "5e3318efacc234044a8163774fd106516c769ddd98ebbb745db3bbdc2994a8c1", func := "sleuth/sleuthlaw51.IncidentStates", spec := "incidentStates", inPlace := ["slices.overlaps[sleuth/incident.Person]"], unfollowed := true, recurses := true, plainKeys := false, apart := false }
def IncidentStatesSaid : Prop := incidentStatesRow.holds Try.pinned (OpenSpec.ofChange incidentStatesSpec)

/-- ITS FALSE NEIGHBOUR: 'it returns false'. Refute it at one input. -/
def incidentStatesWrong : ChangeSpec := { name := "incidentStates", fn := fun _ => fun
  | [d1, d2, d3] => { results := [.lit (.bool false)], args := [d1, d2, d3] }
  | _ => none }
def IncidentStatesWrongFalsely : Prop := incidentStatesRow.holds Try.pinned (OpenSpec.ofChange incidentStatesWrong)

/-- 'sleuthlaw51.IncidentRejects': WHATEVER THE INPUT: true; the input reads as it did. -/
def incidentRejectsSpec : ChangeSpec := { name := "incidentRejects", fn := fun _ => fun
  | [d1, d2] => { results := [.lit (.bool true)], args := [d1, d2] }
  | _ => none }
def incidentRejectsRow : OpenClaim := { program := "ytcjfgejiknlpfaa", sum := "5e3318efacc234044a8163774fd106516c769ddd98ebbb745db3bbdc2994a8c1", func := "sleuth/sleuthlaw51.IncidentRejects", spec := "incidentRejects", inPlace := ["slices.overlaps[sleuth/incident.Person]"], unfollowed := true, recurses := true, plainKeys := false, apart := false }
def IncidentRejectsSaid : Prop := incidentRejectsRow.holds Try.pinned (OpenSpec.ofChange incidentRejectsSpec)

/-- ITS FALSE NEIGHBOUR: 'it returns false'. Refute it at one input. -/
def incidentRejectsWrong : ChangeSpec := { name := "incidentRejects", fn := fun _ => fun
  | [d1, d2] => { results := [.lit (.bool false)], args := [d1, d2] }
  | _ => none }
def IncidentRejectsWrongFalsely : Prop := incidentRejectsRow.holds Try.pinned (OpenSpec.ofChange incidentRejectsWrong)

/-- 'sleuthlaw51.IncidentChecks': WHATEVER THE INPUT: true; the input reads as it did. -/
def incidentChecksSpec : ChangeSpec := { name := "incidentChecks", fn := fun _ => fun
  | [d] => { results := [.lit (.bool true)], args := [d] }
  | _ => none }
def incidentChecksRow : OpenClaim := { program := "ytcjfgejiknlpfaa", sum := "5e3318efacc234044a8163774fd106516c769ddd98ebbb745db3bbdc2994a8c1", func := "sleuth/sleuthlaw51.IncidentChecks", spec := "incidentChecks", inPlace := ["slices.overlaps[sleuth/incident.Person]"], unfollowed := true, recurses := true, plainKeys := false, apart := false }
def IncidentChecksSaid : Prop := incidentChecksRow.holds Try.pinned (OpenSpec.ofChange incidentChecksSpec)

/-- ITS FALSE NEIGHBOUR: 'it returns false'. Refute it at one input. -/
def incidentChecksWrong : ChangeSpec := { name := "incidentChecks", fn := fun _ => fun
  | [d] => { results := [.lit (.bool false)], args := [d] }
  | _ => none }
def IncidentChecksWrongFalsely : Prop := incidentChecksRow.holds Try.pinned (OpenSpec.ofChange incidentChecksWrong)

/-- 'sleuthlaw51.IncidentTimes': WHATEVER THE INPUT: true; the input reads as it did. -/
def incidentTimesSpec : ChangeSpec := { name := "incidentTimes", fn := fun _ => fun
  | [d1, d2, d3] => { results := [.lit (.bool true)], args := [d1, d2, d3] }
  | _ => none }
def incidentTimesRow : OpenClaim := { program := "ytcjfgejiknlpfaa", sum := "5e3318efacc234044a8163774fd106516c769ddd98ebbb745db3bbdc2994a8c1", func := "sleuth/sleuthlaw51.IncidentTimes", spec := "incidentTimes", inPlace := ["slices.overlaps[sleuth/incident.Person]"], unfollowed := true, recurses := true, plainKeys := false, apart := false }
def IncidentTimesSaid : Prop := incidentTimesRow.holds Try.pinned (OpenSpec.ofChange incidentTimesSpec)

/-- ITS FALSE NEIGHBOUR: 'it returns false'. Refute it at one input. -/
def incidentTimesWrong : ChangeSpec := { name := "incidentTimes", fn := fun _ => fun
  | [d1, d2, d3] => { results := [.lit (.bool false)], args := [d1, d2, d3] }
  | _ => none }
def IncidentTimesWrongFalsely : Prop := incidentTimesRow.holds Try.pinned (OpenSpec.ofChange incidentTimesWrong)

/-- 'sleuthlaw51.IncidentOrderless': WHATEVER THE INPUT: true; the input reads as it did. -/
def incidentOrderlessSpec : ChangeSpec := { name := "incidentOrderless", fn := fun _ => fun
  | [d1, d2] => { results := [.lit (.bool true)], args := [d1, d2] }
  | _ => none }
def incidentOrderlessRow : OpenClaim := { program := "ytcjfgejiknlpfaa", sum := "5e3318efacc234044a8163774fd106516c769ddd98ebbb745db3bbdc2994a8c1", func := "sleuth/sleuthlaw51.IncidentOrderless", spec := "incidentOrderless", inPlace := ["slices.overlaps[sleuth/incident.Person]"], unfollowed := true, recurses := true, plainKeys := false, apart := false }
def IncidentOrderlessSaid : Prop := incidentOrderlessRow.holds Try.pinned (OpenSpec.ofChange incidentOrderlessSpec)

/-- ITS FALSE NEIGHBOUR: 'it returns false'. Refute it at one input. -/
def incidentOrderlessWrong : ChangeSpec := { name := "incidentOrderless", fn := fun _ => fun
  | [d1, d2] => { results := [.lit (.bool false)], args := [d1, d2] }
  | _ => none }
def IncidentOrderlessWrongFalsely : Prop := incidentOrderlessRow.holds Try.pinned (OpenSpec.ofChange incidentOrderlessWrong)

/- THE SECOND FORM. 'bulk': how many values and letters a reading holds, each counted each time it is reached (what is shared counts as often as it is met; a slice's spare places count too). A statement '..UptoSaid' is the law's where the arguments, and the package variables that the reading takes, are together of bulk at most 1048576: NARROWER than '..Said'. Prove '..Said' where nothing that the law and all that it calls make is longer than what came in: it says more and counts as full. Else prove '..UptoSaid'. A law counts once. -/
mutual
def uptoBulk {H : Type} : DataW H → Nat
  | .lit (.string bytes) => bytes.length + 1
  | .lit _ => 1
  | .nil => 1
  | .ptr d => uptoBulk d + 1
  | .slice elems spare => uptoBulkAll elems + uptoBulkAll spare + 1
  | .agg parts => uptoBulkAll parts + 1
  | .iface _ d => uptoBulk d + 1
  | .map entries => uptoBulkEntries entries + 1
  | .held _ => 1
def uptoBulkAll {H : Type} : List (DataW H) → Nat
  | [] => 0
  | d :: r => uptoBulk d + uptoBulkAll r
def uptoBulkEntries {H : Type} : List (Lit × DataW H) → Nat
  | [] => 0
  | x :: r => uptoBulkEntry x + uptoBulkEntries r
def uptoBulkEntry {H : Type} : Lit × DataW H → Nat
  | (.string bytes, d) => bytes.length + uptoBulk d + 1
  | (_, d) => uptoBulk d + 1
 end
def uptoSmall : (H : Type) → List (DataW H) → Bool := fun _ ds => decide (uptoBulkAll ds ≤ 1048576)
def OpenSpec.upto (s : _root_.Go.ChangeSpec) : _root_.Go.OpenSpec := { _root_.Go.OpenSpec.ofChange s with cond := some uptoSmall }

/-- 'sleuthlaw51.IncidentOrders', WHERE WHAT IT READS IS OF BULK AT MOST 1048576: true; the input reads as it did. -/
def incidentOrdersUptoRow : OpenClaim := { program := "ytcjfgejiknlpfaa", sum := "5e3318efacc234044a8163774fd106516c769ddd98ebbb745db3bbdc2994a8c1", func := "sleuth/sleuthlaw51.IncidentOrders", spec := "incidentOrders", inPlace := ["slices.overlaps[sleuth/incident.Person]"], unfollowed := true, recurses := true, plainKeys := false, apart := false, narrowed := true }
def IncidentOrdersUptoSaid : Prop := incidentOrdersUptoRow.holds Try.pinned (OpenSpec.upto incidentOrdersSpec)

/-- 'sleuthlaw51.IncidentFolds', WHERE WHAT IT READS IS OF BULK AT MOST 1048576: true; the input reads as it did. -/
def incidentFoldsUptoRow : OpenClaim := { program := "ytcjfgejiknlpfaa", sum := "5e3318efacc234044a8163774fd106516c769ddd98ebbb745db3bbdc2994a8c1", func := "sleuth/sleuthlaw51.IncidentFolds", spec := "incidentFolds", inPlace := ["slices.overlaps[sleuth/incident.Person]"], unfollowed := true, recurses := true, plainKeys := false, apart := false, narrowed := true }
def IncidentFoldsUptoSaid : Prop := incidentFoldsUptoRow.holds Try.pinned (OpenSpec.upto incidentFoldsSpec)

/-- 'sleuthlaw51.IncidentResolves', WHERE WHAT IT READS IS OF BULK AT MOST 1048576: true; the input reads as it did. -/
def incidentResolvesUptoRow : OpenClaim := { program := "ytcjfgejiknlpfaa", sum := "5e3318efacc234044a8163774fd106516c769ddd98ebbb745db3bbdc2994a8c1", func := "sleuth/sleuthlaw51.IncidentResolves", spec := "incidentResolves", inPlace := ["slices.overlaps[sleuth/incident.Person]"], unfollowed := true, recurses := true, plainKeys := false, apart := false, narrowed := true }
def IncidentResolvesUptoSaid : Prop := incidentResolvesUptoRow.holds Try.pinned (OpenSpec.upto incidentResolvesSpec)

/-- 'sleuthlaw51.IncidentStates', WHERE WHAT IT READS IS OF BULK AT MOST 1048576: true; the input reads as it did. -/
def incidentStatesUptoRow : OpenClaim := { program := "ytcjfgejiknlpfaa", sum := "5e3318efacc234044a8163774fd106516c769ddd98ebbb745db3bbdc2994a8c1", func := "sleuth/sleuthlaw51.IncidentStates", spec := "incidentStates", inPlace := ["slices.overlaps[sleuth/incident.Person]"], unfollowed := true, recurses := true, plainKeys := false, apart := false, narrowed := true }
def IncidentStatesUptoSaid : Prop := incidentStatesUptoRow.holds Try.pinned (OpenSpec.upto incidentStatesSpec)

/-- 'sleuthlaw51.IncidentRejects', WHERE WHAT IT READS IS OF BULK AT MOST 1048576: true; the input reads as it did. -/
def incidentRejectsUptoRow : OpenClaim := { program := "ytcjfgejiknlpfaa", sum := "5e3318efacc234044a8163774fd106516c769ddd98ebbb745db3bbdc2994a8c1", func := "sleuth/sleuthlaw51.IncidentRejects", spec := "incidentRejects", inPlace := ["slices.overlaps[sleuth/incident.Person]"], unfollowed := true, recurses := true, plainKeys := false, apart := false, narrowed := true }
def IncidentRejectsUptoSaid : Prop := incidentRejectsUptoRow.holds Try.pinned (OpenSpec.upto incidentRejectsSpec)

/-- 'sleuthlaw51.IncidentChecks', WHERE WHAT IT READS IS OF BULK AT MOST 1048576: true; the input reads as it did. -/
def incidentChecksUptoRow : OpenClaim := { program := "ytcjfgejiknlpfaa", sum := "5e3318efacc234044a8163774fd106516c769ddd98ebbb745db3bbdc2994a8c1", func := "sleuth/sleuthlaw51.IncidentChecks", spec := "incidentChecks", inPlace := ["slices.overlaps[sleuth/incident.Person]"], unfollowed := true, recurses := true, plainKeys := false, apart := false, narrowed := true }
def IncidentChecksUptoSaid : Prop := incidentChecksUptoRow.holds Try.pinned (OpenSpec.upto incidentChecksSpec)

/-- 'sleuthlaw51.IncidentTimes', WHERE WHAT IT READS IS OF BULK AT MOST 1048576: true; the input reads as it did. -/
def incidentTimesUptoRow : OpenClaim := { program := "ytcjfgejiknlpfaa", sum := "5e3318efacc234044a8163774fd106516c769ddd98ebbb745db3bbdc2994a8c1", func := "sleuth/sleuthlaw51.IncidentTimes", spec := "incidentTimes", inPlace := ["slices.overlaps[sleuth/incident.Person]"], unfollowed := true, recurses := true, plainKeys := false, apart := false, narrowed := true }
def IncidentTimesUptoSaid : Prop := incidentTimesUptoRow.holds Try.pinned (OpenSpec.upto incidentTimesSpec)

/-- 'sleuthlaw51.IncidentOrderless', WHERE WHAT IT READS IS OF BULK AT MOST 1048576: true; the input reads as it did. -/
def incidentOrderlessUptoRow : OpenClaim := { program := "ytcjfgejiknlpfaa", sum := "5e3318efacc234044a8163774fd106516c769ddd98ebbb745db3bbdc2994a8c1", func := "sleuth/sleuthlaw51.IncidentOrderless", spec := "incidentOrderless", inPlace := ["slices.overlaps[sleuth/incident.Person]"], unfollowed := true, recurses := true, plainKeys := false, apart := false, narrowed := true }
def IncidentOrderlessUptoSaid : Prop := incidentOrderlessUptoRow.holds Try.pinned (OpenSpec.upto incidentOrderlessSpec)

end Rows
end Go.Proofs.Ytcjfgejiknlpfaa
