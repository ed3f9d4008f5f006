/-
  No cell of these rows narrows 'for every input' (looked for: loops, veiled, ifaces, maps, wideKeys, modest, calm, conditions, laid).
  DERIVED. THE GIVEN ROWS OF THIS SEAT. 9 by the template 'for every input the law returns true; each argument reads behind the call as it read before'; 0 by the template 'total and deterministic' (their statements: YtfnhicmjdfeanaaTotals.lean).
  GIVEN WITH THE SEED: the statements are not yours to turn. If you find one false, say at which input.
  Laid BY PROGRAM, IN A SANDBOX (cutbox-rows.mjs): the forced cells as the released guide's own fill.sh prints them over the translation a97339d3a87674bd… (all of the seat's roots in one cut). By AI agents, Wed Nov 11 2026. No macro, syntax, notation, axiom, sorry.
-/
import Derived.Test.YtfnhicmjdfeanaaChecked
import GoSem.Claim
import GoSem.ClaimJoined
import GoSem.ClaimMapViews
import Derived.JoinedTies
import Derived.KernelRfl
namespace Go.Proofs.Ytfnhicmjdfeanaa
/- THE CELL 'sum', in the pinned program and in every row, IS THE sha256 OF THE DUMP (.gsa) THAT YtfnhicmjdfeanaaProg.lean LOADS. Nothing in Lean hashes anything: it is a label: what it is worth is what the hold of that sum in a sandbox is worth. -/
noncomputable def Try.pinned : Pinned := { name := "ytfnhicmjdfeanaa", sum := "a97339d3a87674bd89ab82f050970affd50a5015a756e19c974bb641acedf2dc", checked := Try.checked }
namespace Rows
def none {H : Type} : Left H := { results := [], args := [] }

/-- 'sleuthlaw21.HistogramIndexes': WHATEVER THE INPUT: true; the input reads as it did. -/
def histogramIndexesSpec : ChangeSpec := { name := "histogramIndexes", fn := fun _ => fun
  | [d] => { results := [.lit (.bool true)], args := [d] }
  | _ => none }
def histogramIndexesRow : OpenClaim := { program := "ytfnhicmjdfeanaa", sum := "a97339d3a87674bd89ab82f050970affd50a5015a756e19c974bb641acedf2dc", func := "sleuth/sleuthlaw21.HistogramIndexes", spec := "histogramIndexes", unfollowed := true, recurses := true, apart := false }
def HistogramIndexesSaid : Prop := histogramIndexesRow.holds Try.pinned (OpenSpec.ofChange histogramIndexesSpec)

/-- ITS FALSE NEIGHBOUR: 'it returns false'. Refute it at one input. -/
def histogramIndexesWrong : ChangeSpec := { name := "histogramIndexes", fn := fun _ => fun
  | [d] => { results := [.lit (.bool false)], args := [d] }
  | _ => none }
def HistogramIndexesWrongFalsely : Prop := histogramIndexesRow.holds Try.pinned (OpenSpec.ofChange histogramIndexesWrong)

/-- 'sleuthlaw21.HistogramBounds': WHATEVER THE INPUT: true; the input reads as it did. -/
def histogramBoundsSpec : ChangeSpec := { name := "histogramBounds", fn := fun _ => fun
  | [d] => { results := [.lit (.bool true)], args := [d] }
  | _ => none }
def histogramBoundsRow : OpenClaim := { program := "ytfnhicmjdfeanaa", sum := "a97339d3a87674bd89ab82f050970affd50a5015a756e19c974bb641acedf2dc", func := "sleuth/sleuthlaw21.HistogramBounds", spec := "histogramBounds", unfollowed := true, recurses := true, apart := false }
def HistogramBoundsSaid : Prop := histogramBoundsRow.holds Try.pinned (OpenSpec.ofChange histogramBoundsSpec)

/-- ITS FALSE NEIGHBOUR: 'it returns false'. Refute it at one input. -/
def histogramBoundsWrong : ChangeSpec := { name := "histogramBounds", fn := fun _ => fun
  | [d] => { results := [.lit (.bool false)], args := [d] }
  | _ => none }
def HistogramBoundsWrongFalsely : Prop := histogramBoundsRow.holds Try.pinned (OpenSpec.ofChange histogramBoundsWrong)

/-- 'sleuthlaw21.HistogramCounts': WHATEVER THE INPUT: true; the input reads as it did. -/
def histogramCountsSpec : ChangeSpec := { name := "histogramCounts", fn := fun _ => fun
  | [d1, d2] => { results := [.lit (.bool true)], args := [d1, d2] }
  | _ => none }
def histogramCountsRow : OpenClaim := { program := "ytfnhicmjdfeanaa", sum := "a97339d3a87674bd89ab82f050970affd50a5015a756e19c974bb641acedf2dc", func := "sleuth/sleuthlaw21.HistogramCounts", spec := "histogramCounts", unfollowed := true, recurses := true, apart := false }
def HistogramCountsSaid : Prop := histogramCountsRow.holds Try.pinned (OpenSpec.ofChange histogramCountsSpec)

/-- ITS FALSE NEIGHBOUR: 'it returns false'. Refute it at one input. -/
def histogramCountsWrong : ChangeSpec := { name := "histogramCounts", fn := fun _ => fun
  | [d1, d2] => { results := [.lit (.bool false)], args := [d1, d2] }
  | _ => none }
def HistogramCountsWrongFalsely : Prop := histogramCountsRow.holds Try.pinned (OpenSpec.ofChange histogramCountsWrong)

/-- 'sleuthlaw21.HistogramQuantiles': WHATEVER THE INPUT: true; the input reads as it did. -/
def histogramQuantilesSpec : ChangeSpec := { name := "histogramQuantiles", fn := fun _ => fun
  | [d1, d2] => { results := [.lit (.bool true)], args := [d1, d2] }
  | _ => none }
def histogramQuantilesRow : OpenClaim := { program := "ytfnhicmjdfeanaa", sum := "a97339d3a87674bd89ab82f050970affd50a5015a756e19c974bb641acedf2dc", func := "sleuth/sleuthlaw21.HistogramQuantiles", spec := "histogramQuantiles", unfollowed := true, recurses := true, apart := false }
def HistogramQuantilesSaid : Prop := histogramQuantilesRow.holds Try.pinned (OpenSpec.ofChange histogramQuantilesSpec)

/-- ITS FALSE NEIGHBOUR: 'it returns false'. Refute it at one input. -/
def histogramQuantilesWrong : ChangeSpec := { name := "histogramQuantiles", fn := fun _ => fun
  | [d1, d2] => { results := [.lit (.bool false)], args := [d1, d2] }
  | _ => none }
def HistogramQuantilesWrongFalsely : Prop := histogramQuantilesRow.holds Try.pinned (OpenSpec.ofChange histogramQuantilesWrong)

/-- 'sleuthlaw21.HistogramChecks': WHATEVER THE INPUT: true; the input reads as it did. -/
def histogramChecksSpec : ChangeSpec := { name := "histogramChecks", fn := fun _ => fun
  | [d] => { results := [.lit (.bool true)], args := [d] }
  | _ => none }
def histogramChecksRow : OpenClaim := { program := "ytfnhicmjdfeanaa", sum := "a97339d3a87674bd89ab82f050970affd50a5015a756e19c974bb641acedf2dc", func := "sleuth/sleuthlaw21.HistogramChecks", spec := "histogramChecks", unfollowed := true, recurses := true, apart := false }
def HistogramChecksSaid : Prop := histogramChecksRow.holds Try.pinned (OpenSpec.ofChange histogramChecksSpec)

/-- ITS FALSE NEIGHBOUR: 'it returns false'. Refute it at one input. -/
def histogramChecksWrong : ChangeSpec := { name := "histogramChecks", fn := fun _ => fun
  | [d] => { results := [.lit (.bool false)], args := [d] }
  | _ => none }
def HistogramChecksWrongFalsely : Prop := histogramChecksRow.holds Try.pinned (OpenSpec.ofChange histogramChecksWrong)

/-- 'sleuthlaw21.HistogramOf': WHATEVER THE INPUT: true; the input reads as it did. -/
def histogramOfSpec : ChangeSpec := { name := "histogramOf", fn := fun _ => fun
  | [d] => { results := [.lit (.bool true)], args := [d] }
  | _ => none }
def histogramOfRow : OpenClaim := { program := "ytfnhicmjdfeanaa", sum := "a97339d3a87674bd89ab82f050970affd50a5015a756e19c974bb641acedf2dc", func := "sleuth/sleuthlaw21.HistogramOf", spec := "histogramOf", unfollowed := true, recurses := true, apart := false }
def HistogramOfSaid : Prop := histogramOfRow.holds Try.pinned (OpenSpec.ofChange histogramOfSpec)

/-- ITS FALSE NEIGHBOUR: 'it returns false'. Refute it at one input. -/
def histogramOfWrong : ChangeSpec := { name := "histogramOf", fn := fun _ => fun
  | [d] => { results := [.lit (.bool false)], args := [d] }
  | _ => none }
def HistogramOfWrongFalsely : Prop := histogramOfRow.holds Try.pinned (OpenSpec.ofChange histogramOfWrong)

/-- 'sleuthlaw21.HistogramAdds': WHATEVER THE INPUT: true; the input reads as it did. -/
def histogramAddsSpec : ChangeSpec := { name := "histogramAdds", fn := fun _ => fun
  | [d1, d2, d3] => { results := [.lit (.bool true)], args := [d1, d2, d3] }
  | _ => none }
def histogramAddsRow : OpenClaim := { program := "ytfnhicmjdfeanaa", sum := "a97339d3a87674bd89ab82f050970affd50a5015a756e19c974bb641acedf2dc", func := "sleuth/sleuthlaw21.HistogramAdds", spec := "histogramAdds", unfollowed := true, recurses := true, apart := false }
def HistogramAddsSaid : Prop := histogramAddsRow.holds Try.pinned (OpenSpec.ofChange histogramAddsSpec)

/-- ITS FALSE NEIGHBOUR: 'it returns false'. Refute it at one input. -/
def histogramAddsWrong : ChangeSpec := { name := "histogramAdds", fn := fun _ => fun
  | [d1, d2, d3] => { results := [.lit (.bool false)], args := [d1, d2, d3] }
  | _ => none }
def HistogramAddsWrongFalsely : Prop := histogramAddsRow.holds Try.pinned (OpenSpec.ofChange histogramAddsWrong)

/-- 'sleuthlaw21.HistogramMerges': WHATEVER THE INPUT: true; the input reads as it did. -/
def histogramMergesSpec : ChangeSpec := { name := "histogramMerges", fn := fun _ => fun
  | [d1, d2] => { results := [.lit (.bool true)], args := [d1, d2] }
  | _ => none }
def histogramMergesRow : OpenClaim := { program := "ytfnhicmjdfeanaa", sum := "a97339d3a87674bd89ab82f050970affd50a5015a756e19c974bb641acedf2dc", func := "sleuth/sleuthlaw21.HistogramMerges", spec := "histogramMerges", unfollowed := true, recurses := true, apart := false }
def HistogramMergesSaid : Prop := histogramMergesRow.holds Try.pinned (OpenSpec.ofChange histogramMergesSpec)

/-- ITS FALSE NEIGHBOUR: 'it returns false'. Refute it at one input. -/
def histogramMergesWrong : ChangeSpec := { name := "histogramMerges", fn := fun _ => fun
  | [d1, d2] => { results := [.lit (.bool false)], args := [d1, d2] }
  | _ => none }
def HistogramMergesWrongFalsely : Prop := histogramMergesRow.holds Try.pinned (OpenSpec.ofChange histogramMergesWrong)

/-- 'sleuthlaw21.HistogramScales': WHATEVER THE INPUT: true; the input reads as it did. -/
def histogramScalesSpec : ChangeSpec := { name := "histogramScales", fn := fun _ => fun
  | [d1, d2] => { results := [.lit (.bool true)], args := [d1, d2] }
  | _ => none }
def histogramScalesRow : OpenClaim := { program := "ytfnhicmjdfeanaa", sum := "a97339d3a87674bd89ab82f050970affd50a5015a756e19c974bb641acedf2dc", func := "sleuth/sleuthlaw21.HistogramScales", spec := "histogramScales", unfollowed := true, recurses := true, apart := false }
def HistogramScalesSaid : Prop := histogramScalesRow.holds Try.pinned (OpenSpec.ofChange histogramScalesSpec)

/-- ITS FALSE NEIGHBOUR: 'it returns false'. Refute it at one input. -/
def histogramScalesWrong : ChangeSpec := { name := "histogramScales", fn := fun _ => fun
  | [d1, d2] => { results := [.lit (.bool false)], args := [d1, d2] }
  | _ => none }
def HistogramScalesWrongFalsely : Prop := histogramScalesRow.holds Try.pinned (OpenSpec.ofChange histogramScalesWrong)

/- THE SECOND FORM. 'bulk': how many values and letters a reading holds, each counted each time it is reached (what is shared counts as often as it is met; a slice's spare places count too). A statement '..UptoSaid' is the law's where the arguments, and the package variables that the reading takes, are together of bulk at most 1048576: NARROWER than '..Said'. Prove '..Said' where nothing that the law and all that it calls make is longer than what came in: it says more and counts as full. Else prove '..UptoSaid'. A law counts once. -/
mutual
def uptoBulk {H : Type} : DataW H → Nat
  | .lit (.string bytes) => bytes.length + 1
  | .lit _ => 1
  | .nil => 1
  | .ptr d => uptoBulk d + 1
  | .slice elems spare => uptoBulkAll elems + uptoBulkAll spare + 1
  | .agg parts => uptoBulkAll parts + 1
  | .iface _ d => uptoBulk d + 1
  | .map entries => uptoBulkEntries entries + 1
  | .held _ => 1
def uptoBulkAll {H : Type} : List (DataW H) → Nat
  | [] => 0
  | d :: r => uptoBulk d + uptoBulkAll r
def uptoBulkEntries {H : Type} : List (Lit × DataW H) → Nat
  | [] => 0
  | x :: r => uptoBulkEntry x + uptoBulkEntries r
def uptoBulkEntry {H : Type} : Lit × DataW H → Nat
  | (.string bytes, d) => bytes.length + uptoBulk d + 1
  | (_, d) => uptoBulk d + 1
 end
def uptoSmall : (H : Type) → List (DataW H) → Bool := fun _ ds => decide (uptoBulkAll ds ≤ 1048576)
def OpenSpec.upto (s : _root_.Go.ChangeSpec) : _root_.Go.OpenSpec := { _root_.Go.OpenSpec.ofChange s with cond := some uptoSmall }

/-- 'sleuthlaw21.HistogramIndexes', WHERE WHAT IT READS IS OF BULK AT MOST 1048576: true; the input reads as it did. -/
def histogramIndexesUptoRow : OpenClaim := { program := "ytfnhicmjdfeanaa", sum := "a97339d3a87674bd89ab82f050970affd50a5015a756e19c974bb641acedf2dc", func := "sleuth/sleuthlaw21.HistogramIndexes", spec := "histogramIndexes", unfollowed := true, recurses := true, apart := false, narrowed := true }
def HistogramIndexesUptoSaid : Prop := histogramIndexesUptoRow.holds Try.pinned (OpenSpec.upto histogramIndexesSpec)

/-- 'sleuthlaw21.HistogramBounds', WHERE WHAT IT READS IS OF BULK AT MOST 1048576: true; the input reads as it did. -/
def histogramBoundsUptoRow : OpenClaim := { program := "ytfnhicmjdfeanaa", sum := "a97339d3a87674bd89ab82f050970affd50a5015a756e19c974bb641acedf2dc", func := "sleuth/sleuthlaw21.HistogramBounds", spec := "histogramBounds", unfollowed := true, recurses := true, apart := false, narrowed := true }
def HistogramBoundsUptoSaid : Prop := histogramBoundsUptoRow.holds Try.pinned (OpenSpec.upto histogramBoundsSpec)

/-- 'sleuthlaw21.HistogramCounts', WHERE WHAT IT READS IS OF BULK AT MOST 1048576: true; the input reads as it did. -/
def histogramCountsUptoRow : OpenClaim := { program := "ytfnhicmjdfeanaa", sum := "a97339d3a87674bd89ab82f050970affd50a5015a756e19c974bb641acedf2dc", func := "sleuth/sleuthlaw21.HistogramCounts", spec := "histogramCounts", unfollowed := true, recurses := true, apart := false, narrowed := true }
def HistogramCountsUptoSaid : Prop := histogramCountsUptoRow.holds Try.pinned (OpenSpec.upto histogramCountsSpec)

/-- 'sleuthlaw21.HistogramQuantiles', WHERE WHAT IT READS IS OF BULK AT MOST 1048576: true; the input reads as it did. -/
def histogramQuantilesUptoRow : OpenClaim := { program := "ytfnhicmjdfeanaa", sum := "a97339d3a87674bd89ab82f050970affd50a5015a756e19c974bb641acedf2dc", func := "sleuth/sleuthlaw21.HistogramQuantiles", spec := "histogramQuantiles", unfollowed := true, recurses := true, apart := false, narrowed := true }
def HistogramQuantilesUptoSaid : Prop := histogramQuantilesUptoRow.holds Try.pinned (OpenSpec.upto histogramQuantilesSpec)

/-- 'sleuthlaw21.HistogramChecks', WHERE WHAT IT READS IS OF BULK AT MOST 1048576: true; the input reads as it did. -/
def histogramChecksUptoRow : OpenClaim := { program := "ytfnhicmjdfeanaa", sum := "a97339d3a87674bd89ab82f050970affd50a5015a756e19c974bb641acedf2dc", func := "sleuth/sleuthlaw21.HistogramChecks", spec := "histogramChecks", unfollowed := true, recurses := true, apart := false, narrowed := true }
def HistogramChecksUptoSaid : Prop := histogramChecksUptoRow.holds Try.pinned (OpenSpec.upto histogramChecksSpec)

/-- 'sleuthlaw21.HistogramOf', WHERE WHAT IT READS IS OF BULK AT MOST 1048576: true; the input reads as it did. -/
def histogramOfUptoRow : OpenClaim := { program := "ytfnhicmjdfeanaa", sum := "a97339d3a87674bd89ab82f050970affd50a5015a756e19c974bb641acedf2dc", func := "sleuth/sleuthlaw21.HistogramOf", spec := "histogramOf", unfollowed := true, recurses := true, apart := false, narrowed := true }
def HistogramOfUptoSaid : Prop := histogramOfUptoRow.holds Try.pinned (OpenSpec.upto histogramOfSpec)

/-- 'sleuthlaw21.HistogramAdds', WHERE WHAT IT READS IS OF BULK AT MOST 1048576: true; the input reads as it did. -/
def histogramAddsUptoRow : OpenClaim := { program := "ytfnhicmjdfeanaa", sum := "a97339d3a87674bd89ab82f050970affd50a5015a756e19c974bb641acedf2dc", func := "sleuth/sleuthlaw21.HistogramAdds", spec := "histogramAdds", unfollowed := true, recurses := true, apart := false, narrowed := true }
def HistogramAddsUptoSaid : Prop := histogramAddsUptoRow.holds Try.pinned (OpenSpec.upto histogramAddsSpec)

/-- 'sleuthlaw21.HistogramMerges', WHERE WHAT IT READS IS OF BULK AT MOST 1048576: true; the input reads as it did. -/
def histogramMergesUptoRow : OpenClaim := { program := "ytfnhicmjdfeanaa", sum := "a97339d3a87674bd89ab82f050970affd50a5015a756e19c974bb641acedf2dc", func := "sleuth/sleuthlaw21.HistogramMerges", spec := "histogramMerges", unfollowed := true, recurses := true, apart := false, narrowed := true }
def HistogramMergesUptoSaid : Prop := histogramMergesUptoRow.holds Try.pinned (OpenSpec.upto histogramMergesSpec)

/-- 'sleuthlaw21.HistogramScales', WHERE WHAT IT READS IS OF BULK AT MOST 1048576: true; the input reads as it did. -/
def histogramScalesUptoRow : OpenClaim := { program := "ytfnhicmjdfeanaa", sum := "a97339d3a87674bd89ab82f050970affd50a5015a756e19c974bb641acedf2dc", func := "sleuth/sleuthlaw21.HistogramScales", spec := "histogramScales", unfollowed := true, recurses := true, apart := false, narrowed := true }
def HistogramScalesUptoSaid : Prop := histogramScalesUptoRow.holds Try.pinned (OpenSpec.upto histogramScalesSpec)

end Rows
end Go.Proofs.Ytfnhicmjdfeanaa
