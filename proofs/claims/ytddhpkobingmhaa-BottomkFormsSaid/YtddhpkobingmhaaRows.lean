/-
  No cell of these rows narrows 'for every input' (looked for: loops, veiled, ifaces, maps, wideKeys, modest, calm, conditions, laid).
  DERIVED. THE GIVEN ROWS OF THIS SEAT. 9 by the template 'for every input the law returns true; each argument reads behind the call as it read before'; 0 by the template 'total and deterministic' (their statements: YtddhpkobingmhaaTotals.lean).
  GIVEN WITH THE SEED: the statements are not yours to turn. If you find one false, say at which input.
  Laid BY PROGRAM, IN A SANDBOX (cutbox-rows.mjs): the forced cells as the released guide's own fill.sh prints them over the translation fa52e16f367aaffd… (all of the seat's roots in one cut). By AI agents, Wed Nov 11 2026. No macro, syntax, notation, axiom, sorry.
-/
import Derived.Test.YtddhpkobingmhaaChecked
import GoSem.Claim
import GoSem.ClaimJoined
import GoSem.ClaimMapViews
import Derived.JoinedTies
import Derived.KernelRfl
namespace Go.Proofs.Ytddhpkobingmhaa
/- THE CELL 'sum', in the pinned program and in every row, IS THE sha256 OF THE DUMP (.gsa) THAT YtddhpkobingmhaaProg.lean LOADS. Nothing in Lean hashes anything: it is a label: what it is worth is what the hold of that sum in a sandbox is worth. -/
noncomputable def Try.pinned : Pinned := { name := "ytddhpkobingmhaa", sum := "fa52e16f367aaffd24267131b9bb36a142240bbf7124df1da390cbfb1b121e87", checked := Try.checked }
namespace Rows
def none {H : Type} : Left H := { results := [], args := [] }

/-- 'sleuthlaw23.BottomkEstimates': WHATEVER THE INPUT: true; the input reads as it did. -/
def bottomkEstimatesSpec : ChangeSpec := { name := "bottomkEstimates", fn := fun _ => fun
  | [d1, d2] => { results := [.lit (.bool true)], args := [d1, d2] }
  | _ => none }
def bottomkEstimatesRow : OpenClaim := { program := "ytddhpkobingmhaa", sum := "fa52e16f367aaffd24267131b9bb36a142240bbf7124df1da390cbfb1b121e87", func := "sleuth/sleuthlaw23.BottomkEstimates", spec := "bottomkEstimates", inPlace := ["slices.overlaps[sleuth/bottomk.Key]"], unfollowed := true, recurses := true, named := ["math/bits.divideError", "math/bits.overflowError"], apart := false }
def BottomkEstimatesSaid : Prop := bottomkEstimatesRow.holds Try.pinned (OpenSpec.ofChange bottomkEstimatesSpec)

/-- ITS FALSE NEIGHBOUR: 'it returns false'. Refute it at one input. -/
def bottomkEstimatesWrong : ChangeSpec := { name := "bottomkEstimates", fn := fun _ => fun
  | [d1, d2] => { results := [.lit (.bool false)], args := [d1, d2] }
  | _ => none }
def BottomkEstimatesWrongFalsely : Prop := bottomkEstimatesRow.holds Try.pinned (OpenSpec.ofChange bottomkEstimatesWrong)

/-- 'sleuthlaw23.BottomkAdds': WHATEVER THE INPUT: true; the input reads as it did. -/
def bottomkAddsSpec : ChangeSpec := { name := "bottomkAdds", fn := fun _ => fun
  | [d1, d2] => { results := [.lit (.bool true)], args := [d1, d2] }
  | _ => none }
def bottomkAddsRow : OpenClaim := { program := "ytddhpkobingmhaa", sum := "fa52e16f367aaffd24267131b9bb36a142240bbf7124df1da390cbfb1b121e87", func := "sleuth/sleuthlaw23.BottomkAdds", spec := "bottomkAdds", inPlace := ["slices.overlaps[sleuth/bottomk.Key]"], unfollowed := true, recurses := true, named := ["math/bits.divideError", "math/bits.overflowError"], apart := false }
def BottomkAddsSaid : Prop := bottomkAddsRow.holds Try.pinned (OpenSpec.ofChange bottomkAddsSpec)

/-- ITS FALSE NEIGHBOUR: 'it returns false'. Refute it at one input. -/
def bottomkAddsWrong : ChangeSpec := { name := "bottomkAdds", fn := fun _ => fun
  | [d1, d2] => { results := [.lit (.bool false)], args := [d1, d2] }
  | _ => none }
def BottomkAddsWrongFalsely : Prop := bottomkAddsRow.holds Try.pinned (OpenSpec.ofChange bottomkAddsWrong)

/-- 'sleuthlaw23.BottomkErrors': WHATEVER THE INPUT: true; the input reads as it did. -/
def bottomkErrorsSpec : ChangeSpec := { name := "bottomkErrors", fn := fun _ => fun
  | [d1, d2, d3] => { results := [.lit (.bool true)], args := [d1, d2, d3] }
  | _ => none }
def bottomkErrorsRow : OpenClaim := { program := "ytddhpkobingmhaa", sum := "fa52e16f367aaffd24267131b9bb36a142240bbf7124df1da390cbfb1b121e87", func := "sleuth/sleuthlaw23.BottomkErrors", spec := "bottomkErrors", inPlace := ["slices.overlaps[sleuth/bottomk.Key]"], unfollowed := true, recurses := true, named := ["math/bits.divideError", "math/bits.overflowError"], apart := false }
def BottomkErrorsSaid : Prop := bottomkErrorsRow.holds Try.pinned (OpenSpec.ofChange bottomkErrorsSpec)

/-- ITS FALSE NEIGHBOUR: 'it returns false'. Refute it at one input. -/
def bottomkErrorsWrong : ChangeSpec := { name := "bottomkErrors", fn := fun _ => fun
  | [d1, d2, d3] => { results := [.lit (.bool false)], args := [d1, d2, d3] }
  | _ => none }
def BottomkErrorsWrongFalsely : Prop := bottomkErrorsRow.holds Try.pinned (OpenSpec.ofChange bottomkErrorsWrong)

/-- 'sleuthlaw23.BottomkDecodes': WHATEVER THE INPUT: true; the input reads as it did. -/
def bottomkDecodesSpec : ChangeSpec := { name := "bottomkDecodes", fn := fun _ => fun
  | [d] => { results := [.lit (.bool true)], args := [d] }
  | _ => none }
def bottomkDecodesRow : OpenClaim := { program := "ytddhpkobingmhaa", sum := "fa52e16f367aaffd24267131b9bb36a142240bbf7124df1da390cbfb1b121e87", func := "sleuth/sleuthlaw23.BottomkDecodes", spec := "bottomkDecodes", inPlace := ["slices.overlaps[sleuth/bottomk.Key]"], unfollowed := true, recurses := true, named := ["math/bits.divideError", "math/bits.overflowError"], apart := false }
def BottomkDecodesSaid : Prop := bottomkDecodesRow.holds Try.pinned (OpenSpec.ofChange bottomkDecodesSpec)

/-- ITS FALSE NEIGHBOUR: 'it returns false'. Refute it at one input. -/
def bottomkDecodesWrong : ChangeSpec := { name := "bottomkDecodes", fn := fun _ => fun
  | [d] => { results := [.lit (.bool false)], args := [d] }
  | _ => none }
def BottomkDecodesWrongFalsely : Prop := bottomkDecodesRow.holds Try.pinned (OpenSpec.ofChange bottomkDecodesWrong)

/-- 'sleuthlaw23.BottomkForms': WHATEVER THE INPUT: true; the input reads as it did. -/
def bottomkFormsSpec : ChangeSpec := { name := "bottomkForms", fn := fun _ => fun
  | [d1, d2, d3] => { results := [.lit (.bool true)], args := [d1, d2, d3] }
  | _ => none }
def bottomkFormsRow : OpenClaim := { program := "ytddhpkobingmhaa", sum := "fa52e16f367aaffd24267131b9bb36a142240bbf7124df1da390cbfb1b121e87", func := "sleuth/sleuthlaw23.BottomkForms", spec := "bottomkForms", inPlace := ["slices.overlaps[sleuth/bottomk.Key]"], unfollowed := true, recurses := true, named := ["math/bits.divideError", "math/bits.overflowError"], apart := false }
def BottomkFormsSaid : Prop := bottomkFormsRow.holds Try.pinned (OpenSpec.ofChange bottomkFormsSpec)

/-- ITS FALSE NEIGHBOUR: 'it returns false'. Refute it at one input. -/
def bottomkFormsWrong : ChangeSpec := { name := "bottomkForms", fn := fun _ => fun
  | [d1, d2, d3] => { results := [.lit (.bool false)], args := [d1, d2, d3] }
  | _ => none }
def BottomkFormsWrongFalsely : Prop := bottomkFormsRow.holds Try.pinned (OpenSpec.ofChange bottomkFormsWrong)

/-- 'sleuthlaw23.BottomkMerges': WHATEVER THE INPUT: true; the input reads as it did. -/
def bottomkMergesSpec : ChangeSpec := { name := "bottomkMerges", fn := fun _ => fun
  | [d1, d2, d3] => { results := [.lit (.bool true)], args := [d1, d2, d3] }
  | _ => none }
def bottomkMergesRow : OpenClaim := { program := "ytddhpkobingmhaa", sum := "fa52e16f367aaffd24267131b9bb36a142240bbf7124df1da390cbfb1b121e87", func := "sleuth/sleuthlaw23.BottomkMerges", spec := "bottomkMerges", inPlace := ["slices.overlaps[sleuth/bottomk.Key]"], unfollowed := true, recurses := true, named := ["math/bits.divideError", "math/bits.overflowError"], apart := false }
def BottomkMergesSaid : Prop := bottomkMergesRow.holds Try.pinned (OpenSpec.ofChange bottomkMergesSpec)

/-- ITS FALSE NEIGHBOUR: 'it returns false'. Refute it at one input. -/
def bottomkMergesWrong : ChangeSpec := { name := "bottomkMerges", fn := fun _ => fun
  | [d1, d2, d3] => { results := [.lit (.bool false)], args := [d1, d2, d3] }
  | _ => none }
def BottomkMergesWrongFalsely : Prop := bottomkMergesRow.holds Try.pinned (OpenSpec.ofChange bottomkMergesWrong)

/-- 'sleuthlaw23.BottomkOverlaps': WHATEVER THE INPUT: true; the input reads as it did. -/
def bottomkOverlapsSpec : ChangeSpec := { name := "bottomkOverlaps", fn := fun _ => fun
  | [d1, d2, d3] => { results := [.lit (.bool true)], args := [d1, d2, d3] }
  | _ => none }
def bottomkOverlapsRow : OpenClaim := { program := "ytddhpkobingmhaa", sum := "fa52e16f367aaffd24267131b9bb36a142240bbf7124df1da390cbfb1b121e87", func := "sleuth/sleuthlaw23.BottomkOverlaps", spec := "bottomkOverlaps", inPlace := ["slices.overlaps[sleuth/bottomk.Key]"], unfollowed := true, recurses := true, named := ["math/bits.divideError", "math/bits.overflowError"], apart := false }
def BottomkOverlapsSaid : Prop := bottomkOverlapsRow.holds Try.pinned (OpenSpec.ofChange bottomkOverlapsSpec)

/-- ITS FALSE NEIGHBOUR: 'it returns false'. Refute it at one input. -/
def bottomkOverlapsWrong : ChangeSpec := { name := "bottomkOverlaps", fn := fun _ => fun
  | [d1, d2, d3] => { results := [.lit (.bool false)], args := [d1, d2, d3] }
  | _ => none }
def BottomkOverlapsWrongFalsely : Prop := bottomkOverlapsRow.holds Try.pinned (OpenSpec.ofChange bottomkOverlapsWrong)

/-- 'sleuthlaw23.BottomkParts': WHATEVER THE INPUT: true; the input reads as it did. -/
def bottomkPartsSpec : ChangeSpec := { name := "bottomkParts", fn := fun _ => fun
  | [d1, d2] => { results := [.lit (.bool true)], args := [d1, d2] }
  | _ => none }
def bottomkPartsRow : OpenClaim := { program := "ytddhpkobingmhaa", sum := "fa52e16f367aaffd24267131b9bb36a142240bbf7124df1da390cbfb1b121e87", func := "sleuth/sleuthlaw23.BottomkParts", spec := "bottomkParts", inPlace := ["slices.overlaps[sleuth/bottomk.Key]"], unfollowed := true, recurses := true, named := ["math/bits.divideError", "math/bits.overflowError"], apart := false }
def BottomkPartsSaid : Prop := bottomkPartsRow.holds Try.pinned (OpenSpec.ofChange bottomkPartsSpec)

/-- ITS FALSE NEIGHBOUR: 'it returns false'. Refute it at one input. -/
def bottomkPartsWrong : ChangeSpec := { name := "bottomkParts", fn := fun _ => fun
  | [d1, d2] => { results := [.lit (.bool false)], args := [d1, d2] }
  | _ => none }
def BottomkPartsWrongFalsely : Prop := bottomkPartsRow.holds Try.pinned (OpenSpec.ofChange bottomkPartsWrong)

/-- 'sleuthlaw23.BottomkNil': WHATEVER THE INPUT: true; the input reads as it did. -/
def bottomkNilSpec : ChangeSpec := { name := "bottomkNil", fn := fun _ => fun
  | [d1, d2, d3] => { results := [.lit (.bool true)], args := [d1, d2, d3] }
  | _ => none }
def bottomkNilRow : OpenClaim := { program := "ytddhpkobingmhaa", sum := "fa52e16f367aaffd24267131b9bb36a142240bbf7124df1da390cbfb1b121e87", func := "sleuth/sleuthlaw23.BottomkNil", spec := "bottomkNil", inPlace := ["slices.overlaps[sleuth/bottomk.Key]"], unfollowed := true, recurses := true, named := ["math/bits.divideError", "math/bits.overflowError"], apart := false }
def BottomkNilSaid : Prop := bottomkNilRow.holds Try.pinned (OpenSpec.ofChange bottomkNilSpec)

/-- ITS FALSE NEIGHBOUR: 'it returns false'. Refute it at one input. -/
def bottomkNilWrong : ChangeSpec := { name := "bottomkNil", fn := fun _ => fun
  | [d1, d2, d3] => { results := [.lit (.bool false)], args := [d1, d2, d3] }
  | _ => none }
def BottomkNilWrongFalsely : Prop := bottomkNilRow.holds Try.pinned (OpenSpec.ofChange bottomkNilWrong)

/- THE SECOND FORM. 'bulk': how many values and letters a reading holds, each counted each time it is reached (what is shared counts as often as it is met; a slice's spare places count too). A statement '..UptoSaid' is the law's where the arguments, and the package variables that the reading takes, are together of bulk at most 1048576: NARROWER than '..Said'. Prove '..Said' where nothing that the law and all that it calls make is longer than what came in: it says more and counts as full. Else prove '..UptoSaid'. A law counts once. -/
mutual
def uptoBulk {H : Type} : DataW H → Nat
  | .lit (.string bytes) => bytes.length + 1
  | .lit _ => 1
  | .nil => 1
  | .ptr d => uptoBulk d + 1
  | .slice elems spare => uptoBulkAll elems + uptoBulkAll spare + 1
  | .agg parts => uptoBulkAll parts + 1
  | .iface _ d => uptoBulk d + 1
  | .map entries => uptoBulkEntries entries + 1
  | .held _ => 1
def uptoBulkAll {H : Type} : List (DataW H) → Nat
  | [] => 0
  | d :: r => uptoBulk d + uptoBulkAll r
def uptoBulkEntries {H : Type} : List (Lit × DataW H) → Nat
  | [] => 0
  | x :: r => uptoBulkEntry x + uptoBulkEntries r
def uptoBulkEntry {H : Type} : Lit × DataW H → Nat
  | (.string bytes, d) => bytes.length + uptoBulk d + 1
  | (_, d) => uptoBulk d + 1
 end
def uptoSmall : (H : Type) → List (DataW H) → Bool := fun _ ds => decide (uptoBulkAll ds ≤ 1048576)
def OpenSpec.upto (s : _root_.Go.ChangeSpec) : _root_.Go.OpenSpec := { _root_.Go.OpenSpec.ofChange s with cond := some uptoSmall }

/-- 'sleuthlaw23.BottomkEstimates', WHERE WHAT IT READS IS OF BULK AT MOST 1048576: true; the input reads as it did. -/
def bottomkEstimatesUptoRow : OpenClaim := { program := "ytddhpkobingmhaa", sum := "fa52e16f367aaffd24267131b9bb36a142240bbf7124df1da390cbfb1b121e87", func := "sleuth/sleuthlaw23.BottomkEstimates", spec := "bottomkEstimates", inPlace := ["slices.overlaps[sleuth/bottomk.Key]"], unfollowed := true, recurses := true, named := ["math/bits.divideError", "math/bits.overflowError"], apart := false, narrowed := true }
def BottomkEstimatesUptoSaid : Prop := bottomkEstimatesUptoRow.holds Try.pinned (OpenSpec.upto bottomkEstimatesSpec)

/-- 'sleuthlaw23.BottomkAdds', WHERE WHAT IT READS IS OF BULK AT MOST 1048576: true; the input reads as it did. -/
def bottomkAddsUptoRow : OpenClaim := { program := "ytddhpkobingmhaa", sum := "fa52e16f367aaffd24267131b9bb36a142240bbf7124df1da390cbfb1b121e87", func := "sleuth/sleuthlaw23.BottomkAdds", spec := "bottomkAdds", inPlace := ["slices.overlaps[sleuth/bottomk.Key]"], unfollowed := true, recurses := true, named := ["math/bits.divideError", "math/bits.overflowError"], apart := false, narrowed := true }
def BottomkAddsUptoSaid : Prop := bottomkAddsUptoRow.holds Try.pinned (OpenSpec.upto bottomkAddsSpec)

/-- 'sleuthlaw23.BottomkErrors', WHERE WHAT IT READS IS OF BULK AT MOST 1048576: true; the input reads as it did. -/
def bottomkErrorsUptoRow : OpenClaim := { program := "ytddhpkobingmhaa", sum := "fa52e16f367aaffd24267131b9bb36a142240bbf7124df1da390cbfb1b121e87", func := "sleuth/sleuthlaw23.BottomkErrors", spec := "bottomkErrors", inPlace := ["slices.overlaps[sleuth/bottomk.Key]"], unfollowed := true, recurses := true, named := ["math/bits.divideError", "math/bits.overflowError"], apart := false, narrowed := true }
def BottomkErrorsUptoSaid : Prop := bottomkErrorsUptoRow.holds Try.pinned (OpenSpec.upto bottomkErrorsSpec)

/-- 'sleuthlaw23.BottomkDecodes', WHERE WHAT IT READS IS OF BULK AT MOST 1048576: true; the input reads as it did. -/
def bottomkDecodesUptoRow : OpenClaim := { program := "ytddhpkobingmhaa", sum := "fa52e16f367aaffd24267131b9bb36a142240bbf7124df1da390cbfb1b121e87", func := "sleuth/sleuthlaw23.BottomkDecodes", spec := "bottomkDecodes", inPlace := ["slices.overlaps[sleuth/bottomk.Key]"], unfollowed := true, recurses := true, named := ["math/bits.divideError", "math/bits.overflowError"], apart := false, narrowed := true }
def BottomkDecodesUptoSaid : Prop := bottomkDecodesUptoRow.holds Try.pinned (OpenSpec.upto bottomkDecodesSpec)

/-- 'sleuthlaw23.BottomkForms', WHERE WHAT IT READS IS OF BULK AT MOST 1048576: true; the input reads as it did. -/
def bottomkFormsUptoRow : OpenClaim := { program := "ytddhpkobingmhaa", sum := "fa52e16f367aaffd24267131b9bb36a142240bbf7124df1da390cbfb1b121e87", func := "sleuth/sleuthlaw23.BottomkForms", spec := "bottomkForms", inPlace := ["slices.overlaps[sleuth/bottomk.Key]"], unfollowed := true, recurses := true, named := ["math/bits.divideError", "math/bits.overflowError"], apart := false, narrowed := true }
def BottomkFormsUptoSaid : Prop := bottomkFormsUptoRow.holds Try.pinned (OpenSpec.upto bottomkFormsSpec)

/-- 'sleuthlaw23.BottomkMerges', WHERE WHAT IT READS IS OF BULK AT MOST 1048576: true; the input reads as it did. -/
def bottomkMergesUptoRow : OpenClaim := { program := "ytddhpkobingmhaa", sum := "fa52e16f367aaffd24267131b9bb36a142240bbf7124df1da390cbfb1b121e87", func := "sleuth/sleuthlaw23.BottomkMerges", spec := "bottomkMerges", inPlace := ["slices.overlaps[sleuth/bottomk.Key]"], unfollowed := true, recurses := true, named := ["math/bits.divideError", "math/bits.overflowError"], apart := false, narrowed := true }
def BottomkMergesUptoSaid : Prop := bottomkMergesUptoRow.holds Try.pinned (OpenSpec.upto bottomkMergesSpec)

/-- 'sleuthlaw23.BottomkOverlaps', WHERE WHAT IT READS IS OF BULK AT MOST 1048576: true; the input reads as it did. -/
def bottomkOverlapsUptoRow : OpenClaim := { program := "ytddhpkobingmhaa", sum := "fa52e16f367aaffd24267131b9bb36a142240bbf7124df1da390cbfb1b121e87", func := "sleuth/sleuthlaw23.BottomkOverlaps", spec := "bottomkOverlaps", inPlace := ["slices.overlaps[sleuth/bottomk.Key]"], unfollowed := true, recurses := true, named := ["math/bits.divideError", "math/bits.overflowError"], apart := false, narrowed := true }
def BottomkOverlapsUptoSaid : Prop := bottomkOverlapsUptoRow.holds Try.pinned (OpenSpec.upto bottomkOverlapsSpec)

/-- 'sleuthlaw23.BottomkParts', WHERE WHAT IT READS IS OF BULK AT MOST 1048576: true; the input reads as it did. -/
def bottomkPartsUptoRow : OpenClaim := { program := "ytddhpkobingmhaa", sum := "fa52e16f367aaffd24267131b9bb36a142240bbf7124df1da390cbfb1b121e87", func := "sleuth/sleuthlaw23.BottomkParts", spec := "bottomkParts", inPlace := ["slices.overlaps[sleuth/bottomk.Key]"], unfollowed := true, recurses := true, named := ["math/bits.divideError", "math/bits.overflowError"], apart := false, narrowed := true }
def BottomkPartsUptoSaid : Prop := bottomkPartsUptoRow.holds Try.pinned (OpenSpec.upto bottomkPartsSpec)

/-- 'sleuthlaw23.BottomkNil', WHERE WHAT IT READS IS OF BULK AT MOST 1048576: true; the input reads as it did. -/
def bottomkNilUptoRow : OpenClaim := { program := "ytddhpkobingmhaa", sum := "fa52e16f367aaffd24267131b9bb36a142240bbf7124df1da390cbfb1b121e87", func := "sleuth/sleuthlaw23.BottomkNil", spec := "bottomkNil", inPlace := ["slices.overlaps[sleuth/bottomk.Key]"], unfollowed := true, recurses := true, named := ["math/bits.divideError", "math/bits.overflowError"], apart := false, narrowed := true }
def BottomkNilUptoSaid : Prop := bottomkNilUptoRow.holds Try.pinned (OpenSpec.upto bottomkNilSpec)

end Rows
end Go.Proofs.Ytddhpkobingmhaa
