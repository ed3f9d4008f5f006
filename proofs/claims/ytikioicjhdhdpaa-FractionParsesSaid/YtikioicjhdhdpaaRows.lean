/-
  No cell of these rows narrows 'for every input' (looked for: loops, veiled, ifaces, maps, wideKeys, modest, calm, conditions, laid).
  DERIVED. THE GIVEN ROWS OF THIS SEAT. 9 by the template 'for every input the law returns true; each argument reads behind the call as it read before'; 0 by the template 'total and deterministic' (their statements: YtikioicjhdhdpaaTotals.lean).
  GIVEN WITH THE SEED: the statements are not yours to turn. If you find one false, say at which input.
  Laid BY PROGRAM, IN A SANDBOX (cutbox-rows.mjs): the forced cells as the released guide's own fill.sh prints them over the translation 906304f27525a90d… (all of the seat's roots in one cut). By AI agents, Wed Nov 11 2026. No macro, syntax, notation, axiom, sorry.
-/
import Derived.Test.YtikioicjhdhdpaaChecked
import GoSem.Claim
import GoSem.ClaimJoined
import GoSem.ClaimMapViews
import Derived.JoinedTies
import Derived.KernelRfl
namespace Go.Proofs.Ytikioicjhdhdpaa
/- THE CELL 'sum', in the pinned program and in every row, IS THE sha256 OF THE DUMP (.gsa) THAT YtikioicjhdhdpaaProg.lean LOADS. Nothing in Lean hashes anything: it is a label: what it is worth is what the hold of that sum in a sandbox is worth. -/
noncomputable def Try.pinned : Pinned := { name := "ytikioicjhdhdpaa", sum := "906304f27525a90d6d48c4c022bdf4318894455c088a50904264a72c7ed1b3eb", checked := Try.checked }
namespace Rows
def none {H : Type} : Left H := { results := [], args := [] }

/-- 'sleuthlaw02.FractionParses': WHATEVER THE INPUT: true; the input reads as it did. -/
def fractionParsesSpec : ChangeSpec := { name := "fractionParses", fn := fun _ => fun
  | [d] => { results := [.lit (.bool true)], args := [d] }
  | _ => none }
def fractionParsesRow : OpenClaim := { program := "ytikioicjhdhdpaa", sum := "906304f27525a90d6d48c4c022bdf4318894455c088a50904264a72c7ed1b3eb", func := "sleuth/sleuthlaw02.FractionParses", spec := "fractionParses", inPlace := ["internal/bytealg.IndexByteString", "internal/bytealg.IndexString"], named := ["internal/bytealg.MaxLen"], apart := false }
def FractionParsesSaid : Prop := fractionParsesRow.holds Try.pinned (OpenSpec.ofChange fractionParsesSpec)

/-- ITS FALSE NEIGHBOUR: 'it returns false'. Refute it at one input. -/
def fractionParsesWrong : ChangeSpec := { name := "fractionParses", fn := fun _ => fun
  | [d] => { results := [.lit (.bool false)], args := [d] }
  | _ => none }
def FractionParsesWrongFalsely : Prop := fractionParsesRow.holds Try.pinned (OpenSpec.ofChange fractionParsesWrong)

/-- 'sleuthlaw02.FractionMakes': WHATEVER THE INPUT: true; the input reads as it did. -/
def fractionMakesSpec : ChangeSpec := { name := "fractionMakes", fn := fun _ => fun
  | [d1, d2] => { results := [.lit (.bool true)], args := [d1, d2] }
  | _ => none }
def fractionMakesRow : OpenClaim := { program := "ytikioicjhdhdpaa", sum := "906304f27525a90d6d48c4c022bdf4318894455c088a50904264a72c7ed1b3eb", func := "sleuth/sleuthlaw02.FractionMakes", spec := "fractionMakes", inPlace := ["internal/bytealg.IndexByteString", "internal/bytealg.IndexString"], named := ["internal/bytealg.MaxLen"], apart := false }
def FractionMakesSaid : Prop := fractionMakesRow.holds Try.pinned (OpenSpec.ofChange fractionMakesSpec)

/-- ITS FALSE NEIGHBOUR: 'it returns false'. Refute it at one input. -/
def fractionMakesWrong : ChangeSpec := { name := "fractionMakes", fn := fun _ => fun
  | [d1, d2] => { results := [.lit (.bool false)], args := [d1, d2] }
  | _ => none }
def FractionMakesWrongFalsely : Prop := fractionMakesRow.holds Try.pinned (OpenSpec.ofChange fractionMakesWrong)

/-- 'sleuthlaw02.FractionAssociates': WHATEVER THE INPUT: true; the input reads as it did. -/
def fractionAssociatesSpec : ChangeSpec := { name := "fractionAssociates", fn := fun _ => fun
  | [d1, d2, d3] => { results := [.lit (.bool true)], args := [d1, d2, d3] }
  | _ => none }
def fractionAssociatesRow : OpenClaim := { program := "ytikioicjhdhdpaa", sum := "906304f27525a90d6d48c4c022bdf4318894455c088a50904264a72c7ed1b3eb", func := "sleuth/sleuthlaw02.FractionAssociates", spec := "fractionAssociates", inPlace := ["internal/bytealg.IndexByteString", "internal/bytealg.IndexString"], named := ["internal/bytealg.MaxLen"], apart := false }
def FractionAssociatesSaid : Prop := fractionAssociatesRow.holds Try.pinned (OpenSpec.ofChange fractionAssociatesSpec)

/-- ITS FALSE NEIGHBOUR: 'it returns false'. Refute it at one input. -/
def fractionAssociatesWrong : ChangeSpec := { name := "fractionAssociates", fn := fun _ => fun
  | [d1, d2, d3] => { results := [.lit (.bool false)], args := [d1, d2, d3] }
  | _ => none }
def FractionAssociatesWrongFalsely : Prop := fractionAssociatesRow.holds Try.pinned (OpenSpec.ofChange fractionAssociatesWrong)

/-- 'sleuthlaw02.FractionAdds': WHATEVER THE INPUT: true; the input reads as it did. -/
def fractionAddsSpec : ChangeSpec := { name := "fractionAdds", fn := fun _ => fun
  | [d1, d2] => { results := [.lit (.bool true)], args := [d1, d2] }
  | _ => none }
def fractionAddsRow : OpenClaim := { program := "ytikioicjhdhdpaa", sum := "906304f27525a90d6d48c4c022bdf4318894455c088a50904264a72c7ed1b3eb", func := "sleuth/sleuthlaw02.FractionAdds", spec := "fractionAdds", inPlace := ["internal/bytealg.IndexByteString", "internal/bytealg.IndexString"], named := ["internal/bytealg.MaxLen"], apart := false }
def FractionAddsSaid : Prop := fractionAddsRow.holds Try.pinned (OpenSpec.ofChange fractionAddsSpec)

/-- ITS FALSE NEIGHBOUR: 'it returns false'. Refute it at one input. -/
def fractionAddsWrong : ChangeSpec := { name := "fractionAdds", fn := fun _ => fun
  | [d1, d2] => { results := [.lit (.bool false)], args := [d1, d2] }
  | _ => none }
def FractionAddsWrongFalsely : Prop := fractionAddsRow.holds Try.pinned (OpenSpec.ofChange fractionAddsWrong)

/-- 'sleuthlaw02.FractionMultiplies': WHATEVER THE INPUT: true; the input reads as it did. -/
def fractionMultipliesSpec : ChangeSpec := { name := "fractionMultiplies", fn := fun _ => fun
  | [d1, d2] => { results := [.lit (.bool true)], args := [d1, d2] }
  | _ => none }
def fractionMultipliesRow : OpenClaim := { program := "ytikioicjhdhdpaa", sum := "906304f27525a90d6d48c4c022bdf4318894455c088a50904264a72c7ed1b3eb", func := "sleuth/sleuthlaw02.FractionMultiplies", spec := "fractionMultiplies", inPlace := ["internal/bytealg.IndexByteString", "internal/bytealg.IndexString"], named := ["internal/bytealg.MaxLen"], apart := false }
def FractionMultipliesSaid : Prop := fractionMultipliesRow.holds Try.pinned (OpenSpec.ofChange fractionMultipliesSpec)

/-- ITS FALSE NEIGHBOUR: 'it returns false'. Refute it at one input. -/
def fractionMultipliesWrong : ChangeSpec := { name := "fractionMultiplies", fn := fun _ => fun
  | [d1, d2] => { results := [.lit (.bool false)], args := [d1, d2] }
  | _ => none }
def FractionMultipliesWrongFalsely : Prop := fractionMultipliesRow.holds Try.pinned (OpenSpec.ofChange fractionMultipliesWrong)

/-- 'sleuthlaw02.FractionChecks': WHATEVER THE INPUT: true; the input reads as it did. -/
def fractionChecksSpec : ChangeSpec := { name := "fractionChecks", fn := fun _ => fun
  | [d] => { results := [.lit (.bool true)], args := [d] }
  | _ => none }
def fractionChecksRow : OpenClaim := { program := "ytikioicjhdhdpaa", sum := "906304f27525a90d6d48c4c022bdf4318894455c088a50904264a72c7ed1b3eb", func := "sleuth/sleuthlaw02.FractionChecks", spec := "fractionChecks", inPlace := ["internal/bytealg.IndexByteString", "internal/bytealg.IndexString"], named := ["internal/bytealg.MaxLen"], apart := false }
def FractionChecksSaid : Prop := fractionChecksRow.holds Try.pinned (OpenSpec.ofChange fractionChecksSpec)

/-- ITS FALSE NEIGHBOUR: 'it returns false'. Refute it at one input. -/
def fractionChecksWrong : ChangeSpec := { name := "fractionChecks", fn := fun _ => fun
  | [d] => { results := [.lit (.bool false)], args := [d] }
  | _ => none }
def FractionChecksWrongFalsely : Prop := fractionChecksRow.holds Try.pinned (OpenSpec.ofChange fractionChecksWrong)

/-- 'sleuthlaw02.FractionRounds': WHATEVER THE INPUT: true; the input reads as it did. -/
def fractionRoundsSpec : ChangeSpec := { name := "fractionRounds", fn := fun _ => fun
  | [d1, d2] => { results := [.lit (.bool true)], args := [d1, d2] }
  | _ => none }
def fractionRoundsRow : OpenClaim := { program := "ytikioicjhdhdpaa", sum := "906304f27525a90d6d48c4c022bdf4318894455c088a50904264a72c7ed1b3eb", func := "sleuth/sleuthlaw02.FractionRounds", spec := "fractionRounds", inPlace := ["internal/bytealg.IndexByteString", "internal/bytealg.IndexString"], named := ["internal/bytealg.MaxLen"], apart := false }
def FractionRoundsSaid : Prop := fractionRoundsRow.holds Try.pinned (OpenSpec.ofChange fractionRoundsSpec)

/-- ITS FALSE NEIGHBOUR: 'it returns false'. Refute it at one input. -/
def fractionRoundsWrong : ChangeSpec := { name := "fractionRounds", fn := fun _ => fun
  | [d1, d2] => { results := [.lit (.bool false)], args := [d1, d2] }
  | _ => none }
def FractionRoundsWrongFalsely : Prop := fractionRoundsRow.holds Try.pinned (OpenSpec.ofChange fractionRoundsWrong)

/-- 'sleuthlaw02.FractionCompares': WHATEVER THE INPUT: true; the input reads as it did. -/
def fractionComparesSpec : ChangeSpec := { name := "fractionCompares", fn := fun _ => fun
  | [d1, d2] => { results := [.lit (.bool true)], args := [d1, d2] }
  | _ => none }
def fractionComparesRow : OpenClaim := { program := "ytikioicjhdhdpaa", sum := "906304f27525a90d6d48c4c022bdf4318894455c088a50904264a72c7ed1b3eb", func := "sleuth/sleuthlaw02.FractionCompares", spec := "fractionCompares", inPlace := ["internal/bytealg.IndexByteString", "internal/bytealg.IndexString"], named := ["internal/bytealg.MaxLen"], apart := false }
def FractionComparesSaid : Prop := fractionComparesRow.holds Try.pinned (OpenSpec.ofChange fractionComparesSpec)

/-- ITS FALSE NEIGHBOUR: 'it returns false'. Refute it at one input. -/
def fractionComparesWrong : ChangeSpec := { name := "fractionCompares", fn := fun _ => fun
  | [d1, d2] => { results := [.lit (.bool false)], args := [d1, d2] }
  | _ => none }
def FractionComparesWrongFalsely : Prop := fractionComparesRow.holds Try.pinned (OpenSpec.ofChange fractionComparesWrong)

/-- 'sleuthlaw02.FractionBetween': WHATEVER THE INPUT: true; the input reads as it did. -/
def fractionBetweenSpec : ChangeSpec := { name := "fractionBetween", fn := fun _ => fun
  | [d1, d2] => { results := [.lit (.bool true)], args := [d1, d2] }
  | _ => none }
def fractionBetweenRow : OpenClaim := { program := "ytikioicjhdhdpaa", sum := "906304f27525a90d6d48c4c022bdf4318894455c088a50904264a72c7ed1b3eb", func := "sleuth/sleuthlaw02.FractionBetween", spec := "fractionBetween", inPlace := ["internal/bytealg.IndexByteString", "internal/bytealg.IndexString"], recurses := true, named := ["internal/bytealg.MaxLen"], apart := false }
def FractionBetweenSaid : Prop := fractionBetweenRow.holds Try.pinned (OpenSpec.ofChange fractionBetweenSpec)

/-- ITS FALSE NEIGHBOUR: 'it returns false'. Refute it at one input. -/
def fractionBetweenWrong : ChangeSpec := { name := "fractionBetween", fn := fun _ => fun
  | [d1, d2] => { results := [.lit (.bool false)], args := [d1, d2] }
  | _ => none }
def FractionBetweenWrongFalsely : Prop := fractionBetweenRow.holds Try.pinned (OpenSpec.ofChange fractionBetweenWrong)

/- THE SECOND FORM. 'bulk': how many values and letters a reading holds, each counted each time it is reached (what is shared counts as often as it is met; a slice's spare places count too). A statement '..UptoSaid' is the law's where the arguments, and the package variables that the reading takes, are together of bulk at most 1048576: NARROWER than '..Said'. Prove '..Said' where nothing that the law and all that it calls make is longer than what came in: it says more and counts as full. Else prove '..UptoSaid'. A law counts once. -/
mutual
def uptoBulk {H : Type} : DataW H → Nat
  | .lit (.string bytes) => bytes.length + 1
  | .lit _ => 1
  | .nil => 1
  | .ptr d => uptoBulk d + 1
  | .slice elems spare => uptoBulkAll elems + uptoBulkAll spare + 1
  | .agg parts => uptoBulkAll parts + 1
  | .iface _ d => uptoBulk d + 1
  | .map entries => uptoBulkEntries entries + 1
  | .held _ => 1
def uptoBulkAll {H : Type} : List (DataW H) → Nat
  | [] => 0
  | d :: r => uptoBulk d + uptoBulkAll r
def uptoBulkEntries {H : Type} : List (Lit × DataW H) → Nat
  | [] => 0
  | x :: r => uptoBulkEntry x + uptoBulkEntries r
def uptoBulkEntry {H : Type} : Lit × DataW H → Nat
  | (.string bytes, d) => bytes.length + uptoBulk d + 1
  | (_, d) => uptoBulk d + 1
 end
def uptoSmall : (H : Type) → List (DataW H) → Bool := fun _ ds => decide (uptoBulkAll ds ≤ 1048576)
def OpenSpec.upto (s : _root_.Go.ChangeSpec) : _root_.Go.OpenSpec := { _root_.Go.OpenSpec.ofChange s with cond := some uptoSmall }

/-- 'sleuthlaw02.FractionParses', WHERE WHAT IT READS IS OF BULK AT MOST 1048576: true; the input reads as it did. -/
def fractionParsesUptoRow : OpenClaim := { program := "ytikioicjhdhdpaa", sum := "906304f27525a90d6d48c4c022bdf4318894455c088a50904264a72c7ed1b3eb", func := "sleuth/sleuthlaw02.FractionParses", spec := "fractionParses", inPlace := ["internal/bytealg.IndexByteString", "internal/bytealg.IndexString"], named := ["internal/bytealg.MaxLen"], apart := false, narrowed := true }
def FractionParsesUptoSaid : Prop := fractionParsesUptoRow.holds Try.pinned (OpenSpec.upto fractionParsesSpec)

/-- 'sleuthlaw02.FractionMakes', WHERE WHAT IT READS IS OF BULK AT MOST 1048576: true; the input reads as it did. -/
def fractionMakesUptoRow : OpenClaim := { program := "ytikioicjhdhdpaa", sum := "906304f27525a90d6d48c4c022bdf4318894455c088a50904264a72c7ed1b3eb", func := "sleuth/sleuthlaw02.FractionMakes", spec := "fractionMakes", inPlace := ["internal/bytealg.IndexByteString", "internal/bytealg.IndexString"], named := ["internal/bytealg.MaxLen"], apart := false, narrowed := true }
def FractionMakesUptoSaid : Prop := fractionMakesUptoRow.holds Try.pinned (OpenSpec.upto fractionMakesSpec)

/-- 'sleuthlaw02.FractionAssociates', WHERE WHAT IT READS IS OF BULK AT MOST 1048576: true; the input reads as it did. -/
def fractionAssociatesUptoRow : OpenClaim := { program := "ytikioicjhdhdpaa", sum := "906304f27525a90d6d48c4c022bdf4318894455c088a50904264a72c7ed1b3eb", func := "sleuth/sleuthlaw02.FractionAssociates", spec := "fractionAssociates", inPlace := ["internal/bytealg.IndexByteString", "internal/bytealg.IndexString"], named := ["internal/bytealg.MaxLen"], apart := false, narrowed := true }
def FractionAssociatesUptoSaid : Prop := fractionAssociatesUptoRow.holds Try.pinned (OpenSpec.upto fractionAssociatesSpec)

/-- 'sleuthlaw02.FractionAdds', WHERE WHAT IT READS IS OF BULK AT MOST 1048576: true; the input reads as it did. -/
def fractionAddsUptoRow : OpenClaim := { program := "ytikioicjhdhdpaa", sum := "906304f27525a90d6d48c4c022bdf4318894455c088a50904264a72c7ed1b3eb", func := "sleuth/sleuthlaw02.FractionAdds", spec := "fractionAdds", inPlace := ["internal/bytealg.IndexByteString", "internal/bytealg.IndexString"], named := ["internal/bytealg.MaxLen"], apart := false, narrowed := true }
def FractionAddsUptoSaid : Prop := fractionAddsUptoRow.holds Try.pinned (OpenSpec.upto fractionAddsSpec)

/-- 'sleuthlaw02.FractionMultiplies', WHERE WHAT IT READS IS OF BULK AT MOST 1048576: true; the input reads as it did. -/
def fractionMultipliesUptoRow : OpenClaim := { program := "ytikioicjhdhdpaa", sum := "906304f27525a90d6d48c4c022bdf4318894455c088a50904264a72c7ed1b3eb", func := "sleuth/sleuthlaw02.FractionMultiplies", spec := "fractionMultiplies", inPlace := ["internal/bytealg.IndexByteString", "internal/bytealg.IndexString"], named := ["internal/bytealg.MaxLen"], apart := false, narrowed := true }
def FractionMultipliesUptoSaid : Prop := fractionMultipliesUptoRow.holds Try.pinned (OpenSpec.upto fractionMultipliesSpec)

/-- 'sleuthlaw02.FractionChecks', WHERE WHAT IT READS IS OF BULK AT MOST 1048576: true; the input reads as it did. -/
def fractionChecksUptoRow : OpenClaim := { program := "ytikioicjhdhdpaa", sum := "906304f27525a90d6d48c4c022bdf4318894455c088a50904264a72c7ed1b3eb", func := "sleuth/sleuthlaw02.FractionChecks", spec := "fractionChecks", inPlace := ["internal/bytealg.IndexByteString", "internal/bytealg.IndexString"], named := ["internal/bytealg.MaxLen"], apart := false, narrowed := true }
def FractionChecksUptoSaid : Prop := fractionChecksUptoRow.holds Try.pinned (OpenSpec.upto fractionChecksSpec)

/-- 'sleuthlaw02.FractionRounds', WHERE WHAT IT READS IS OF BULK AT MOST 1048576: true; the input reads as it did. -/
def fractionRoundsUptoRow : OpenClaim := { program := "ytikioicjhdhdpaa", sum := "906304f27525a90d6d48c4c022bdf4318894455c088a50904264a72c7ed1b3eb", func := "sleuth/sleuthlaw02.FractionRounds", spec := "fractionRounds", inPlace := ["internal/bytealg.IndexByteString", "internal/bytealg.IndexString"], named := ["internal/bytealg.MaxLen"], apart := false, narrowed := true }
def FractionRoundsUptoSaid : Prop := fractionRoundsUptoRow.holds Try.pinned (OpenSpec.upto fractionRoundsSpec)

/-- 'sleuthlaw02.FractionCompares', WHERE WHAT IT READS IS OF BULK AT MOST 1048576: true; the input reads as it did. -/
def fractionComparesUptoRow : OpenClaim := { program := "ytikioicjhdhdpaa", sum := "906304f27525a90d6d48c4c022bdf4318894455c088a50904264a72c7ed1b3eb", func := "sleuth/sleuthlaw02.FractionCompares", spec := "fractionCompares", inPlace := ["internal/bytealg.IndexByteString", "internal/bytealg.IndexString"], named := ["internal/bytealg.MaxLen"], apart := false, narrowed := true }
def FractionComparesUptoSaid : Prop := fractionComparesUptoRow.holds Try.pinned (OpenSpec.upto fractionComparesSpec)

/-- 'sleuthlaw02.FractionBetween', WHERE WHAT IT READS IS OF BULK AT MOST 1048576: true; the input reads as it did. -/
def fractionBetweenUptoRow : OpenClaim := { program := "ytikioicjhdhdpaa", sum := "906304f27525a90d6d48c4c022bdf4318894455c088a50904264a72c7ed1b3eb", func := "sleuth/sleuthlaw02.FractionBetween", spec := "fractionBetween", inPlace := ["internal/bytealg.IndexByteString", "internal/bytealg.IndexString"], recurses := true, named := ["internal/bytealg.MaxLen"], apart := false, narrowed := true }
def FractionBetweenUptoSaid : Prop := fractionBetweenUptoRow.holds Try.pinned (OpenSpec.upto fractionBetweenSpec)

end Rows
end Go.Proofs.Ytikioicjhdhdpaa
