/-
  DERIVED. GIVEN WITH THE SEED: THE CARDS: each row of YtikioicjhdhdpaaDoorRows.lean that lists a variable, with what it lists TIED to the program's text (the seventh form; the later family's looks); each row that meets fmt, with fmt's text TOLD by the authors' own Lean function (tested against real Go, not proved from fmt's source: count such statements apart). THE CARD IS WHAT COUNTS. Prove the row's statement (the work); the ties are given (YtikioicjhdhdpaaDoorTie.lean); close each card by the builder's one call (the guide's Derived/Test/ToyasCard.lean, 'card_holds'). Laid BY PROGRAM, IN A SANDBOX (cutbox-door.mjs). By AI agents, Wed Nov 11 2026. No macro, syntax, notation, axiom, sorry.
-/
import Derived.Test.YtikioicjhdhdpaaDoorRows
import GoSem.ClaimSeven
namespace Go.Proofs.YtikioicjhdhdpaaDoor
namespace Rows

/-- THE TIED CARD OF 'sleuthlaw02.FractionPrints'. -/
def fractionPrintsCard : Claim7 := { stood := { row := fractionPrintsRow, standIns := [], harness := (true, "db6fe2f21e884c2f7f95ddd829efbfab8952d46d2bd1919dece8c63635cdac46"), looks := false }, kinds := [], alts := [], laidByText := true, laidKinds := [.data, .data, .data], laidTests := true, laidLooks := .later }
def FractionPrintsCardSaid : Prop := Claim7.holds Tryd.pinned (.plain (OpenSpec.ofChange fractionPrintsSpec)) fractionPrintsCard

/-- THE TIED CARD OF 'sleuthlaw02.FractionDecimals'. -/
def fractionDecimalsCard : Claim7 := { stood := { row := fractionDecimalsRow, standIns := [], harness := (true, "db6fe2f21e884c2f7f95ddd829efbfab8952d46d2bd1919dece8c63635cdac46"), looks := false }, kinds := [], alts := [], laidByText := true, laidKinds := [.data, .data, .data], laidTests := true, laidLooks := .later }
def FractionDecimalsCardSaid : Prop := Claim7.holds Tryd.pinned (.plain (OpenSpec.ofChange fractionDecimalsSpec)) fractionDecimalsCard

/-- THE SECOND FORM's CARD OF 'sleuthlaw02.FractionPrints'. -/
def fractionPrintsUptoCard : Claim7 := { stood := { row := fractionPrintsUptoRow, standIns := [], harness := (true, "db6fe2f21e884c2f7f95ddd829efbfab8952d46d2bd1919dece8c63635cdac46"), looks := false }, kinds := [], alts := [], laidByText := true, laidKinds := [.data, .data, .data], laidTests := true, laidLooks := .later }
def FractionPrintsUptoCardSaid : Prop := Claim7.holds Tryd.pinned (.plain (OpenSpec.upto fractionPrintsSpec)) fractionPrintsUptoCard

/-- THE SECOND FORM's CARD OF 'sleuthlaw02.FractionDecimals'. -/
def fractionDecimalsUptoCard : Claim7 := { stood := { row := fractionDecimalsUptoRow, standIns := [], harness := (true, "db6fe2f21e884c2f7f95ddd829efbfab8952d46d2bd1919dece8c63635cdac46"), looks := false }, kinds := [], alts := [], laidByText := true, laidKinds := [.data, .data, .data], laidTests := true, laidLooks := .later }
def FractionDecimalsUptoCardSaid : Prop := Claim7.holds Tryd.pinned (.plain (OpenSpec.upto fractionDecimalsSpec)) fractionDecimalsUptoCard
end Rows
end Go.Proofs.YtikioicjhdhdpaaDoor
