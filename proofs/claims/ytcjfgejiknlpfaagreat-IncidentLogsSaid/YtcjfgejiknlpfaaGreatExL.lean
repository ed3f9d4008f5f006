/- The first example, reckoned plainly. -/
import Derived.Test.YtcjfgejiknlpfaaGreatJ4
namespace Go.Proofs.YtcjfgejiknlpfaaGreat.PI
open Go.RowKit Go.Proofs.YtcjfgejiknlpfaaGreatW.PrintWords
set_option linter.unusedVariables false
set_option maxRecDepth 100000
def kb (s : List UInt8) : ByteArray := ⟨s.toArray⟩
def bAnn : ByteArray := ⟨#[97, 110, 110]⟩
def bBob : ByteArray := ⟨#[98, 111, 98]⟩
def exL : List S50 := [⟨⟨bAnn, 1⟩, 5, 1, ⟨⟨#[]⟩, 0⟩, ⟨#[]⟩, 0, ⟨#[100, 111, 119, 110]⟩⟩, ⟨⟨bAnn, 2⟩, 6, 9, ⟨⟨#[]⟩, 0⟩, bBob, 2, ⟨#[]⟩⟩, ⟨⟨bBob, 1⟩, 7, 3, ⟨⟨#[]⟩, 0⟩, ⟨#[]⟩, 0, ⟨#[100, 105, 115, 107]⟩⟩,
  ⟨⟨bBob, 2⟩, 8, 4, ⟨bBob, 1⟩, ⟨#[]⟩, 0, ⟨#[]⟩⟩, ⟨⟨bAnn, 3⟩, 9, 4, ⟨bBob, 1⟩, ⟨#[]⟩, 0, ⟨#[]⟩⟩, ⟨⟨bAnn, 4⟩, 10, 7, ⟨bBob, 1⟩, ⟨#[]⟩, 0, ⟨#[]⟩⟩]
theorem ex_order : orderE exL = exL := by kernel_rfl
theorem ex_run : (runO exL).2 = [0, 0, 0, 6, 0, 0] ∧ (runO exL).1.st = 3 ∧ (runO exL).1.en = 10 ∧ (runO exL).1.ca = ⟨bBob, 1⟩ := ⟨by kernel_rfl, by kernel_rfl, by kernel_rfl, by kernel_rfl⟩
end Go.Proofs.YtcjfgejiknlpfaaGreat.PI
