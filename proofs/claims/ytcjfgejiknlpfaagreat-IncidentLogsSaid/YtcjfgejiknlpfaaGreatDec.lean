/- What an act describes, plainly. -/
import Derived.Test.YtcjfgejiknlpfaaGreatExL
import Derived.Test.YtcjfgejiknlpfaaGreatJ0
namespace Go.Proofs.YtcjfgejiknlpfaaGreat.PI
open Go.RowKit Go.Proofs.YtcjfgejiknlpfaaGreatW.PrintWords
set_option linter.unusedVariables false
def bEve : ByteArray := ⟨#[101, 118, 101]⟩
def ppl : List ByteArray := [bAnn, bBob, bEve]
def txts : List ByteArray := [⟨#[100, 105, 115, 107, 32, 102, 117, 108, 108]⟩, ⟨#[115, 108, 111, 119]⟩, ⟨#[120]⟩]
theorem ppl_ok : sleuthlaw51_people.f = some ppl := rfl
def nm3 (i : Int) : ByteArray := rdOf ByteArray.empty ppl (i % 3)
def tx3 (i : Int) : ByteArray := rdOf ByteArray.empty txts (i % 3)
structure U8s (a : S61) : Prop where
  r0 : 0 ≤ a.f0 ∧ a.f0 ≤ 255
  r1 : 0 ≤ a.f1 ∧ a.f1 ≤ 255
  r2 : 0 ≤ a.f2 ∧ a.f2 ≤ 255
  r3 : 0 ≤ a.f3 ∧ a.f3 ≤ 255
  r4 : 0 ≤ a.f4 ∧ a.f4 ≤ 255
  r5 : 0 ≤ a.f5 ∧ a.f5 ≤ 255
  r6 : 0 ≤ a.f6 ∧ a.f6 ≤ 255
  r7 : 0 ≤ a.f7 ∧ a.f7 ≤ 255
def e0 : ByteArray := ⟨#[]⟩
def decE (a : S61) : S50 :=
  if 1 + a.f3 % 9 = 1 ∨ 1 + a.f3 % 9 = 2 ∨ 1 + a.f3 % 9 = 3 then ⟨⟨nm3 a.f0, 1 + a.f1 % 6⟩, a.f2 % 40, 1 + a.f3 % 9, z33, e0, 0, tx3 a.f7⟩
  else if 1 + a.f3 % 9 = 4 ∨ 1 + a.f3 % 9 = 5 ∨ 1 + a.f3 % 9 = 7 then ⟨⟨nm3 a.f0, 1 + a.f1 % 6⟩, a.f2 % 40, 1 + a.f3 % 9, ⟨nm3 a.f4, 1 + a.f4 / 3 % 6⟩, e0, 0, e0⟩
  else if 1 + a.f3 % 9 = 9 then ⟨⟨nm3 a.f0, 1 + a.f1 % 6⟩, a.f2 % 40, 1 + a.f3 % 9, z33, nm3 a.f5, 1 + a.f6 % 3, e0⟩
  else ⟨⟨nm3 a.f0, 1 + a.f1 % 6⟩, a.f2 % 40, 1 + a.f3 % 9, z33, e0, 0, e0⟩
theorem decE_kind (a : S61) : 1 ≤ (decE a).f2 ∧ (decE a).f2 ≤ 9 := by
  have h : (decE a).f2 = 1 + a.f3 % 9 := by
    unfold decE
    split
    · rfl
    · split
      · rfl
      · split <;> rfl
  rw [h]
  omega
end Go.Proofs.YtcjfgejiknlpfaaGreat.PI
