/- What the Reader's functions do, in plain numbers: the value, the place, the error. -/
import Derived.Test.YtddhpkobingmhaaSk34
namespace Go.Proofs.Ytddhpkobingmhaa.Sep
open Go.RowKit Go.Proofs.YtddhpkobingmhaaW.PrintWords Go.Proofs.YtddhpkobingmhaaW.PrintLast
def numS (s : ByteArray) (a : Nat) (er : Int) : Int × Nat × Int :=
  if er = 0 then (if (numR s a).2.2 = 0 then ((numR s a).1, (numR s a).2.1, 0) else (0, a, (numR s a).2.2)) else (0, a, er)
def boolE (s : ByteArray) (a : Nat) : Int := if (numR s a).2.2 = 0 then (if (numR s a).1 = 0 ∨ (numR s a).1 = 1 then 0 else 3) else (numR s a).2.2
def boolS (s : ByteArray) (a : Nat) (er : Int) : Bool × Nat × Int :=
  if er = 0 then (if boolE s a = 0 then (decide ((numR s a).1 = 1), (numR s a).2.1, 0) else (false, a, boolE s a)) else (false, a, er)
def sizE (s : ByteArray) (a : Nat) (most more : Int) : Int :=
  if (numR s a).2.2 = 0 then (if (numR s a).1 < 0 then 3 else if most < (numR s a).1 then more else if (s.size : Int) - (numR s a).2.1 < (numR s a).1 then 4 else 0) else (numR s a).2.2
def cntS (s : ByteArray) (a : Nat) (er most : Int) : Int × Nat × Int :=
  if er = 0 then (if sizE s a most 6 = 0 then ((numR s a).1, (numR s a).2.1, 0) else (0, a, sizE s a most 6)) else (0, a, er)
def txtS (s : ByteArray) (a : Nat) (er most : Int) : ByteArray × Nat × Int :=
  if er = 0 then (if sizE s a most 5 = 0 then (s.extract (numR s a).2.1 ((numR s a).2.1 + (numR s a).1.toNat), (numR s a).2.1 + (numR s a).1.toNat, 0) else (⟨#[]⟩, a, sizE s a most 5)) else (⟨#[]⟩, a, er)
theorem numR_le (s : ByteArray) (a : Nat) (h : (numR s a).2.2 = 0) : (numR s a).2.1 ≤ s.size ∧ a < (numR s a).2.1 := by
  unfold numR at h ⊢
  by_cases h1 : s.size ≤ a
  · rw [if_pos h1] at h; simp at h
  rw [if_neg h1] at h ⊢
  generalize szR (bt s a).toNat = sz at h ⊢
  generalize decide ((bt s a).toNat < 128) = neg at h ⊢
  unfold numQ at h ⊢
  by_cases h2 : 8 < sz
  · rw [if_pos h2] at h; simp at h
  rw [if_neg h2] at h ⊢
  by_cases h3 : s.size - (a + 1) < sz
  · rw [if_pos h3] at h; simp at h
  rw [if_neg h3] at h ⊢
  by_cases h4 : 0 < sz ∧ dgt s neg (a + 1) = 0
  · rw [if_pos h4] at h; simp at h
  rw [if_neg h4] at h ⊢
  by_cases h5 : (neg = false ∧ 9223372036854775807 < nmF s neg (a + 1) sz) ∨ 9223372036854775808 < nmF s neg (a + 1) sz
  · rw [if_pos h5] at h; simp at h
  rw [if_neg h5] at h ⊢
  simp only
  omega
end Go.Proofs.Ytddhpkobingmhaa.Sep
