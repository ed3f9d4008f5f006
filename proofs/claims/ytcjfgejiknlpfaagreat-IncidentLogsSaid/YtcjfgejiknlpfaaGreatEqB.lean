/- Comparisons of strings and of structs, as the prints spell them. No walk. -/
import Derived.Test.YtcjfgejiknlpfaaGreatJ4
namespace Go.Proofs.YtcjfgejiknlpfaaGreat.PI
open Go.RowKit Go.Proofs.YtcjfgejiknlpfaaGreatW.PrintWords
set_option linter.unusedVariables false
set_option linter.unusedSimpArgs false
theorem bytes_iff (a b : ByteArray) : (a.toList == b.toList) = decide (a = b) := by
  by_cases h : a = b
  · subst h; simp
  · have h2 : ¬ a.toList = b.toList := fun e => h (bytes_ext _ _ e)
    rw [decide_eq_false h]
    simpa using h2
instance decS49 : DecidableEq S69 := fun x y => decidable_of_iff (x.f0 = y.f0 ∧ x.f1 = y.f1) (by obtain ⟨a, b⟩ := x; obtain ⟨c, d⟩ := y; simp)
instance decS51 : DecidableEq S71 := fun x y => decidable_of_iff (x.f0 = y.f0 ∧ x.f1 = y.f1 ∧ x.f2 = y.f2) (by obtain ⟨a, b, e⟩ := x; obtain ⟨c, d, f⟩ := y; simp)
theorem w64 (i : Nat) (h : i < 1000000) : wrap64 ((i : Int) + 1) = ((i + 1 : Nat) : Int) := by unfold wrap64; omega
theorem ne49 (x y : S69) : ((!(x.f0.toList == y.f0.toList)) || (!(x.f1 == y.f1))) = !decide (x = y) := by
  rw [bytes_iff]
  obtain ⟨a, b⟩ := x
  obtain ⟨c, d⟩ := y
  by_cases h1 : a = c <;> by_cases h2 : b = d <;> simp [h1, h2]
theorem ne51 (x y : S71) : (((!(x.f0.f0.toList == y.f0.f0.toList)) || (!(x.f0.f1 == y.f0.f1))) || ((!(x.f1.toList == y.f1.toList)) || (!(x.f2 == y.f2)))) = !decide (x = y) := by
  rw [bytes_iff, bytes_iff]
  obtain ⟨⟨a, a2⟩, b, e⟩ := x
  obtain ⟨⟨c, c2⟩, d, f⟩ := y
  by_cases h1 : a = c <;> by_cases h2 : b = d <;> by_cases h3 : a2 = c2 <;> by_cases h4 : e = f <;> simp [h1, h2, h3, h4]
instance decPS : DecidableEq PS := fun x y => decidable_of_iff (x.st = y.st ∧ x.ti = y.ti ∧ x.op = y.op ∧ x.en = y.en ∧ x.ca = y.ca ∧ x.pe = y.pe ∧ x.th = y.th ∧ x.no = y.no) (by obtain ⟨⟩ := x; obtain ⟨⟩ := y; simp)
end Go.Proofs.YtcjfgejiknlpfaaGreat.PI
