/- Comparisons of strings, as the walk is to tell them. -/
import Derived.Test.YtcjfgejiknlpfaaV0
import Derived.Laws.Strings
namespace Go.Proofs.YtcjfgejiknlpfaaW.PrintWords
theorem bytesLess_flip : ∀ x y : List UInt8, (!(Op.bytesLess x y || x == y)) = Op.bytesLess y x
  | [], [] => rfl
  | [], _ :: _ => rfl
  | _ :: _, [] => rfl
  | a :: x, b :: y => by
    have ih := bytesLess_flip x y
    simp only [Op.bytesLess]
    by_cases h1 : a < b
    · have h2 : ¬ b < a := by rw [UInt8.lt_iff_toNat_lt] at *; omega
      have h3 : (b == a) = false := by
        rw [beq_eq_false_iff_ne]; rintro rfl; rw [UInt8.lt_iff_toNat_lt] at h1; omega
      simp [h1, h2, h3]
    · by_cases h2 : a = b
      · subst h2
        have h4 : (a :: x == a :: y) = (x == y) := by simp
        simp only [h1, decide_false, Bool.false_or, beq_self_eq_true, Bool.true_and, h4]
        exact ih
      · have h3 : b < a := by
          rw [UInt8.lt_iff_toNat_lt] at *
          have : a.toNat ≠ b.toNat := fun h => h2 (UInt8.toNat_inj.mp h)
          omega
        have h4 : (a == b) = false := by rw [beq_eq_false_iff_ne]; exact h2
        have h5 : (a :: x == b :: y) = false := by rw [beq_eq_false_iff_ne]; intro h; exact h2 (List.cons.inj h).1
        simp [h1, h3, h4, h5]
theorem str_gtr (t : TypeId) (a b : ByteArray) : binOp .gtr t (.string a) (.string b) = pure (.bool (Op.bytesLess b.toList a.toList)) := by
  have h : binOp .gtr t (.string a) (.string b) = pure (.bool !(Op.bytesLess a.toList b.toList || a.toList == b.toList)) := by simp [binOp, Op.stringOp]
  rw [h, bytesLess_flip]
theorem str_leq (t : TypeId) (a b : ByteArray) : binOp .leq t (.string a) (.string b) = pure (.bool !(Op.bytesLess b.toList a.toList)) := by
  have h : binOp .leq t (.string a) (.string b) = pure (.bool (Op.bytesLess a.toList b.toList || a.toList == b.toList)) := by simp [binOp, Op.stringOp]
  rw [h, ← bytesLess_flip a.toList b.toList, Bool.not_not]
theorem str_geq (t : TypeId) (a b : ByteArray) : binOp .geq t (.string a) (.string b) = pure (.bool !(Op.bytesLess a.toList b.toList)) := by simp [binOp, Op.stringOp]
end Go.Proofs.YtcjfgejiknlpfaaW.PrintWords
