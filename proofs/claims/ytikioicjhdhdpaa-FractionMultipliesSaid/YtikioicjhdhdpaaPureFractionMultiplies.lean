/- FractionMultiplies, in plain numbers. -/
import Derived.Test.YtikioicjhdhdpaaMath3
import Derived.Test.YtikioicjhdhdpaaPFx19
-- NEEDS F: sleuthlaw02_FractionMultiplies
namespace Go.Proofs.Ytikioicjhdhdpaa.Pure
open Go.RowKit Go.Proofs.Ytikioicjhdhdpaa.PF Go.Proofs.YtikioicjhdhdpaaW.PrintWords Go.Proofs.YtikioicjhdhdpaaW.PrintLast
set_option linter.unusedVariables false
theorem FractionMultiplies : sleuthlaw02_FractionMultiplies.Pure := by
  intro a b c d ha hb hc hd
  refine ⟨400, ?_⟩
  unfold sleuthlaw02_FractionMultiplies.f
  have out : ∀ j, 201 ≤ j → sleuthlaw02_FractionMultiplies.j0 j true a b c d = some true := by
    intro j hj
    obtain ⟨j, rfl⟩ : ∃ i, j = i + 1 := ⟨j - 1, by omega⟩
    rw [sleuthlaw02_FractionMultiplies.j0, if_pos rfl, known_ok _ (by omega)]; rfl
  rw [known_ok _ (by omega), Option.bind_some, if_pos rfl, Check_ok _ (by omega), Option.bind_some]
  by_cases hf : can a b
  · rw [decide_eq_true hf, if_pos rfl, Check_ok _ (by omega), Option.bind_some]
    by_cases hg : can c d
    · rw [decide_eq_true hg, sleuthlaw02_FractionMultiplies.j0, if_neg (by decide), Mul_ok _ (by omega) a b c d hf hg, Option.bind_some, RMul_ok _ (by omega) a b c d hf hg, Option.bind_some]
      have e4 := mul_pos2 b d hf.1 hg.1
      rw [is_mk _ _ (by omega), Option.bind_some, if_pos rfl, Div_ok _ (by omega) a b c d hf hg, Option.bind_some]
      by_cases h0 : c = 0
      · rw [if_pos h0, h0, Int.mul_zero]
        rfl
      · have e5 : b * c ≠ 0 := Int.mul_ne_zero (by have := hf.1; omega) h0
        rw [if_neg h0, RDiv_ok _ (by omega) a b c d hf hg h0, Option.bind_some, is_mk _ _ e5]
        rfl
    · rw [decide_eq_false hg]; exact out _ (by omega)
  · rw [decide_eq_false hf, if_neg (by decide)]; exact out _ (by omega)
end Go.Proofs.Ytikioicjhdhdpaa.Pure
