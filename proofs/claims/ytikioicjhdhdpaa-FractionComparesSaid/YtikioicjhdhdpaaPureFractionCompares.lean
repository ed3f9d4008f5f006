/- FractionCompares, in plain numbers. -/
import Derived.Test.YtikioicjhdhdpaaMath4
import Derived.Test.YtikioicjhdhdpaaPFx8
import Derived.Test.YtikioicjhdhdpaaPFx17
import Derived.Test.YtikioicjhdhdpaaPFx26
import Derived.Test.YtikioicjhdhdpaaPFx27
-- NEEDS F: sleuthlaw02_FractionCompares fraction_Compare fraction_sign fraction_Sign fraction_Min fraction_Max fraction_Neg sleuthref02_Compare sleuthref02_Of
namespace Go.Proofs.Ytikioicjhdhdpaa.Pure
open Go.RowKit Go.Proofs.Ytikioicjhdhdpaa.PF Go.Proofs.YtikioicjhdhdpaaW.PrintWords Go.Proofs.YtikioicjhdhdpaaW.PrintLast
set_option linter.unusedVariables false
theorem FractionCompares : sleuthlaw02_FractionCompares.Pure := by
  intro a b c d ha hb hc hd
  refine ⟨400, ?_⟩
  unfold sleuthlaw02_FractionCompares.f
  have out : ∀ j, 201 ≤ j → sleuthlaw02_FractionCompares.j0 j true a b c d = some true := by
    intro j hj
    obtain ⟨j, rfl⟩ : ∃ i, j = i + 1 := ⟨j - 1, by omega⟩
    rw [sleuthlaw02_FractionCompares.j0, if_pos rfl, known_ok _ (by omega)]; rfl
  rw [known_ok _ (by omega), Option.bind_some, if_pos rfl, Check_ok _ (by omega), Option.bind_some]
  by_cases hf : can a b
  · rw [decide_eq_true hf, if_pos rfl, Check_ok _ (by omega), Option.bind_some]
    by_cases hg : can c d
    · rw [decide_eq_true hg, sleuthlaw02_FractionCompares.j0, if_neg (by decide), RCompare_ok a b c d hf hg, Option.bind_some]
      have hs : fraction_Sign.f a b = some (cmp (a * 1) (0 * b)) := by
        unfold fraction_Sign.f fraction_sign.f cmp
        rw [Int.mul_one, Int.zero_mul]
        rcases Int.lt_trichotomy a 0 with h | h | h
        · rw [if_pos h, if_pos h]; rfl
        · rw [if_neg (by omega), if_neg (by omega), if_neg (by omega), if_neg (by omega)]; rfl
        · rw [if_neg (by omega), if_pos (by omega), if_neg (by omega), if_pos (by omega)]; rfl
      have h01 : can 0 1 := by decide
      have main : ∀ l1 l2 h1 h2, fraction_Min.f a b c d = some (l1, l2) → fraction_Max.f a b c d = some (h1, h2) → sleuthlaw02_FractionCompares.j1 399 (cmp (a * d) (c * b)) a b c d l1 l2 h1 h2 = some true := by
        intro l1 l2 h1 h2 e1 e2
        rw [sleuthlaw02_FractionCompares.j1, Compare_ok a b c d hf hg, Option.bind_some, if_pos rfl, Compare_ok c d a b hg hf, Option.bind_some, cmp_neg, wr_small (-(cmp (a * d) (c * b))) (by have := cmp_bd (a * d) (c * b); omega) (by have := cmp_bd (a * d) (c * b); omega), if_pos rfl, hs, Option.bind_some]
        unfold sleuthref02_Of.f
        rw [RMake_ok _ (by omega) 0 1 (by omega) (by omega) (by omega) (by omega) (by omega), Option.bind_some, Option.bind_some]
        rw [show (mkB 0 1).1 = 0 from by decide, show (mkB 0 1).2.1 = 1 from by decide, RCompare_ok a b 0 1 hf h01, Option.bind_some, if_pos rfl, e1, Option.bind_some, if_pos (by simp), e2, Option.bind_some, if_pos (by simp)]
        unfold fraction_Neg.f
        simp
      have hn : fraction_Min.f a b c d = some (if cmp (a * d) (c * b) ≤ 0 then (a, b) else (c, d)) := by
        unfold fraction_Min.f
        rw [Compare_ok a b c d hf hg, Option.bind_some]; split <;> rfl
      have hx : fraction_Max.f a b c d = some (if cmp (a * d) (c * b) ≥ 0 then (a, b) else (c, d)) := by
        unfold fraction_Max.f
        rw [Compare_ok a b c d hf hg, Option.bind_some]; split <;> rfl
      by_cases h : cmp (a * d) (c * b) > 0
      · rw [if_pos h]
        rw [if_neg (by omega)] at hn
        rw [if_pos (by omega)] at hx
        exact main _ _ _ _ hn hx
      · rw [if_neg h]
        rw [if_pos (by omega)] at hn
        by_cases h0 : cmp (a * d) (c * b) = 0
        · obtain ⟨rfl, rfl⟩ := can_eq a b c d hf hg (cmp_zero _ _ h0)
          rw [if_pos (by omega)] at hx
          exact main _ _ _ _ hn hx
        · rw [if_neg (by omega)] at hx
          exact main _ _ _ _ hn hx
    · rw [decide_eq_false hg]; exact out _ (by omega)
  · rw [decide_eq_false hf, if_neg (by decide)]; exact out _ (by omega)
end Go.Proofs.Ytikioicjhdhdpaa.Pure
