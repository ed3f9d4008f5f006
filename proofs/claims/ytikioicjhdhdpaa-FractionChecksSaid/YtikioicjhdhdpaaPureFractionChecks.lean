/- FractionChecks, in plain numbers. -/
import Derived.Test.YtikioicjhdhdpaaMath3
import Derived.Test.YtikioicjhdhdpaaPFx20
-- NEEDS F: sleuthlaw02_FractionChecks fraction_Check
namespace Go.Proofs.Ytikioicjhdhdpaa.Pure
open Go.RowKit Go.Proofs.Ytikioicjhdhdpaa.PF Go.Proofs.YtikioicjhdhdpaaW.PrintWords Go.Proofs.YtikioicjhdhdpaaW.PrintLast
set_option linter.unusedVariables false
theorem FractionChecks : sleuthlaw02_FractionChecks.Pure := by
  intro a b ha hb
  have ha := wf64 _ ha
  have hb := wf64 _ hb
  refine ⟨400, ?_⟩
  unfold sleuthlaw02_FractionChecks.f
  rw [Check_ok _ (by omega), Option.bind_some, known_ok _ (by omega)]
  have hc : fraction_Check.f 400 a b = some (if can a b then 0 else 3) := by
    unfold fraction_Check.f
    rw [Make_ok _ (by omega) a b (by omega) (by omega) (by omega) (by omega), Option.bind_some]
    unfold mkE
    by_cases c : can a b
    · have c1 := c.1
      rw [if_pos c, if_neg (show ¬ b = 0 by omega), mk_can a b c]
      simp
    · rw [if_neg c]
      by_cases h0 : b = 0
      · rw [if_pos h0]; rfl
      · rw [if_neg h0]
        cases e : mk a b with
        | none => rfl
        | some p =>
          have hne : ¬ (p.1 = a ∧ p.2 = b) := by
            rintro ⟨rfl, rfl⟩
            apply c
            by_cases hp : 0 < p.2
            · exact (mk_rep _ _ _ _ hp e).1
            · unfold mk at e
              split at e
              · have e := congrArg Prod.snd (Option.some.inj e)
                dsimp only at e
                have : 0 ≤ ((p.2.natAbs / Nat.gcd p.1.natAbs p.2.natAbs : Nat) : Int) := Int.natCast_nonneg _
                omega
              · exact absurd e (by simp)
          dsimp only
          rw [if_pos rfl, if_pos (by
            by_cases h1 : p.1 = a
            · have h2 : ¬ p.2 = b := fun h => hne ⟨h1, h⟩
              simp [h2]
            · simp [h1])]
  by_cases c : can a b
  · rw [decide_eq_true c, if_pos rfl, Option.bind_some, if_pos rfl, hc, if_pos c]; rfl
  · rw [decide_eq_false c, if_neg (by decide), Option.bind_some, if_pos rfl, hc, if_neg c]; rfl
end Go.Proofs.Ytikioicjhdhdpaa.Pure
