/- FractionMakes, in plain numbers. -/
import Derived.Test.YtikioicjhdhdpaaMath3
import Derived.Test.YtikioicjhdhdpaaPFx14
-- NEEDS F: sleuthlaw02_FractionMakes
namespace Go.Proofs.Ytikioicjhdhdpaa.Pure
open Go.RowKit Go.Proofs.Ytikioicjhdhdpaa.PF Go.Proofs.YtikioicjhdhdpaaW.PrintWords Go.Proofs.YtikioicjhdhdpaaW.PrintLast
set_option linter.unusedVariables false
theorem FractionMakes : sleuthlaw02_FractionMakes.Pure := by
  intro a b ha hb
  have ha := wf64 _ ha
  have hb := wf64 _ hb
  refine ⟨400, ?_⟩
  unfold sleuthlaw02_FractionMakes.f
  rw [known_ok _ (by omega), Option.bind_some, if_pos rfl, RMake_ok _ (by omega) a 1 (by omega) (by omega) (by omega) (by omega) (by omega), Option.bind_some, FromInt_ok _ (by omega) a (by omega) (by omega), Option.bind_some, is_mk a 1 (by omega), Option.bind_some, if_pos rfl, Make_ok _ (by omega) a b (by omega) (by omega) (by omega) (by omega), Option.bind_some]
  by_cases c : b = 0
  · subst c
    rw [if_pos rfl]
    rfl
  · rw [if_neg c, RMake_ok _ (by omega) a b c (by omega) (by omega) (by omega) (by omega), Option.bind_some, is_mk a b c]
    rfl
end Go.Proofs.Ytikioicjhdhdpaa.Pure
