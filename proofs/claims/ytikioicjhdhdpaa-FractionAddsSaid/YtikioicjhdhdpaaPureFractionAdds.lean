/- FractionAdds, in plain numbers. -/
import Derived.Test.YtikioicjhdhdpaaMath3
import Derived.Test.YtikioicjhdhdpaaPFx17
-- NEEDS F: sleuthlaw02_FractionAdds
namespace Go.Proofs.Ytikioicjhdhdpaa.Pure
open Go.RowKit Go.Proofs.Ytikioicjhdhdpaa.PF Go.Proofs.YtikioicjhdhdpaaW.PrintWords Go.Proofs.YtikioicjhdhdpaaW.PrintLast
set_option linter.unusedVariables false
theorem FractionAdds : sleuthlaw02_FractionAdds.Pure := by
  intro a b c d ha hb hc hd
  refine ⟨400, ?_⟩
  unfold sleuthlaw02_FractionAdds.f
  have out : ∀ j, 201 ≤ j → sleuthlaw02_FractionAdds.j0 j true a b c d = some true := by
    intro j hj
    obtain ⟨j, rfl⟩ : ∃ i, j = i + 1 := ⟨j - 1, by omega⟩
    rw [sleuthlaw02_FractionAdds.j0, if_pos rfl, known_ok _ (by omega)]; rfl
  rw [known_ok _ (by omega), Option.bind_some, if_pos rfl, Check_ok _ (by omega), Option.bind_some]
  by_cases hf : can a b
  · rw [decide_eq_true hf, if_pos rfl, Check_ok _ (by omega), Option.bind_some]
    by_cases hg : can c d
    · have e4 := mul_pos2 b d hf.1 hg.1
      rw [decide_eq_true hg, sleuthlaw02_FractionAdds.j0, if_neg (by decide), Add_ok _ (by omega) a b c d hf hg, Option.bind_some, RAdd_ok _ (by omega) a b c d hf hg, Option.bind_some,
        Sub_ok _ (by omega) a b c d hf hg, Option.bind_some, RSub_ok _ (by omega) a b c d hf hg, Option.bind_some, Add_ok _ (by omega) c d a b hg hf, Option.bind_some, is_mk _ _ (by omega), Option.bind_some, if_pos rfl, is_mk _ _ (by omega), Option.bind_some, if_pos rfl,
        Int.add_comm (c * b), Int.mul_comm d b, if_neg (by simp), sleuthlaw02_FractionAdds.j1, if_neg (by simp)]
      by_cases h0 : (mkE (a * d + c * b) (b * d)).2.2 = 0
      · have hm := mkE_can _ _ _ _ (by omega) h0 rfl rfl
        obtain ⟨x, hx⟩ : ∃ x, (mkE (a * d + c * b) (b * d)).1 = x := ⟨_, rfl⟩
        obtain ⟨y, hy⟩ : ∃ y, (mkE (a * d + c * b) (b * d)).2.1 = y := ⟨_, rfl⟩
        rw [hx, hy] at hm
        rw [if_pos h0, hx, hy, Sub_ok _ (by omega) x y c d (mk_rep _ _ _ _ (by omega) hm).1 hg, Option.bind_some, back a b c d x y hf hg hm]
        simp
      · rw [if_neg h0]
    · rw [decide_eq_false hg]; exact out _ (by omega)
  · rw [decide_eq_false hf, if_neg (by decide)]; exact out _ (by omega)
end Go.Proofs.Ytikioicjhdhdpaa.Pure
