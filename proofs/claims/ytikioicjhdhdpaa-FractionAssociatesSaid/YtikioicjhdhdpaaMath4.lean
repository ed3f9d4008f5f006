/- Comparing, in plain numbers. -/
import Derived.Test.YtikioicjhdhdpaaMath3
import Derived.Test.YtikioicjhdhdpaaPFx26
-- NEEDS F: fraction_Compare fraction_sign sleuthref02_Compare
namespace Go.Proofs.Ytikioicjhdhdpaa.PF
open Go.RowKit Go.Proofs.YtikioicjhdhdpaaW.PrintWords Go.Proofs.YtikioicjhdhdpaaW.PrintLast Go.Proofs.YtikioicjhdhdpaaW.PrintMore
set_option linter.unusedVariables false

def cmp (p q : Int) : Int := if p < q then -1 else if p > q then 1 else 0
theorem cmp_bd (p q : Int) : -1 ≤ cmp p q ∧ cmp p q ≤ 1 := by
  unfold cmp
  by_cases h : p < q
  · rw [if_pos h]; omega
  · rw [if_neg h]; by_cases h2 : p > q
    · rw [if_pos h2]; omega
    · rw [if_neg h2]; omega
theorem cmp_zero (p q : Int) (h0 : cmp p q = 0) : p = q := by
  unfold cmp at h0
  by_cases h : p < q
  · rw [if_pos h] at h0; omega
  · rw [if_neg h] at h0; by_cases h2 : p > q
    · rw [if_pos h2] at h0; omega
    · omega
theorem cmp_neg (p q : Int) : cmp q p = -(cmp p q) := by
  unfold cmp
  rcases Int.lt_trichotomy p q with h | h | h
  · rw [if_neg (by omega), if_pos (by omega), if_pos h]; omega
  · rw [if_neg (by omega), if_neg (by omega), if_neg (by omega), if_neg (by omega)]; omega
  · rw [if_pos h, if_neg (by omega), if_pos h]
theorem cmp_lt (p q : Int) : cmp p q < 0 ↔ p < q := by
  unfold cmp
  by_cases h : p < q
  · rw [if_pos h]; omega
  · rw [if_neg h]; by_cases h2 : p > q
    · rw [if_pos h2]; omega
    · rw [if_neg h2]; omega
theorem can_bd (a b c d : Int) (hf : can a b) (hg : can c d) : (-1099511627776 ≤ a * d ∧ a * d ≤ 1099511627776) ∧ (-1099511627776 ≤ c * b ∧ c * b ≤ 1099511627776) := by
  obtain ⟨f1, f2, f3, f4, _⟩ := hf
  obtain ⟨g1, g2, g3, g4, _⟩ := hg
  exact ⟨mul_bd a d (by omega) (by omega) (by omega) (by omega), mul_bd c b (by omega) (by omega) (by omega) (by omega)⟩
theorem RCompare_ok (a b c d : Int) (hf : can a b) (hg : can c d) : sleuthref02_Compare.f a b c d = some (cmp (a * d) (c * b)) := by
  obtain ⟨e1, e2⟩ := can_bd a b c d hf hg
  unfold sleuthref02_Compare.f cmp
  rw [wr_small (a * d) (by omega) (by omega), wr_small (c * b) (by omega) (by omega)]
  split
  · rfl
  · split <;> rfl
theorem Compare_ok (a b c d : Int) (hf : can a b) (hg : can c d) : fraction_Compare.f a b c d = some (cmp (a * d) (c * b)) := by
  obtain ⟨e1, e2⟩ := can_bd a b c d hf hg
  unfold fraction_Compare.f fraction_sign.f cmp
  rw [wr_small (a * d) (by omega) (by omega), wr_small (c * b) (by omega) (by omega), wr_small (a * d - c * b) (by omega) (by omega)]
  rcases Int.lt_trichotomy (a * d) (c * b) with h | h | h
  · rw [if_pos (by omega), if_pos h]; rfl
  · rw [if_neg (by omega), if_neg (by omega), if_neg (by omega), if_neg (by omega)]; rfl
  · rw [if_neg (by omega), if_pos (by omega), if_neg (by omega), if_pos (by omega)]; rfl
theorem can_eq (a b c d : Int) (hf : can a b) (hg : can c d) (h : a * d = c * b) : a = c ∧ b = d := by
  have e : mk a b = mk c d := by
    rw [← mk_scale d a b hg.1, ← mk_scale b c d hf.1, Int.mul_comm d a, h, Int.mul_comm d b, Int.mul_comm c b]
  rw [mk_can a b hf, mk_can c d hg] at e
  exact Prod.mk.inj (Option.some.inj e)
end Go.Proofs.Ytikioicjhdhdpaa.PF
