/- FractionRounds, in plain numbers. -/
import Derived.Test.YtikioicjhdhdpaaMath3
import Derived.Test.YtikioicjhdhdpaaPFx7
import Derived.Test.YtikioicjhdhdpaaPFx20
import Derived.Test.YtikioicjhdhdpaaPFx21
import Derived.Test.YtikioicjhdhdpaaPFx22
-- NEEDS F: sleuthlaw02_FractionRounds fraction_Floor fraction_Ceil fraction_MulFloor fraction_MulCeil sleuthref02_Floor sleuthref02_Ceil sleuthref02_MulFloor sleuthref02_MulCeil
namespace Go.Proofs.Ytikioicjhdhdpaa.Pure
open Go.RowKit Go.Proofs.Ytikioicjhdhdpaa.PF Go.Proofs.YtikioicjhdhdpaaW.PrintWords Go.Proofs.YtikioicjhdhdpaaW.PrintLast
set_option linter.unusedVariables false
theorem tdiv_floor (v b : Int) (h1 : 1 ≤ b) : (if Int.tmod v b < 0 then Int.tdiv v b - 1 else Int.tdiv v b) = v / b := by
  rw [Int.tdiv_eq_ediv, Int.tmod_eq_emod]
  have hm := Int.emod_nonneg v (show b ≠ 0 by omega)
  have hl := Int.emod_lt_of_pos v (show 0 < b by omega)
  by_cases c : 0 ≤ v ∨ b ∣ v
  · rw [if_pos c, if_pos c, if_neg (by omega)]; omega
  · rw [if_neg c, if_neg c, if_pos (by omega), Int.sign_eq_one_of_pos (by omega)]; omega
theorem div_bd (v b : Int) (h1 : 1 ≤ b) (v0 : -1152921504606846976 ≤ v) (v1 : v ≤ 1152921504606846976) : -1152921504606846976 ≤ v / b ∧ v / b ≤ 1152921504606846976 := by
  constructor
  · apply Int.le_ediv_of_mul_le (by omega); have : -1152921504606846976 * b ≤ -1152921504606846976 * 1 := by apply Int.mul_le_mul_of_nonpos_left <;> omega
    omega
  · apply Int.ediv_le_of_le_mul (by omega); have : 1152921504606846976 * 1 ≤ 1152921504606846976 * b := by apply Int.mul_le_mul_of_nonneg_left <;> omega
    omega
theorem floor_ok (v b : Int) (h1 : 1 ≤ b) (h2 : b ≤ 1048576) (v0 : -1152921504606846976 ≤ v) (v1 : v ≤ 1152921504606846976) : fraction_floor.f v b = some (v / b) := by
  unfold fraction_floor.f
  have hb := div_bd v b h1 v0 v1
  have ht := tdiv_floor v b h1
  rw [if_neg (by omega)]
  by_cases c : Int.tmod v b < 0
  · rw [if_pos c] at ht ⊢
    rw [wr_small (Int.tdiv v b) (by omega) (by omega), wr_small _ (by omega) (by omega), ht]
  · rw [if_neg c] at ht ⊢
    rw [wr_small _ (by omega) (by omega), ht]
theorem rfloor_ok (v b : Int) (h1 : 1 ≤ b) (h2 : b ≤ 1048576) (v0 : -1152921504606846976 ≤ v) (v1 : v ≤ 1152921504606846976) : sleuthref02_floor.f v b = some (v / b) := floor_ok v b h1 h2 v0 v1
theorem floors (v b : Int) (h1 : 1 ≤ b) (h2 : b ≤ 1048576) (v0 : -1152921504606846976 ≤ v) (v1 : v ≤ 1152921504606846976) : 0 ≤ -((-v) / b) - v / b ∧ -((-v) / b) - v / b ≤ 1 ∧ (-1152921504606846976 ≤ v / b ∧ v / b ≤ 1152921504606846976) ∧ (-1152921504606846976 ≤ (-v) / b ∧ (-v) / b ≤ 1152921504606846976) := by
  refine ⟨?_, ?_, div_bd v b h1 v0 v1, div_bd (-v) b h1 (by omega) (by omega)⟩
  · have e1 := Int.mul_ediv_add_emod v b
    have e2 := Int.mul_ediv_add_emod (-v) b
    have m1 := Int.emod_nonneg v (show b ≠ 0 by omega)
    have m2 := Int.emod_nonneg (-v) (show b ≠ 0 by omega)
    have : b * (v / b + (-v) / b) ≤ 0 := by rw [Int.mul_add]; omega
    have : v / b + (-v) / b ≤ 0 := by
      apply Int.not_lt.mp; intro h
      have := Int.mul_pos (show 0 < b by omega) h
      omega
    omega
  · have e1 := Int.mul_ediv_add_emod v b
    have e2 := Int.mul_ediv_add_emod (-v) b
    have m1 := Int.emod_lt_of_pos v (show 0 < b by omega)
    have m2 := Int.emod_lt_of_pos (-v) (show 0 < b by omega)
    have h : -(b * 2) < b * (v / b + (-v) / b) := by rw [Int.mul_add]; omega
    have : -2 < v / b + (-v) / b := by
      apply Int.not_le.mp; intro h3
      have := Int.mul_le_mul_of_nonneg_left h3 (show 0 ≤ b by omega)
      omega
    omega
theorem FractionRounds : sleuthlaw02_FractionRounds.Pure := by
  intro a b n ha hb hn
  have hn := wf64 _ hn
  refine ⟨400, ?_⟩
  unfold sleuthlaw02_FractionRounds.f
  have out : ∀ j, 201 ≤ j → sleuthlaw02_FractionRounds.j0 j n true a b = some true := by
    intro j hj
    obtain ⟨j, rfl⟩ : ∃ i, j = i + 1 := ⟨j - 1, by omega⟩
    rw [sleuthlaw02_FractionRounds.j0, if_pos rfl, known_ok _ (by omega)]; rfl
  rw [known_ok _ (by omega), Option.bind_some, if_pos rfl, Check_ok _ (by omega), Option.bind_some]
  by_cases hf : can a b
  · have hf' := hf
    obtain ⟨f1, f2, f3, f4, _⟩ := hf'
    rw [decide_eq_true hf, sleuthlaw02_FractionRounds.j0, if_neg (by decide)]
    unfold fraction_Floor.f sleuthref02_Floor.f sleuthref02_MulFloor.f fraction_Ceil.f sleuthref02_Ceil.f sleuthref02_MulCeil.f
    rw [Int.one_mul, wr_small a (by omega) (by omega), wr_small (-a) (by omega) (by omega), floor_ok a b f1 f2 (by omega) (by omega), rfloor_ok a b f1 f2 (by omega) (by omega), floor_ok (-a) b f1 f2 (by omega) (by omega), rfloor_ok (-a) b f1 f2 (by omega) (by omega)]
    simp only [Option.bind_some, if_true]
    rw [sleuthlaw02_FractionRounds.j1, if_neg (by simp)]
    unfold fraction_MulFloor.f fraction_MulCeil.f fraction_Neg.f
    rw [Option.bind_some]
    unfold fraction_MulFloor.f
    rw [wr_small (-a) (by omega) (by omega)]
    by_cases c1 : n < -1099511627776
    · rw [if_pos c1, if_pos c1, Option.bind_some, Option.bind_some, Option.bind_some, if_pos c1, sleuthlaw02_FractionRounds.j2, if_pos rfl]
      decide +kernel
    · rw [if_neg c1, if_neg c1]
      by_cases c2 : n > 1099511627776
      · rw [if_pos c2, if_pos c2, Option.bind_some, Option.bind_some, Option.bind_some, if_neg c1, decide_eq_true c2, sleuthlaw02_FractionRounds.j2, if_pos rfl]
        decide +kernel
      · have hp : -1152921504606846976 ≤ n * a ∧ n * a ≤ 1152921504606846976 := by
          have h : (n * a).natAbs ≤ 1099511627776 * 1048576 := by rw [Int.natAbs_mul]; exact Nat.mul_le_mul (by omega) (by omega)
          omega
        rw [if_neg c2, if_neg c2, Int.mul_neg, wr_small (n * a) (by omega) (by omega), wr_small (-(n * a)) (by omega) (by omega), floor_ok (n * a) b f1 f2 (by omega) (by omega), floor_ok (-(n * a)) b f1 f2 (by omega) (by omega)]
        simp only [Option.bind_some]
        rw [if_neg c1, decide_eq_false c2, sleuthlaw02_FractionRounds.j2, if_neg (by decide)]
        unfold sleuthref02_MulFloor.f sleuthref02_MulCeil.f
        rw [wr_small (n * a) (by omega) (by omega), wr_small (-(n * a)) (by omega) (by omega), rfloor_ok (n * a) b f1 f2 (by omega) (by omega), rfloor_ok (-(n * a)) b f1 f2 (by omega) (by omega)]
        simp only [Option.bind_some, if_true]
        obtain ⟨h1, h2, h3, h4⟩ := floors (n * a) b f1 f2 (by omega) (by omega)
        rw [wr_small (-((-(n * a)) / b)) (by omega) (by omega), wr_small (-((-(n * a)) / b) - n * a / b) (by omega) (by omega), if_pos (by omega), decide_eq_true (by omega)]
  · rw [decide_eq_false hf]; exact out _ (by omega)
end Go.Proofs.Ytikioicjhdhdpaa.Pure
