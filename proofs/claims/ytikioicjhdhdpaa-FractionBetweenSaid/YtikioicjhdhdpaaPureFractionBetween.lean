/- FractionBetween, in plain numbers. -/
import Derived.Test.YtikioicjhdhdpaaMath6
import Derived.Test.YtikioicjhdhdpaaPFx13
import Derived.Test.YtikioicjhdhdpaaPFx29
import Derived.Test.YtikioicjhdhdpaaPFx31
-- NEEDS F: sleuthlaw02_FractionBetween fraction_Between fraction_FromInt
namespace Go.Proofs.Ytikioicjhdhdpaa.Pure
open Go.RowKit Go.Proofs.Ytikioicjhdhdpaa.PF Go.Proofs.YtikioicjhdhdpaaW.PrintWords Go.Proofs.YtikioicjhdhdpaaW.PrintLast
set_option linter.unusedVariables false

theorem mk_coprime (R m : Int) (hm : 1 ≤ m) (h1 : Nat.gcd R.natAbs m.natAbs = 1) : mk R m = none ∨ can R m ∧ mk R m = some (R, m) := by
  by_cases h : R.natAbs ≤ 1048576 ∧ m.natAbs ≤ 1048576
  · have hc : can R m := ⟨hm, by omega, by omega, by omega, h1⟩
    exact .inr ⟨hc, mk_can R m hc⟩
  · left
    unfold mk
    rw [h1, Nat.div_one, Nat.div_one, if_neg h]
theorem finish (K : Nat) (hK : 300 ≤ K) (a b c d R m : Int) (hf : can a b) (hg : can c d) (hlt : a * d < c * b) (hm : 1 ≤ m) (h1 : Nat.gcd R.natAbs m.natAbs = 1) (l1 : a * m < R * b) (l2 : R * d < c * m)
    (e1 : fraction_Between.f K a b c d = some (mkE R m)) (e2 : sleuthref02_Between.f K a b c d 200 = some (if m ≤ 200 then mkB R m else (0, 0, false))) :
    sleuthlaw02_FractionBetween.j0 (K + 1) false a b c d = some true := by
  have hc : ¬ cmp (a * d) (c * b) ≥ 0 := by have := (cmp_lt (a * d) (c * b)).mpr hlt; omega
  rw [sleuthlaw02_FractionBetween.j0, if_neg (by decide), e1, Option.bind_some, RCompare_ok a b c d hf hg, Option.bind_some, if_neg hc, e2, Option.bind_some]
  rcases mk_coprime R m hm h1 with h | ⟨hr, h⟩
  · have hE : mkE R m = (0, 0, 20) := by unfold mkE; rw [if_neg (by omega), h]
    have hB : (if m ≤ 200 then mkB R m else ((0, 0, false) : Int × Int × Bool)).2.2 = false := by
      split
      · unfold mkB; rw [h]
      · rfl
    rw [if_neg (by rw [hB]; decide), hE]
    rfl
  · have hE : mkE R m = (R, m, 0) := by unfold mkE; rw [if_neg (by omega), h]
    have hB : mkB R m = (R, m, true) := by unfold mkB; rw [h]
    rw [hE, hB]
    by_cases hs : m ≤ 200
    · rw [if_pos hs]
      simp
    · rw [if_neg hs, if_neg (by decide), if_neg (show ¬ ((0 : Int) = 20) by decide), if_pos rfl]
      dsimp only
      rw [Check_ok _ (by omega), Option.bind_some, decide_eq_true hr, if_pos rfl, if_pos (by omega), RCompare_ok a b R m hf hr, Option.bind_some, if_pos ((cmp_lt _ _).mpr l1), RCompare_ok R m c d hr hg, Option.bind_some, decide_eq_true ((cmp_lt _ _).mpr l2)]
theorem between (K : Nat) (hK : 2200000 ≤ K) (a b c d : Int) (hf : can a b) (hg : can c d) : sleuthlaw02_FractionBetween.j0 K false a b c d = some true := by
  obtain ⟨K, rfl⟩ : ∃ j, K = j + 1 := ⟨K - 1, by omega⟩
  obtain ⟨k, hk⟩ : ∃ j, K = j + 1 := ⟨K - 1, by omega⟩
  have hf' := hf
  have hg' := hg
  obtain ⟨f1, f2, f3, f4, _⟩ := hf'
  obtain ⟨g1, g2, g3, g4, _⟩ := hg'
  by_cases hlt : a * d < c * b
  · have hc : ¬ cmp (a * d) (c * b) ≥ 0 := by have := (cmp_lt (a * d) (c * b)).mpr hlt; omega
    by_cases ha : a < 0
    · by_cases hc0 : c > 0
      · -- 0 lies between
        apply finish K (by omega) a b c d 0 1 hf hg hlt (by omega) (by decide) (by omega) (by omega)
        · unfold fraction_Between.f
          rw [Compare_ok a b c d hf hg, Option.bind_some, if_neg hc, if_pos ha, decide_eq_true hc0, hk, fraction_Between.j0, if_pos rfl, FromInt_ok _ (by omega) 0 (by omega) (by omega)]; rfl
        · have q1 : lo a b 1 ≤ 0 := (lo_iff a b 1 0 f1).mpr (by omega)
          have q2 : 0 ≤ hi c d 1 := (hi_iff c d 1 0 g1).mpr (by omega)
          exact RBetween_ok a b c d 1 0 hf hg K (by omega) (by omega) (fun i _ _ => by omega) (by omega) (by unfold pick; rw [if_pos ⟨q1, q2⟩])
      · -- neither is positive
        have q0 : -c * b < -a * d := by rw [Int.neg_mul, Int.neg_mul]; omega
        obtain ⟨n, m, hs, hS⟩ := simplest_ok k (-c) d (-a) b (by omega) (by omega) g1 g2 (by omega) (by omega) (by omega) f2 q0 (by omega)
        have hbd := hS.bound g1 (by omega) q0
        obtain ⟨hn, hcop⟩ := hS.coprime (by omega) g1
        obtain ⟨s1, s2, s3, s4⟩ := hS
        rw [Int.neg_mul] at s2 s3
        have l1 : a * m < -n * b := by rw [Int.neg_mul]; omega
        have l2 : -n * d < c * m := by rw [Int.neg_mul]; omega
        apply finish K (by omega) a b c d (-n) m hf hg hlt s1 (by rw [Int.natAbs_neg]; exact hcop) l1 l2
        · unfold fraction_Between.f
          rw [Compare_ok a b c d hf hg, Option.bind_some, if_neg hc, if_pos ha, decide_eq_false hc0, hk, fraction_Between.j0, if_neg (by decide), if_pos (by omega), wr_small (-c) (by omega) (by omega), wr_small (-a) (by omega) (by omega), hs, Option.bind_some]
          dsimp only
          rw [wr_small (-n) (by omega) (by omega), Make_ok _ (by omega) (-n) m (by omega) (by omega) (by omega) (by omega)]; rfl
        · have y1 := (lo_iff a b m (-n) f1).mpr l1
          have y2 := (hi_iff c d m (-n) g1).mpr l2
          have y3 := (hi_iff c d m (hi c d m) g1).mp (by omega)
          have y4 := (lo_iff a b m (hi c d m) f1).mp (by omega)
          have y5 := (s4 (-(hi c d m)) m s1 (by rw [Int.neg_mul, Int.neg_mul]; omega) (by rw [Int.neg_mul, Int.neg_mul]; omega)).1
          refine RBetween_ok a b c d m (-n) hf hg K (by omega) s1 ?_ (by omega) (by unfold pick; rw [if_neg (by omega), if_pos (by omega)]; omega)
          intro i i0 i1
          apply Int.not_le.mp; intro hle
          have z1 := (hi_iff c d i (hi c d i) g1).mp (by omega)
          have z2 := (lo_iff a b i (hi c d i) f1).mp hle
          have z3 := (s4 (-(hi c d i)) i i0 (by rw [Int.neg_mul, Int.neg_mul]; omega) (by rw [Int.neg_mul, Int.neg_mul]; omega)).2
          omega
    · -- neither is negative
      have q1 : 0 < c := by
        apply Int.not_le.mp; intro hle
        have r1 := Int.mul_le_mul_of_nonneg_right hle (show 0 ≤ b by omega)
        have r2 := Int.mul_nonneg (show 0 ≤ a by omega) (show 0 ≤ d by omega)
        omega
      obtain ⟨n, m, hs, hS⟩ := simplest_ok k a b c d (by omega) f4 f1 f2 (by omega) g4 (by omega) g2 hlt (by omega)
      have hbd := hS.bound f1 (by omega) hlt
      obtain ⟨hn, hcop⟩ := hS.coprime (by omega) f1
      obtain ⟨s1, s2, s3, s4⟩ := hS
      apply finish K (by omega) a b c d n m hf hg hlt s1 hcop s2 s3
      · unfold fraction_Between.f
        rw [Compare_ok a b c d hf hg, Option.bind_some, if_neg hc, if_neg ha, hk, fraction_Between.j0, if_neg (by decide), if_neg (by omega), hs, Option.bind_some]
        dsimp only
        rw [Make_ok _ (by omega) n m (by omega) (by omega) (by omega) (by omega)]; rfl
      · have y1 := (lo_iff a b m n f1).mpr s2
        have y2 := (hi_iff c d m n g1).mpr s3
        have y3 := (lo_iff a b m (lo a b m) f1).mp (by omega)
        have y4 := (hi_iff c d m (lo a b m) g1).mp (by omega)
        have y5 := (s4 (lo a b m) m s1 y3 y4).1
        refine RBetween_ok a b c d m n hf hg K (by omega) s1 ?_ (by omega) (by unfold pick; rw [if_neg (by omega), if_neg (by omega)]; omega)
        intro i i0 i1
        apply Int.not_le.mp; intro hle
        have z1 := (lo_iff a b i (lo a b i) f1).mp (by omega)
        have z2 := (hi_iff c d i (lo a b i) g1).mp hle
        have z3 := (s4 (lo a b i) i i0 z1 z2).2
        omega
  · have hc : cmp (a * d) (c * b) ≥ 0 := by have := (cmp_lt (a * d) (c * b)); omega
    rw [sleuthlaw02_FractionBetween.j0, if_neg (by decide)]
    unfold fraction_Between.f
    rw [Compare_ok a b c d hf hg, Option.bind_some, if_pos hc, Option.bind_some, RCompare_ok a b c d hf hg, Option.bind_some, if_pos hc]
    rfl
theorem FractionBetween : sleuthlaw02_FractionBetween.Pure := by
  intro a b c d ha hb hc hd
  refine ⟨3000000, ?_⟩
  unfold sleuthlaw02_FractionBetween.f
  have out : ∀ j, 201 ≤ j → sleuthlaw02_FractionBetween.j0 j true a b c d = some true := by
    intro j hj
    obtain ⟨j, rfl⟩ : ∃ i, j = i + 1 := ⟨j - 1, by omega⟩
    rw [sleuthlaw02_FractionBetween.j0, if_pos rfl, known_ok _ (by omega)]; rfl
  rw [known_ok _ (by omega), Option.bind_some, if_pos rfl, Check_ok _ (by omega), Option.bind_some]
  by_cases hf : can a b
  · rw [decide_eq_true hf, if_pos rfl, Check_ok _ (by omega), Option.bind_some]
    by_cases hg : can c d
    · rw [decide_eq_true hg]
      exact between 3000000 (by omega) a b c d hf hg
    · rw [decide_eq_false hg]; exact out _ (by omega)
  · rw [decide_eq_false hf, if_neg (by decide)]; exact out _ (by omega)
end Go.Proofs.Ytikioicjhdhdpaa.Pure
