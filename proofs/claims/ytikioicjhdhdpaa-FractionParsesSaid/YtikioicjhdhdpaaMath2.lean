/- The examples hold; canonical fractions; what Make computes of multiples. -/
import Derived.Test.YtikioicjhdhdpaaMath1
import Derived.Test.YtikioicjhdhdpaaPFx9
import Derived.Test.YtikioicjhdhdpaaPFx13
import Derived.Test.YtikioicjhdhdpaaPFx15
-- NEEDS F: sleuthlaw02_known sleuthref02_Check sleuthlaw02_is
namespace Go.Proofs.Ytikioicjhdhdpaa.PF
open Go.RowKit Go.Proofs.YtikioicjhdhdpaaW.PrintWords Go.Proofs.YtikioicjhdhdpaaW.PrintLast Go.Proofs.YtikioicjhdhdpaaW.PrintMore
set_option linter.unusedVariables false

theorem known_200 : sleuthlaw02_known.f 200 = some true := by decide +kernel
theorem known_more : ∀ j, sleuthlaw02_known.f (200 + j) = some true
  | 0 => known_200
  | j + 1 => sleuthlaw02_known.mono (200 + j) _ (known_more j)
theorem known_ok (k : Nat) (hk : 200 ≤ k) : sleuthlaw02_known.f k = some true := by
  obtain ⟨j, rfl⟩ : ∃ j, k = 200 + j := ⟨k - 200, by omega⟩
  exact known_more j

def can (a b : Int) : Prop := 1 ≤ b ∧ b ≤ 1048576 ∧ -1048576 ≤ a ∧ a ≤ 1048576 ∧ Nat.gcd a.natAbs b.natAbs = 1
instance (a b : Int) : Decidable (can a b) := by unfold can; infer_instance

theorem Check_ok (k : Nat) (hk : 129 ≤ k) (a b : Int) : sleuthref02_Check.f k a b = some (decide (can a b)) := by
  unfold sleuthref02_Check.f
  by_cases c1 : b ≥ 1
  · rw [if_pos c1]
    by_cases c2 : b ≤ 1048576
    · rw [if_pos c2]
      by_cases c3 : a ≥ -1048576
      · rw [if_pos c3]
        by_cases c4 : a ≤ 1048576
        · rw [if_pos c4, mag_ref, mag_ref, mag_ok a (by omega) (by omega), Option.bind_some, mag_ok b (by omega) (by omega), Option.bind_some, divisor_ok k hk _ _ (by omega), Option.bind_some]
          congr 1
          by_cases c5 : Nat.gcd a.natAbs b.natAbs = 1
          · rw [decide_eq_true (show can a b from ⟨c1, c2, c3, c4, c5⟩), c5]; rfl
          · rw [decide_eq_false (fun h : can a b => c5 h.2.2.2.2)]
            simp only [beq_eq_false_iff_ne, ne_eq]; omega
        · rw [if_neg c4, decide_eq_false (fun h : can a b => c4 h.2.2.2.1)]
      · rw [if_neg c3, decide_eq_false (fun h : can a b => c3 h.2.2.1)]
    · rw [if_neg c2, decide_eq_false (fun h : can a b => c2 h.2.1)]
  · rw [if_neg c1, decide_eq_false (fun h : can a b => c1 h.1)]

theorem is_mk (a b : Int) (hb : b ≠ 0) : sleuthlaw02_is.f (mkE a b).1 (mkE a b).2.1 (mkE a b).2.2 (mkB a b).1 (mkB a b).2.1 (mkB a b).2.2 = some true := by
  unfold mkE mkB sleuthlaw02_is.f
  rw [if_neg hb]
  cases mk a b with
  | none => simp
  | some p => simp

theorem mk_can (a b : Int) (h : can a b) : mk a b = some (a, b) := by
  obtain ⟨h1, h2, h3, h4, h5⟩ := h
  unfold mk
  rw [h5, Nat.div_one, Nat.div_one, if_pos (by omega)]
  have : decide (b < 0) = false := decide_eq_false (by omega)
  rw [this]
  congr 2
  · by_cases c : a < 0
    · rw [if_pos (by simp [c])]; omega
    · rw [if_neg (by simp [c])]; omega
  · omega
theorem mk_scale (t a b : Int) (ht : 1 ≤ t) : mk (t * a) (t * b) = mk a b := by
  unfold mk
  have e : ∀ x : Int, decide (t * x < 0) = decide (x < 0) := by
    intro x
    by_cases c : x < 0
    · rw [decide_eq_true c, decide_eq_true (Int.mul_neg_of_pos_of_neg (by omega) c)]
    · have : 0 ≤ t * x := Int.mul_nonneg (by omega) (by omega)
      rw [decide_eq_false c, decide_eq_false (by omega)]
  have hn : 0 < t.natAbs := by omega
  rw [e, e, Int.natAbs_mul, Int.natAbs_mul, Nat.gcd_mul_left, Nat.mul_div_mul_left _ _ hn, Nat.mul_div_mul_left _ _ hn]
theorem mk_rep (a b x y : Int) (hb : 0 < b) (h : mk a b = some (x, y)) : can x y ∧ ∃ t : Int, 1 ≤ t ∧ a = t * x ∧ b = t * y := by
  unfold mk at h
  have hg : 0 < Nat.gcd a.natAbs b.natAbs := Nat.gcd_pos_of_pos_right _ (by omega)
  have da : a.natAbs = Nat.gcd a.natAbs b.natAbs * (a.natAbs / Nat.gcd a.natAbs b.natAbs) := (Nat.mul_div_cancel' (Nat.gcd_dvd_left _ _)).symm
  have db : b.natAbs = Nat.gcd a.natAbs b.natAbs * (b.natAbs / Nat.gcd a.natAbs b.natAbs) := (Nat.mul_div_cancel' (Nat.gcd_dvd_right _ _)).symm
  have dc : Nat.gcd (a.natAbs / Nat.gcd a.natAbs b.natAbs) (b.natAbs / Nat.gcd a.natAbs b.natAbs) = 1 := by
    have := Nat.gcd_mul_left (Nat.gcd a.natAbs b.natAbs) (a.natAbs / Nat.gcd a.natAbs b.natAbs) (b.natAbs / Nat.gcd a.natAbs b.natAbs)
    rw [← da, ← db] at this
    exact Nat.eq_of_mul_eq_mul_left hg (by rw [← this, Nat.mul_one])
  generalize a.natAbs / Nat.gcd a.natAbs b.natAbs = p at *
  generalize b.natAbs / Nat.gcd a.natAbs b.natAbs = q at *
  generalize Nat.gcd a.natAbs b.natAbs = g at *
  have hq : 0 < q := by
    rcases Nat.eq_zero_or_pos q with hq | hq
    · subst hq; rw [Nat.mul_zero] at db; omega
    · exact hq
  split at h
  · next hpq =>
    have hs : decide (b < 0) = false := decide_eq_false (by omega)
    rw [hs] at h
    have h := Option.some.inj h
    have ea : (a.natAbs : Int) = (g : Int) * (p : Int) := by rw [← Int.natCast_mul, ← da]
    have eb : (b.natAbs : Int) = (g : Int) * (q : Int) := by rw [← Int.natCast_mul, ← db]
    by_cases c : a < 0
    · rw [if_pos (by simp [c])] at h
      obtain ⟨rfl, rfl⟩ := Prod.mk.inj h
      refine ⟨⟨by omega, by omega, by omega, by omega, ?_⟩, (g : Int), by omega, ?_, ?_⟩
      · rw [Int.natAbs_neg, Int.natAbs_natCast, Int.natAbs_natCast]; exact dc
      · rw [Int.mul_neg, ← ea]; omega
      · rw [← eb]; omega
    · rw [if_neg (by simp [c])] at h
      obtain ⟨rfl, rfl⟩ := Prod.mk.inj h
      refine ⟨⟨by omega, by omega, by omega, by omega, ?_⟩, (g : Int), by omega, ?_, ?_⟩
      · rw [Int.natAbs_natCast, Int.natAbs_natCast]; exact dc
      · rw [← ea]; omega
      · rw [← eb]; omega
  · exact absurd h (by simp)
end Go.Proofs.Ytikioicjhdhdpaa.PF
