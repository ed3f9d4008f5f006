/- The simplest fraction between two others, in plain numbers. -/
import Derived.Test.YtikioicjhdhdpaaMath4
import Derived.Test.YtikioicjhdhdpaaPFx28
-- NEEDS F: fraction_simplest
namespace Go.Proofs.Ytikioicjhdhdpaa.PF
open Go.RowKit Go.Proofs.YtikioicjhdhdpaaW.PrintWords Go.Proofs.YtikioicjhdhdpaaW.PrintLast Go.Proofs.YtikioicjhdhdpaaW.PrintMore
set_option linter.unusedVariables false

/-- n/m is the simplest fraction between a/b and c/d. -/
def Simple (a b c d n m : Int) : Prop :=
  1 ≤ m ∧ a * m < n * b ∧ n * d < c * m ∧ ∀ n' m' : Int, 1 ≤ m' → a * m' < n' * b → n' * d < c * m' → n ≤ n' ∧ m ≤ m'

theorem Simple.bound {a b c d n m : Int} (h : Simple a b c d n m) (hb : 1 ≤ b) (hd : 0 ≤ d) (hl : a * d < c * b) : n ≤ a + c ∧ m ≤ b + d :=
  h.2.2.2 (a + c) (b + d) (by omega) (by grind) (by grind)

theorem simplest_ok : ∀ (k : Nat) (a b c d : Int), 0 ≤ a → a ≤ 1048576 → 1 ≤ b → b ≤ 1048576 → 0 ≤ c → c ≤ 1048576 → 0 ≤ d → d ≤ 1048576 → a * d < c * b → b + d < k →
    ∃ n m, fraction_simplest.f k a b c d = some (n, m) ∧ Simple a b c d n m := by
  intro k
  induction k with
  | zero => intro a b c d a0 a1 b0 b1 c0 c1 d0 d1 hl hk; omega
  | succ k ih =>
    intro a b c d a0 a1 b0 b1 c0 c1 d0 d1 hl hk
    have hw : Int.tdiv a b = a / b := Int.tdiv_eq_ediv_of_nonneg a0
    have e1 := Int.mul_ediv_add_emod a b
    have m0 := Int.emod_nonneg a (show b ≠ 0 by omega)
    have m1 := Int.emod_lt_of_pos a (show 0 < b by omega)
    have w0 : 0 ≤ a / b := Int.ediv_nonneg a0 (by omega)
    have w1 : a / b ≤ a := Int.ediv_le_self _ a0
    rw [fraction_simplest.f, if_neg (by omega), hw]
    generalize a / b = w at *
    rw [wr_small w (by omega) (by omega), wr_small (w + 1) (by omega) (by omega)]
    have p1 := mul_bd w d (by omega) (by omega) (by omega) (by omega)
    have p2 : (w + 1) * d = w * d + d := by rw [Int.add_mul, Int.one_mul]
    have p3 := mul_bd w b (by omega) (by omega) (by omega) (by omega)
    have p4 : b * w = w * b := Int.mul_comm _ _
    rw [wr_small ((w + 1) * d) (by omega) (by omega)]
    have easy : (w + 1) * d < c → Simple a b c d (w + 1) 1 := by
      intro hc
      refine ⟨by omega, ?_, by rw [Int.mul_one]; exact hc, ?_⟩
      · rw [Int.add_mul]; omega
      · intro n' m' hm h1 h2
        have q1 : w * b ≤ a := by omega
        have q2 : w * b * m' ≤ a * m' := Int.mul_le_mul_of_nonneg_right q1 (by omega)
        have q3 : w * m' < n' := by
          apply Int.not_le.mp; intro hle
          have := Int.mul_le_mul_of_nonneg_right hle (show 0 ≤ b by omega)
          have e : w * m' * b = w * b * m' := by grind
          omega
        have q4 : w * 1 ≤ w * m' := Int.mul_le_mul_of_nonneg_left hm w0
        omega
    by_cases hd : d = 0
    · subst hd
      rw [if_pos rfl]
      refine ⟨_, _, rfl, easy ?_⟩
      rw [Int.mul_zero]
      rw [Int.mul_zero] at hl
      apply Int.not_le.mp; intro hle
      have := Int.mul_le_mul_of_nonneg_right hle (show 0 ≤ b by omega)
      omega
    · rw [if_neg hd]
      by_cases hc : (w + 1) * d < c
      · rw [if_pos hc]; exact ⟨_, _, rfl, easy hc⟩
      · rw [if_neg hc, wr_small (w * d) (by omega) (by omega), wr_small (w * b) (by omega) (by omega)]
        have q1 : w * b * d ≤ a * d := Int.mul_le_mul_of_nonneg_right (by omega) d0
        have q2 : (c - w * d) * b = c * b - w * b * d := by grind
        have q3 : 1 ≤ c - w * d := by
          apply Int.not_lt.mp; intro hle
          have := Int.mul_le_mul_of_nonneg_right (show c - w * d ≤ 0 by omega) (show 0 ≤ b by omega)
          omega
        rw [wr_small (c - w * d) (by omega) (by omega), wr_small (a - w * b) (by omega) (by omega)]
        have q4 : d * (a - w * b) < b * (c - w * d) := by grind
        obtain ⟨n, m, hf, hs⟩ := ih d (c - w * d) b (a - w * b) d0 d1 q3 (by omega) (by omega) b1 (by omega) (by omega) q4 (by omega)
        obtain ⟨g1, g2⟩ := hs.bound q3 (by omega) q4
        obtain ⟨s1, s2, s3, s4⟩ := hs
        have s5 : 1 ≤ n := by
          apply Int.not_lt.mp; intro hle
          have r1 := Int.mul_le_mul_of_nonneg_right (show n ≤ 0 by omega) (show 0 ≤ c - w * d by omega)
          have r2 := Int.mul_nonneg d0 (show 0 ≤ m by omega)
          omega
        have p5 : 0 ≤ w * n ∧ w * n ≤ 1048576 * 2097152 := ⟨Int.mul_nonneg w0 (by omega), Int.mul_le_mul (by omega) (by omega) (by omega) (by omega)⟩
        rw [hf, Option.bind_some]
        dsimp only
        rw [wr_small (w * n) (by omega) (by omega), wr_small (w * n + m) (by omega) (by omega)]
        refine ⟨_, _, rfl, by omega, by grind, by grind, ?_⟩
        intro n' m' hm h1 h2
        have t1 : w * b * m' ≤ a * m' := Int.mul_le_mul_of_nonneg_right (by omega) (by omega)
        have t3 : w * m' < n' := by
          apply Int.not_le.mp; intro hle
          have := Int.mul_le_mul_of_nonneg_right hle (show 0 ≤ b by omega)
          have e : w * m' * b = w * b * m' := by grind
          omega
        have t4 := s4 m' (n' - w * m') (by omega) (by grind) (by grind)
        have t5 : w * n ≤ w * m' := Int.mul_le_mul_of_nonneg_left t4.1 w0
        omega

/-- The simplest fraction is canonical, where its parts are not too great. -/
theorem Simple.coprime {a b c d n m : Int} (h : Simple a b c d n m) (ha : 0 ≤ a) (hb : 1 ≤ b) : 1 ≤ n ∧ Nat.gcd n.natAbs m.natAbs = 1 := by
  obtain ⟨h1, h2, h3, h4⟩ := h
  have hn : 1 ≤ n := by
    apply Int.not_lt.mp; intro hle
    have r1 := Int.mul_le_mul_of_nonneg_right (show n ≤ 0 by omega) (show 0 ≤ b by omega)
    have r2 := Int.mul_nonneg ha (show 0 ≤ m by omega)
    omega
  refine ⟨hn, ?_⟩
  obtain ⟨p, hp⟩ := Nat.gcd_dvd_left n.natAbs m.natAbs
  obtain ⟨q, hq⟩ := Nat.gcd_dvd_right n.natAbs m.natAbs
  have hg : 0 < Nat.gcd n.natAbs m.natAbs := Nat.gcd_pos_of_pos_right _ (by omega)
  generalize Nat.gcd n.natAbs m.natAbs = g at *
  have en : n = (g : Int) * p := by rw [← Int.natCast_mul, ← hp]; omega
  have em : m = (g : Int) * q := by rw [← Int.natCast_mul, ← hq]; omega
  have hq1 : 1 ≤ (q : Int) := by
    rcases Nat.eq_zero_or_pos q with h | h
    · subst h; rw [Nat.mul_zero] at hq; omega
    · omega
  have f1 : a * m = (g : Int) * (a * q) := by rw [em, Int.mul_left_comm]
  have f2 : n * b = (g : Int) * (p * b) := by rw [en, Int.mul_assoc]
  have f3 : n * d = (g : Int) * (p * d) := by rw [en, Int.mul_assoc]
  have f4 : c * m = (g : Int) * (c * q) := by rw [em, Int.mul_left_comm]
  have u1 : a * q < p * b := by
    apply Int.not_le.mp; intro hle
    have := Int.mul_le_mul_of_nonneg_left hle (show 0 ≤ (g : Int) by omega)
    omega
  have u2 : p * d < c * q := by
    apply Int.not_le.mp; intro hle
    have := Int.mul_le_mul_of_nonneg_left hle (show 0 ≤ (g : Int) by omega)
    omega
  have u3 := (h4 p q hq1 u1 u2).2
  apply Nat.le_antisymm _ hg
  apply Nat.not_lt.mp; intro hlt
  have : (q : Int) * 2 ≤ (q : Int) * g := Int.mul_le_mul_of_nonneg_left (by omega) (by omega)
  rw [Int.mul_comm (g : Int)] at em
  omega
end Go.Proofs.Ytikioicjhdhdpaa.PF
