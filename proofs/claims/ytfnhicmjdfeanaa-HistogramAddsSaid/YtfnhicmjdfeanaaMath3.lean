/- Bounds, and the definition's low and high, in plain numbers; the values of a bucket. -/
import Derived.Test.YtfnhicmjdfeanaaMath2
import Derived.Test.YtfnhicmjdfeanaaPHx3
import Derived.Test.YtfnhicmjdfeanaaPHx19
-- NEEDS H: histogram_Bounds sleuthlaw21_low
namespace Go.Proofs.Ytfnhicmjdfeanaa.PH
open Go.RowKit Go.Proofs.YtfnhicmjdfeanaaW.PrintWords Go.Proofs.YtfnhicmjdfeanaaW.PrintLast Go.Proofs.YtfnhicmjdfeanaaW.PrintMore
set_option linter.unusedVariables false

theorem mul_bd {m p : Int} (hm0 : 0 ≤ m) (hm : m ≤ 16) (hp : 1 ≤ p) (hp2 : p ≤ 137438953472) : 0 ≤ m * p ∧ m * p ≤ 2199023255552 := by
  have a : m * p ≤ 16 * p := Int.mul_le_mul_of_nonneg_right hm (by omega)
  have b : 0 ≤ m * p := Int.mul_nonneg hm0 (by omega)
  omega
theorem shl_ok (m : Int) (k : Nat) (hk : k ≤ 37) (hm0 : 0 ≤ m) (hm : m ≤ 16) : shl .i64 m (k : Int) = m * 2 ^ k := by
  have hp := pow_bd hk
  have hb := mul_bd hm0 hm hp.1 hp.2
  unfold shl
  rw [i64_w, Int.toNat_natCast, Nat.min_eq_left (by show k ≤ 64; omega), wr_small _ (by omega) (by omega)]
theorem bounds_ok (n : Int) (k : Nat) (h0 : 0 ≤ n) (h1 : n < 305) : histogram_Bounds.f (k + 1) n = some (lowI n, highI n, 0) := by
  unfold histogram_Bounds.f
  rw [if_neg (by omega), show decide (n ≥ 305) = false from decide_eq_false (by omega), histogram_Bounds.j0, if_neg (by decide)]
  unfold lowI highI
  by_cases h : n < 16
  · rw [if_pos h, if_pos h, if_pos h]
  · rw [if_neg h, if_neg h, if_neg h]
    rw [Int.tdiv_eq_ediv_of_nonneg h0, Int.tmod_eq_emod_of_nonneg h0]
    obtain ⟨j, hj⟩ : ∃ j : Nat, n / 8 - 1 = (j : Int) := ⟨(n / 8 - 1).toNat, by omega⟩
    rw [wr_small (n / 8) (by omega) (by omega), hj, wr_small (j : Int) (by omega) (by omega), if_pos (by omega), Int.toNat_natCast,
      wr_small (n % 8 + 8) (by omega) (by omega), wr_small (n % 8 + 8 + 1) (by omega) (by omega), show n % 8 + 8 + 1 = n % 8 + 9 by omega,
      shl_ok _ _ (by omega) (by omega) (by omega), shl_ok _ _ (by omega) (by omega) (by omega)]
    have hp := pow_bd (show j ≤ 37 by omega)
    have hb := mul_bd (show 0 ≤ n % 8 + 9 by omega) (by omega) hp.1 hp.2
    rw [wr_small _ (by omega) (by omega)]
    unfold mn
    congr 3
    by_cases hc : 1099511627776 < (n % 8 + 9) * 2 ^ j - 1
    · rw [if_pos hc, if_neg (by omega)]
    · rw [if_neg hc, if_pos (by omega)]
theorem bounds_bad (n : Int) (k : Nat) (h : n < 0 ∨ n ≥ 305) : histogram_Bounds.f (k + 1) n = some (0, 0, 2) := by
  unfold histogram_Bounds.f
  by_cases h0 : n < 0
  · rw [if_pos h0, histogram_Bounds.j0, if_pos rfl]
  · rw [if_neg h0, show decide (n ≥ 305) = true from decide_eq_true (by omega), histogram_Bounds.j0, if_pos rfl]
theorem low_ok (n : Int) (h0 : 0 ≤ n) (h1 : n < 305) : sleuthlaw21_low.f n = some (lowI n) := by
  unfold sleuthlaw21_low.f lowI
  by_cases h : n < 16
  · rw [if_pos h, if_pos h]
  · rw [if_neg h, if_neg h, Int.tdiv_eq_ediv_of_nonneg h0]
    obtain ⟨j, hj⟩ : ∃ j : Nat, n / 8 - 1 = (j : Int) := ⟨(n / 8 - 1).toNat, by omega⟩
    rw [wr_small (n / 8) (by omega) (by omega), hj, wr_small (j : Int) (by omega) (by omega), if_pos (by omega), Int.toNat_natCast,
      wr_small (8 * (j : Int)) (by omega) (by omega), wr_small (n - 8 * (j : Int)) (by omega) (by omega), show n - 8 * (j : Int) = n % 8 + 8 by omega, shl_ok _ _ (by omega) (by omega) (by omega)]
theorem high_ok (n : Int) (h0 : 0 ≤ n) (h1 : n < 305) : sleuthlaw21_high.f n = some (highI n) := by
  unfold sleuthlaw21_high.f highI
  by_cases h : n < 16
  · rw [if_pos h, if_pos h]
  · rw [if_neg h, if_neg h, Int.tdiv_eq_ediv_of_nonneg h0]
    obtain ⟨j, hj⟩ : ∃ j : Nat, n / 8 - 1 = (j : Int) := ⟨(n / 8 - 1).toNat, by omega⟩
    rw [wr_small (n / 8) (by omega) (by omega), hj, wr_small (j : Int) (by omega) (by omega), if_pos (by omega), Int.toNat_natCast,
      wr_small (8 * (j : Int)) (by omega) (by omega), wr_small (n - 8 * (j : Int)) (by omega) (by omega), wr_small (n - 8 * (j : Int) + 1) (by omega) (by omega), show n - 8 * (j : Int) + 1 = n % 8 + 9 by omega, shl_ok _ _ (by omega) (by omega) (by omega)]
    have hp := pow_bd (show j ≤ 37 by omega)
    have hb := mul_bd (show 0 ≤ n % 8 + 9 by omega) (by omega) hp.1 hp.2
    rw [wr_small _ (by omega) (by omega)]
    unfold mn
    congr 1
    by_cases hc : 1099511627776 < (n % 8 + 9) * 2 ^ j - 1
    · rw [if_pos hc, if_neg (by omega)]
    · rw [if_neg hc, if_pos (by omega)]
/-- A value lies in its bucket. -/
theorem bix_in (v : Int) (h0 : 0 ≤ v) (h1 : v ≤ 1099511627776) : lowI (bix v) ≤ v ∧ v ≤ highI (bix v) := by
  by_cases h : v < 16
  · have e : bix v = v := by unfold bix; rw [if_pos h]
    rw [e]
    unfold lowI highI
    rw [if_pos h, if_pos h]
    omega
  · obtain ⟨a, b, c⟩ := bix_parts v (by omega) h1
    obtain ⟨a', b', c', d'⟩ := sh_spec v (by omega) h1
    obtain ⟨e1, e2, e3, e4⟩ := div_bd v (2 ^ sh v) (by have := pow_bd b'; omega) c' d'
    unfold lowI highI
    rw [if_neg (by omega), if_neg (by omega), b, c, show bix v % 8 + 9 = v / 2 ^ sh v + 1 by omega, Int.add_mul, Int.one_mul]
    split <;> omega
theorem lowI_range (n : Int) (h0 : 0 ≤ n) (h1 : n < 305) : 0 ≤ lowI n ∧ lowI n ≤ 1099511627776 ∧ 0 ≤ highI n ∧ highI n ≤ 1099511627776 ∧ lowI n ≤ highI n := by
  unfold lowI highI
  by_cases h : n < 16
  · rw [if_pos h, if_pos h]; omega
  · rw [if_neg h, if_neg h]
    obtain ⟨j, hj⟩ : ∃ j : Nat, n / 8 - 1 = (j : Int) := ⟨(n / 8 - 1).toNat, by omega⟩
    rw [hj, Int.toNat_natCast]
    have hp := pow_bd (show j ≤ 37 by omega)
    have hm : (n % 8 + 8) * 2 ^ j ≤ 1099511627776 := by
      by_cases h37 : j = 37
      · subst h37
        have : n = 304 := by omega
        subst this
        decide
      · have hp2 := pow_le_of (show j ≤ 36 by omega)
        have e : (2 : Int) ^ 36 = 68719476736 := by decide
        rw [e] at hp2
        have a : (n % 8 + 8) * 2 ^ j ≤ 16 * 2 ^ j := Int.mul_le_mul_of_nonneg_right (by omega) (by omega)
        omega
    have hn : 0 ≤ (n % 8 + 8) * 2 ^ j := Int.mul_nonneg (by omega) (by omega)
    have hs : (n % 8 + 9) * 2 ^ j = (n % 8 + 8) * 2 ^ j + 2 ^ j := by rw [show n % 8 + 9 = (n % 8 + 8) + 1 by omega, Int.add_mul, Int.one_mul]
    rw [hs]
    split <;> omega
theorem narrow (n : Int) (h0 : 16 ≤ n) (h1 : n < 305) : 8 * (highI n - lowI n + 1) ≤ lowI n := by
  have h : ¬ n < 16 := by omega
  unfold lowI highI
  simp only [if_neg h]
  obtain ⟨j, hj⟩ : ∃ j : Nat, n / 8 - 1 = (j : Int) := ⟨(n / 8 - 1).toNat, by omega⟩
  rw [hj, Int.toNat_natCast]
  have hp := pow_bd (show j ≤ 37 by omega)
  have a : 8 * 2 ^ j ≤ (n % 8 + 8) * 2 ^ j := Int.mul_le_mul_of_nonneg_right (by omega) (by omega)
  have hs : (n % 8 + 9) * 2 ^ j = (n % 8 + 8) * 2 ^ j + 2 ^ j := by rw [show n % 8 + 9 = (n % 8 + 8) + 1 by omega, Int.add_mul, Int.one_mul]
  rw [hs]
  split <;> omega
/-- The value before: the same bucket, or the one before, and this one begins here. -/
theorem bix_prev (v : Int) (h0 : 0 < v) (h1 : v ≤ 1099511627776) : bix (v - 1) = bix v ∨ (bix (v - 1) = bix v - 1 ∧ v = lowI (bix v)) := by
  by_cases h : v < 16
  · have e : bix v = v := by unfold bix; rw [if_pos h]
    have e2 : bix (v - 1) = v - 1 := by unfold bix; rw [if_pos (by omega)]
    refine .inr ⟨by omega, ?_⟩
    rw [e]
    unfold lowI
    rw [if_pos h]
  · obtain ⟨a, b, c⟩ := bix_parts v (by omega) h1
    obtain ⟨a', b', c', d'⟩ := sh_spec v (by omega) h1
    obtain ⟨e1, e2, e3, e4⟩ := div_bd v (2 ^ sh v) (by have := pow_bd b'; omega) c' d'
    by_cases h16 : v = 16
    · subst h16
      refine .inr ⟨by decide +kernel, by decide +kernel⟩
    · obtain ⟨a2, b2, c2, d2⟩ := sh_spec (v - 1) (by omega) (by omega)
      obtain ⟨f1, f2, f3, f4⟩ := div_bd (v - 1) (2 ^ sh (v - 1)) (by have := pow_bd b2; omega) c2 d2
      have hlow : lowI (bix v) = v / 2 ^ sh v * 2 ^ sh v := by
        unfold lowI
        rw [if_neg (by omega), b, c]
      rw [hlow]
      have ev : bix v = 8 * (sh v : Int) + v / 2 ^ sh v := by unfold bix; rw [if_neg h]
      have ev1 : bix (v - 1) = 8 * (sh (v - 1) : Int) + (v - 1) / 2 ^ sh (v - 1) := by unfold bix; rw [if_neg (by omega)]
      by_cases hq : 8 * 2 ^ sh v ≤ v - 1
      · have hs : sh v = sh (v - 1) := sh_unique (v - 1) (sh v) (by omega) (by omega) hq (by omega)
        rw [← hs] at ev1 f1 f2 f3 f4
        by_cases hm : v / 2 ^ sh v * 2 ^ sh v ≤ v - 1
        · left
          have : (v - 1) / 2 ^ sh v = v / 2 ^ sh v := by
            have x1 : v / 2 ^ sh v ≤ (v - 1) / 2 ^ sh v := (Int.le_ediv_iff_mul_le (by have := pow_bd b'; omega)).2 hm
            have x2 : (v - 1) / 2 ^ sh v ≤ v / 2 ^ sh v := Int.ediv_le_ediv (by have := pow_bd b'; omega) (by omega)
            omega
          omega
        · right
          have hv : v = v / 2 ^ sh v * 2 ^ sh v := by omega
          refine ⟨?_, hv⟩
          have : (v - 1) / 2 ^ sh v = v / 2 ^ sh v - 1 := by
            have x2 : (v - 1) / 2 ^ sh v ≤ v / 2 ^ sh v - 1 := by
              have := (Int.ediv_lt_iff_lt_mul (show 0 < (2 : Int) ^ sh v by have := pow_bd b'; omega)).2 (show v - 1 < v / 2 ^ sh v * 2 ^ sh v by omega)
              omega
            have x1 : v / 2 ^ sh v - 1 ≤ (v - 1) / 2 ^ sh v := (Int.le_ediv_iff_mul_le (by have := pow_bd b'; omega)).2 (by rw [Int.sub_mul, Int.one_mul]; have := pow_bd b'; omega)
            omega
          omega
      · have hv : v = 8 * 2 ^ sh v := by omega
        have hm : v / 2 ^ sh v = 8 := by
          have : v / 2 ^ sh v ≤ 8 := by
            have := (Int.ediv_lt_iff_lt_mul (show 0 < (2 : Int) ^ sh v by have := pow_bd b'; omega)).2 (show v < 9 * 2 ^ sh v by have := pow_bd b'; omega)
            omega
          omega
        obtain ⟨j, hj⟩ : ∃ j, sh v = j + 1 := ⟨sh v - 1, by omega⟩
        have ep : (2 : Int) ^ sh v = 2 ^ j * 2 := by rw [hj, Int.pow_succ]
        have hpj := pow_bd (show j ≤ 37 by omega)
        have hs : j = sh (v - 1) := sh_unique (v - 1) j (by omega) (by omega) (by omega) (by omega)
        have hd : (v - 1) / 2 ^ j = 15 := by
          have x1 : 15 ≤ (v - 1) / 2 ^ j := (Int.le_ediv_iff_mul_le (by omega)).2 (by omega)
          rw [hs] at x1 ⊢
          omega
        rw [← hs, hd] at ev1
        rw [hm] at ev ⊢
        right
        refine ⟨by omega, hv⟩
end Go.Proofs.Ytfnhicmjdfeanaa.PH
