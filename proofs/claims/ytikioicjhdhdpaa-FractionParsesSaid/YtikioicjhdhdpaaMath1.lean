/- The greatest common divisor and Make, in plain numbers. -/
import Derived.Test.YtikioicjhdhdpaaPFx2
import Derived.Test.YtikioicjhdhdpaaPFx3
import Derived.Test.YtikioicjhdhdpaaPFx7
import Derived.Test.YtikioicjhdhdpaaPFx8
-- NEEDS F: fraction_magnitude fraction_gcd fraction_Make sleuthref02_magnitude sleuthref02_divisor sleuthref02_Make
namespace Go.Proofs.Ytikioicjhdhdpaa.PF
open Go.RowKit Go.Proofs.YtikioicjhdhdpaaW.PrintWords Go.Proofs.YtikioicjhdhdpaaW.PrintLast Go.Proofs.YtikioicjhdhdpaaW.PrintMore
set_option linter.unusedVariables false

theorem wr_small (x : Int) (h0 : -9223372036854775808 ≤ x) (h1 : x ≤ 9223372036854775807) : wrap64 x = x := by unfold wrap64; omega
theorem u64_eq (x : Int) : IntKind.u64.wrap x = x % 18446744073709551616 := by rw [show IntKind.u64.wrap x = x % 18446744073709551616 from rfl]
theorem wf64 (x : Int) (h : (Lit.int .i64 x).wf = true) : -9223372036854775808 ≤ x ∧ x ≤ 9223372036854775807 := by
  simp only [Lit.wf, IntKind.min, IntKind.max, IntKind.signed, IntKind.bits, Bool.and_eq_true, decide_eq_true_eq, if_true] at h
  omega

theorem mag_ok (a : Int) (h0 : -9223372036854775808 ≤ a) (h1 : a ≤ 9223372036854775807) : fraction_magnitude.f a = some (a.natAbs : Int) := by
  unfold fraction_magnitude.f
  by_cases c : a < 0
  · rw [if_pos c, u64_eq, u64_eq]; congr 1; omega
  · rw [if_neg c, u64_eq]; congr 1; omega
theorem mag_ref (a : Int) : sleuthref02_magnitude.f a = fraction_magnitude.f a := rfl

theorem gcd_l0 : ∀ (n k a b : Nat), b < 2 ^ n → fraction_gcd.l0 (2 * n + 1 + k) (a : Int) (b : Int) = some ((Nat.gcd b a : Nat) : Int) := by
  intro n
  induction n with
  | zero =>
    intro k a b h
    obtain rfl : b = 0 := by omega
    rw [show 2 * 0 + 1 + k = k + 1 by omega, fraction_gcd.l0, if_pos (by omega), Nat.gcd_zero_left]
  | succ n ih =>
    intro k a b h
    rw [show 2 * (n + 1) + 1 + k = (2 * n + 1 + k) + 1 + 1 by omega, fraction_gcd.l0]
    by_cases c : b = 0
    · subst c; rw [if_pos (by omega), Nat.gcd_zero_left]
    · rw [if_neg (by omega), ← Int.ofNat_tmod, fraction_gcd.l0, Nat.gcd_rec b a]
      by_cases d : a % b = 0
      · rw [d, if_pos (by omega), Nat.gcd_zero_left]
      · rw [if_neg (by omega), ← Int.ofNat_tmod, Nat.gcd_rec (a % b) b]
        have hr : a % b < b := Nat.mod_lt _ (by omega)
        have h1 : b % (a % b) < a % b := Nat.mod_lt _ (by omega)
        have h2 : b % (a % b) ≤ b - a % b := by
          rw [Nat.mod_eq_sub_mod (by omega)]; exact Nat.mod_le _ _
        exact ih k (a % b) (b % (a % b)) (by rw [Nat.pow_succ] at h; omega)
theorem gcd_ok (k : Nat) (hk : 129 ≤ k) (a b : Nat) (h : b < 18446744073709551616) : fraction_gcd.f k (a : Int) (b : Int) = some ((Nat.gcd a b : Nat) : Int) := by
  unfold fraction_gcd.f
  rw [show k = 2 * 64 + 1 + (k - 129) by omega, gcd_l0 64 _ a b (by simpa using h), Nat.gcd_comm]
theorem divisor_l0 : ∀ (k : Nat) (a b : Int), sleuthref02_divisor.l0 k a b = fraction_gcd.l0 k a b := by
  intro k
  induction k with
  | zero => intro a b; rfl
  | succ k ih => intro a b; rw [sleuthref02_divisor.l0, fraction_gcd.l0, ih]
theorem divisor_ok (k : Nat) (hk : 129 ≤ k) (a b : Nat) (h : b < 18446744073709551616) : sleuthref02_divisor.f k (a : Int) (b : Int) = some ((Nat.gcd a b : Nat) : Int) := by
  unfold sleuthref02_divisor.f
  rw [divisor_l0]
  exact gcd_ok k hk a b h

/-- The canonical form of a/b, where b is not 0; none: it has too great parts. -/
def mk (a b : Int) : Option (Int × Int) :=
  if a.natAbs / Nat.gcd a.natAbs b.natAbs ≤ 1048576 ∧ b.natAbs / Nat.gcd a.natAbs b.natAbs ≤ 1048576 then
    some (if (decide (a < 0) != decide (b < 0)) = true then -((a.natAbs / Nat.gcd a.natAbs b.natAbs : Nat) : Int) else ((a.natAbs / Nat.gcd a.natAbs b.natAbs : Nat) : Int), ((b.natAbs / Nat.gcd a.natAbs b.natAbs : Nat) : Int))
  else none

def mkE (a b : Int) : Int × Int × Int := if b = 0 then (0, 0, 19) else match mk a b with | some p => (p.1, p.2, 0) | none => (0, 0, 20)
def mkB (a b : Int) : Int × Int × Bool := match mk a b with | some p => (p.1, p.2, true) | none => (0, 0, false)

theorem Make_ok (k : Nat) (hk : 131 ≤ k) (a b : Int) (a0 : -9223372036854775808 ≤ a) (a1 : a ≤ 9223372036854775807) (b0 : -9223372036854775808 ≤ b) (b1 : b ≤ 9223372036854775807) :
    fraction_Make.f k a b = some (mkE a b) := by
  obtain ⟨k, rfl⟩ : ∃ j, k = j + 1 := ⟨k - 1, by omega⟩
  unfold fraction_Make.f mkE
  by_cases c : b = 0
  · rw [if_pos c, if_pos c]
  · rw [if_neg c, if_neg c, mag_ok a a0 a1, Option.bind_some, mag_ok b b0 b1, Option.bind_some, gcd_ok _ (by omega) _ _ (by omega), Option.bind_some]
    have hb : 0 < b.natAbs := by omega
    have hg : 0 < Nat.gcd a.natAbs b.natAbs := Nat.gcd_pos_of_pos_right _ hb
    have hp : a.natAbs / Nat.gcd a.natAbs b.natAbs ≤ a.natAbs := Nat.div_le_self _ _
    have hq : b.natAbs / Nat.gcd a.natAbs b.natAbs ≤ b.natAbs := Nat.div_le_self _ _
    rw [if_neg (by omega), ← Int.ofNat_tdiv, ← Int.ofNat_tdiv]
    unfold mk
    generalize a.natAbs / Nat.gcd a.natAbs b.natAbs = p at *
    generalize b.natAbs / Nat.gcd a.natAbs b.natAbs = q at *
    rw [u64_eq, u64_eq, show (p : Int) % 18446744073709551616 = p by omega, show (q : Int) % 18446744073709551616 = q by omega]
    by_cases d : p ≤ 1048576
    · rw [if_neg (by omega), fraction_Make.j0]
      by_cases e : q ≤ 1048576
      · rw [if_neg (by rw [decide_eq_true_eq]; omega), if_pos (show p ≤ 1048576 ∧ q ≤ 1048576 from ⟨d, e⟩), wr_small (p : Int) (by omega) (by omega), wr_small (q : Int) (by omega) (by omega), wr_small (-(p : Int)) (by omega) (by omega)]
        dsimp only
        by_cases x : (decide (a < 0) != decide (b < 0)) = true
        · rw [if_pos x, if_pos x]
        · rw [if_neg x, if_neg x]
      · rw [if_pos (by rw [decide_eq_true_eq]; omega), if_neg (by omega)]
    · rw [if_pos (by omega), if_neg (by omega), fraction_Make.j0, if_pos rfl]

theorem RMake_ok (k : Nat) (hk : 131 ≤ k) (a b : Int) (hb0 : b ≠ 0) (a0 : -9223372036854775808 ≤ a) (a1 : a ≤ 9223372036854775807) (b0 : -9223372036854775808 ≤ b) (b1 : b ≤ 9223372036854775807) :
    sleuthref02_Make.f k a b = some (mkB a b) := by
  obtain ⟨k, rfl⟩ : ∃ j, k = j + 1 := ⟨k - 1, by omega⟩
  unfold sleuthref02_Make.f mkB
  rw [mag_ref, mag_ref, mag_ok a a0 a1, Option.bind_some, mag_ok b b0 b1, Option.bind_some, divisor_ok _ (by omega) _ _ (by omega), Option.bind_some]
  have hb : 0 < b.natAbs := by omega
  have hg : 0 < Nat.gcd a.natAbs b.natAbs := Nat.gcd_pos_of_pos_right _ hb
  have hp : a.natAbs / Nat.gcd a.natAbs b.natAbs ≤ a.natAbs := Nat.div_le_self _ _
  have hq : b.natAbs / Nat.gcd a.natAbs b.natAbs ≤ b.natAbs := Nat.div_le_self _ _
  rw [if_neg (by omega), ← Int.ofNat_tdiv, ← Int.ofNat_tdiv]
  unfold mk
  generalize a.natAbs / Nat.gcd a.natAbs b.natAbs = p at *
  generalize b.natAbs / Nat.gcd a.natAbs b.natAbs = q at *
  rw [u64_eq, u64_eq, show (p : Int) % 18446744073709551616 = p by omega, show (q : Int) % 18446744073709551616 = q by omega]
  by_cases d : p ≤ 1048576
  · rw [if_neg (by omega), sleuthref02_Make.j0]
    by_cases e : q ≤ 1048576
    · rw [if_neg (by rw [decide_eq_true_eq]; omega), if_pos (show p ≤ 1048576 ∧ q ≤ 1048576 from ⟨d, e⟩), wr_small (p : Int) (by omega) (by omega), wr_small (q : Int) (by omega) (by omega), wr_small (-(p : Int)) (by omega) (by omega)]
      dsimp only
      by_cases x : (decide (a < 0) != decide (b < 0)) = true
      · rw [if_pos x, if_pos x]
      · rw [if_neg x, if_neg x]
    · rw [if_pos (by rw [decide_eq_true_eq]; omega), if_neg (by omega)]
  · rw [if_pos (by omega), if_neg (by omega), sleuthref02_Make.j0, if_pos rfl]

end Go.Proofs.Ytikioicjhdhdpaa.PF
