/- Fractions in plain numbers (the door's seat). -/
import Derived.Test.YtikioicjhdhdpaaDoorPDx2
import Derived.Test.YtikioicjhdhdpaaDoorPDx3
import Derived.Test.YtikioicjhdhdpaaDoorPDx7
import Derived.Test.YtikioicjhdhdpaaDoorPDx8
import Derived.Test.YtikioicjhdhdpaaDoorPDx9
import Derived.Test.YtikioicjhdhdpaaDoorPDx10
import Derived.Test.YtikioicjhdhdpaaDoorPDx11
import Derived.Test.YtikioicjhdhdpaaDoorPDx18
-- NEEDS D: fraction_magnitude fraction_gcd fraction_Make sleuthref02_divisor sleuthref02_magnitude sleuthref02_Make sleuthref02_Check sleuthlaw02_known fraction_floor sleuthref02_floor sleuthref02_power
namespace Go.Proofs.YtikioicjhdhdpaaDoor.PD
open Go.RowKit Go.Proofs.YtikioicjhdhdpaaDoorW.PrintWords Go.Proofs.YtikioicjhdhdpaaDoorW.PrintLast Go.Proofs.YtikioicjhdhdpaaDoorW.PrintMore
set_option linter.unusedVariables false
set_option linter.unusedSimpArgs false
theorem wr_small (x : Int) (h0 : -9223372036854775808 ≤ x) (h1 : x ≤ 9223372036854775807) : wrap64 x = x := by unfold wrap64; omega
theorem u64_eq (x : Int) : IntKind.u64.wrap x = x % 18446744073709551616 := by rw [show IntKind.u64.wrap x = x % 18446744073709551616 from rfl]
theorem wf64 (x : Int) (h : (Lit.int .i64 x).wf = true) : -9223372036854775808 ≤ x ∧ x ≤ 9223372036854775807 := by
  simp only [Lit.wf, IntKind.min, IntKind.max, IntKind.signed, IntKind.bits, Bool.and_eq_true, decide_eq_true_eq, if_true] at h
  omega

theorem mag_ok (a : Int) (h0 : -9223372036854775808 ≤ a) (h1 : a ≤ 9223372036854775807) : fraction_magnitude.f a = some (a.natAbs : Int) := by
  unfold fraction_magnitude.f
  by_cases c : a < 0
  · rw [if_pos c, u64_eq, u64_eq]; congr 1; omega
  · rw [if_neg c, u64_eq]; congr 1; omega
theorem mag_ref (a : Int) : sleuthref02_magnitude.f a = fraction_magnitude.f a := rfl

theorem gcd_l0 : ∀ (n k a b : Nat), b < 2 ^ n → fraction_gcd.l0 (2 * n + 1 + k) (a : Int) (b : Int) = some ((Nat.gcd b a : Nat) : Int) := by
  intro n
  induction n with
  | zero =>
    intro k a b h
    obtain rfl : b = 0 := by omega
    rw [show 2 * 0 + 1 + k = k + 1 by omega, fraction_gcd.l0, if_pos (by omega), Nat.gcd_zero_left]
  | succ n ih =>
    intro k a b h
    rw [show 2 * (n + 1) + 1 + k = (2 * n + 1 + k) + 1 + 1 by omega, fraction_gcd.l0]
    by_cases c : b = 0
    · subst c; rw [if_pos (by omega), Nat.gcd_zero_left]
    · rw [if_neg (by omega), ← Int.ofNat_tmod, fraction_gcd.l0, Nat.gcd_rec b a]
      by_cases d : a % b = 0
      · rw [d, if_pos (by omega), Nat.gcd_zero_left]
      · rw [if_neg (by omega), ← Int.ofNat_tmod, Nat.gcd_rec (a % b) b]
        have hr : a % b < b := Nat.mod_lt _ (by omega)
        have h1 : b % (a % b) < a % b := Nat.mod_lt _ (by omega)
        have h2 : b % (a % b) ≤ b - a % b := by
          rw [Nat.mod_eq_sub_mod (by omega)]; exact Nat.mod_le _ _
        exact ih k (a % b) (b % (a % b)) (by rw [Nat.pow_succ] at h; omega)
theorem gcd_ok (k : Nat) (hk : 129 ≤ k) (a b : Nat) (h : b < 18446744073709551616) : fraction_gcd.f k (a : Int) (b : Int) = some ((Nat.gcd a b : Nat) : Int) := by
  unfold fraction_gcd.f
  rw [show k = 2 * 64 + 1 + (k - 129) by omega, gcd_l0 64 _ a b (by simpa using h), Nat.gcd_comm]
theorem divisor_l0 : ∀ (k : Nat) (a b : Int), sleuthref02_divisor.l0 k a b = fraction_gcd.l0 k a b := by
  intro k
  induction k with
  | zero => intro a b; rfl
  | succ k ih => intro a b; rw [sleuthref02_divisor.l0, fraction_gcd.l0, ih]
theorem divisor_ok (k : Nat) (hk : 129 ≤ k) (a b : Nat) (h : b < 18446744073709551616) : sleuthref02_divisor.f k (a : Int) (b : Int) = some ((Nat.gcd a b : Nat) : Int) := by
  unfold sleuthref02_divisor.f
  rw [divisor_l0]
  exact gcd_ok k hk a b h

/-- The canonical form of a/b, where b is not 0; none: it has too great parts. -/
def mk (a b : Int) : Option (Int × Int) :=
  if a.natAbs / Nat.gcd a.natAbs b.natAbs ≤ 1048576 ∧ b.natAbs / Nat.gcd a.natAbs b.natAbs ≤ 1048576 then
    some (if (decide (a < 0) != decide (b < 0)) = true then -((a.natAbs / Nat.gcd a.natAbs b.natAbs : Nat) : Int) else ((a.natAbs / Nat.gcd a.natAbs b.natAbs : Nat) : Int), ((b.natAbs / Nat.gcd a.natAbs b.natAbs : Nat) : Int))
  else none

def mkE (a b : Int) : Int × Int × Int := if b = 0 then (0, 0, 19) else match mk a b with | some p => (p.1, p.2, 0) | none => (0, 0, 20)
def mkB (a b : Int) : Int × Int × Bool := match mk a b with | some p => (p.1, p.2, true) | none => (0, 0, false)

theorem Make_ok (k : Nat) (hk : 131 ≤ k) (a b : Int) (a0 : -9223372036854775808 ≤ a) (a1 : a ≤ 9223372036854775807) (b0 : -9223372036854775808 ≤ b) (b1 : b ≤ 9223372036854775807) :
    fraction_Make.f k a b = some (mkE a b) := by
  obtain ⟨k, rfl⟩ : ∃ j, k = j + 1 := ⟨k - 1, by omega⟩
  unfold fraction_Make.f mkE
  by_cases c : b = 0
  · rw [if_pos c, if_pos c]
  · rw [if_neg c, if_neg c, mag_ok a a0 a1, Option.bind_some, mag_ok b b0 b1, Option.bind_some, gcd_ok _ (by omega) _ _ (by omega), Option.bind_some]
    have hb : 0 < b.natAbs := by omega
    have hg : 0 < Nat.gcd a.natAbs b.natAbs := Nat.gcd_pos_of_pos_right _ hb
    have hp : a.natAbs / Nat.gcd a.natAbs b.natAbs ≤ a.natAbs := Nat.div_le_self _ _
    have hq : b.natAbs / Nat.gcd a.natAbs b.natAbs ≤ b.natAbs := Nat.div_le_self _ _
    rw [if_neg (by omega), ← Int.ofNat_tdiv, ← Int.ofNat_tdiv]
    unfold mk
    generalize a.natAbs / Nat.gcd a.natAbs b.natAbs = p at *
    generalize b.natAbs / Nat.gcd a.natAbs b.natAbs = q at *
    rw [u64_eq, u64_eq, show (p : Int) % 18446744073709551616 = p by omega, show (q : Int) % 18446744073709551616 = q by omega]
    by_cases d : p ≤ 1048576
    · rw [if_neg (by omega), fraction_Make.j0]
      by_cases e : q ≤ 1048576
      · rw [if_neg (by rw [decide_eq_true_eq]; omega), if_pos (show p ≤ 1048576 ∧ q ≤ 1048576 from ⟨d, e⟩), wr_small (p : Int) (by omega) (by omega), wr_small (q : Int) (by omega) (by omega), wr_small (-(p : Int)) (by omega) (by omega)]
        dsimp only
        by_cases x : (decide (a < 0) != decide (b < 0)) = true
        · rw [if_pos x, if_pos x]
        · rw [if_neg x, if_neg x]
      · rw [if_pos (by rw [decide_eq_true_eq]; omega), if_neg (by omega)]
    · rw [if_pos (by omega), if_neg (by omega), fraction_Make.j0, if_pos rfl]

theorem RMake_ok (k : Nat) (hk : 131 ≤ k) (a b : Int) (hb0 : b ≠ 0) (a0 : -9223372036854775808 ≤ a) (a1 : a ≤ 9223372036854775807) (b0 : -9223372036854775808 ≤ b) (b1 : b ≤ 9223372036854775807) :
    sleuthref02_Make.f k a b = some (mkB a b) := by
  obtain ⟨k, rfl⟩ : ∃ j, k = j + 1 := ⟨k - 1, by omega⟩
  unfold sleuthref02_Make.f mkB
  rw [mag_ref, mag_ref, mag_ok a a0 a1, Option.bind_some, mag_ok b b0 b1, Option.bind_some, divisor_ok _ (by omega) _ _ (by omega), Option.bind_some]
  have hb : 0 < b.natAbs := by omega
  have hg : 0 < Nat.gcd a.natAbs b.natAbs := Nat.gcd_pos_of_pos_right _ hb
  have hp : a.natAbs / Nat.gcd a.natAbs b.natAbs ≤ a.natAbs := Nat.div_le_self _ _
  have hq : b.natAbs / Nat.gcd a.natAbs b.natAbs ≤ b.natAbs := Nat.div_le_self _ _
  rw [if_neg (by omega), ← Int.ofNat_tdiv, ← Int.ofNat_tdiv]
  unfold mk
  generalize a.natAbs / Nat.gcd a.natAbs b.natAbs = p at *
  generalize b.natAbs / Nat.gcd a.natAbs b.natAbs = q at *
  rw [u64_eq, u64_eq, show (p : Int) % 18446744073709551616 = p by omega, show (q : Int) % 18446744073709551616 = q by omega]
  by_cases d : p ≤ 1048576
  · rw [if_neg (by omega), sleuthref02_Make.j0]
    by_cases e : q ≤ 1048576
    · rw [if_neg (by rw [decide_eq_true_eq]; omega), if_pos (show p ≤ 1048576 ∧ q ≤ 1048576 from ⟨d, e⟩), wr_small (p : Int) (by omega) (by omega), wr_small (q : Int) (by omega) (by omega), wr_small (-(p : Int)) (by omega) (by omega)]
      dsimp only
      by_cases x : (decide (a < 0) != decide (b < 0)) = true
      · rw [if_pos x, if_pos x]
      · rw [if_neg x, if_neg x]
    · rw [if_pos (by rw [decide_eq_true_eq]; omega), if_neg (by omega)]
  · rw [if_pos (by omega), if_neg (by omega), sleuthref02_Make.j0, if_pos rfl]
theorem known_200 : sleuthlaw02_known.f 200 = some true := by decide +kernel
theorem known_more : ∀ j, sleuthlaw02_known.f (200 + j) = some true
  | 0 => known_200
  | j + 1 => sleuthlaw02_known.mono (200 + j) _ (known_more j)
theorem known_ok (k : Nat) (hk : 200 ≤ k) : sleuthlaw02_known.f k = some true := by
  obtain ⟨j, rfl⟩ : ∃ j, k = 200 + j := ⟨k - 200, by omega⟩
  exact known_more j

def can (a b : Int) : Prop := 1 ≤ b ∧ b ≤ 1048576 ∧ -1048576 ≤ a ∧ a ≤ 1048576 ∧ Nat.gcd a.natAbs b.natAbs = 1
instance (a b : Int) : Decidable (can a b) := by unfold can; infer_instance

theorem Check_ok (k : Nat) (hk : 129 ≤ k) (a b : Int) : sleuthref02_Check.f k a b = some (decide (can a b)) := by
  unfold sleuthref02_Check.f
  by_cases c1 : b ≥ 1
  · rw [if_pos c1]
    by_cases c2 : b ≤ 1048576
    · rw [if_pos c2]
      by_cases c3 : a ≥ -1048576
      · rw [if_pos c3]
        by_cases c4 : a ≤ 1048576
        · rw [if_pos c4, mag_ref, mag_ref, mag_ok a (by omega) (by omega), Option.bind_some, mag_ok b (by omega) (by omega), Option.bind_some, divisor_ok k hk _ _ (by omega), Option.bind_some]
          congr 1
          by_cases c5 : Nat.gcd a.natAbs b.natAbs = 1
          · rw [decide_eq_true (show can a b from ⟨c1, c2, c3, c4, c5⟩), c5]; rfl
          · rw [decide_eq_false (fun h : can a b => c5 h.2.2.2.2)]
            simp only [beq_eq_false_iff_ne, ne_eq]; omega
        · rw [if_neg c4, decide_eq_false (fun h : can a b => c4 h.2.2.2.1)]
      · rw [if_neg c3, decide_eq_false (fun h : can a b => c3 h.2.2.1)]
    · rw [if_neg c2, decide_eq_false (fun h : can a b => c2 h.2.1)]
  · rw [if_neg c1, decide_eq_false (fun h : can a b => c1 h.1)]

theorem mk_can (a b : Int) (h : can a b) : mk a b = some (a, b) := by
  obtain ⟨h1, h2, h3, h4, h5⟩ := h
  unfold mk
  rw [h5, Nat.div_one, Nat.div_one, if_pos (by omega)]
  have : decide (b < 0) = false := decide_eq_false (by omega)
  rw [this]
  congr 2
  · by_cases c : a < 0
    · rw [if_pos (by simp [c])]; omega
    · rw [if_neg (by simp [c])]; omega
  · omega
theorem tdiv_floor (v b : Int) (h1 : 1 ≤ b) : (if Int.tmod v b < 0 then Int.tdiv v b - 1 else Int.tdiv v b) = v / b := by
  rw [Int.tdiv_eq_ediv, Int.tmod_eq_emod]
  have hm := Int.emod_nonneg v (show b ≠ 0 by omega)
  have hl := Int.emod_lt_of_pos v (show 0 < b by omega)
  by_cases c : 0 ≤ v ∨ b ∣ v
  · rw [if_pos c, if_pos c, if_neg (by omega)]; omega
  · rw [if_neg c, if_neg c, if_pos (by omega), Int.sign_eq_one_of_pos (by omega)]; omega
theorem div_bd (v b : Int) (h1 : 1 ≤ b) (v0 : -1152921504606846976 ≤ v) (v1 : v ≤ 1152921504606846976) : -1152921504606846976 ≤ v / b ∧ v / b ≤ 1152921504606846976 := by
  constructor
  · apply Int.le_ediv_of_mul_le (by omega); have : -1152921504606846976 * b ≤ -1152921504606846976 * 1 := by apply Int.mul_le_mul_of_nonpos_left <;> omega
    omega
  · apply Int.ediv_le_of_le_mul (by omega); have : 1152921504606846976 * 1 ≤ 1152921504606846976 * b := by apply Int.mul_le_mul_of_nonneg_left <;> omega
    omega
theorem floor_ok (v b : Int) (h1 : 1 ≤ b) (h2 : b ≤ 1048576) (v0 : -1152921504606846976 ≤ v) (v1 : v ≤ 1152921504606846976) : fraction_floor.f v b = some (v / b) := by
  unfold fraction_floor.f
  have hb := div_bd v b h1 v0 v1
  have ht := tdiv_floor v b h1
  rw [if_neg (by omega)]
  by_cases c : Int.tmod v b < 0
  · rw [if_pos c] at ht ⊢
    rw [wr_small (Int.tdiv v b) (by omega) (by omega), wr_small _ (by omega) (by omega), ht]
  · rw [if_neg c] at ht ⊢
    rw [wr_small _ (by omega) (by omega), ht]
theorem rfloor_ok (v b : Int) (h1 : 1 ≤ b) (h2 : b ≤ 1048576) (v0 : -1152921504606846976 ≤ v) (v1 : v ≤ 1152921504606846976) : sleuthref02_floor.f v b = some (v / b) := floor_ok v b h1 h2 v0 v1
end Go.Proofs.YtikioicjhdhdpaaDoor.PD
