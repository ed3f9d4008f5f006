/- Sums, products and quotients in plain numbers. -/
import Derived.Test.YtikioicjhdhdpaaMath2
import Derived.Test.YtikioicjhdhdpaaPFx7
import Derived.Test.YtikioicjhdhdpaaPFx13
import Derived.Test.YtikioicjhdhdpaaPFx15
import Derived.Test.YtikioicjhdhdpaaPFx17
import Derived.Test.YtikioicjhdhdpaaPFx18
import Derived.Test.YtikioicjhdhdpaaPFx20
import Derived.Test.YtikioicjhdhdpaaPFx22
-- NEEDS F: fraction_Add fraction_Sub fraction_Mul fraction_Div fraction_Neg fraction_FromInt sleuthref02_Add sleuthref02_Sub sleuthref02_Mul sleuthref02_Div fraction_Check
namespace Go.Proofs.Ytikioicjhdhdpaa.PF
open Go.RowKit Go.Proofs.YtikioicjhdhdpaaW.PrintWords Go.Proofs.YtikioicjhdhdpaaW.PrintLast Go.Proofs.YtikioicjhdhdpaaW.PrintMore
set_option linter.unusedVariables false

theorem mul_bd (x y : Int) (h0 : -1048576 ≤ x) (h1 : x ≤ 1048576) (h2 : -1048576 ≤ y) (h3 : y ≤ 1048576) : -1099511627776 ≤ x * y ∧ x * y ≤ 1099511627776 := by
  have h : (x * y).natAbs ≤ 1048576 * 1048576 := by rw [Int.natAbs_mul]; exact Nat.mul_le_mul (by omega) (by omega)
  omega
theorem mul_pos2 (x y : Int) (h0 : 1 ≤ x) (h1 : 1 ≤ y) : 1 ≤ x * y := by
  have := Int.mul_pos (show 0 < x by omega) (show 0 < y by omega)
  omega

theorem FromInt_ok (k : Nat) (hk : 131 ≤ k) (a : Int) (a0 : -9223372036854775808 ≤ a) (a1 : a ≤ 9223372036854775807) : fraction_FromInt.f k a = some (mkE a 1) := by
  unfold fraction_FromInt.f
  rw [Make_ok k hk a 1 a0 a1 (by omega) (by omega)]; rfl

theorem can_neg (c d : Int) (hg : can c d) : can (-c) d := by
  obtain ⟨g1, g2, g3, g4, g5⟩ := hg
  exact ⟨g1, g2, by omega, by omega, by rw [Int.natAbs_neg]; exact g5⟩
section
variable (k : Nat) (hk : 131 ≤ k) (a b c d : Int) (hf : can a b) (hg : can c d)
include hk hf hg
theorem Add_ok : fraction_Add.f k a b c d = some (mkE (a * d + c * b) (b * d)) := by
  obtain ⟨f1, f2, f3, f4, _⟩ := hf
  obtain ⟨g1, g2, g3, g4, _⟩ := hg
  have e1 := mul_bd a d (by omega) (by omega) (by omega) (by omega)
  have e2 := mul_bd c b (by omega) (by omega) (by omega) (by omega)
  have e3 := mul_bd b d (by omega) (by omega) (by omega) (by omega)
  unfold fraction_Add.f
  rw [wr_small (a * d) (by omega) (by omega), wr_small (c * b) (by omega) (by omega), wr_small (b * d) (by omega) (by omega), wr_small (a * d + c * b) (by omega) (by omega), Make_ok k hk _ _ (by omega) (by omega) (by omega) (by omega)]; rfl
theorem RAdd_ok : sleuthref02_Add.f k a b c d = some (mkB (a * d + c * b) (b * d)) := by
  obtain ⟨f1, f2, f3, f4, _⟩ := hf
  obtain ⟨g1, g2, g3, g4, _⟩ := hg
  have e1 := mul_bd a d (by omega) (by omega) (by omega) (by omega)
  have e2 := mul_bd c b (by omega) (by omega) (by omega) (by omega)
  have e3 := mul_bd b d (by omega) (by omega) (by omega) (by omega)
  have e4 := mul_pos2 b d f1 g1
  unfold sleuthref02_Add.f
  rw [wr_small (a * d) (by omega) (by omega), wr_small (c * b) (by omega) (by omega), wr_small (b * d) (by omega) (by omega), wr_small (a * d + c * b) (by omega) (by omega), RMake_ok k hk _ _ (by omega) (by omega) (by omega) (by omega) (by omega)]; rfl
theorem Sub_ok : fraction_Sub.f k a b c d = some (mkE (a * d - c * b) (b * d)) := by
  unfold fraction_Sub.f fraction_Neg.f
  have hn := can_neg c d hg
  rw [Option.bind_some, wr_small (-c) (by have := hg.2.2; omega) (by have := hg.2.2; omega)]
  rw [Add_ok k hk a b (-c) d hf hn, Int.neg_mul]; rfl
theorem RSub_ok : sleuthref02_Sub.f k a b c d = some (mkB (a * d - c * b) (b * d)) := by
  obtain ⟨f1, f2, f3, f4, _⟩ := hf
  obtain ⟨g1, g2, g3, g4, _⟩ := hg
  have e1 := mul_bd a d (by omega) (by omega) (by omega) (by omega)
  have e2 := mul_bd c b (by omega) (by omega) (by omega) (by omega)
  have e3 := mul_bd b d (by omega) (by omega) (by omega) (by omega)
  have e4 := mul_pos2 b d f1 g1
  unfold sleuthref02_Sub.f
  rw [wr_small (a * d) (by omega) (by omega), wr_small (c * b) (by omega) (by omega), wr_small (b * d) (by omega) (by omega), wr_small (a * d - c * b) (by omega) (by omega), RMake_ok k hk _ _ (by omega) (by omega) (by omega) (by omega) (by omega)]; rfl
theorem Mul_ok : fraction_Mul.f k a b c d = some (mkE (a * c) (b * d)) := by
  obtain ⟨f1, f2, f3, f4, _⟩ := hf
  obtain ⟨g1, g2, g3, g4, _⟩ := hg
  have e1 := mul_bd a c (by omega) (by omega) (by omega) (by omega)
  have e3 := mul_bd b d (by omega) (by omega) (by omega) (by omega)
  unfold fraction_Mul.f
  rw [wr_small (a * c) (by omega) (by omega), wr_small (b * d) (by omega) (by omega), Make_ok k hk _ _ (by omega) (by omega) (by omega) (by omega)]; rfl
theorem RMul_ok : sleuthref02_Mul.f k a b c d = some (mkB (a * c) (b * d)) := by
  obtain ⟨f1, f2, f3, f4, _⟩ := hf
  obtain ⟨g1, g2, g3, g4, _⟩ := hg
  have e1 := mul_bd a c (by omega) (by omega) (by omega) (by omega)
  have e3 := mul_bd b d (by omega) (by omega) (by omega) (by omega)
  have e4 := mul_pos2 b d f1 g1
  unfold sleuthref02_Mul.f
  rw [wr_small (a * c) (by omega) (by omega), wr_small (b * d) (by omega) (by omega), RMake_ok k hk _ _ (by omega) (by omega) (by omega) (by omega) (by omega)]; rfl
theorem Div_ok : fraction_Div.f k a b c d = some (mkE (a * d) (b * c)) := by
  obtain ⟨f1, f2, f3, f4, _⟩ := hf
  obtain ⟨g1, g2, g3, g4, _⟩ := hg
  have e1 := mul_bd a d (by omega) (by omega) (by omega) (by omega)
  have e3 := mul_bd b c (by omega) (by omega) (by omega) (by omega)
  unfold fraction_Div.f
  rw [wr_small (a * d) (by omega) (by omega), wr_small (b * c) (by omega) (by omega), Make_ok k hk _ _ (by omega) (by omega) (by omega) (by omega)]; rfl
theorem RDiv_ok (hc : c ≠ 0) : sleuthref02_Div.f k a b c d = some (mkB (a * d) (b * c)) := by
  obtain ⟨f1, f2, f3, f4, _⟩ := hf
  obtain ⟨g1, g2, g3, g4, _⟩ := hg
  have e1 := mul_bd a d (by omega) (by omega) (by omega) (by omega)
  have e3 := mul_bd b c (by omega) (by omega) (by omega) (by omega)
  have e4 : b * c ≠ 0 := Int.mul_ne_zero (by omega) hc
  unfold sleuthref02_Div.f
  rw [wr_small (a * d) (by omega) (by omega), wr_small (b * c) (by omega) (by omega), RMake_ok k hk _ _ e4 (by omega) (by omega) (by omega) (by omega)]; rfl
end

theorem mkE_can (a b x y : Int) (hb : 0 < b) (h : (mkE a b).2.2 = 0) (hx : (mkE a b).1 = x) (hy : (mkE a b).2.1 = y) : mk a b = some (x, y) := by
  unfold mkE at h hx hy
  rw [if_neg (by omega)] at h hx hy
  cases e : mk a b with
  | none => rw [e] at h; exact absurd h (by decide)
  | some p => rw [e] at hx hy; subst hx hy; rfl
/-- Subtracting what was added leads back. -/
theorem back (a b c d x y : Int) (hf : can a b) (hg : can c d) (h : mk (a * d + c * b) (b * d) = some (x, y)) : mkE (x * d - c * y) (y * d) = (a, b, 0) := by
  have hp := mul_pos2 b d hf.1 hg.1
  obtain ⟨hc, t, ht, e1, e2⟩ := mk_rep _ _ _ _ (by omega) h
  have hq := mul_pos2 y d hc.1 hg.1
  have hd := mul_pos2 d d hg.1 hg.1
  have s1 : t * (x * d - c * y) = (d * d) * a := by grind
  have s2 : t * (y * d) = (d * d) * b := by grind
  have : mk (x * d - c * y) (y * d) = mk a b := by
    rw [← mk_scale t _ _ ht, s1, s2, mk_scale _ _ _ hd]
  unfold mkE
  rw [if_neg (by omega), this, mk_can a b hf]
end Go.Proofs.Ytikioicjhdhdpaa.PF
