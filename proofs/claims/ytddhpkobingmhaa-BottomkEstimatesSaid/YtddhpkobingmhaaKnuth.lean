/- One digit of a long division: the estimate, set right at most twice, is the digit. Conditions: the divisor's upper half is at least 2^31 and below 2^32, the lower halves are below 2^32, the dividend's upper word is below the divisor. -/
import Derived.WalkKit

namespace Go.Proofs.Ytddhpkobingmhaa.PB
set_option linter.unusedVariables false

abbrev KC (n0 u q r : Int) : Prop := q ≥ 4294967296 ∨ q * n0 > 4294967296 * r + u
def KG (y U u q : Int) : Prop := 0 ≤ q ∧ q * y ≤ U * 4294967296 + u ∧ U * 4294967296 + u < (q + 1) * y

section
variable {y n1 n0 U u q r : Int}
theorem kn_q0 (h2 : n1 < 4294967296) (h1 : 2147483648 ≤ n1) (hU : 0 ≤ U) (hr1 : r < n1) (hq : q * n1 + r = U) : 0 ≤ q := by
  apply Int.not_lt.mp
  intro hn
  have : q * n1 ≤ (-1) * n1 := Int.mul_le_mul_of_nonneg_right (by omega) (by omega)
  omega
theorem kn_q1 (hy : y = n1 * 4294967296 + n0) (h1 : 2147483648 ≤ n1) (h3 : 0 ≤ n0) (h4 : n0 < 4294967296) (hUy : U < y) (hr0 : 0 ≤ r) (hq : q * n1 + r = U) : q ≤ 4294967297 := by
  apply Int.not_lt.mp
  intro hn
  have : 4294967298 * n1 ≤ q * n1 := Int.mul_le_mul_of_nonneg_right (by omega) (by omega)
  omega
theorem kn_qy (hy : y = n1 * 4294967296 + n0) (q : Int) : q * y = q * n1 * 4294967296 + q * n0 := by
  rw [hy, Int.mul_add, Int.mul_assoc]
/-- where the test fails, the estimate is not too great -/
theorem kn_le (hy : y = n1 * 4294967296 + n0) (hq : q * n1 + r = U) (hc : ¬ KC n0 u q r) : q * y ≤ U * 4294967296 + u := by
  have := kn_qy hy q
  unfold KC at hc
  omega
/-- where the estimate's rest is great, it is not too great, either -/
theorem kn_le2 (hy : y = n1 * 4294967296 + n0) (hq : q * n1 + r = U) (h3 : 0 ≤ n0) (h4 : n0 < 4294967296) (hu : 0 ≤ u) (hr : 4294967296 ≤ r) (hqb : q ≤ 4294967296) (hq0 : 0 ≤ q) : q * y ≤ U * 4294967296 + u := by
  have := kn_qy hy q
  have h : q * n0 ≤ 4294967296 * n0 := Int.mul_le_mul_of_nonneg_right hqb h3
  omega
/-- where the test holds, the estimate is too great -/
theorem kn_gt (hy : y = n1 * 4294967296 + n0) (hq : q * n1 + r = U) (hUy : U < y) (hy0 : 0 ≤ y) (hu : 0 ≤ u) (hu2 : u < 4294967296) (hc : KC n0 u q r) : U * 4294967296 + u < q * y := by
  have := kn_qy hy q
  rcases hc with h | h
  · have : 4294967296 * y ≤ q * y := Int.mul_le_mul_of_nonneg_right h hy0
    omega
  · omega
theorem kn_lt (hy : y = n1 * 4294967296 + n0) (hq : q * n1 + r = U) (h3 : 0 ≤ n0) (hr1 : r < n1) (hu2 : u < 4294967296) (hq0 : 0 ≤ q) : U * 4294967296 + u < (q + 1) * y := by
  have h := kn_qy hy (q + 1)
  rw [Int.add_mul q 1 n1, Int.add_mul q 1 n0] at h
  have : 0 ≤ q * n0 := Int.mul_nonneg hq0 h3
  omega
theorem kn_pos (hq0 : 0 ≤ q) (hr0 : 0 ≤ r) (hu : 0 ≤ u) (hc : KC n0 u q r) : 1 ≤ q := by
  apply Int.not_lt.mp
  intro hn
  obtain rfl : q = 0 := by omega
  rcases hc with h | h <;> omega
theorem kn_step (hq : q * n1 + r = U) : (q - 1) * n1 + (r + n1) = U := by rw [Int.sub_mul]; omega
end
/-- The digit: which of the three estimates it is, and what the tests answer on the way. -/
theorem knuth (y n1 n0 U u q r : Int) (hy : y = n1 * 4294967296 + n0) (h1 : 2147483648 ≤ n1) (h2 : n1 < 4294967296) (h3 : 0 ≤ n0) (h4 : n0 < 4294967296) (hU : 0 ≤ U) (hUy : U < y) (hu : 0 ≤ u) (hu2 : u < 4294967296)
    (hr0 : 0 ≤ r) (hr1 : r < n1) (hq : q * n1 + r = U) : 0 ≤ q ∧ q ≤ 4294967297 ∧
    ((¬ KC n0 u q r ∧ KG y U u q) ∨
     (KC n0 u q r ∧ 1 ≤ q ∧ r + n1 ≥ 4294967296 ∧ KG y U u (q - 1)) ∨
     (KC n0 u q r ∧ 1 ≤ q ∧ r + n1 < 4294967296 ∧ ¬ KC n0 u (q - 1) (r + n1) ∧ KG y U u (q - 1)) ∨
     (KC n0 u q r ∧ 1 ≤ q ∧ r + n1 < 4294967296 ∧ KC n0 u (q - 1) (r + n1) ∧ 2 ≤ q ∧ r + n1 + n1 ≥ 4294967296 ∧ KG y U u (q - 1 - 1))) := by
  have q0 := kn_q0 h2 h1 hU hr1 hq
  have q1 := kn_q1 hy h1 h3 h4 hUy hr0 hq
  have y0 : 0 ≤ y := by omega
  refine ⟨q0, q1, ?_⟩
  by_cases c : KC n0 u q r
  · have p1 := kn_pos q0 hr0 hu c
    have g1 := kn_gt hy hq hUy y0 hu hu2 c
    have s1 := kn_step hq
    by_cases b : r + n1 ≥ 4294967296
    · exact .inr (.inl ⟨c, p1, b, by omega, kn_le2 hy s1 h3 h4 hu b (by omega) (by omega), by rw [Int.sub_add_cancel]; exact g1⟩)
    · by_cases c2 : KC n0 u (q - 1) (r + n1)
      · have p2 := kn_pos (by omega) (by omega) hu c2
        have g2 := kn_gt hy s1 hUy y0 hu hu2 c2
        have s2 := kn_step s1
        exact .inr (.inr (.inr ⟨c, p1, by omega, c2, by omega, by omega, by omega, kn_le2 hy s2 h3 h4 hu (by omega) (by omega) (by omega), by rw [Int.sub_add_cancel]; exact g2⟩))
      · exact .inr (.inr (.inl ⟨c, p1, by omega, c2, by omega, kn_le hy s1 c2, by rw [Int.sub_add_cancel]; exact g1⟩))
  · exact .inl ⟨c, q0, kn_le hy hq c, kn_lt hy hq h3 hr1 hu2 q0⟩
end Go.Proofs.Ytddhpkobingmhaa.PB
