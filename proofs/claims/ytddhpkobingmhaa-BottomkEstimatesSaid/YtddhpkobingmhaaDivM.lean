/- Dividing two words by one: what bits.Div64 answers is the quotient. Conditions: the upper word is below the divisor, all are words. -/
import Derived.Test.YtddhpkobingmhaaDiv
import Derived.Test.YtddhpkobingmhaaKnuth

namespace Go.Proofs.Ytddhpkobingmhaa.PB
open Go.RowKit Go.Proofs.YtddhpkobingmhaaW.PrintWords Go.Proofs.YtddhpkobingmhaaW.PrintLast Go.Proofs.YtddhpkobingmhaaW.PrintMore
set_option linter.unusedVariables false
set_option maxRecDepth 100000

/-- n bits are needed for x. -/
def Bits (x n : Int) : Prop := 0 < x ∧ 0 ≤ n ∧ n ≤ 64 ∧ (2 : Int) ^ n.toNat ≤ 2 * x ∧ x < 2 ^ n.toNat
def lenTab : ByteArray := ⟨#[0, 1, 2, 2, 3, 3, 3, 3, 4, 4, 4, 4, 4, 4, 4, 4, 5, 5, 5, 5, 5, 5, 5, 5, 5, 5, 5, 5, 5, 5, 5, 5, 6, 6, 6, 6, 6, 6, 6, 6, 6, 6, 6, 6, 6, 6, 6, 6, 6, 6, 6, 6, 6, 6, 6, 6, 6, 6, 6, 6, 6, 6, 6, 6, 7, 7, 7, 7, 7, 7, 7, 7, 7, 7, 7, 7, 7, 7, 7, 7, 7, 7, 7, 7, 7, 7, 7, 7, 7, 7, 7, 7, 7, 7, 7, 7, 7, 7, 7, 7, 7, 7, 7, 7, 7, 7, 7, 7, 7, 7, 7, 7, 7, 7, 7, 7, 7, 7, 7, 7, 7, 7, 7, 7, 7, 7, 7, 7, 8, 8, 8, 8, 8, 8, 8, 8, 8, 8, 8, 8, 8, 8, 8, 8, 8, 8, 8, 8, 8, 8, 8, 8, 8, 8, 8, 8, 8, 8, 8, 8, 8, 8, 8, 8, 8, 8, 8, 8, 8, 8, 8, 8, 8, 8, 8, 8, 8, 8, 8, 8, 8, 8, 8, 8, 8, 8, 8, 8, 8, 8, 8, 8, 8, 8, 8, 8, 8, 8, 8, 8, 8, 8, 8, 8, 8, 8, 8, 8, 8, 8, 8, 8, 8, 8, 8, 8, 8, 8, 8, 8, 8, 8, 8, 8, 8, 8, 8, 8, 8, 8, 8, 8, 8, 8, 8, 8, 8, 8, 8, 8, 8, 8, 8, 8, 8, 8, 8, 8, 8, 8, 8, 8, 8, 8, 8, 8]⟩
set_option maxRecDepth 100000 in
theorem tab_bits8 : ∀ i : Fin 256, i.val ≠ 0 → 1 ≤ bt lenTab i.val ∧ bt lenTab i.val ≤ 8 ∧ (2 : Nat) ^ (bt lenTab i.val).toNat ≤ 2 * i.val ∧ i.val < 2 ^ (bt lenTab i.val).toNat := by decide +kernel
theorem tab_bits (x : Int) (h0 : 0 < x) (h1 : x < 256) : Bits x (bt lenTab x) ∧ bt lenTab x ≤ 8 ∧ 1 ≤ bt lenTab x := by
  obtain ⟨n, rfl⟩ := Int.eq_ofNat_of_zero_le (Int.le_of_lt h0)
  have h := tab_bits8 ⟨n, by omega⟩ (by simp; omega)
  dsimp only at h
  obtain ⟨a, b, c, d⟩ := h
  refine ⟨⟨h0, by omega, by omega, ?_, ?_⟩, b, a⟩
  · have : ((2 ^ (bt lenTab (n : Int)).toNat : Nat) : Int) ≤ ((2 * n : Nat) : Int) := by exact_mod_cast c
    simpa using this
  · have : ((n : Nat) : Int) < ((2 ^ (bt lenTab (n : Int)).toNat : Nat) : Int) := by exact_mod_cast d
    simpa using this
theorem bits_up (x y n : Int) (j : Nat) (p : Int) (hp : p = 2 ^ j) (h : Bits y n) (hy : y = x / p) (hn : n + j ≤ 64) : Bits x (n + j) := by
  obtain ⟨h0, h1, h2, h3, h4⟩ := h
  have pp : 0 < p := by rw [hp]; exact Int.pow_pos (by decide)
  have e : (n + (j : Int)).toNat = n.toNat + j := by omega
  have hx : y * p ≤ x := by rw [hy]; exact Int.ediv_mul_le _ (by omega)
  have hx2 : x < (y + 1) * p := by rw [hy]; exact Int.lt_ediv_add_one_mul_self _ pp
  have e2 : (2 : Int) ^ (n + (j : Int)).toNat = 2 ^ n.toNat * p := by rw [e, Int.pow_add, hp]
  refine ⟨?_, by omega, hn, ?_, ?_⟩
  · have : 0 < y * p := Int.mul_pos h0 pp
    omega
  · rw [e2]
    have : 2 ^ n.toNat * p ≤ (2 * y) * p := Int.mul_le_mul_of_nonneg_right h3 (by omega)
    rw [Int.mul_assoc] at this
    omega
  · rw [e2]
    have : (y + 1) * p ≤ 2 ^ n.toNat * p := Int.mul_le_mul_of_nonneg_right (by omega) (by omega)
    omega
theorem wr_small (x : Int) (h0 : -9223372036854775808 ≤ x) (h1 : x ≤ 9223372036854775807) : wrap64 x = x := by unfold wrap64; omega
theorem j0_eq (k : Nat) (x0 x2 : Int) : bits_Len64.j0 (k + 1) x0 x2 = if x0 ≥ 65536 then (if (x0 / 65536) ≥ 256 then (if 0 ≤ (((x0 / 65536) / 256) % 256) then (if (((x0 / 65536) / 256) % 256) < 256 then (some (wrap64 ((wrap64 ((wrap64 (x2 + 16)) + 8)) + (wrap64 (bt lenTab (((x0 / 65536) / 256) % 256)))))) else (none)) else (none)) else (if 0 ≤ ((x0 / 65536) % 256) then (if ((x0 / 65536) % 256) < 256 then (some (wrap64 ((wrap64 (x2 + 16)) + (wrap64 (bt lenTab ((x0 / 65536) % 256)))))) else (none)) else (none))) else (if x0 ≥ 256 then (if 0 ≤ ((x0 / 256) % 256) then (if ((x0 / 256) % 256) < 256 then (some (wrap64 ((wrap64 (x2 + 8)) + (wrap64 (bt lenTab ((x0 / 256) % 256)))))) else (none)) else (none)) else (if 0 ≤ ((x0) % 256) then (if ((x0) % 256) < 256 then (some (wrap64 (x2 + (wrap64 (bt lenTab ((x0) % 256)))))) else (none)) else (none))) := rfl
theorem len_j0 (k : Nat) (x s : Int) (h0 : 0 < x) (h1 : x < 4294967296) (hs : 0 ≤ s) (hs2 : s ≤ 32) : ∃ n, bits_Len64.j0 (k + 1) x s = some (s + n) ∧ Bits x n ∧ n ≤ 32 := by
  rw [j0_eq]
  by_cases a : x ≥ 65536
  · rw [if_pos a]
    by_cases b : x / 65536 ≥ 256
    · have e : x / 65536 / 256 % 256 = x / 16777216 := by omega
      rw [if_pos b, e, if_pos (by omega), if_pos (by omega)]
      obtain ⟨t1, t2, t3⟩ := tab_bits (x / 16777216) (by omega) (by omega)
      refine ⟨bt lenTab (x / 16777216) + 24, ?_, ?_, by omega⟩
      · rw [wr_small (s + 16) (by omega) (by omega), wr_small (s + 16 + 8) (by omega) (by omega), wr_small (bt _ _) (by omega) (by omega), wr_small _ (by omega) (by omega)]
        congr 1; omega
      · exact bits_up x _ _ 24 16777216 (by decide) t1 rfl (by omega)
    · have e : x / 65536 % 256 = x / 65536 := by omega
      rw [if_neg b, e, if_pos (by omega), if_pos (by omega)]
      obtain ⟨t1, t2, t3⟩ := tab_bits (x / 65536) (by omega) (by omega)
      refine ⟨bt lenTab (x / 65536) + 16, ?_, ?_, by omega⟩
      · rw [wr_small (s + 16) (by omega) (by omega), wr_small (bt _ _) (by omega) (by omega), wr_small _ (by omega) (by omega)]
        congr 1; omega
      · exact bits_up x _ _ 16 65536 (by decide) t1 rfl (by omega)
  · rw [if_neg a]
    by_cases b : x ≥ 256
    · have e : x / 256 % 256 = x / 256 := by omega
      rw [if_pos b, e, if_pos (by omega), if_pos (by omega)]
      obtain ⟨t1, t2, t3⟩ := tab_bits (x / 256) (by omega) (by omega)
      refine ⟨bt lenTab (x / 256) + 8, ?_, ?_, by omega⟩
      · rw [wr_small (s + 8) (by omega) (by omega), wr_small (bt _ _) (by omega) (by omega), wr_small _ (by omega) (by omega)]
        congr 1; omega
      · exact bits_up x _ _ 8 256 (by decide) t1 rfl (by omega)
    · have e : x % 256 = x := by omega
      rw [if_neg b, e, if_pos (by omega), if_pos (by omega)]
      obtain ⟨t1, t2, t3⟩ := tab_bits x (by omega) (by omega)
      refine ⟨bt lenTab x, ?_, t1, by omega⟩
      rw [wr_small (bt _ _) (by omega) (by omega), wr_small _ (by omega) (by omega)]
theorem wu_def (n : Int) : IntKind.u64.wrap n = n % 18446744073709551616 := by simp [IntKind.wrap, IntKind.bits, IntKind.signed]
theorem wu (n : Int) (h0 : 0 ≤ n) (h1 : n < 18446744073709551616) : IntKind.u64.wrap n = n := by rw [wu_def]; omega
theorem wu_pow (n : Int) (h0 : 0 ≤ n) (h1 : n < 2 ^ 64) : IntKind.u64.wrap n = n := wu n h0 (by simpa using h1)
theorem clz (y : Int) (h0 : 0 < y) (h1 : y < 18446744073709551616) (k : Nat) : ∃ s : Nat, s ≤ 63 ∧ bits_LeadingZeros64.f (k + 1) y = some (s : Int) ∧ (18446744073709551616 : Int) ≤ 2 * y * 2 ^ s ∧ y < 2 ^ (64 - s) := by
  have fin : ∀ n : Int, bits_Len64.f (k + 1) y = some n → Bits y n → ∃ s : Nat, s ≤ 63 ∧ bits_LeadingZeros64.f (k + 1) y = some (s : Int) ∧ (18446744073709551616 : Int) ≤ 2 * y * 2 ^ s ∧ y < 2 ^ (64 - s) := by
    intro n hn ⟨_, b1, b2, b3, b4⟩
    have n1 : 1 ≤ n := by
      apply Int.not_lt.mp
      intro hh
      obtain rfl : n = 0 := by omega
      simp at b4
      omega
    refine ⟨(64 - n).toNat, by omega, ?_, ?_, ?_⟩
    · unfold bits_LeadingZeros64.f
      rw [hn, Option.bind_some, wr_small _ (by omega) (by omega)]
      congr 1; omega
    · have e : (18446744073709551616 : Int) = 2 ^ n.toNat * 2 ^ (64 - n).toNat := by
        rw [← Int.pow_add, show n.toNat + (64 - n).toNat = 64 by omega]; rfl
      rw [e]
      exact Int.mul_le_mul_of_nonneg_right b3 (Int.le_of_lt (Int.pow_pos (by decide)))
    · rwa [show 64 - (64 - n).toNat = n.toNat by omega]
  by_cases a : y ≥ 4294967296
  · obtain ⟨n, hn, hb, h32⟩ := len_j0 k (y / 4294967296) 32 (by omega) (by omega) (by omega) (by omega)
    refine fin (32 + n) (by unfold bits_Len64.f; rw [if_pos a, hn]) ?_
    rw [Int.add_comm]
    exact bits_up y _ _ 32 4294967296 (by decide) hb rfl (by omega)
  · obtain ⟨n, hn, hb, h32⟩ := len_j0 k y 0 h0 (by omega) (by omega) (by omega)
    exact fin (0 + n) (by unfold bits_Len64.f; rw [if_neg a, hn]) (by rw [Int.zero_add]; exact hb)

section
variable {y s n1 n0 U u v q r : Int} (k : Nat)
theorem kc_dec (h3 : 0 ≤ n0) (h4 : n0 < 4294967296) (hu : 0 ≤ u) (hu2 : u < 4294967296) (hr0 : 0 ≤ r) (hr1 : r < 4294967296) (hq0 : 0 ≤ q) (hq : ¬ q ≥ 4294967296) : (decide ((IntKind.u64.wrap (q * n0)) > (IntKind.u64.wrap ((IntKind.u64.wrap (4294967296 * r)) + u)))) = decide (KC n0 u q r) := by
  have a0 : 0 ≤ q * n0 := Int.mul_nonneg hq0 h3
  have a1 : q * n0 ≤ 4294967295 * n0 := Int.mul_le_mul_of_nonneg_right (by omega) h3
  rw [wu (q * n0) a0 (by omega), wu (4294967296 * r) (by omega) (by omega), wu _ (by omega) (by omega)]
  unfold KC
  simp [hq]
theorem l0_no (h3 : 0 ≤ n0) (h4 : n0 < 4294967296) (hu : 0 ≤ u) (hu2 : u < 4294967296) (hr0 : 0 ≤ r) (hr1 : r < 4294967296) (hq0 : 0 ≤ q) (c : ¬ KC n0 u q r) : bits_Div64.l0 (k + 2) y s n1 n0 U u v q r = bits_Div64.j2 k y s n1 n0 U u v q := by
  have hq : ¬ q ≥ 4294967296 := fun h => c (.inl h)
  rw [bits_Div64.l0, if_neg hq, kc_dec h3 h4 hu hu2 hr0 hr1 hq0 hq, decide_eq_false c, bits_Div64.j1, if_neg (by decide)]
theorem l0_yes (h3 : 0 ≤ n0) (h4 : n0 < 4294967296) (hu : 0 ≤ u) (hu2 : u < 4294967296) (hr0 : 0 ≤ r) (hr1 : r < 4294967296) (hq0 : 1 ≤ q) (hq2 : q ≤ 4294967297) (h1 : 0 ≤ n1) (h2 : n1 < 4294967296) (c : KC n0 u q r) : bits_Div64.l0 (k + 2) y s n1 n0 U u v q r = if r + n1 ≥ 4294967296 then bits_Div64.j2 k y s n1 n0 U u v (q - 1) else bits_Div64.l0 k y s n1 n0 U u v (q - 1) (r + n1) := by
  have e : bits_Div64.j1 (k + 1) y s n1 n0 U u v q r true = if r + n1 ≥ 4294967296 then bits_Div64.j2 k y s n1 n0 U u v (q - 1) else bits_Div64.l0 k y s n1 n0 U u v (q - 1) (r + n1) := by
    rw [bits_Div64.j1, if_pos rfl, wu (r + n1) (by omega) (by omega), wu (q - 1) (by omega) (by omega)]
  rw [bits_Div64.l0]
  by_cases hq : q ≥ 4294967296
  · rw [if_pos hq, e]
  · rw [if_neg hq, kc_dec h3 h4 hu hu2 hr0 hr1 (by omega) hq, decide_eq_true c, e]
theorem kg_lt (hUy : U < y) (hu2 : u < 4294967296) (hy : 0 ≤ y) (h : KG y U u q) : q < 4294967296 := by
  apply Int.not_le.mp
  intro hn
  have := Int.mul_le_mul_of_nonneg_right hn hy
  have := h.2.1
  omega
theorem l0_ok (hy : y = n1 * 4294967296 + n0) (h1 : 2147483648 ≤ n1) (h2 : n1 < 4294967296) (h3 : 0 ≤ n0) (h4 : n0 < 4294967296) (hU : 0 ≤ U) (hUy : U < y) (hu : 0 ≤ u) (hu2 : u < 4294967296)
    (hr0 : 0 ≤ r) (hr1 : r < n1) (hq : q * n1 + r = U) : ∃ Q, KG y U u Q ∧ ∀ res, bits_Div64.j2 k y s n1 n0 U u v Q = some res → bits_Div64.l0 (k + 4) y s n1 n0 U u v q r = some res := by
  have up2 : ∀ q, LeO (bits_Div64.j2 k y s n1 n0 U u v q) (bits_Div64.j2 (k + 2) y s n1 n0 U u v q) := fun q res h => (bits_Div64.mono_l (k + 1)).1 _ _ _ _ _ _ _ _ res ((bits_Div64.mono_l k).1 _ _ _ _ _ _ _ _ res h)
  obtain ⟨a0, a1, ⟨c, g⟩ | ⟨c, p, b, g⟩ | ⟨c, p, b, c2, g⟩ | ⟨c, p, b, c2, p2, b2, g⟩⟩ := knuth y n1 n0 U u q r hy h1 h2 h3 h4 hU hUy hu hu2 hr0 hr1 hq
  · refine ⟨q, g, fun res h => ?_⟩
    rw [l0_no (k + 2) h3 h4 hu hu2 hr0 (by omega) a0 c]
    exact up2 _ res h
  · refine ⟨q - 1, g, fun res h => ?_⟩
    rw [l0_yes (k + 2) h3 h4 hu hu2 hr0 (by omega) p a1 (by omega) h2 c, if_pos b]
    exact up2 _ res h
  · refine ⟨q - 1, g, fun res h => ?_⟩
    rw [l0_yes (k + 2) h3 h4 hu hu2 hr0 (by omega) p a1 (by omega) h2 c, if_neg (by omega), l0_no k h3 h4 hu hu2 (by omega) b (by omega) c2]
    exact h
  · refine ⟨q - 1 - 1, g, fun res h => ?_⟩
    rw [l0_yes (k + 2) h3 h4 hu hu2 hr0 (by omega) p a1 (by omega) h2 c, if_neg (by omega), l0_yes k h3 h4 hu hu2 (by omega) b (by omega) (by omega) (by omega) h2 c2, if_pos b2]
    exact h
end
section
variable {y s n1 n0 u Q1 q r V : Int} (k : Nat)
theorem l1_no (hs : 0 ≤ s) (h3 : 0 ≤ n0) (h4 : n0 < 4294967296) (hu : 0 ≤ u) (hu2 : u < 4294967296) (hr0 : 0 ≤ r) (hr1 : r < 4294967296) (hq0 : 0 ≤ q) (c : ¬ KC n0 u q r) : ∃ r2, bits_Div64.l1 (k + 2) y s n1 n0 u Q1 r V q = some (IntKind.u64.wrap ((IntKind.u64.wrap (Q1 * 4294967296)) + q), r2) := by
  have hq : ¬ q ≥ 4294967296 := fun h => c (.inl h)
  rw [bits_Div64.l1, if_neg hq, kc_dec h3 h4 hu hu2 hr0 hr1 hq0 hq, decide_eq_false c, bits_Div64.j4, if_neg (by decide), if_pos hs]
  exact ⟨_, rfl⟩
theorem l1_yes (h3 : 0 ≤ n0) (h4 : n0 < 4294967296) (hu : 0 ≤ u) (hu2 : u < 4294967296) (hr0 : 0 ≤ r) (hr1 : r < 4294967296) (hq0 : 1 ≤ q) (hq2 : q ≤ 4294967297) (h1 : 0 ≤ n1) (h2 : n1 < 4294967296) (c : KC n0 u q r) :
    bits_Div64.l1 (k + 2) y s n1 n0 u Q1 r V q = bits_Div64.j4 (k + 1) y s n1 n0 u Q1 r V q true := by
  rw [bits_Div64.l1]
  by_cases hq : q ≥ 4294967296
  · rw [if_pos hq]
  · rw [if_neg hq, kc_dec h3 h4 hu hu2 hr0 hr1 (by omega) hq, decide_eq_true c]
theorem l1_out (hs : 0 ≤ s) (hq0 : 1 ≤ q) (hq2 : q ≤ 4294967297) (hr0 : 0 ≤ r) (hr1 : r < 4294967296) (h1 : 0 ≤ n1) (h2 : n1 < 4294967296) (b : r + n1 ≥ 4294967296) : ∃ r2, bits_Div64.j4 (k + 1) y s n1 n0 u Q1 r V q true = some (IntKind.u64.wrap ((IntKind.u64.wrap (Q1 * 4294967296)) + (q - 1)), r2) := by
  rw [bits_Div64.j4, if_pos rfl, wu (r + n1) (by omega) (by omega), wu (q - 1) (by omega) (by omega), if_pos b, if_pos hs]
  exact ⟨_, rfl⟩
theorem l1_on (hq0 : 1 ≤ q) (hq2 : q ≤ 4294967297) (hr0 : 0 ≤ r) (hr1 : r < 4294967296) (h1 : 0 ≤ n1) (h2 : n1 < 4294967296) (b : r + n1 < 4294967296) : bits_Div64.j4 (k + 1) y s n1 n0 u Q1 r V q true = bits_Div64.l1 k y s n1 n0 u Q1 (r + n1) V (q - 1) := by
  rw [bits_Div64.j4, if_pos rfl, wu (r + n1) (by omega) (by omega), wu (q - 1) (by omega) (by omega), if_neg (by omega)]
theorem l1_ok (hs : 0 ≤ s) (hy : y = n1 * 4294967296 + n0) (h1 : 2147483648 ≤ n1) (h2 : n1 < 4294967296) (h3 : 0 ≤ n0) (h4 : n0 < 4294967296) (hV : 0 ≤ V) (hVy : V < y) (hu : 0 ≤ u) (hu2 : u < 4294967296)
    (hr0 : 0 ≤ r) (hr1 : r < n1) (hq : q * n1 + r = V) : ∃ Q r2, KG y V u Q ∧ bits_Div64.l1 (k + 4) y s n1 n0 u Q1 r V q = some (IntKind.u64.wrap ((IntKind.u64.wrap (Q1 * 4294967296)) + Q), r2) := by
  obtain ⟨a0, a1, ⟨c, g⟩ | ⟨c, p, b, g⟩ | ⟨c, p, b, c2, g⟩ | ⟨c, p, b, c2, p2, b2, g⟩⟩ := knuth y n1 n0 V u q r hy h1 h2 h3 h4 hV hVy hu hu2 hr0 hr1 hq
  · obtain ⟨r2, e⟩ := l1_no (y := y) (s := s) (n1 := n1) (Q1 := Q1) (V := V) (k + 2) hs h3 h4 hu hu2 hr0 (by omega) a0 c
    exact ⟨q, r2, g, e⟩
  · obtain ⟨r2, e⟩ := l1_out (y := y) (s := s) (n1 := n1) (n0 := n0) (u := u) (Q1 := Q1) (V := V) (k + 2) hs p a1 hr0 (by omega) (by omega) h2 b
    exact ⟨q - 1, r2, g, by rw [l1_yes (k + 2) h3 h4 hu hu2 hr0 (by omega) p a1 (by omega) h2 c]; exact e⟩
  · obtain ⟨r2, e⟩ := l1_no (y := y) (s := s) (n1 := n1) (Q1 := Q1) (V := V) k hs h3 h4 hu hu2 (r := r + n1) (q := q - 1) (by omega) b (by omega) c2
    exact ⟨q - 1, r2, g, by rw [l1_yes (k + 2) h3 h4 hu hu2 hr0 (by omega) p a1 (by omega) h2 c, l1_on (k + 2) p a1 hr0 (by omega) (by omega) h2 b]; exact e⟩
  · obtain ⟨r2, e⟩ := l1_out (y := y) (s := s) (n1 := n1) (n0 := n0) (u := u) (Q1 := Q1) (V := V) (q := q - 1) (r := r + n1) k hs (by omega) (by omega) (by omega) b (by omega) h2 b2
    exact ⟨q - 1 - 1, r2, g, by rw [l1_yes (k + 2) h3 h4 hu hu2 hr0 (by omega) p a1 (by omega) h2 c, l1_on (k + 2) p a1 hr0 (by omega) (by omega) h2 b, l1_yes k h3 h4 hu hu2 (by omega) b (by omega) (by omega) (by omega) h2 c2]; exact e⟩
end
theorem rest_of (U n1 : Int) (hU : 0 ≤ U) (hU2 : U < 18446744073709551616) (h1 : 2147483648 ≤ n1) : IntKind.u64.wrap (Int.tdiv U n1) = U / n1 ∧ IntKind.u64.wrap (U - IntKind.u64.wrap (IntKind.u64.wrap (Int.tdiv U n1) * n1)) = U % n1 ∧ (U / n1) * n1 + U % n1 = U ∧ 0 ≤ U % n1 ∧ U % n1 < n1 := by
  have hn : n1 ≠ 0 := by omega
  have hm : (U / n1) * n1 + U % n1 = U := by rw [Int.mul_comm]; exact Int.mul_ediv_add_emod U n1
  have h0 : 0 ≤ U % n1 := Int.emod_nonneg U hn
  have hl : U % n1 < n1 := Int.emod_lt_of_pos U (by omega)
  have hd0 : 0 ≤ U / n1 := Int.ediv_nonneg hU (by omega)
  have hd1 : U / n1 ≤ U := Int.ediv_le_self _ hU
  have e1 : IntKind.u64.wrap (Int.tdiv U n1) = U / n1 := by rw [Int.tdiv_eq_ediv_of_nonneg hU, wu _ hd0 (by omega)]
  have p0 : 0 ≤ (U / n1) * n1 := Int.mul_nonneg hd0 (by omega)
  refine ⟨e1, ?_, hm, h0, hl⟩
  rw [e1, wu (U / n1 * n1) p0 (by omega), wu _ (by omega) (by omega)]
  omega
/-- Div64 on the words made ready. -/
theorem div_core (k : Nat) (y s n1 n0 U u v : Int) (hs : 0 ≤ s) (hy : y = n1 * 4294967296 + n0) (h1 : 2147483648 ≤ n1) (h2 : n1 < 4294967296) (h3 : 0 ≤ n0) (h4 : n0 < 4294967296) (hU : 0 ≤ U) (hUy : U < y) (hu : 0 ≤ u) (hu2 : u < 4294967296) (hv : 0 ≤ v) (hv2 : v < 4294967296) :
    ∃ Q r2, Q * y ≤ U * 18446744073709551616 + u * 4294967296 + v ∧ U * 18446744073709551616 + u * 4294967296 + v < (Q + 1) * y ∧
    bits_Div64.l0 (k + 9) y s n1 n0 U u v (IntKind.u64.wrap (Int.tdiv U n1)) (IntKind.u64.wrap (U - IntKind.u64.wrap (IntKind.u64.wrap (Int.tdiv U n1) * n1))) = some (Q, r2) := by
  obtain ⟨e1, e2, hm, hr0, hr1⟩ := rest_of U n1 hU (by omega) h1
  obtain ⟨Q1, g1, up⟩ := l0_ok (s := s) (v := v) (k + 5) hy h1 h2 h3 h4 hU hUy hu hu2 hr0 hr1 hm
  have q1 := kg_lt hUy hu2 (by omega) g1
  obtain ⟨b0, b1, b2⟩ := g1
  have bp : 0 ≤ Q1 * y := Int.mul_nonneg b0 (by omega)
  rw [Int.add_mul Q1 1 y, Int.one_mul] at b2
  obtain ⟨V, hV⟩ : ∃ V, V = U * 4294967296 + u - Q1 * y := ⟨_, rfl⟩
  have eV : IntKind.u64.wrap ((IntKind.u64.wrap ((IntKind.u64.wrap (U * 4294967296)) + u)) - (IntKind.u64.wrap (Q1 * y))) = V := by
    simp only [wu_def]
    omega
  obtain ⟨f1, f2, fm, fr0, fr1⟩ := rest_of V n1 (by omega) (by omega) h1
  obtain ⟨Q0, r2, g0, e0⟩ := l1_ok (Q1 := Q1) k hs hy h1 h2 h3 h4 (V := V) (by omega) (by omega) hv hv2 fr0 fr1 fm
  have q0 := kg_lt (U := V) (by omega) hv2 (by omega) g0
  obtain ⟨d0, d1, d2⟩ := g0
  rw [Int.add_mul Q0 1 y, Int.one_mul] at d2
  have ey : (Q1 * 4294967296 + Q0) * y = 4294967296 * (Q1 * y) + Q0 * y := by rw [Int.add_mul, Int.mul_assoc, Int.mul_comm Q1, Int.mul_assoc, Int.mul_comm y]
  refine ⟨Q1 * 4294967296 + Q0, r2, by omega, by rw [Int.add_mul _ 1 y, Int.one_mul]; omega, ?_⟩
  rw [e2, e1]
  refine up _ ?_
  rw [bits_Div64.j2, if_neg (by omega), eV, f2, f1, e0, wu (Q1 * 4294967296) (by omega) (by omega), wu _ (by omega) (by omega)]
/-- Div64: the quotient. -/
theorem div64_ok (k : Nat) (hi lo y : Int) (hh0 : 0 < hi) (hh : hi < y) (hl0 : 0 ≤ lo) (hl : lo < 18446744073709551616) (hy2 : y < 18446744073709551616) : ∃ r2, bits_Div64.f (k + 9) hi lo y = some ((hi * 18446744073709551616 + lo) / y, r2) := by
  obtain ⟨s, hs, hz, hp, hyn⟩ := clz y (by omega) hy2 (k + 8)
  have P0 : (0 : Int) < 2 ^ s := Int.pow_pos (by decide)
  have R0 : (0 : Int) < 2 ^ (64 - s) := Int.pow_pos (by decide)
  have PR : (2 : Int) ^ (64 - s) * 2 ^ s = 18446744073709551616 := by rw [← Int.pow_add, show 64 - s + s = 64 by omega]; rfl
  have shl_e : ∀ x : Int, shl .u64 x (s : Int) = IntKind.u64.wrap (x * 2 ^ s) := fun x => by
    unfold shl
    rw [Int.toNat_natCast, Nat.min_eq_left (show s ≤ IntKind.u64.bits from by simp [IntKind.bits]; omega)]
  have shr_e : shr .u64 lo (64 - (s : Int)) = lo / 2 ^ (64 - s) := by
    unfold shr
    rw [show (64 - (s : Int)).toNat = 64 - s by omega, Nat.min_eq_left (show 64 - s ≤ IntKind.u64.bits from by simp [IntKind.bits])]
  have es : IntKind.u64.wrap (s : Int) = (s : Int) := wu _ (by omega) (by omega)
  have es2 : IntKind.u64.wrap (64 - (s : Int)) = 64 - (s : Int) := wu _ (by omega) (by omega)
  generalize hP : (2 : Int) ^ s = P at *
  generalize hR : (2 : Int) ^ (64 - s) = R at *
  have y1 : y * P < 18446744073709551616 := by rw [← PR]; exact Int.mul_lt_mul_of_pos_right hyn P0
  have y1a : 18446744073709551616 ≤ 2 * (y * P) := by rw [← Int.mul_assoc]; exact hp
  have u1 : hi * P < 18446744073709551616 := Int.lt_of_le_of_lt (Int.mul_le_mul_of_nonneg_right (Int.le_of_lt hh) (Int.le_of_lt P0)) y1
  have u0 : 0 ≤ hi * P := Int.mul_nonneg (by omega) (Int.le_of_lt P0)
  have u2 : hi * P + P ≤ y * P := by
    have := Int.mul_le_mul_of_nonneg_right (show hi + 1 ≤ y by omega) (Int.le_of_lt P0)
    rwa [Int.add_mul, Int.one_mul] at this
  obtain ⟨c, hc⟩ : ∃ c, c = lo / R := ⟨_, rfl⟩
  have c0 : 0 ≤ c := by rw [hc]; exact Int.ediv_nonneg hl0 (Int.le_of_lt R0)
  have cm : c * R + lo % R = lo := by rw [hc, Int.mul_comm]; exact Int.mul_ediv_add_emod lo R
  have e0 : 0 ≤ lo % R := Int.emod_nonneg lo (by omega)
  have e1 : lo % R < R := Int.emod_lt_of_pos lo R0
  have cP : c < P := by
    apply Int.not_le.mp
    intro hn
    have := Int.mul_le_mul_of_nonneg_right hn (Int.le_of_lt R0)
    rw [Int.mul_comm P R, PR] at this
    omega
  obtain ⟨w, hw⟩ : ∃ w, w = (lo % R) * P := ⟨_, rfl⟩
  have w0 : 0 ≤ w := by rw [hw]; exact Int.mul_nonneg e0 (Int.le_of_lt P0)
  have w1 : w < 18446744073709551616 := by rw [hw, ← PR]; exact Int.mul_lt_mul_of_pos_right e1 P0
  have lP : lo * P = c * 18446744073709551616 + w := by
    rw [hw, ← PR, ← Int.mul_assoc, ← Int.add_mul, cm]
  have a_y : shl .u64 y (s : Int) = y * P := by rw [shl_e, wu _ (by omega) y1]
  have a_h : shl .u64 hi (s : Int) = hi * P := by rw [shl_e, wu _ u0 u1]
  have a_l : shl .u64 lo (s : Int) = w := by rw [shl_e, lP, wu_def]; omega
  have a_c : shr .u64 lo (64 - (s : Int)) = c := by rw [shr_e, hc]
  have P1 : P ≤ 18446744073709551616 := by
    have := Int.mul_le_mul_of_nonneg_right (show (1 : Int) ≤ R by omega) (Int.le_of_lt P0)
    omega
  have a_o : Go.bits .or .u64 (hi * P) c = hi * P + c :=
    bits_join .u64 64 (by simp [IntKind.bits]) wu_pow s (hi * P) c u0 (by rw [hP]; exact Int.mul_emod_left hi P) (by simpa using u1) c0 (by rw [hP]; exact cP) (by simpa using (show c < 18446744073709551616 by omega))
  have mask : ∀ x : Int, 0 ≤ x → x < 18446744073709551616 → Go.bits .and .u64 x 4294967295 = x % 4294967296 := fun x h0 h1 =>
    bits_mask .u64 64 (by simp [IntKind.bits]) wu_pow 32 (by decide) x h0 (by simpa using h1)
  obtain ⟨Q, r2, g1, g2, eQ⟩ := div_core k (y * P) (s : Int) (y * P / 4294967296) (y * P % 4294967296) (hi * P + c) (w / 4294967296) (w % 4294967296) (by omega) (by omega) (by omega) (by omega) (by omega) (by omega) (by omega) (by omega) (by omega) (by omega) (by omega) (by omega)
  have hQ : Q = (hi * 18446744073709551616 + lo) / y := by
    have eD : (hi * 18446744073709551616 + lo) * P = (hi * P + c) * 18446744073709551616 + w / 4294967296 * 4294967296 + w % 4294967296 := by
      rw [Int.add_mul, lP, Int.mul_assoc, Int.mul_comm 18446744073709551616 P, ← Int.mul_assoc]
      omega
    have l1 : Q * y ≤ hi * 18446744073709551616 + lo := by
      refine Int.le_of_mul_le_mul_right ?_ P0
      rw [eD, Int.mul_assoc]; exact g1
    have l2 : hi * 18446744073709551616 + lo < (Q + 1) * y := by
      refine Int.lt_of_mul_lt_mul_right ?_ (Int.le_of_lt P0)
      rw [eD, Int.mul_assoc]; exact g2
    have m1 : Q ≤ (hi * 18446744073709551616 + lo) / y := Int.le_ediv_of_mul_le (by omega) l1
    have m2 : (hi * 18446744073709551616 + lo) / y < Q + 1 := Int.ediv_lt_of_lt_mul (by omega) l2
    omega
  refine ⟨r2, ?_⟩
  unfold bits_Div64.f
  rw [if_neg (by omega), if_neg (by omega), if_neg (by omega), hz, Option.bind_some, es, if_pos (by omega), es2, if_pos (by omega), a_y, if_neg (by omega), a_h, a_c, a_o, a_l, mask _ (by omega) y1, mask w w0 w1, eQ, hQ]
theorem div64_zero (k : Nat) (lo y : Int) (hy : 0 < y) (hl0 : 0 ≤ lo) (hl : lo < 18446744073709551616) : ∃ r2, bits_Div64.f k 0 lo y = some (lo / y, r2) := by
  unfold bits_Div64.f
  rw [if_neg (by omega), if_neg (by omega), if_pos rfl, Int.tdiv_eq_ediv_of_nonneg hl0, wu _ (Int.ediv_nonneg hl0 (by omega)) (by have := Int.ediv_le_self y hl0; omega)]
  exact ⟨_, rfl⟩
end Go.Proofs.Ytddhpkobingmhaa.PB
