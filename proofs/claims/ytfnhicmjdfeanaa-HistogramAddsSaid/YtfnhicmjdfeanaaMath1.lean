/- The bucket index of a value: what math/bits.Len, Index, Bounds and the definition's own index, low and high compute, in plain numbers. -/
import Derived.Test.YtfnhicmjdfeanaaPHx13
-- NEEDS H: bits_Len
namespace Go.Proofs.Ytfnhicmjdfeanaa.PH
open Go.RowKit Go.Proofs.YtfnhicmjdfeanaaW.PrintWords Go.Proofs.YtfnhicmjdfeanaaW.PrintLast Go.Proofs.YtfnhicmjdfeanaaW.PrintMore

/-- n bits are needed for x. -/
def Bits (x n : Int) : Prop := 0 < x ∧ 0 ≤ n ∧ n ≤ 64 ∧ (2 : Int) ^ n.toNat ≤ 2 * x ∧ x < 2 ^ n.toNat
def lenTab : ByteArray := ⟨#[0, 1, 2, 2, 3, 3, 3, 3, 4, 4, 4, 4, 4, 4, 4, 4, 5, 5, 5, 5, 5, 5, 5, 5, 5, 5, 5, 5, 5, 5, 5, 5, 6, 6, 6, 6, 6, 6, 6, 6, 6, 6, 6, 6, 6, 6, 6, 6, 6, 6, 6, 6, 6, 6, 6, 6, 6, 6, 6, 6, 6, 6, 6, 6, 7, 7, 7, 7, 7, 7, 7, 7, 7, 7, 7, 7, 7, 7, 7, 7, 7, 7, 7, 7, 7, 7, 7, 7, 7, 7, 7, 7, 7, 7, 7, 7, 7, 7, 7, 7, 7, 7, 7, 7, 7, 7, 7, 7, 7, 7, 7, 7, 7, 7, 7, 7, 7, 7, 7, 7, 7, 7, 7, 7, 7, 7, 7, 7, 8, 8, 8, 8, 8, 8, 8, 8, 8, 8, 8, 8, 8, 8, 8, 8, 8, 8, 8, 8, 8, 8, 8, 8, 8, 8, 8, 8, 8, 8, 8, 8, 8, 8, 8, 8, 8, 8, 8, 8, 8, 8, 8, 8, 8, 8, 8, 8, 8, 8, 8, 8, 8, 8, 8, 8, 8, 8, 8, 8, 8, 8, 8, 8, 8, 8, 8, 8, 8, 8, 8, 8, 8, 8, 8, 8, 8, 8, 8, 8, 8, 8, 8, 8, 8, 8, 8, 8, 8, 8, 8, 8, 8, 8, 8, 8, 8, 8, 8, 8, 8, 8, 8, 8, 8, 8, 8, 8, 8, 8, 8, 8, 8, 8, 8, 8, 8, 8, 8, 8, 8, 8, 8, 8, 8, 8, 8, 8]⟩
set_option maxRecDepth 100000 in
theorem tab_bits8 : ∀ i : Fin 256, i.val ≠ 0 → 1 ≤ bt lenTab i.val ∧ bt lenTab i.val ≤ 8 ∧ (2 : Nat) ^ (bt lenTab i.val).toNat ≤ 2 * i.val ∧ i.val < 2 ^ (bt lenTab i.val).toNat := by decide +kernel
theorem tab_bits (x : Int) (h0 : 0 < x) (h1 : x < 256) : Bits x (bt lenTab x) ∧ bt lenTab x ≤ 8 ∧ 1 ≤ bt lenTab x := by
  obtain ⟨n, rfl⟩ := Int.eq_ofNat_of_zero_le (Int.le_of_lt h0)
  have h := tab_bits8 ⟨n, by omega⟩ (by simp; omega)
  dsimp only at h
  obtain ⟨a, b, c, d⟩ := h
  refine ⟨⟨h0, by omega, by omega, ?_, ?_⟩, b, a⟩
  · have : ((2 ^ (bt lenTab (n : Int)).toNat : Nat) : Int) ≤ ((2 * n : Nat) : Int) := by exact_mod_cast c
    simpa using this
  · have : ((n : Nat) : Int) < ((2 ^ (bt lenTab (n : Int)).toNat : Nat) : Int) := by exact_mod_cast d
    simpa using this
theorem bits_up (x y n : Int) (j : Nat) (p : Int) (hp : p = 2 ^ j) (h : Bits y n) (hy : y = x / p) (hn : n + j ≤ 64) : Bits x (n + j) := by
  obtain ⟨h0, h1, h2, h3, h4⟩ := h
  have pp : 0 < p := by rw [hp]; exact Int.pow_pos (by decide)
  have e : (n + (j : Int)).toNat = n.toNat + j := by omega
  have hx : y * p ≤ x := by rw [hy]; exact Int.ediv_mul_le _ (by omega)
  have hx2 : x < (y + 1) * p := by rw [hy]; exact Int.lt_ediv_add_one_mul_self _ pp
  have e2 : (2 : Int) ^ (n + (j : Int)).toNat = 2 ^ n.toNat * p := by rw [e, Int.pow_add, hp]
  refine ⟨?_, by omega, hn, ?_, ?_⟩
  · have : 0 < y * p := Int.mul_pos h0 pp
    omega
  · rw [e2]
    have : 2 ^ n.toNat * p ≤ (2 * y) * p := Int.mul_le_mul_of_nonneg_right h3 (by omega)
    rw [Int.mul_assoc] at this
    omega
  · rw [e2]
    have : (y + 1) * p ≤ 2 ^ n.toNat * p := Int.mul_le_mul_of_nonneg_right (by omega) (by omega)
    omega
theorem wr_small (x : Int) (h0 : -9223372036854775808 ≤ x) (h1 : x ≤ 9223372036854775807) : wrap64 x = x := by unfold wrap64; omega
theorem j0_eq (k : Nat) (x0 x2 : Int) : bits_Len64.j0 (k + 1) x0 x2 = if x0 ≥ 65536 then (if (x0 / 65536) ≥ 256 then (if 0 ≤ (((x0 / 65536) / 256) % 256) then (if (((x0 / 65536) / 256) % 256) < 256 then (some (wrap64 ((wrap64 ((wrap64 (x2 + 16)) + 8)) + (wrap64 (bt lenTab (((x0 / 65536) / 256) % 256)))))) else (none)) else (none)) else (if 0 ≤ ((x0 / 65536) % 256) then (if ((x0 / 65536) % 256) < 256 then (some (wrap64 ((wrap64 (x2 + 16)) + (wrap64 (bt lenTab ((x0 / 65536) % 256)))))) else (none)) else (none))) else (if x0 ≥ 256 then (if 0 ≤ ((x0 / 256) % 256) then (if ((x0 / 256) % 256) < 256 then (some (wrap64 ((wrap64 (x2 + 8)) + (wrap64 (bt lenTab ((x0 / 256) % 256)))))) else (none)) else (none)) else (if 0 ≤ ((x0) % 256) then (if ((x0) % 256) < 256 then (some (wrap64 (x2 + (wrap64 (bt lenTab ((x0) % 256)))))) else (none)) else (none))) := rfl
theorem len_j0 (k : Nat) (x s : Int) (h0 : 0 < x) (h1 : x < 4294967296) (hs : 0 ≤ s) (hs2 : s ≤ 32) : ∃ n, bits_Len64.j0 (k + 1) x s = some (s + n) ∧ Bits x n ∧ n ≤ 32 := by
  rw [j0_eq]
  by_cases a : x ≥ 65536
  · rw [if_pos a]
    by_cases b : x / 65536 ≥ 256
    · have e : x / 65536 / 256 % 256 = x / 16777216 := by omega
      rw [if_pos b, e, if_pos (by omega), if_pos (by omega)]
      obtain ⟨t1, t2, t3⟩ := tab_bits (x / 16777216) (by omega) (by omega)
      refine ⟨bt lenTab (x / 16777216) + 24, ?_, ?_, by omega⟩
      · rw [wr_small (s + 16) (by omega) (by omega), wr_small (s + 16 + 8) (by omega) (by omega), wr_small (bt _ _) (by omega) (by omega), wr_small _ (by omega) (by omega)]
        congr 1; omega
      · exact bits_up x _ _ 24 16777216 (by decide) t1 rfl (by omega)
    · have e : x / 65536 % 256 = x / 65536 := by omega
      rw [if_neg b, e, if_pos (by omega), if_pos (by omega)]
      obtain ⟨t1, t2, t3⟩ := tab_bits (x / 65536) (by omega) (by omega)
      refine ⟨bt lenTab (x / 65536) + 16, ?_, ?_, by omega⟩
      · rw [wr_small (s + 16) (by omega) (by omega), wr_small (bt _ _) (by omega) (by omega), wr_small _ (by omega) (by omega)]
        congr 1; omega
      · exact bits_up x _ _ 16 65536 (by decide) t1 rfl (by omega)
  · rw [if_neg a]
    by_cases b : x ≥ 256
    · have e : x / 256 % 256 = x / 256 := by omega
      rw [if_pos b, e, if_pos (by omega), if_pos (by omega)]
      obtain ⟨t1, t2, t3⟩ := tab_bits (x / 256) (by omega) (by omega)
      refine ⟨bt lenTab (x / 256) + 8, ?_, ?_, by omega⟩
      · rw [wr_small (s + 8) (by omega) (by omega), wr_small (bt _ _) (by omega) (by omega), wr_small _ (by omega) (by omega)]
        congr 1; omega
      · exact bits_up x _ _ 8 256 (by decide) t1 rfl (by omega)
    · have e : x % 256 = x := by omega
      rw [if_neg b, e, if_pos (by omega), if_pos (by omega)]
      obtain ⟨t1, t2, t3⟩ := tab_bits x (by omega) (by omega)
      refine ⟨bt lenTab x, ?_, t1, by omega⟩
      rw [wr_small (bt _ _) (by omega) (by omega), wr_small _ (by omega) (by omega)]
theorem bits_len (k : Nat) (x : Int) (h0 : 0 < x) (h1 : x < 18446744073709551616) : ∃ n, bits_Len.f (k + 1) x = some n ∧ Bits x n := by
  unfold bits_Len.f bits_Len64.f
  by_cases a : x ≥ 4294967296
  · obtain ⟨n, hn, hb, h32⟩ := len_j0 k (x / 4294967296) 32 (by omega) (by omega) (by omega) (by omega)
    refine ⟨32 + n, by rw [if_pos a, hn]; rfl, ?_⟩
    rw [Int.add_comm]
    exact bits_up x _ _ 32 4294967296 (by decide) hb rfl (by omega)
  · obtain ⟨n, hn, hb, h32⟩ := len_j0 k x 0 h0 (by omega) (by omega) (by omega)
    exact ⟨0 + n, by rw [if_neg a, hn]; rfl, by rw [Int.zero_add]; exact hb⟩
end Go.Proofs.Ytfnhicmjdfeanaa.PH
