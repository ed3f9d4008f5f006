/- The bucket index of a value: what math/bits.Len, Index, Bounds and the definition's own index, low and high compute, in plain numbers. -/
import Derived.Test.YtfnhicmjdfeanaaPHx3
import Derived.Test.YtfnhicmjdfeanaaPHx4
import Derived.Test.YtfnhicmjdfeanaaPHx5
import Derived.Test.YtfnhicmjdfeanaaPHx6
import Derived.Test.YtfnhicmjdfeanaaPHx7
import Derived.Test.YtfnhicmjdfeanaaPHx8
import Derived.Test.YtfnhicmjdfeanaaPHx14
import Derived.Test.YtfnhicmjdfeanaaPHx15
import Derived.Test.YtfnhicmjdfeanaaPHx16
import Derived.Test.YtfnhicmjdfeanaaPHx17
import Derived.Test.YtfnhicmjdfeanaaPHx18
import Derived.Test.YtfnhicmjdfeanaaPHx20
import Derived.Test.YtfnhicmjdfeanaaPHx22
import Derived.Test.YtfnhicmjdfeanaaPHx23
import Derived.Test.YtfnhicmjdfeanaaPHx25
import Derived.Test.YtfnhicmjdfeanaaPHx27
import Derived.Test.YtfnhicmjdfeanaaPHx30
import Derived.Test.YtfnhicmjdfeanaaPHx31
import Derived.Test.YtfnhicmjdfeanaaPHx33
import Derived.Test.YtfnhicmjdfeanaaPHx34
import Derived.Test.YtfnhicmjdfeanaaPHx36
import Derived.Test.YtfnhicmjdfeanaaPHx37
import Derived.Test.YtfnhicmjdfeanaaPHx39
-- NEEDS H: bits_Len fraction_Check fraction_Make fraction_floor fraction_gcd fraction_magnitude histogram_Add histogram_AtMost histogram_Bounds histogram_Bucket_48 histogram_Check histogram_Equal histogram_Index histogram_Merge histogram_Of histogram_Scale histogram_Sum histogram_Total histogram_limited sleuthlaw21_at sleuthlaw21_count sleuthlaw21_index sleuthlaw21_known sleuthlaw21_low sleuthlaw21_of sleuthlaw21_right sleuthlaw21_same sleuthlaw21_values sleuthref02_Check sleuthref02_divisor sleuthref02_magnitude
namespace Go.Proofs.Ytfnhicmjdfeanaa.PH
open Go.RowKit Go.Proofs.YtfnhicmjdfeanaaW.PrintWords Go.Proofs.YtfnhicmjdfeanaaW.PrintLast Go.Proofs.YtfnhicmjdfeanaaW.PrintMore

/-- n bits are needed for x. -/
def Bits (x n : Int) : Prop := 0 < x ∧ 0 ≤ n ∧ n ≤ 64 ∧ (2 : Int) ^ n.toNat ≤ 2 * x ∧ x < 2 ^ n.toNat
def lenTab : ByteArray := ⟨#[0, 1, 2, 2, 3, 3, 3, 3, 4, 4, 4, 4, 4, 4, 4, 4, 5, 5, 5, 5, 5, 5, 5, 5, 5, 5, 5, 5, 5, 5, 5, 5, 6, 6, 6, 6, 6, 6, 6, 6, 6, 6, 6, 6, 6, 6, 6, 6, 6, 6, 6, 6, 6, 6, 6, 6, 6, 6, 6, 6, 6, 6, 6, 6, 7, 7, 7, 7, 7, 7, 7, 7, 7, 7, 7, 7, 7, 7, 7, 7, 7, 7, 7, 7, 7, 7, 7, 7, 7, 7, 7, 7, 7, 7, 7, 7, 7, 7, 7, 7, 7, 7, 7, 7, 7, 7, 7, 7, 7, 7, 7, 7, 7, 7, 7, 7, 7, 7, 7, 7, 7, 7, 7, 7, 7, 7, 7, 7, 8, 8, 8, 8, 8, 8, 8, 8, 8, 8, 8, 8, 8, 8, 8, 8, 8, 8, 8, 8, 8, 8, 8, 8, 8, 8, 8, 8, 8, 8, 8, 8, 8, 8, 8, 8, 8, 8, 8, 8, 8, 8, 8, 8, 8, 8, 8, 8, 8, 8, 8, 8, 8, 8, 8, 8, 8, 8, 8, 8, 8, 8, 8, 8, 8, 8, 8, 8, 8, 8, 8, 8, 8, 8, 8, 8, 8, 8, 8, 8, 8, 8, 8, 8, 8, 8, 8, 8, 8, 8, 8, 8, 8, 8, 8, 8, 8, 8, 8, 8, 8, 8, 8, 8, 8, 8, 8, 8, 8, 8, 8, 8, 8, 8, 8, 8, 8, 8, 8, 8, 8, 8, 8, 8, 8, 8, 8, 8]⟩
set_option maxRecDepth 100000 in
theorem tab_bits8 : ∀ i : Fin 256, i.val ≠ 0 → 1 ≤ bt lenTab i.val ∧ bt lenTab i.val ≤ 8 ∧ (2 : Nat) ^ (bt lenTab i.val).toNat ≤ 2 * i.val ∧ i.val < 2 ^ (bt lenTab i.val).toNat := by decide +kernel
theorem tab_bits (x : Int) (h0 : 0 < x) (h1 : x < 256) : Bits x (bt lenTab x) ∧ bt lenTab x ≤ 8 ∧ 1 ≤ bt lenTab x := by
  obtain ⟨n, rfl⟩ := Int.eq_ofNat_of_zero_le (Int.le_of_lt h0)
  have h := tab_bits8 ⟨n, by omega⟩ (by simp; omega)
  dsimp only at h
  obtain ⟨a, b, c, d⟩ := h
  refine ⟨⟨h0, by omega, by omega, ?_, ?_⟩, b, a⟩
  · have : ((2 ^ (bt lenTab (n : Int)).toNat : Nat) : Int) ≤ ((2 * n : Nat) : Int) := by exact_mod_cast c
    simpa using this
  · have : ((n : Nat) : Int) < ((2 ^ (bt lenTab (n : Int)).toNat : Nat) : Int) := by exact_mod_cast d
    simpa using this
theorem bits_up (x y n : Int) (j : Nat) (p : Int) (hp : p = 2 ^ j) (h : Bits y n) (hy : y = x / p) (hn : n + j ≤ 64) : Bits x (n + j) := by
  obtain ⟨h0, h1, h2, h3, h4⟩ := h
  have pp : 0 < p := by rw [hp]; exact Int.pow_pos (by decide)
  have e : (n + (j : Int)).toNat = n.toNat + j := by omega
  have hx : y * p ≤ x := by rw [hy]; exact Int.ediv_mul_le _ (by omega)
  have hx2 : x < (y + 1) * p := by rw [hy]; exact Int.lt_ediv_add_one_mul_self _ pp
  have e2 : (2 : Int) ^ (n + (j : Int)).toNat = 2 ^ n.toNat * p := by rw [e, Int.pow_add, hp]
  refine ⟨?_, by omega, hn, ?_, ?_⟩
  · have : 0 < y * p := Int.mul_pos h0 pp
    omega
  · rw [e2]
    have : 2 ^ n.toNat * p ≤ (2 * y) * p := Int.mul_le_mul_of_nonneg_right h3 (by omega)
    rw [Int.mul_assoc] at this
    omega
  · rw [e2]
    have : (y + 1) * p ≤ 2 ^ n.toNat * p := Int.mul_le_mul_of_nonneg_right (by omega) (by omega)
    omega
theorem wr_small (x : Int) (h0 : -9223372036854775808 ≤ x) (h1 : x ≤ 9223372036854775807) : wrap64 x = x := by unfold wrap64; omega
theorem j0_eq (k : Nat) (x0 x2 : Int) : bits_Len64.j0 (k + 1) x0 x2 = if x0 ≥ 65536 then (if (x0 / 65536) ≥ 256 then (if 0 ≤ (((x0 / 65536) / 256) % 256) then (if (((x0 / 65536) / 256) % 256) < 256 then (some (wrap64 ((wrap64 ((wrap64 (x2 + 16)) + 8)) + (wrap64 (bt lenTab (((x0 / 65536) / 256) % 256)))))) else (none)) else (none)) else (if 0 ≤ ((x0 / 65536) % 256) then (if ((x0 / 65536) % 256) < 256 then (some (wrap64 ((wrap64 (x2 + 16)) + (wrap64 (bt lenTab ((x0 / 65536) % 256)))))) else (none)) else (none))) else (if x0 ≥ 256 then (if 0 ≤ ((x0 / 256) % 256) then (if ((x0 / 256) % 256) < 256 then (some (wrap64 ((wrap64 (x2 + 8)) + (wrap64 (bt lenTab ((x0 / 256) % 256)))))) else (none)) else (none)) else (if 0 ≤ ((x0) % 256) then (if ((x0) % 256) < 256 then (some (wrap64 (x2 + (wrap64 (bt lenTab ((x0) % 256)))))) else (none)) else (none))) := rfl
theorem len_j0 (k : Nat) (x s : Int) (h0 : 0 < x) (h1 : x < 4294967296) (hs : 0 ≤ s) (hs2 : s ≤ 32) : ∃ n, bits_Len64.j0 (k + 1) x s = some (s + n) ∧ Bits x n ∧ n ≤ 32 := by
  rw [j0_eq]
  by_cases a : x ≥ 65536
  · rw [if_pos a]
    by_cases b : x / 65536 ≥ 256
    · have e : x / 65536 / 256 % 256 = x / 16777216 := by omega
      rw [if_pos b, e, if_pos (by omega), if_pos (by omega)]
      obtain ⟨t1, t2, t3⟩ := tab_bits (x / 16777216) (by omega) (by omega)
      refine ⟨bt lenTab (x / 16777216) + 24, ?_, ?_, by omega⟩
      · rw [wr_small (s + 16) (by omega) (by omega), wr_small (s + 16 + 8) (by omega) (by omega), wr_small (bt _ _) (by omega) (by omega), wr_small _ (by omega) (by omega)]
        congr 1; omega
      · exact bits_up x _ _ 24 16777216 (by decide) t1 rfl (by omega)
    · have e : x / 65536 % 256 = x / 65536 := by omega
      rw [if_neg b, e, if_pos (by omega), if_pos (by omega)]
      obtain ⟨t1, t2, t3⟩ := tab_bits (x / 65536) (by omega) (by omega)
      refine ⟨bt lenTab (x / 65536) + 16, ?_, ?_, by omega⟩
      · rw [wr_small (s + 16) (by omega) (by omega), wr_small (bt _ _) (by omega) (by omega), wr_small _ (by omega) (by omega)]
        congr 1; omega
      · exact bits_up x _ _ 16 65536 (by decide) t1 rfl (by omega)
  · rw [if_neg a]
    by_cases b : x ≥ 256
    · have e : x / 256 % 256 = x / 256 := by omega
      rw [if_pos b, e, if_pos (by omega), if_pos (by omega)]
      obtain ⟨t1, t2, t3⟩ := tab_bits (x / 256) (by omega) (by omega)
      refine ⟨bt lenTab (x / 256) + 8, ?_, ?_, by omega⟩
      · rw [wr_small (s + 8) (by omega) (by omega), wr_small (bt _ _) (by omega) (by omega), wr_small _ (by omega) (by omega)]
        congr 1; omega
      · exact bits_up x _ _ 8 256 (by decide) t1 rfl (by omega)
    · have e : x % 256 = x := by omega
      rw [if_neg b, e, if_pos (by omega), if_pos (by omega)]
      obtain ⟨t1, t2, t3⟩ := tab_bits x (by omega) (by omega)
      refine ⟨bt lenTab x, ?_, t1, by omega⟩
      rw [wr_small (bt _ _) (by omega) (by omega), wr_small _ (by omega) (by omega)]
theorem bits_len (k : Nat) (x : Int) (h0 : 0 < x) (h1 : x < 18446744073709551616) : ∃ n, bits_Len.f (k + 1) x = some n ∧ Bits x n := by
  unfold bits_Len.f bits_Len64.f
  by_cases a : x ≥ 4294967296
  · obtain ⟨n, hn, hb, h32⟩ := len_j0 k (x / 4294967296) 32 (by omega) (by omega) (by omega) (by omega)
    refine ⟨32 + n, by rw [if_pos a, hn]; rfl, ?_⟩
    rw [Int.add_comm]
    exact bits_up x _ _ 32 4294967296 (by decide) hb rfl (by omega)
  · obtain ⟨n, hn, hb, h32⟩ := len_j0 k x 0 h0 (by omega) (by omega) (by omega)
    exact ⟨0 + n, by rw [if_neg a, hn]; rfl, by rw [Int.zero_add]; exact hb⟩
end Go.Proofs.Ytfnhicmjdfeanaa.PH

namespace Go.Proofs.Ytfnhicmjdfeanaa.PH
open Go.RowKit Go.Proofs.YtfnhicmjdfeanaaW.PrintWords Go.Proofs.YtfnhicmjdfeanaaW.PrintLast Go.Proofs.YtfnhicmjdfeanaaW.PrintMore
set_option linter.unusedVariables false

theorem cast_pow (k : Nat) : ((2 ^ k : Nat) : Int) = (2 : Int) ^ k := by simp
theorem pow_lt_of {a b : Nat} (h : (2 : Int) ^ a < 2 ^ b) : a < b := by
  rw [← cast_pow, ← cast_pow] at h
  exact (Nat.pow_lt_pow_iff_right (show 1 < 2 by decide)).1 (Int.ofNat_lt.1 h)
theorem pow_le_of {a b : Nat} (h : a ≤ b) : (2 : Int) ^ a ≤ 2 ^ b := by
  rw [← cast_pow, ← cast_pow]
  have := Nat.pow_le_pow_right (n := 2) (by decide) h
  omega
theorem pow_bd {k : Nat} (h : k ≤ 37) : 1 ≤ (2 : Int) ^ k ∧ (2 : Int) ^ k ≤ 137438953472 := by
  constructor
  · have := pow_le_of (Nat.zero_le k); simpa using this
  · have := pow_le_of h; simpa using this

def sh (v : Int) : Nat := Nat.log2 v.toNat - 3
theorem sh_spec (v : Int) (h0 : 16 ≤ v) (h1 : v ≤ 1099511627776) : 1 ≤ sh v ∧ sh v ≤ 37 ∧ 8 * (2 : Int) ^ sh v ≤ v ∧ v < 16 * 2 ^ sh v := by
  obtain ⟨n, rfl⟩ := Int.eq_ofNat_of_zero_le (show 0 ≤ v by omega)
  have a := Nat.log2_self_le (n := n) (by omega)
  have b := Nat.lt_log2_self (n := n)
  have c : 4 ≤ Nat.log2 n := by
    rcases Nat.lt_or_ge (Nat.log2 n) 4 with h | h
    · have := Nat.pow_le_pow_right (n := 2) (by decide) (show Nat.log2 n + 1 ≤ 4 by omega)
      omega
    · exact h
  unfold sh
  rw [Int.toNat_natCast]
  obtain ⟨k, hk⟩ : ∃ k, Nat.log2 n = k + 3 := ⟨Nat.log2 n - 3, by omega⟩
  rw [hk] at a b ⊢
  rw [Nat.add_sub_cancel]
  have e1 : 2 ^ (k + 3) = 8 * 2 ^ k := by rw [Nat.pow_add]; omega
  have e2 : 2 ^ (k + 3 + 1) = 16 * 2 ^ k := by rw [Nat.pow_add, Nat.pow_add]; omega
  rw [e1] at a
  rw [e2] at b
  have d : k ≤ 37 := by
    rcases Nat.lt_or_ge 37 k with h | h
    · have := Nat.pow_le_pow_right (n := 2) (by decide) (show 38 ≤ k from h)
      omega
    · exact h
  refine ⟨by omega, d, ?_, ?_⟩
  · rw [← cast_pow]; omega
  · rw [← cast_pow]; omega
theorem sh_unique (v : Int) (k : Nat) (h0 : 16 ≤ v) (h1 : v ≤ 1099511627776) (h2 : 8 * (2 : Int) ^ k ≤ v) (h3 : v < 16 * 2 ^ k) : k = sh v := by
  obtain ⟨a, b, c, d⟩ := sh_spec v h0 h1
  have p1 : (2 : Int) ^ k < 2 ^ (sh v + 1) := by rw [Int.pow_succ]; omega
  have p2 : (2 : Int) ^ sh v < 2 ^ (k + 1) := by rw [Int.pow_succ]; omega
  have := pow_lt_of p1
  have := pow_lt_of p2
  omega
theorem div_bd (v p : Int) (hp : 0 < p) (h2 : 8 * p ≤ v) (h3 : v < 16 * p) : 8 ≤ v / p ∧ v / p ≤ 15 ∧ v / p * p ≤ v ∧ v < v / p * p + p := by
  refine ⟨(Int.le_ediv_iff_mul_le hp).2 h2, ?_, Int.ediv_mul_le _ (by omega), Int.lt_ediv_add_one_mul_self v hp |> fun h => by rw [Int.add_mul, Int.one_mul] at h; exact h⟩
  have := (Int.ediv_lt_iff_lt_mul hp).2 h3
  omega

/-- The index of a value, as it is defined. -/
def bix (v : Int) : Int := if v < 16 then v else 8 * (sh v : Int) + v / 2 ^ sh v
def lowI (n : Int) : Int := if n < 16 then n else (n % 8 + 8) * 2 ^ (n / 8 - 1).toNat
def highI (n : Int) : Int := if n < 16 then n else if (n % 8 + 9) * 2 ^ (n / 8 - 1).toNat - 1 ≤ 1099511627776 then (n % 8 + 9) * 2 ^ (n / 8 - 1).toNat - 1 else 1099511627776

theorem u64_id (v : Int) (h0 : 0 ≤ v) (h1 : v ≤ 1099511627776) : IntKind.u64.wrap v = v := by
  rw [show IntKind.u64.wrap v = v % 18446744073709551616 from rfl]
  omega
theorem index_big (v : Int) (k : Nat) (h0 : 16 ≤ v) (h1 : v ≤ 1099511627776) : histogram_Index.f (k + 2) v = some (bix v, 0) := by
  obtain ⟨a, b, c, d⟩ := sh_spec v h0 h1
  obtain ⟨n, hn, hb⟩ := bits_len k v (by omega) (by omega)
  obtain ⟨b0, b1, b2, b3, b4⟩ := hb
  have p1 : (2 : Int) ^ n.toNat < 2 ^ (sh v + 5) := by rw [Int.pow_add]; omega
  have p2 : (2 : Int) ^ (sh v + 3) < 2 ^ n.toNat := by rw [Int.pow_add]; omega
  have q1 := pow_lt_of p1
  have q2 := pow_lt_of p2
  obtain rfl : n = (sh v : Int) + 4 := by omega
  obtain ⟨e1, e2, e3, e4⟩ := div_bd v (2 ^ sh v) (by have := pow_bd b; omega) c d
  unfold histogram_Index.f
  rw [if_neg (by omega), show decide (v > 1099511627776) = false from decide_eq_false (by omega)]
  rw [histogram_Index.j0, if_neg (by decide), if_neg (by omega), u64_id v (by omega) (by omega), hn]
  simp only [Option.bind_some]
  rw [show (sh v : Int) + 4 - 4 = (sh v : Int) by omega, wr_small (sh v : Int) (by omega) (by omega), if_pos (by omega), wr_small (8 * (sh v : Int)) (by omega) (by omega)]
  have hs : shr .i64 v (sh v : Int) = v / 2 ^ sh v := by
    unfold shr
    rw [Int.toNat_natCast, Nat.min_eq_left (by show sh v ≤ 64; omega)]
  rw [hs, wr_small _ (by omega) (by omega)]
  unfold bix
  rw [if_neg (by omega)]
theorem index_small (v : Int) (k : Nat) (h0 : 0 ≤ v) (h1 : v < 16) : histogram_Index.f (k + 1) v = some (bix v, 0) := by
  unfold histogram_Index.f
  rw [if_neg (by omega), show decide (v > 1099511627776) = false from decide_eq_false (by omega)]
  rw [histogram_Index.j0, if_neg (by decide), if_pos h1]
  unfold bix
  rw [if_pos h1]
theorem index_ok (v : Int) (k : Nat) (h0 : 0 ≤ v) (h1 : v ≤ 1099511627776) : histogram_Index.f (k + 2) v = some (bix v, 0) := by
  by_cases h : v < 16
  · exact index_small v (k + 1) h0 h
  · exact index_big v k (by omega) h1
theorem index_bad (v : Int) (k : Nat) (h : v < 0 ∨ v > 1099511627776) : histogram_Index.f (k + 1) v = some (0, 2) := by
  unfold histogram_Index.f
  by_cases h0 : v < 0
  · rw [if_pos h0, histogram_Index.j0, if_pos rfl]
  · rw [if_neg h0, show decide (v > 1099511627776) = true from decide_eq_true (by omega), histogram_Index.j0, if_pos rfl]
theorem bix_range (v : Int) (h0 : 0 ≤ v) (h1 : v ≤ 1099511627776) : 0 ≤ bix v ∧ bix v < 305 := by
  unfold bix
  by_cases h : v < 16
  · rw [if_pos h]; omega
  · rw [if_neg h]
    obtain ⟨a, b, c, d⟩ := sh_spec v (by omega) h1
    obtain ⟨e1, e2, e3, e4⟩ := div_bd v (2 ^ sh v) (by have := pow_bd b; omega) c d
    by_cases hk : sh v = 37
    · rw [hk] at e3 e1 ⊢
      omega
    · omega
/-- The parts of a great index. -/
theorem bix_parts (v : Int) (h0 : 16 ≤ v) (h1 : v ≤ 1099511627776) : 16 ≤ bix v ∧ (bix v / 8 - 1).toNat = sh v ∧ bix v % 8 + 8 = v / 2 ^ sh v := by
  obtain ⟨a, b, c, d⟩ := sh_spec v h0 h1
  obtain ⟨e1, e2, e3, e4⟩ := div_bd v (2 ^ sh v) (by have := pow_bd b; omega) c d
  unfold bix
  rw [if_neg (by omega)]
  omega
/-- The law's own index: from k on. -/
theorem index_loop (v : Int) (h0 : 0 ≤ v) (h1 : v ≤ 1099511627776) (K : Nat) (hK : K ≤ 37) (hv : v / 2 ^ K < 16) (hk : ∀ j, j < K → 16 ≤ v / 2 ^ j) :
    ∀ (d j k : Nat), j + d = K → d < k → sleuthlaw21_index.l0 k v j = some (8 * (K : Int) + v / 2 ^ K) := by
  intro d
  induction d with
  | zero =>
    intro j k hj hd
    obtain ⟨k, rfl⟩ : ∃ m, k = m + 1 := ⟨k - 1, by omega⟩
    obtain rfl : j = K := by omega
    have hs : shr .i64 v (j : Int) = v / 2 ^ j := by
      unfold shr
      rw [Int.toNat_natCast, Nat.min_eq_left (by show j ≤ 64; omega)]
    rw [sleuthlaw21_index.l0, if_pos (by omega), hs, if_neg (by omega)]
    have : 0 ≤ v / 2 ^ j := Int.ediv_nonneg h0 (by have := pow_bd hK; omega)
    rw [wr_small (8 * (j : Int)) (by omega) (by omega), wr_small _ (by omega) (by omega)]
  | succ d ih =>
    intro j k hj hd
    obtain ⟨k, rfl⟩ : ∃ m, k = m + 1 := ⟨k - 1, by omega⟩
    have hs : shr .i64 v (j : Int) = v / 2 ^ j := by
      unfold shr
      rw [Int.toNat_natCast, Nat.min_eq_left (by show j ≤ 64; omega)]
    rw [sleuthlaw21_index.l0, if_pos (by omega), hs, if_pos (by have := hk j (by omega); omega), wr_small _ (by omega) (by omega)]
    have := ih (j + 1) k (by omega) (by omega)
    rw [show ((j + 1 : Nat) : Int) = (j : Int) + 1 by omega] at this
    exact this
theorem law_index (v : Int) (k : Nat) (h0 : 0 ≤ v) (h1 : v ≤ 1099511627776) : sleuthlaw21_index.f (k + 40) v = some (bix v) := by
  unfold sleuthlaw21_index.f bix
  by_cases h : v < 16
  · rw [if_pos h]
    have := index_loop v h0 h1 0 (by omega) (by simpa using h) (fun j hj => by omega) 0 0 (k + 40) (by omega) (by omega)
    simpa using this
  · rw [if_neg h]
    obtain ⟨a, b, c, d⟩ := sh_spec v (by omega) h1
    obtain ⟨e1, e2, e3, e4⟩ := div_bd v (2 ^ sh v) (by have := pow_bd b; omega) c d
    refine index_loop v h0 h1 (sh v) b (by omega) (fun j hj => ?_) (sh v) 0 (k + 40) (by omega) (by omega)
    have hp := pow_le_of (show j + 1 ≤ sh v by omega)
    rw [Int.pow_succ] at hp
    refine (Int.le_ediv_iff_mul_le (by have := pow_bd (show j ≤ 37 by omega); omega)).2 ?_
    omega
end Go.Proofs.Ytfnhicmjdfeanaa.PH

namespace Go.Proofs.Ytfnhicmjdfeanaa.PH
open Go.RowKit Go.Proofs.YtfnhicmjdfeanaaW.PrintWords Go.Proofs.YtfnhicmjdfeanaaW.PrintLast Go.Proofs.YtfnhicmjdfeanaaW.PrintMore
set_option linter.unusedVariables false

theorem mul_bd {m p : Int} (hm0 : 0 ≤ m) (hm : m ≤ 16) (hp : 1 ≤ p) (hp2 : p ≤ 137438953472) : 0 ≤ m * p ∧ m * p ≤ 2199023255552 := by
  have a : m * p ≤ 16 * p := Int.mul_le_mul_of_nonneg_right hm (by omega)
  have b : 0 ≤ m * p := Int.mul_nonneg hm0 (by omega)
  omega
theorem shl_ok (m : Int) (k : Nat) (hk : k ≤ 37) (hm0 : 0 ≤ m) (hm : m ≤ 16) : shl .i64 m (k : Int) = m * 2 ^ k := by
  have hp := pow_bd hk
  have hb := mul_bd hm0 hm hp.1 hp.2
  unfold shl
  rw [i64_w, Int.toNat_natCast, Nat.min_eq_left (by show k ≤ 64; omega), wr_small _ (by omega) (by omega)]
theorem bounds_ok (n : Int) (k : Nat) (h0 : 0 ≤ n) (h1 : n < 305) : histogram_Bounds.f (k + 1) n = some (lowI n, highI n, 0) := by
  unfold histogram_Bounds.f
  rw [if_neg (by omega), show decide (n ≥ 305) = false from decide_eq_false (by omega), histogram_Bounds.j0, if_neg (by decide)]
  unfold lowI highI
  by_cases h : n < 16
  · rw [if_pos h, if_pos h, if_pos h]
  · rw [if_neg h, if_neg h, if_neg h]
    rw [Int.tdiv_eq_ediv_of_nonneg h0, Int.tmod_eq_emod_of_nonneg h0]
    obtain ⟨j, hj⟩ : ∃ j : Nat, n / 8 - 1 = (j : Int) := ⟨(n / 8 - 1).toNat, by omega⟩
    rw [wr_small (n / 8) (by omega) (by omega), hj, wr_small (j : Int) (by omega) (by omega), if_pos (by omega), Int.toNat_natCast,
      wr_small (n % 8 + 8) (by omega) (by omega), wr_small (n % 8 + 8 + 1) (by omega) (by omega), show n % 8 + 8 + 1 = n % 8 + 9 by omega,
      shl_ok _ _ (by omega) (by omega) (by omega), shl_ok _ _ (by omega) (by omega) (by omega)]
    have hp := pow_bd (show j ≤ 37 by omega)
    have hb := mul_bd (show 0 ≤ n % 8 + 9 by omega) (by omega) hp.1 hp.2
    rw [wr_small _ (by omega) (by omega)]
    unfold mn
    congr 3
    by_cases hc : 1099511627776 < (n % 8 + 9) * 2 ^ j - 1
    · rw [if_pos hc, if_neg (by omega)]
    · rw [if_neg hc, if_pos (by omega)]
theorem bounds_bad (n : Int) (k : Nat) (h : n < 0 ∨ n ≥ 305) : histogram_Bounds.f (k + 1) n = some (0, 0, 2) := by
  unfold histogram_Bounds.f
  by_cases h0 : n < 0
  · rw [if_pos h0, histogram_Bounds.j0, if_pos rfl]
  · rw [if_neg h0, show decide (n ≥ 305) = true from decide_eq_true (by omega), histogram_Bounds.j0, if_pos rfl]
theorem low_ok (n : Int) (h0 : 0 ≤ n) (h1 : n < 305) : sleuthlaw21_low.f n = some (lowI n) := by
  unfold sleuthlaw21_low.f lowI
  by_cases h : n < 16
  · rw [if_pos h, if_pos h]
  · rw [if_neg h, if_neg h, Int.tdiv_eq_ediv_of_nonneg h0]
    obtain ⟨j, hj⟩ : ∃ j : Nat, n / 8 - 1 = (j : Int) := ⟨(n / 8 - 1).toNat, by omega⟩
    rw [wr_small (n / 8) (by omega) (by omega), hj, wr_small (j : Int) (by omega) (by omega), if_pos (by omega), Int.toNat_natCast,
      wr_small (8 * (j : Int)) (by omega) (by omega), wr_small (n - 8 * (j : Int)) (by omega) (by omega), show n - 8 * (j : Int) = n % 8 + 8 by omega, shl_ok _ _ (by omega) (by omega) (by omega)]
theorem high_ok (n : Int) (h0 : 0 ≤ n) (h1 : n < 305) : sleuthlaw21_high.f n = some (highI n) := by
  unfold sleuthlaw21_high.f highI
  by_cases h : n < 16
  · rw [if_pos h, if_pos h]
  · rw [if_neg h, if_neg h, Int.tdiv_eq_ediv_of_nonneg h0]
    obtain ⟨j, hj⟩ : ∃ j : Nat, n / 8 - 1 = (j : Int) := ⟨(n / 8 - 1).toNat, by omega⟩
    rw [wr_small (n / 8) (by omega) (by omega), hj, wr_small (j : Int) (by omega) (by omega), if_pos (by omega), Int.toNat_natCast,
      wr_small (8 * (j : Int)) (by omega) (by omega), wr_small (n - 8 * (j : Int)) (by omega) (by omega), wr_small (n - 8 * (j : Int) + 1) (by omega) (by omega), show n - 8 * (j : Int) + 1 = n % 8 + 9 by omega, shl_ok _ _ (by omega) (by omega) (by omega)]
    have hp := pow_bd (show j ≤ 37 by omega)
    have hb := mul_bd (show 0 ≤ n % 8 + 9 by omega) (by omega) hp.1 hp.2
    rw [wr_small _ (by omega) (by omega)]
    unfold mn
    congr 1
    by_cases hc : 1099511627776 < (n % 8 + 9) * 2 ^ j - 1
    · rw [if_pos hc, if_neg (by omega)]
    · rw [if_neg hc, if_pos (by omega)]
/-- A value lies in its bucket. -/
theorem bix_in (v : Int) (h0 : 0 ≤ v) (h1 : v ≤ 1099511627776) : lowI (bix v) ≤ v ∧ v ≤ highI (bix v) := by
  by_cases h : v < 16
  · have e : bix v = v := by unfold bix; rw [if_pos h]
    rw [e]
    unfold lowI highI
    rw [if_pos h, if_pos h]
    omega
  · obtain ⟨a, b, c⟩ := bix_parts v (by omega) h1
    obtain ⟨a', b', c', d'⟩ := sh_spec v (by omega) h1
    obtain ⟨e1, e2, e3, e4⟩ := div_bd v (2 ^ sh v) (by have := pow_bd b'; omega) c' d'
    unfold lowI highI
    rw [if_neg (by omega), if_neg (by omega), b, c, show bix v % 8 + 9 = v / 2 ^ sh v + 1 by omega, Int.add_mul, Int.one_mul]
    split <;> omega
theorem lowI_range (n : Int) (h0 : 0 ≤ n) (h1 : n < 305) : 0 ≤ lowI n ∧ lowI n ≤ 1099511627776 ∧ 0 ≤ highI n ∧ highI n ≤ 1099511627776 ∧ lowI n ≤ highI n := by
  unfold lowI highI
  by_cases h : n < 16
  · rw [if_pos h, if_pos h]; omega
  · rw [if_neg h, if_neg h]
    obtain ⟨j, hj⟩ : ∃ j : Nat, n / 8 - 1 = (j : Int) := ⟨(n / 8 - 1).toNat, by omega⟩
    rw [hj, Int.toNat_natCast]
    have hp := pow_bd (show j ≤ 37 by omega)
    have hm : (n % 8 + 8) * 2 ^ j ≤ 1099511627776 := by
      by_cases h37 : j = 37
      · subst h37
        have : n = 304 := by omega
        subst this
        decide
      · have hp2 := pow_le_of (show j ≤ 36 by omega)
        have e : (2 : Int) ^ 36 = 68719476736 := by decide
        rw [e] at hp2
        have a : (n % 8 + 8) * 2 ^ j ≤ 16 * 2 ^ j := Int.mul_le_mul_of_nonneg_right (by omega) (by omega)
        omega
    have hn : 0 ≤ (n % 8 + 8) * 2 ^ j := Int.mul_nonneg (by omega) (by omega)
    have hs : (n % 8 + 9) * 2 ^ j = (n % 8 + 8) * 2 ^ j + 2 ^ j := by rw [show n % 8 + 9 = (n % 8 + 8) + 1 by omega, Int.add_mul, Int.one_mul]
    rw [hs]
    split <;> omega
theorem narrow (n : Int) (h0 : 16 ≤ n) (h1 : n < 305) : 8 * (highI n - lowI n + 1) ≤ lowI n := by
  have h : ¬ n < 16 := by omega
  unfold lowI highI
  simp only [if_neg h]
  obtain ⟨j, hj⟩ : ∃ j : Nat, n / 8 - 1 = (j : Int) := ⟨(n / 8 - 1).toNat, by omega⟩
  rw [hj, Int.toNat_natCast]
  have hp := pow_bd (show j ≤ 37 by omega)
  have a : 8 * 2 ^ j ≤ (n % 8 + 8) * 2 ^ j := Int.mul_le_mul_of_nonneg_right (by omega) (by omega)
  have hs : (n % 8 + 9) * 2 ^ j = (n % 8 + 8) * 2 ^ j + 2 ^ j := by rw [show n % 8 + 9 = (n % 8 + 8) + 1 by omega, Int.add_mul, Int.one_mul]
  rw [hs]
  split <;> omega
/-- The value before: the same bucket, or the one before, and this one begins here. -/
theorem bix_prev (v : Int) (h0 : 0 < v) (h1 : v ≤ 1099511627776) : bix (v - 1) = bix v ∨ (bix (v - 1) = bix v - 1 ∧ v = lowI (bix v)) := by
  by_cases h : v < 16
  · have e : bix v = v := by unfold bix; rw [if_pos h]
    have e2 : bix (v - 1) = v - 1 := by unfold bix; rw [if_pos (by omega)]
    refine .inr ⟨by omega, ?_⟩
    rw [e]
    unfold lowI
    rw [if_pos h]
  · obtain ⟨a, b, c⟩ := bix_parts v (by omega) h1
    obtain ⟨a', b', c', d'⟩ := sh_spec v (by omega) h1
    obtain ⟨e1, e2, e3, e4⟩ := div_bd v (2 ^ sh v) (by have := pow_bd b'; omega) c' d'
    by_cases h16 : v = 16
    · subst h16
      refine .inr ⟨by decide +kernel, by decide +kernel⟩
    · obtain ⟨a2, b2, c2, d2⟩ := sh_spec (v - 1) (by omega) (by omega)
      obtain ⟨f1, f2, f3, f4⟩ := div_bd (v - 1) (2 ^ sh (v - 1)) (by have := pow_bd b2; omega) c2 d2
      have hlow : lowI (bix v) = v / 2 ^ sh v * 2 ^ sh v := by
        unfold lowI
        rw [if_neg (by omega), b, c]
      rw [hlow]
      have ev : bix v = 8 * (sh v : Int) + v / 2 ^ sh v := by unfold bix; rw [if_neg h]
      have ev1 : bix (v - 1) = 8 * (sh (v - 1) : Int) + (v - 1) / 2 ^ sh (v - 1) := by unfold bix; rw [if_neg (by omega)]
      by_cases hq : 8 * 2 ^ sh v ≤ v - 1
      · have hs : sh v = sh (v - 1) := sh_unique (v - 1) (sh v) (by omega) (by omega) hq (by omega)
        rw [← hs] at ev1 f1 f2 f3 f4
        by_cases hm : v / 2 ^ sh v * 2 ^ sh v ≤ v - 1
        · left
          have : (v - 1) / 2 ^ sh v = v / 2 ^ sh v := by
            have x1 : v / 2 ^ sh v ≤ (v - 1) / 2 ^ sh v := (Int.le_ediv_iff_mul_le (by have := pow_bd b'; omega)).2 hm
            have x2 : (v - 1) / 2 ^ sh v ≤ v / 2 ^ sh v := Int.ediv_le_ediv (by have := pow_bd b'; omega) (by omega)
            omega
          omega
        · right
          have hv : v = v / 2 ^ sh v * 2 ^ sh v := by omega
          refine ⟨?_, hv⟩
          have : (v - 1) / 2 ^ sh v = v / 2 ^ sh v - 1 := by
            have x2 : (v - 1) / 2 ^ sh v ≤ v / 2 ^ sh v - 1 := by
              have := (Int.ediv_lt_iff_lt_mul (show 0 < (2 : Int) ^ sh v by have := pow_bd b'; omega)).2 (show v - 1 < v / 2 ^ sh v * 2 ^ sh v by omega)
              omega
            have x1 : v / 2 ^ sh v - 1 ≤ (v - 1) / 2 ^ sh v := (Int.le_ediv_iff_mul_le (by have := pow_bd b'; omega)).2 (by rw [Int.sub_mul, Int.one_mul]; have := pow_bd b'; omega)
            omega
          omega
      · have hv : v = 8 * 2 ^ sh v := by omega
        have hm : v / 2 ^ sh v = 8 := by
          have : v / 2 ^ sh v ≤ 8 := by
            have := (Int.ediv_lt_iff_lt_mul (show 0 < (2 : Int) ^ sh v by have := pow_bd b'; omega)).2 (show v < 9 * 2 ^ sh v by have := pow_bd b'; omega)
            omega
          omega
        obtain ⟨j, hj⟩ : ∃ j, sh v = j + 1 := ⟨sh v - 1, by omega⟩
        have ep : (2 : Int) ^ sh v = 2 ^ j * 2 := by rw [hj, Int.pow_succ]
        have hpj := pow_bd (show j ≤ 37 by omega)
        have hs : j = sh (v - 1) := sh_unique (v - 1) j (by omega) (by omega) (by omega) (by omega)
        have hd : (v - 1) / 2 ^ j = 15 := by
          have x1 : 15 ≤ (v - 1) / 2 ^ j := (Int.le_ediv_iff_mul_le (by omega)).2 (by omega)
          rw [hs] at x1 ⊢
          omega
        rw [← hs, hd] at ev1
        rw [hm] at ev ⊢
        right
        refine ⟨by omega, hv⟩
end Go.Proofs.Ytfnhicmjdfeanaa.PH

namespace Go.Proofs.Ytfnhicmjdfeanaa.PH
open Go.RowKit Go.Proofs.YtfnhicmjdfeanaaW.PrintWords Go.Proofs.YtfnhicmjdfeanaaW.PrintLast Go.Proofs.YtfnhicmjdfeanaaW.PrintMore
set_option linter.unusedVariables false
set_option maxRecDepth 1000000 in
theorem known_100 : sleuthlaw21_known.f 400 = some true := by decide +kernel
end Go.Proofs.Ytfnhicmjdfeanaa.PH

namespace Go.Proofs.Ytfnhicmjdfeanaa.PHF
open Go.RowKit Go.Proofs.Ytfnhicmjdfeanaa.PH Go.Proofs.YtfnhicmjdfeanaaW.PrintWords Go.Proofs.YtfnhicmjdfeanaaW.PrintLast Go.Proofs.YtfnhicmjdfeanaaW.PrintMore
set_option linter.unusedVariables false


theorem wr_small (x : Int) (h0 : -9223372036854775808 ≤ x) (h1 : x ≤ 9223372036854775807) : wrap64 x = x := by unfold wrap64; omega
theorem u64_eq (x : Int) : IntKind.u64.wrap x = x % 18446744073709551616 := by rw [show IntKind.u64.wrap x = x % 18446744073709551616 from rfl]
theorem wf64 (x : Int) (h : (Lit.int .i64 x).wf = true) : -9223372036854775808 ≤ x ∧ x ≤ 9223372036854775807 := by
  simp only [Lit.wf, IntKind.min, IntKind.max, IntKind.signed, IntKind.bits, Bool.and_eq_true, decide_eq_true_eq, if_true] at h
  omega

theorem mag_ok (a : Int) (h0 : -9223372036854775808 ≤ a) (h1 : a ≤ 9223372036854775807) : fraction_magnitude.f a = some (a.natAbs : Int) := by
  unfold fraction_magnitude.f
  by_cases c : a < 0
  · rw [if_pos c, u64_eq, u64_eq]; congr 1; omega
  · rw [if_neg c, u64_eq]; congr 1; omega
theorem mag_ref (a : Int) : sleuthref02_magnitude.f a = fraction_magnitude.f a := rfl

theorem gcd_l0 : ∀ (n k a b : Nat), b < 2 ^ n → fraction_gcd.l0 (2 * n + 1 + k) (a : Int) (b : Int) = some ((Nat.gcd b a : Nat) : Int) := by
  intro n
  induction n with
  | zero =>
    intro k a b h
    obtain rfl : b = 0 := by omega
    rw [show 2 * 0 + 1 + k = k + 1 by omega, fraction_gcd.l0, if_pos (by omega), Nat.gcd_zero_left]
  | succ n ih =>
    intro k a b h
    rw [show 2 * (n + 1) + 1 + k = (2 * n + 1 + k) + 1 + 1 by omega, fraction_gcd.l0]
    by_cases c : b = 0
    · subst c; rw [if_pos (by omega), Nat.gcd_zero_left]
    · rw [if_neg (by omega), ← Int.ofNat_tmod, fraction_gcd.l0, Nat.gcd_rec b a]
      by_cases d : a % b = 0
      · rw [d, if_pos (by omega), Nat.gcd_zero_left]
      · rw [if_neg (by omega), ← Int.ofNat_tmod, Nat.gcd_rec (a % b) b]
        have hr : a % b < b := Nat.mod_lt _ (by omega)
        have h1 : b % (a % b) < a % b := Nat.mod_lt _ (by omega)
        have h2 : b % (a % b) ≤ b - a % b := by
          rw [Nat.mod_eq_sub_mod (by omega)]; exact Nat.mod_le _ _
        exact ih k (a % b) (b % (a % b)) (by rw [Nat.pow_succ] at h; omega)
theorem gcd_ok (k : Nat) (hk : 129 ≤ k) (a b : Nat) (h : b < 18446744073709551616) : fraction_gcd.f k (a : Int) (b : Int) = some ((Nat.gcd a b : Nat) : Int) := by
  unfold fraction_gcd.f
  rw [show k = 2 * 64 + 1 + (k - 129) by omega, gcd_l0 64 _ a b (by simpa using h), Nat.gcd_comm]
theorem divisor_l0 : ∀ (k : Nat) (a b : Int), sleuthref02_divisor.l0 k a b = fraction_gcd.l0 k a b := by
  intro k
  induction k with
  | zero => intro a b; rfl
  | succ k ih => intro a b; rw [sleuthref02_divisor.l0, fraction_gcd.l0, ih]
theorem divisor_ok (k : Nat) (hk : 129 ≤ k) (a b : Nat) (h : b < 18446744073709551616) : sleuthref02_divisor.f k (a : Int) (b : Int) = some ((Nat.gcd a b : Nat) : Int) := by
  unfold sleuthref02_divisor.f
  rw [divisor_l0]
  exact gcd_ok k hk a b h

/-- The canonical form of a/b, where b is not 0; none: it has too great parts. -/
def mk (a b : Int) : Option (Int × Int) :=
  if a.natAbs / Nat.gcd a.natAbs b.natAbs ≤ 1048576 ∧ b.natAbs / Nat.gcd a.natAbs b.natAbs ≤ 1048576 then
    some (if (decide (a < 0) != decide (b < 0)) = true then -((a.natAbs / Nat.gcd a.natAbs b.natAbs : Nat) : Int) else ((a.natAbs / Nat.gcd a.natAbs b.natAbs : Nat) : Int), ((b.natAbs / Nat.gcd a.natAbs b.natAbs : Nat) : Int))
  else none

def mkE (a b : Int) : Int × Int × Int := if b = 0 then (0, 0, 19) else match mk a b with | some p => (p.1, p.2, 0) | none => (0, 0, 20)

theorem Make_ok (k : Nat) (hk : 131 ≤ k) (a b : Int) (a0 : -9223372036854775808 ≤ a) (a1 : a ≤ 9223372036854775807) (b0 : -9223372036854775808 ≤ b) (b1 : b ≤ 9223372036854775807) :
    fraction_Make.f k a b = some (mkE a b) := by
  obtain ⟨k, rfl⟩ : ∃ j, k = j + 1 := ⟨k - 1, by omega⟩
  unfold fraction_Make.f mkE
  by_cases c : b = 0
  · rw [if_pos c, if_pos c]
  · rw [if_neg c, if_neg c, mag_ok a a0 a1, Option.bind_some, mag_ok b b0 b1, Option.bind_some, gcd_ok _ (by omega) _ _ (by omega), Option.bind_some]
    have hb : 0 < b.natAbs := by omega
    have hg : 0 < Nat.gcd a.natAbs b.natAbs := Nat.gcd_pos_of_pos_right _ hb
    have hp : a.natAbs / Nat.gcd a.natAbs b.natAbs ≤ a.natAbs := Nat.div_le_self _ _
    have hq : b.natAbs / Nat.gcd a.natAbs b.natAbs ≤ b.natAbs := Nat.div_le_self _ _
    rw [if_neg (by omega), ← Int.ofNat_tdiv, ← Int.ofNat_tdiv]
    unfold mk
    generalize a.natAbs / Nat.gcd a.natAbs b.natAbs = p at *
    generalize b.natAbs / Nat.gcd a.natAbs b.natAbs = q at *
    rw [u64_eq, u64_eq, show (p : Int) % 18446744073709551616 = p by omega, show (q : Int) % 18446744073709551616 = q by omega]
    by_cases d : p ≤ 1048576
    · rw [if_neg (by omega), fraction_Make.j0]
      by_cases e : q ≤ 1048576
      · rw [if_neg (by rw [decide_eq_true_eq]; omega), if_pos (show p ≤ 1048576 ∧ q ≤ 1048576 from ⟨d, e⟩), wr_small (p : Int) (by omega) (by omega), wr_small (q : Int) (by omega) (by omega), wr_small (-(p : Int)) (by omega) (by omega)]
        dsimp only
        by_cases x : (decide (a < 0) != decide (b < 0)) = true
        · rw [if_pos x, if_pos x]
        · rw [if_neg x, if_neg x]
      · rw [if_pos (by rw [decide_eq_true_eq]; omega), if_neg (by omega)]
    · rw [if_pos (by omega), if_neg (by omega), fraction_Make.j0, if_pos rfl]

def can (a b : Int) : Prop := 1 ≤ b ∧ b ≤ 1048576 ∧ -1048576 ≤ a ∧ a ≤ 1048576 ∧ Nat.gcd a.natAbs b.natAbs = 1
instance (a b : Int) : Decidable (can a b) := by unfold can; infer_instance

theorem Check_ok (k : Nat) (hk : 129 ≤ k) (a b : Int) : sleuthref02_Check.f k a b = some (decide (can a b)) := by
  unfold sleuthref02_Check.f
  by_cases c1 : b ≥ 1
  · rw [if_pos c1]
    by_cases c2 : b ≤ 1048576
    · rw [if_pos c2]
      by_cases c3 : a ≥ -1048576
      · rw [if_pos c3]
        by_cases c4 : a ≤ 1048576
        · rw [if_pos c4, mag_ref, mag_ref, mag_ok a (by omega) (by omega), Option.bind_some, mag_ok b (by omega) (by omega), Option.bind_some, divisor_ok k hk _ _ (by omega), Option.bind_some]
          congr 1
          by_cases c5 : Nat.gcd a.natAbs b.natAbs = 1
          · rw [decide_eq_true (show can a b from ⟨c1, c2, c3, c4, c5⟩), c5]; rfl
          · rw [decide_eq_false (fun h : can a b => c5 h.2.2.2.2)]
            simp only [beq_eq_false_iff_ne, ne_eq]; omega
        · rw [if_neg c4, decide_eq_false (fun h : can a b => c4 h.2.2.2.1)]
      · rw [if_neg c3, decide_eq_false (fun h : can a b => c3 h.2.2.1)]
    · rw [if_neg c2, decide_eq_false (fun h : can a b => c2 h.2.1)]
  · rw [if_neg c1, decide_eq_false (fun h : can a b => c1 h.1)]

theorem mk_can (a b : Int) (h : can a b) : mk a b = some (a, b) := by
  obtain ⟨h1, h2, h3, h4, h5⟩ := h
  unfold mk
  rw [h5, Nat.div_one, Nat.div_one, if_pos (by omega)]
  have : decide (b < 0) = false := decide_eq_false (by omega)
  rw [this]
  congr 2
  · by_cases c : a < 0
    · rw [if_pos (by simp [c])]; omega
    · rw [if_neg (by simp [c])]; omega
  · omega
theorem mk_rep (a b x y : Int) (hb : 0 < b) (h : mk a b = some (x, y)) : can x y ∧ ∃ t : Int, 1 ≤ t ∧ a = t * x ∧ b = t * y := by
  unfold mk at h
  have hg : 0 < Nat.gcd a.natAbs b.natAbs := Nat.gcd_pos_of_pos_right _ (by omega)
  have da : a.natAbs = Nat.gcd a.natAbs b.natAbs * (a.natAbs / Nat.gcd a.natAbs b.natAbs) := (Nat.mul_div_cancel' (Nat.gcd_dvd_left _ _)).symm
  have db : b.natAbs = Nat.gcd a.natAbs b.natAbs * (b.natAbs / Nat.gcd a.natAbs b.natAbs) := (Nat.mul_div_cancel' (Nat.gcd_dvd_right _ _)).symm
  have dc : Nat.gcd (a.natAbs / Nat.gcd a.natAbs b.natAbs) (b.natAbs / Nat.gcd a.natAbs b.natAbs) = 1 := by
    have := Nat.gcd_mul_left (Nat.gcd a.natAbs b.natAbs) (a.natAbs / Nat.gcd a.natAbs b.natAbs) (b.natAbs / Nat.gcd a.natAbs b.natAbs)
    rw [← da, ← db] at this
    exact Nat.eq_of_mul_eq_mul_left hg (by rw [← this, Nat.mul_one])
  generalize a.natAbs / Nat.gcd a.natAbs b.natAbs = p at *
  generalize b.natAbs / Nat.gcd a.natAbs b.natAbs = q at *
  generalize Nat.gcd a.natAbs b.natAbs = g at *
  have hq : 0 < q := by
    rcases Nat.eq_zero_or_pos q with hq | hq
    · subst hq; rw [Nat.mul_zero] at db; omega
    · exact hq
  split at h
  · next hpq =>
    have hs : decide (b < 0) = false := decide_eq_false (by omega)
    rw [hs] at h
    have h := Option.some.inj h
    have ea : (a.natAbs : Int) = (g : Int) * (p : Int) := by rw [← Int.natCast_mul, ← da]
    have eb : (b.natAbs : Int) = (g : Int) * (q : Int) := by rw [← Int.natCast_mul, ← db]
    by_cases c : a < 0
    · rw [if_pos (by simp [c])] at h
      obtain ⟨rfl, rfl⟩ := Prod.mk.inj h
      refine ⟨⟨by omega, by omega, by omega, by omega, ?_⟩, (g : Int), by omega, ?_, ?_⟩
      · rw [Int.natAbs_neg, Int.natAbs_natCast, Int.natAbs_natCast]; exact dc
      · rw [Int.mul_neg, ← ea]; omega
      · rw [← eb]; omega
    · rw [if_neg (by simp [c])] at h
      obtain ⟨rfl, rfl⟩ := Prod.mk.inj h
      refine ⟨⟨by omega, by omega, by omega, by omega, ?_⟩, (g : Int), by omega, ?_, ?_⟩
      · rw [Int.natAbs_natCast, Int.natAbs_natCast]; exact dc
      · rw [← ea]; omega
      · rw [← eb]; omega
  · exact absurd h (by simp)
theorem tdiv_floor (v b : Int) (h1 : 1 ≤ b) : (if Int.tmod v b < 0 then Int.tdiv v b - 1 else Int.tdiv v b) = v / b := by
  rw [Int.tdiv_eq_ediv, Int.tmod_eq_emod]
  have hm := Int.emod_nonneg v (show b ≠ 0 by omega)
  have hl := Int.emod_lt_of_pos v (show 0 < b by omega)
  by_cases c : 0 ≤ v ∨ b ∣ v
  · rw [if_pos c, if_pos c, if_neg (by omega)]; omega
  · rw [if_neg c, if_neg c, if_pos (by omega), Int.sign_eq_one_of_pos (by omega)]; omega
theorem div_bd (v b : Int) (h1 : 1 ≤ b) (v0 : -1152921504606846976 ≤ v) (v1 : v ≤ 1152921504606846976) : -1152921504606846976 ≤ v / b ∧ v / b ≤ 1152921504606846976 := by
  constructor
  · apply Int.le_ediv_of_mul_le (by omega); have : -1152921504606846976 * b ≤ -1152921504606846976 * 1 := by apply Int.mul_le_mul_of_nonpos_left <;> omega
    omega
  · apply Int.ediv_le_of_le_mul (by omega); have : 1152921504606846976 * 1 ≤ 1152921504606846976 * b := by apply Int.mul_le_mul_of_nonneg_left <;> omega
    omega
theorem floor_ok (v b : Int) (h1 : 1 ≤ b) (h2 : b ≤ 1048576) (v0 : -1152921504606846976 ≤ v) (v1 : v ≤ 1152921504606846976) : fraction_floor.f v b = some (v / b) := by
  unfold fraction_floor.f
  have hb := div_bd v b h1 v0 v1
  have ht := tdiv_floor v b h1
  rw [if_neg (by omega)]
  by_cases c : Int.tmod v b < 0
  · rw [if_pos c] at ht ⊢
    rw [wr_small (Int.tdiv v b) (by omega) (by omega), wr_small _ (by omega) (by omega), ht]
  · rw [if_neg c] at ht ⊢
    rw [wr_small _ (by omega) (by omega), ht]

theorem FCheck_ok (k : Nat) (hk : 140 ≤ k) (a b : Int) (a0 : -9223372036854775808 ≤ a) (a1 : a ≤ 9223372036854775807) (b0 : -9223372036854775808 ≤ b) (b1 : b ≤ 9223372036854775807) : fraction_Check.f k a b = some (if can a b then 0 else 3) := by
  unfold fraction_Check.f
  rw [Make_ok _ (by omega) a b (by omega) (by omega) (by omega) (by omega), Option.bind_some]
  unfold mkE
  by_cases c : can a b
  · have c1 := c.1
    rw [if_pos c, if_neg (show ¬ b = 0 by omega), mk_can a b c]
    simp
  · rw [if_neg c]
    by_cases h0 : b = 0
    · rw [if_pos h0]; rfl
    · rw [if_neg h0]
      cases e : mk a b with
      | none => rfl
      | some p =>
        have hne : ¬ (p.1 = a ∧ p.2 = b) := by
          rintro ⟨rfl, rfl⟩
          apply c
          by_cases hp : 0 < p.2
          · exact (mk_rep _ _ _ _ hp e).1
          · unfold mk at e
            split at e
            · have e := congrArg Prod.snd (Option.some.inj e)
              dsimp only at e
              have : 0 ≤ ((p.2.natAbs / Nat.gcd p.1.natAbs p.2.natAbs : Nat) : Int) := Int.natCast_nonneg _
              omega
            · exact absurd e (by simp)
        dsimp only
        rw [if_pos rfl, if_pos (by
          by_cases h1 : p.1 = a
          · have h2 : ¬ p.2 = b := fun h => hne ⟨h1, h⟩
            simp [h2]
          · simp [h1])]
end Go.Proofs.Ytfnhicmjdfeanaa.PHF

namespace Go.Proofs.Ytfnhicmjdfeanaa.PH
open Go.RowKit Go.Proofs.YtfnhicmjdfeanaaW.PrintWords Go.Proofs.YtfnhicmjdfeanaaW.PrintLast Go.Proofs.YtfnhicmjdfeanaaW.PrintMore
set_option linter.unusedVariables false

/-! ### the counts as a list of 305 numbers -/
def vecFrom (f : Int → Int) (a n : Nat) : List Int := (List.range' a n).map (fun i : Nat => f (i : Int))
def vec (f : Int → Int) : List Int := vecFrom f 0 305
theorem vecFrom_len (f : Int → Int) (a n : Nat) : (vecFrom f a n).length = n := by simp [vecFrom]
theorem vec_len (f : Int → Int) : (vec f).length = 305 := vecFrom_len f 0 305
theorem vec_get (f : Int → Int) (i : Nat) (h : i < 305) : (vec f).getD i 0 = f (i : Int) := by
  simp [vec, vecFrom, List.getD_eq_getElem?_getD, h]
theorem vec_ext (cs : List Int) (f : Int → Int) (hl : cs.length = 305) (h : ∀ i : Nat, i < 305 → cs.getD i 0 = f (i : Int)) : cs = vec f := by
  apply List.ext_getElem
  · rw [hl, vec_len]
  · intro i h1 h2
    have := h i (by omega)
    have e := vec_get f i (by omega)
    rw [List.getD_eq_getElem?_getD, List.getElem?_eq_getElem h1] at this
    rw [List.getD_eq_getElem?_getD, List.getElem?_eq_getElem h2] at e
    simp only [Option.getD_some] at this e
    rw [this, e]
theorem vec_congr {f g : Int → Int} (h : ∀ i : Int, 0 ≤ i → i < 305 → f i = g i) : vec f = vec g :=
  vec_ext _ _ (vec_len f) (fun i hi => by rw [vec_get f i hi]; exact h _ (by omega) (by omega))
theorem zeros_vec : List.replicate 305 (0 : Int) = vec (fun _ => 0) := by
  refine vec_ext _ _ List.length_replicate (fun i hi => ?_)
  rw [List.getD_eq_getElem?_getD, List.getElem?_replicate, if_pos hi]
  rfl
theorem vec_set (f : Int → Int) (m : Int) (h0 : 0 ≤ m) (h1 : m < 305) (x : Int) : (vec f).set m.toNat x = vec (fun n => if n = m then x else f n) := by
  refine vec_ext _ _ (by rw [List.length_set, vec_len]) (fun i hi => ?_)
  rw [List.getD_eq_getElem?_getD, List.getElem?_set]
  by_cases e : m.toNat = i
  · rw [if_pos e, if_pos (by rw [vec_len]; omega), if_pos (by omega)]; rfl
  · rw [if_neg e, if_neg (by omega), ← List.getD_eq_getElem?_getD, vec_get f i hi]
theorem vec_at (f : Int → Int) (m : Int) (h0 : 0 ≤ m) (h1 : m < 305) : (vec f).getD m.toNat 0 = f m := by
  rw [vec_get f m.toNat (by omega)]
  congr 1
  omega

/-! ### sums over the buckets -/
/-- Weighted: the sum of g(index) * count. -/
def wsum (g : Int → Int) : List S67 → Int
  | [] => 0
  | b :: bs => g b.f0 * b.f1 + wsum g bs
def zsum (g : Int → Int) : Int → List Int → Int
  | _, [] => 0
  | s, c :: cs => g s * c + zsum g (s + 1) cs
theorem wsum_buck (g : Int → Int) : ∀ (cs : List Int) (s : Int), wsum g (buckFrom s cs) = zsum g s cs
  | [], _ => rfl
  | c :: cs, s => by
    simp only [buckFrom, zsum]
    by_cases h : c = 0
    · rw [if_pos h, wsum_buck g cs (s + 1), h, Int.mul_zero, Int.zero_add]
    · rw [if_neg h]
      simp only [wsum]
      rw [wsum_buck g cs (s + 1)]
theorem zsum_set (g : Int → Int) : ∀ (cs : List Int) (s : Int) (i : Nat) (d : Int), i < cs.length → zsum g s (cs.set i (cs.getD i 0 + d)) = zsum g s cs + g (s + i) * d
  | [], _, _, _, h => by simp at h
  | c :: cs, s, 0, d, h => by
    simp only [List.set_cons_zero, zsum, List.getD_cons_zero, Int.mul_add]
    simp only [Int.natCast_zero, Int.add_zero]
    omega
  | c :: cs, s, i + 1, d, h => by
    simp only [List.set_cons_succ, zsum, List.getD_cons_succ]
    rw [zsum_set g cs (s + 1) i d (by simpa using h)]
    rw [show s + 1 + (i : Int) = s + ((i + 1 : Nat) : Int) by omega]
    omega
theorem zsum_zero (g : Int → Int) : ∀ (cs : List Int) (s : Int), (∀ c, c ∈ cs → c = 0) → zsum g s cs = 0
  | [], _, _ => rfl
  | c :: cs, s, h => by
    simp only [zsum]
    rw [h c List.mem_cons_self, zsum_zero g cs (s + 1) (fun x hx => h x (List.mem_cons_of_mem _ hx))]
    omega

/-! ### how many values of a list have an index -/
def cnt : List Int → Int → Int
  | [], _ => 0
  | v :: l, n => cnt l n + (if bix v = n then 1 else 0)
def valid (l : List Int) : Prop := ∀ v, v ∈ l → 0 ≤ v ∧ v ≤ 1099511627776
theorem valid_cons {v : Int} {l : List Int} (h : valid (v :: l)) : (0 ≤ v ∧ v ≤ 1099511627776) ∧ valid l := ⟨h v List.mem_cons_self, fun x hx => h x (List.mem_cons_of_mem _ hx)⟩
theorem cnt_range : ∀ (l : List Int) (n : Int), 0 ≤ cnt l n ∧ cnt l n ≤ l.length
  | [], _ => by simp [cnt]
  | v :: l, n => by
    have := cnt_range l n
    simp only [cnt, List.length_cons]
    split <;> omega
theorem cnt_append : ∀ (l m : List Int) (n : Int), cnt (l ++ m) n = cnt l n + cnt m n
  | [], m, n => by simp [cnt]
  | v :: l, m, n => by
    simp only [List.cons_append, cnt, cnt_append l m n]
    omega
def lsum (g : Int → Int) : List Int → Int
  | [] => 0
  | v :: l => g v + lsum g l
theorem zsum_cnt (g : Int → Int) : ∀ (l : List Int), valid l → zsum g 0 (vec (cnt l)) = lsum (fun v => g (bix v)) l
  | [], _ => by
    refine zsum_zero g _ 0 (fun c hc => ?_)
    simp only [vec, vecFrom, List.mem_map] at hc
    obtain ⟨i, _, rfl⟩ := hc
    rfl
  | v :: l, h => by
    obtain ⟨⟨h0, h1⟩, h2⟩ := valid_cons h
    obtain ⟨r0, r1⟩ := bix_range v h0 h1
    have e : vec (cnt (v :: l)) = (vec (cnt l)).set (bix v).toNat ((vec (cnt l)).getD (bix v).toNat 0 + 1) := by
      rw [vec_at _ _ r0 r1, vec_set _ _ r0 r1]
      refine vec_congr (fun i hi0 hi1 => ?_)
      simp only [cnt]
      by_cases e : i = bix v
      · rw [if_pos e.symm, if_pos e, e]
      · rw [if_neg (fun h => e h.symm), if_neg e]; omega
    rw [e, zsum_set g _ 0 _ 1 (by rw [vec_len]; omega), zsum_cnt g l h2]
    simp only [lsum]
    rw [show (0 : Int) + ((bix v).toNat : Int) = bix v by omega]
    omega

/-! ### Of -/
theorem ofLoop_ok (k : Nat) (hk : 2 ≤ k) : ∀ (l : List Int) (f : Int → Int), valid l → (∀ n, 0 ≤ f n ∧ f n + l.length ≤ 4611686018427387904) → ofLoop k l (vec f) = some (buckFrom 0 (vec (fun n => f n + cnt l n)), 0)
  | [], f, _, _ => by
    simp only [ofLoop, cnt]
    rw [vec_congr (g := fun n => f n + 0) (fun i _ _ => by omega)]
  | v :: l, f, h, hf => by
    obtain ⟨⟨h0, h1⟩, h2⟩ := valid_cons h
    obtain ⟨r0, r1⟩ := bix_range v h0 h1
    obtain ⟨j, rfl⟩ : ∃ j, k = j + 2 := ⟨k - 2, by omega⟩
    simp only [ofLoop]
    rw [index_ok v j h0 h1]
    simp only [Option.bind_some, if_true]
    have hfb := hf (bix v)
    rw [if_pos r0, if_pos r1, vec_at _ _ r0 r1, wr_small _ (by omega) (by simp only [List.length_cons] at hfb; omega), vec_set _ _ r0 r1]
    rw [ofLoop_ok (j + 2) hk l _ h2 (fun n => by
      have := hf n
      simp only [List.length_cons] at this
      split
      · rename_i e; subst e; omega
      · omega)]
    congr 3
    refine vec_congr (fun i hi0 hi1 => ?_)
    simp only [cnt]
    by_cases e : i = bix v
    · rw [if_pos e.symm, if_pos e, e]; omega
    · rw [if_neg e, if_neg (fun h => e h.symm)]; omega
theorem ofLoop_bad (k : Nat) (hk : 2 ≤ k) : ∀ (l : List Int) (f : Int → Int), ¬ valid l → ofLoop k l (vec f) = some ([], 2)
  | [], f, h => absurd (fun v hv => by simp at hv) h
  | v :: l, f, h => by
    obtain ⟨j, rfl⟩ : ∃ j, k = j + 2 := ⟨k - 2, by omega⟩
    simp only [ofLoop]
    by_cases hv : 0 ≤ v ∧ v ≤ 1099511627776
    · obtain ⟨h0, h1⟩ := hv
      obtain ⟨r0, r1⟩ := bix_range v h0 h1
      rw [index_ok v j h0 h1]
      simp only [Option.bind_some, if_true]
      rw [if_pos r0, if_pos r1, vec_at _ _ r0 r1, vec_set _ _ r0 r1]
      refine ofLoop_bad (j + 2) hk l _ (fun hl => h (fun x hx => ?_))
      rcases List.mem_cons.1 hx with rfl | hx
      · exact ⟨h0, h1⟩
      · exact hl x hx
    · rw [index_bad v (j + 1) (by omega)]
      simp
/-- The histogram of values. -/
def hst (l : List Int) : List S67 := buckFrom 0 (vec (cnt l))
theorem of_ok (k : Nat) (hk : 2 ≤ k) (l : List Int) (h : valid l) (hl : l.length ≤ 1000000) : histogram_Of.f k l = some (hst l, 0) := by
  unfold histogram_Of.f
  rw [if_neg (by omega), zeros_vec, ofLoop_ok k hk l _ h (fun n => by constructor <;> omega)]
  unfold hst
  congr 3
  refine vec_congr (fun i _ _ => by omega)
theorem of_bad (k : Nat) (hk : 2 ≤ k) (l : List Int) (h : ¬ valid l) (hl : l.length ≤ 1000000) : histogram_Of.f k l = some ([], 2) := by
  unfold histogram_Of.f
  rw [if_neg (by omega), zeros_vec, ofLoop_bad k hk l _ h]

/-! ### reading a list by an index -/
theorem rd_drop (l : List Int) (i : Nat) (h : i < l.length) : l.drop i = rd l (i : Int) :: l.drop (i + 1) := by
  rw [List.drop_eq_getElem_cons h]
  simp [rd, List.getD_eq_getElem?_getD, List.getElem?_eq_getElem h]
theorem rd67_drop (l : List S67) (i : Nat) (h : i < l.length) : l.drop i = rd_T67 l (i : Int) :: l.drop (i + 1) := by
  rw [List.drop_eq_getElem_cons h]
  simp [rd_T67, List.getD_eq_getElem?_getD, List.getElem?_eq_getElem h]
theorem rd62_drop (l : List S62) (i : Nat) (h : i < l.length) : l.drop i = rd_T62 l (i : Int) :: l.drop (i + 1) := by
  rw [List.drop_eq_getElem_cons h]
  simp [rd_T62, List.getD_eq_getElem?_getD, List.getElem?_eq_getElem h]
theorem wr_succ (i : Nat) (h : i ≤ 4611686018427387904) : wrap64 ((i : Int) + 1) = ((i + 1 : Nat) : Int) := by rw [wr_small _ (by omega) (by omega)]; omega

/-! ### Total -/
theorem total_loop (l : List S67) (hl : l.length ≤ 1000000) (hc : ∀ b, b ∈ l → 0 ≤ b.f1 ∧ b.f1 ≤ 1099511627776) :
    ∀ (d i k : Nat) (x : Int), i + d = l.length → d < k → 0 ≤ x → x ≤ (i : Int) * 1099511627776 → histogram_Total.l0 k x l (l.length : Int) i = some (x + wsum (fun _ => 1) (l.drop i)) := by
  intro d
  induction d with
  | zero =>
    intro i k x hi hk h0 h1
    obtain ⟨k, rfl⟩ : ∃ m, k = m + 1 := ⟨k - 1, by omega⟩
    rw [histogram_Total.l0, if_neg (by omega), List.drop_of_length_le (by omega)]
    simp [wsum]
  | succ d ih =>
    intro i k x hi hk h0 h1
    obtain ⟨k, rfl⟩ : ∃ m, k = m + 1 := ⟨k - 1, by omega⟩
    have hlt : i < l.length := by omega
    have hb := hc (rd_T67 l i) (by have := rd67_drop l i hlt; exact List.mem_of_mem_drop (i := i) (by rw [this]; exact List.mem_cons_self))
    rw [histogram_Total.l0, if_pos (by omega), if_pos (by omega), if_pos (by omega), wr_small (x + _) (by omega) (by omega), wr_succ i (by omega)]
    rw [ih (i + 1) k _ (by omega) (by omega) (by omega) (by omega), rd67_drop l i hlt]
    simp only [wsum]
    congr 1
    omega
theorem total_ok (k : Nat) (l : List S67) (hk : l.length < k) (hl : l.length ≤ 1000000) (hc : ∀ b, b ∈ l → 0 ≤ b.f1 ∧ b.f1 ≤ 1099511627776) : histogram_Total.f k l = some (wsum (fun _ => 1) l) := by
  unfold histogram_Total.f
  have := total_loop l hl hc l.length 0 k 0 (by omega) hk (by omega) (by omega)
  simpa using this

/-! ### the buckets of counts -/
theorem buck_mem : ∀ (cs : List Int) (s : Int) (b : S67), b ∈ buckFrom s cs → s ≤ b.f0 ∧ b.f0 < s + cs.length ∧ b.f1 ∈ cs ∧ b.f1 ≠ 0
  | [], _, _, h => by simp [buckFrom] at h
  | c :: cs, s, b, h => by
    simp only [buckFrom] at h
    have ih := buck_mem cs (s + 1) b
    simp only [List.length_cons]
    split at h
    · have := ih h
      exact ⟨by omega, by omega, List.mem_cons_of_mem _ this.2.2.1, this.2.2.2⟩
    · rename_i hc
      rcases List.mem_cons.1 h with rfl | h
      · exact ⟨by dsimp only; omega, by dsimp only; omega, List.mem_cons_self, hc⟩
      · have := ih h
        exact ⟨by omega, by omega, List.mem_cons_of_mem _ this.2.2.1, this.2.2.2⟩
theorem buck_len (cs : List Int) (s : Int) : (buckFrom s cs).length ≤ cs.length := buckFrom_len cs s
theorem vec_mem {f : Int → Int} {c : Int} (h : c ∈ vec f) : ∃ i : Int, 0 ≤ i ∧ i < 305 ∧ c = f i := by
  simp only [vec, vecFrom, List.mem_map, List.mem_range'_1] at h
  obtain ⟨i, hi, rfl⟩ := h
  exact ⟨i, by omega, by omega, rfl⟩
theorem hst_mem (l : List Int) (b : S67) (h : b ∈ hst l) : 0 ≤ b.f0 ∧ b.f0 < 305 ∧ 1 ≤ b.f1 ∧ b.f1 ≤ l.length := by
  obtain ⟨h1, h2, h3, h4⟩ := buck_mem _ _ _ h
  rw [vec_len] at h2
  obtain ⟨i, hi0, hi1, e⟩ := vec_mem h3
  have := cnt_range l i
  refine ⟨by omega, by omega, by omega, by omega⟩
theorem hst_len (l : List Int) : (hst l).length ≤ 305 := by
  have := buck_len (vec (cnt l)) 0
  rw [vec_len] at this
  exact this
theorem lsum_one : ∀ l : List Int, lsum (fun _ => 1) l = l.length
  | [] => rfl
  | v :: l => by simp only [lsum, lsum_one l, List.length_cons]; omega
theorem hst_total (k : Nat) (hk : 306 ≤ k) (l : List Int) (h : valid l) (hl : l.length ≤ 1000000) : histogram_Total.f k (hst l) = some (l.length : Int) := by
  have h1 := hst_len l
  rw [total_ok k _ (by omega) (by omega) (fun b hb => by have := hst_mem l b hb; omega)]
  unfold hst
  rw [wsum_buck, zsum_cnt _ _ h, lsum_one]
end Go.Proofs.Ytfnhicmjdfeanaa.PH

namespace Go.Proofs.Ytfnhicmjdfeanaa.PH
open Go.RowKit Go.Proofs.YtfnhicmjdfeanaaW.PrintWords Go.Proofs.YtfnhicmjdfeanaaW.PrintLast Go.Proofs.YtfnhicmjdfeanaaW.PrintMore
set_option linter.unusedVariables false

/-! ### values -/
def clip (v : Int) : Int := if 0 ≤ v ∧ v ≤ 1099511627776 then v else v % 18446744073709551616 % 1099511627777
def vals (l : List Int) : List Int := (l.take 40).map clip
theorem clip_valid (v : Int) : 0 ≤ clip v ∧ clip v ≤ 1099511627776 := by
  unfold clip
  split
  · assumption
  · omega
theorem vals_valid (l : List Int) : valid (vals l) := fun v hv => by
  simp only [vals, List.mem_map] at hv
  obtain ⟨a, _, rfl⟩ := hv
  exact clip_valid a
theorem vals_len (l : List Int) : (vals l).length ≤ 40 := by
  simp only [vals, List.length_map, List.length_take]
  omega
theorem rem_clip (v : Int) (h : ¬ (0 ≤ v ∧ v ≤ 1099511627776)) : wrap64 (Int.tmod (IntKind.u64.wrap v) 1099511627777) = clip v := by
  rw [show IntKind.u64.wrap v = v % 18446744073709551616 from rfl, Int.tmod_eq_emod_of_nonneg (by omega)]
  unfold clip
  rw [if_neg h, wr_small _ (by omega) (by omega)]
theorem values_loop (l : List Int) (hl : l.length ≤ 4611686018427387904) : ∀ (d i k : Nat) (out : List Int), i + d = min 40 l.length → 2 * d + 1 < k → out.length ≤ i → sleuthlaw21_values.l0 k l out i = some (out ++ ((l.take 40).drop i).map clip) := by
  intro d
  induction d with
  | zero =>
    intro i k out hi hk ho
    obtain ⟨k, rfl⟩ : ∃ m, k = m + 2 := ⟨k - 2, by omega⟩
    have e : ((l.take 40).drop i).map clip = [] := by rw [List.drop_of_length_le (by rw [List.length_take]; omega)]; rfl
    rw [e, List.append_nil, sleuthlaw21_values.l0]
    by_cases h : (i : Int) < (l.length : Int)
    · rw [if_pos h, show decide ((i : Int) < 40) = false from decide_eq_false (by omega), sleuthlaw21_values.j1, if_neg (by decide)]
    · rw [if_neg h, sleuthlaw21_values.j1, if_neg (by decide)]
  | succ d ih =>
    intro i k out hi hk ho
    obtain ⟨k, rfl⟩ : ∃ m, k = m + 2 := ⟨k - 2, by omega⟩
    have hlt : i < l.length := by omega
    have h40 : i < 40 := by omega
    have ed : (l.take 40).drop i = rd l i :: (l.take 40).drop (i + 1) := by
      have := rd_drop (l.take 40) i (by rw [List.length_take]; omega)
      rw [this]
      congr 1
      simp [rd, List.getD_eq_getElem?_getD, h40]
    have hn : ∀ x : Int, x = clip (rd l i) → sleuthlaw21_values.l0 k l (out ++ [x]) (wrap64 ((i : Int) + 1)) = some (out ++ ((l.take 40).drop i).map clip) := by
      intro x hx
      rw [wr_succ i (by omega), ih (i + 1) k _ (by omega) (by omega) (by simp; omega), ed, hx]
      simp
    rw [sleuthlaw21_values.l0, if_pos (by omega), show decide ((i : Int) < 40) = true from decide_eq_true (by omega), sleuthlaw21_values.j1, if_pos rfl, if_pos (by omega), if_pos (by omega)]
    by_cases h0 : rd l i ≥ 0
    · rw [if_pos h0]
      by_cases h1 : rd l i ≤ 1099511627776
      · rw [if_pos h1, if_pos (by omega)]
        exact hn _ (by unfold clip; rw [if_pos ⟨h0, h1⟩])
      · rw [if_neg h1, if_pos (by omega)]
        exact hn _ (rem_clip _ (by omega))
    · rw [if_neg h0, if_pos (by omega)]
      exact hn _ (rem_clip _ (by omega))
theorem values_ok (k : Nat) (hk : 100 ≤ k) (l : List Int) (hl : l.length ≤ 4611686018427387904) : sleuthlaw21_values.f k l = some (vals l) := by
  unfold sleuthlaw21_values.f
  have := values_loop l hl (min 40 l.length) 0 k [] (by omega) (by omega) (by simp)
  rw [List.drop_zero, List.nil_append] at this
  exact this
theorem law_of (k : Nat) (hk : 100 ≤ k) (l : List Int) (hl : l.length ≤ 4611686018427387904) : sleuthlaw21_of.f k l = some (hst (vals l)) := by
  unfold sleuthlaw21_of.f
  rw [values_ok k hk l hl]
  simp only [Option.bind_some]
  rw [of_ok k (by omega) _ (vals_valid l) (by have := vals_len l; omega)]
  rfl

/-! ### right -/
theorem right_loop (l : List Int) (hl : l.length ≤ 4611686018427387904) : ∀ (d i k : Nat), i + d = l.length → d < k → ∃ b, sleuthlaw21_right.l0 k l i = some b ∧ (b = true ↔ valid (l.drop i) ∧ l.length ≤ 40) := by
  intro d
  induction d with
  | zero =>
    intro i k hi hk
    obtain ⟨k, rfl⟩ : ∃ m, k = m + 1 := ⟨k - 1, by omega⟩
    refine ⟨decide ((l.length : Int) ≤ 40), by rw [sleuthlaw21_right.l0, if_neg (by omega)], ?_⟩
    rw [List.drop_of_length_le (by omega), decide_eq_true_iff]
    constructor
    · intro h; exact ⟨fun v hv => by simp at hv, by omega⟩
    · rintro ⟨_, h⟩; omega
  | succ d ih =>
    intro i k hi hk
    obtain ⟨k, rfl⟩ : ∃ m, k = m + 1 := ⟨k - 1, by omega⟩
    have hlt : i < l.length := by omega
    rw [rd_drop l i hlt, sleuthlaw21_right.l0, if_pos (by omega), if_pos (by omega)]
    by_cases h0 : rd l i < 0
    · rw [if_pos h0]
      exact ⟨false, rfl, by constructor; (intro h; cases h); (rintro ⟨h, _⟩; have := h (rd l i) List.mem_cons_self; omega)⟩
    · rw [if_neg h0]
      by_cases h1 : rd l i > 1099511627776
      · rw [if_pos h1]
        exact ⟨false, rfl, by constructor; (intro h; cases h); (rintro ⟨h, _⟩; have := h (rd l i) List.mem_cons_self; omega)⟩
      · rw [if_neg h1, wr_succ i (by omega)]
        obtain ⟨b, hb, hi⟩ := ih (i + 1) k (by omega) (by omega)
        refine ⟨b, hb, hi.trans ?_⟩
        constructor
        · rintro ⟨h, hh⟩
          refine ⟨fun v hv => ?_, hh⟩
          rcases List.mem_cons.1 hv with rfl | hv
          · omega
          · exact h v hv
        · rintro ⟨h, hh⟩
          exact ⟨(valid_cons h).2, hh⟩
theorem right_ok (k : Nat) (l : List Int) (hk : l.length < k) (hl : l.length ≤ 4611686018427387904) : ∃ b, sleuthlaw21_right.f k l = some b ∧ (b = true ↔ valid l ∧ l.length ≤ 40) := by
  unfold sleuthlaw21_right.f
  have := right_loop l hl l.length 0 k (by omega) (by omega)
  simpa using this

/-! ### count -/
def t62 (b : S67) : S62 := ⟨b.f0, b.f1⟩
theorem count_l1 (l : List Int) (h : valid l) (hl : l.length ≤ 1000000) (out : List S62) (n C : Int) : ∀ (d i k : Nat) (acc : Int), i + d = l.length → 40 ≤ k → 0 ≤ acc → acc ≤ i → C = acc + cnt (l.drop i) n →
    sleuthlaw21_count.l1 (k + d + 1) l out n acc i = (if C > 0 then (if out.length < 8796093022208 then sleuthlaw21_count.l0 k l (out ++ [(⟨n, C⟩ : S62)]) (wrap64 (n + 1)) else none) else sleuthlaw21_count.l0 k l out (wrap64 (n + 1))) := by
  intro d
  induction d with
  | zero =>
    intro i k acc hi hk h0 h1 hC
    rw [List.drop_of_length_le (by omega)] at hC
    simp only [cnt, Int.add_zero] at hC
    rw [Nat.add_zero, sleuthlaw21_count.l1, if_neg (by omega), hC]
  | succ d ih =>
    intro i k acc hi hk h0 h1 hC
    have hlt : i < l.length := by omega
    have hv := h (rd l i) (List.mem_of_mem_drop (i := i) (by rw [rd_drop l i hlt]; exact List.mem_cons_self))
    rw [show k + (d + 1) + 1 = (k + d + 1) + 1 by omega, sleuthlaw21_count.l1, if_pos (by omega), if_pos (by omega)]
    have hx := law_index (rd l i) (k + d + 1 - 40) hv.1 hv.2
    rw [show k + d + 1 - 40 + 40 = k + d + 1 by omega] at hx
    rw [hx]
    simp only [Option.bind_some]
    rw [rd_drop l i hlt] at hC
    simp only [cnt] at hC
    by_cases e : bix (rd l i) = n
    · rw [if_pos e] at hC
      rw [if_pos e, wr_small (acc + 1) (by omega) (by omega), wr_succ i (by omega), ih (i + 1) k (acc + 1) (by omega) hk (by omega) (by omega) (by omega)]
    · rw [if_neg e] at hC
      rw [if_neg e, wr_succ i (by omega), ih (i + 1) k acc (by omega) hk (by omega) (by omega) (by omega)]
theorem vecFrom_succ (f : Int → Int) (a n : Nat) : vecFrom f a (n + 1) = f a :: vecFrom f (a + 1) n := by
  simp [vecFrom, List.range'_succ]
theorem count_l0 (l : List Int) (h : valid l) (hl : l.length ≤ 1000000) : ∀ (d n k : Nat) (out : List S62), n + d = 305 → d * (l.length + 2) + 41 ≤ k → out.length ≤ n →
    sleuthlaw21_count.l0 k l out n = some (out ++ (buckFrom n (vecFrom (cnt l) n d)).map t62) := by
  intro d
  induction d with
  | zero =>
    intro n k out hn hk ho
    obtain ⟨k, rfl⟩ : ∃ m, k = m + 1 := ⟨k - 1, by omega⟩
    rw [sleuthlaw21_count.l0, if_neg (by omega)]
    simp [vecFrom, buckFrom]
  | succ d ih =>
    intro n k out hn hk ho
    rw [Nat.add_mul, Nat.one_mul] at hk
    obtain ⟨k, rfl⟩ : ∃ m, k = m + l.length + 1 + 1 := ⟨k - (l.length + 2), by omega⟩
    rw [sleuthlaw21_count.l0, if_pos (by omega)]
    have h1 := count_l1 l h hl out n (cnt l n) l.length 0 k 0 (by omega) (by omega) (by omega) (by omega) (by simp)
    rw [show ((0 : Nat) : Int) = 0 from rfl] at h1
    rw [h1, vecFrom_succ]
    have hr := cnt_range l n
    simp only [buckFrom]
    by_cases e : cnt l n = 0
    · rw [if_neg (by omega), if_pos e, wr_succ n (by omega), ih (n + 1) k out (by omega) (by omega) (by omega)]
      rw [show ((n + 1 : Nat) : Int) = (n : Int) + 1 by omega]
    · rw [if_pos (by omega), if_neg e, if_pos (by omega), wr_succ n (by omega), ih (n + 1) k _ (by omega) (by omega) (by simp; omega)]
      rw [show ((n + 1 : Nat) : Int) = (n : Int) + 1 by omega]
      simp [t62]
theorem count_ok (k : Nat) (l : List Int) (h : valid l) (hl : l.length ≤ 1000) (hk : 306000 ≤ k) : sleuthlaw21_count.f k l = some ((hst l).map t62) := by
  unfold sleuthlaw21_count.f
  have hm : 305 * (l.length + 2) ≤ 305 * 1002 := Nat.mul_le_mul_left _ (by omega)
  have := count_l0 l h (by omega) 305 0 k [] (by omega) (by omega) (by simp)
  simpa [hst, vec] using this

/-! ### same -/
theorem same_loop (l : List S67) (m : List S62) (hl : l.length = m.length) (hb : l.length ≤ 1000000) : ∀ (d i k : Nat), i + d = l.length → d < k → ∃ b, sleuthlaw21_same.l0 k m i l = some b ∧ (b = true ↔ (l.drop i).map t62 = m.drop i) := by
  intro d
  induction d with
  | zero =>
    intro i k hi hk
    obtain ⟨k, rfl⟩ : ∃ m, k = m + 1 := ⟨k - 1, by omega⟩
    refine ⟨true, by rw [sleuthlaw21_same.l0, if_neg (by omega)], ?_⟩
    rw [List.drop_of_length_le (by omega), List.drop_of_length_le (by omega)]
    simp
  | succ d ih =>
    intro i k hi hk
    obtain ⟨k, rfl⟩ : ∃ m, k = m + 1 := ⟨k - 1, by omega⟩
    rw [sleuthlaw21_same.l0, if_pos (by omega), if_pos (by omega), if_pos (by omega), rd67_drop l i (by omega), rd62_drop m i (by omega)]
    obtain ⟨a, b⟩ := rd_T67 l i
    obtain ⟨a', b'⟩ := rd_T62 m i
    simp only [List.map_cons, t62, List.cons.injEq, S62.mk.injEq]
    by_cases e : a = a' ∧ b = b'
    · obtain ⟨rfl, rfl⟩ := e
      rw [if_neg (by simp), wr_succ i (by omega)]
      obtain ⟨b, hb, hi⟩ := ih (i + 1) k (by omega) (by omega)
      exact ⟨b, hb, by rw [hi]; simp⟩
    · rw [if_pos (by simp; omega)]
      exact ⟨false, rfl, by constructor; (intro h; cases h); (rintro ⟨h, _⟩; exact absurd h e)⟩
theorem same_ok (k : Nat) (l : List S67) (m : List S62) (hb : l.length ≤ 1000000) (hk : l.length < k) : ∃ b, sleuthlaw21_same.f k l m = some b ∧ (b = true ↔ l.map t62 = m) := by
  unfold sleuthlaw21_same.f
  by_cases e : l.length = m.length
  · rw [if_pos (by omega)]
    have := same_loop l m e hb l.length 0 k (by omega) hk
    simpa using this
  · rw [if_neg (by omega)]
    exact ⟨false, rfl, by constructor; (intro h; cases h); (intro h; rw [← h] at e; simp at e)⟩

/-! ### at -/
def atS : List S67 → Int → Int
  | [], _ => 0
  | b :: bs, n => if b.f0 = n then b.f1 else atS bs n
theorem at_loop (l : List S67) (hb : l.length ≤ 1000000) (n : Int) : ∀ (d i k : Nat), i + d = l.length → d < k → sleuthlaw21_at.l0 k n i l = some (atS (l.drop i) n) := by
  intro d
  induction d with
  | zero =>
    intro i k hi hk
    obtain ⟨k, rfl⟩ : ∃ m, k = m + 1 := ⟨k - 1, by omega⟩
    rw [sleuthlaw21_at.l0, if_neg (by omega), List.drop_of_length_le (by omega)]
    rfl
  | succ d ih =>
    intro i k hi hk
    obtain ⟨k, rfl⟩ : ∃ m, k = m + 1 := ⟨k - 1, by omega⟩
    rw [sleuthlaw21_at.l0, if_pos (by omega), if_pos (by omega), rd67_drop l i (by omega)]
    simp only [atS]
    by_cases e : (rd_T67 l i).f0 = n
    · rw [if_pos e, if_pos e]
    · rw [if_neg e, if_neg e, wr_succ i (by omega), ih (i + 1) k (by omega) (by omega)]
theorem at_ok (k : Nat) (l : List S67) (n : Int) (hb : l.length ≤ 1000000) (hk : l.length < k) : sleuthlaw21_at.f k l n = some (atS l n) := by
  unfold sleuthlaw21_at.f
  have := at_loop l hb n l.length 0 k (by omega) hk
  simpa using this
theorem atS_buck : ∀ (cs : List Int) (s n : Int), s ≤ n → n < s + cs.length → atS (buckFrom s cs) n = cs.getD (n - s).toNat 0
  | [], s, n, h0, h1 => by simp at h1; omega
  | c :: cs, s, n, h0, h1 => by
    simp only [List.length_cons] at h1
    by_cases e : n = s
    · subst e
      rw [show (n - n).toNat = 0 by omega]
      simp only [List.getD_cons_zero, buckFrom]
      by_cases hc : c = 0
      · rw [if_pos hc, hc]
        have hno : ∀ (cs : List Int) (s : Int), n < s → atS (buckFrom s cs) n = 0 := by
          intro cs
          induction cs with
          | nil => intro s _; rfl
          | cons a cs ih =>
            intro s hs
            simp only [buckFrom]
            split
            · exact ih _ (by omega)
            · simp only [atS]; rw [if_neg (by omega)]; exact ih _ (by omega)
        exact hno cs (n + 1) (by omega)
      · rw [if_neg hc]
        simp [atS]
    · rw [show (n - s).toNat = (n - (s + 1)).toNat + 1 by omega]
      simp only [List.getD_cons_succ, buckFrom]
      rw [← atS_buck cs (s + 1) n (by omega) (by omega)]
      split
      · rfl
      · simp only [atS]; rw [if_neg (by omega)]
theorem at_vec (f : Int → Int) (n : Int) (h0 : 0 ≤ n) (h1 : n < 305) : atS (buckFrom 0 (vec f)) n = f n := by
  rw [atS_buck _ _ _ h0 (by rw [vec_len]; omega), Int.sub_zero, vec_at f n h0 h1]
end Go.Proofs.Ytfnhicmjdfeanaa.PH

namespace Go.Proofs.Ytfnhicmjdfeanaa.PH
open Go.RowKit Go.Proofs.YtfnhicmjdfeanaaW.PrintWords Go.Proofs.YtfnhicmjdfeanaaW.PrintLast Go.Proofs.YtfnhicmjdfeanaaW.PrintMore
set_option linter.unusedVariables false

/-! ### Check -/
def leP : Option Int → Int → Bool
  | some q, x => decide (x ≤ q)
  | none, _ => false
/-- The first error of buckets behind one with an index. -/
def chk : Option Int → List S67 → Int → Int
  | _, [], acc => if acc > 1048576 then 20 else 0
  | p, b :: bs, acc => if b.f0 < 0 ∨ b.f0 ≥ 305 then 2 else if leP p b.f0 = true then 8 else if b.f1 < 1 ∨ b.f1 > 1048576 then 2 else chk (some b.f0) bs (wrap64 (acc + b.f1))
def prevOf (l : List S67) (i : Nat) : Option Int := if i = 0 then none else some (rd_T67 l ((i : Int) - 1)).f0
theorem prevOf_succ (l : List S67) (i : Nat) : prevOf l (i + 1) = some (rd_T67 l (i : Int)).f0 := by
  unfold prevOf
  rw [if_neg (by omega), show ((i + 1 : Nat) : Int) - 1 = (i : Int) by omega]
theorem check_loop (l : List S67) (hb : l.length ≤ 1000000) : ∀ (d i k : Nat) (acc : Int), i + d = l.length → 3 * d < k → histogram_Check.l0 k acc l (l.length : Int) i l = some (chk (prevOf l i) (l.drop i) acc) := by
  intro d
  induction d with
  | zero =>
    intro i k acc hi hk
    obtain ⟨k, rfl⟩ : ∃ m, k = m + 1 := ⟨k - 1, by omega⟩
    rw [histogram_Check.l0, if_neg (by omega), List.drop_of_length_le (by omega)]
    simp only [chk]
    split <;> rfl
  | succ d ih =>
    intro i k acc hi hk
    obtain ⟨k, rfl⟩ : ∃ m, k = m + 3 := ⟨k - 3, by omega⟩
    have hlt : i < l.length := by omega
    have hn := ih (i + 1) k (wrap64 (acc + (rd_T67 l i).f1)) (by omega) (by omega)
    rw [prevOf_succ] at hn
    rw [histogram_Check.l0, if_pos (by omega), if_pos (by omega), if_pos (by omega), rd67_drop l i hlt]
    simp only [chk]
    by_cases h1 : (rd_T67 l i).f0 < 0 ∨ (rd_T67 l i).f0 ≥ 305
    · rw [if_pos h1]
      have e : (if (rd_T67 l i).f0 < 0 then histogram_Check.j1 (k + 2) acc i l (l.length : Int) i true l (rd_T67 l i).f0 (rd_T67 l i).f1 else histogram_Check.j1 (k + 2) acc i l (l.length : Int) i (decide ((rd_T67 l i).f0 ≥ 305)) l (rd_T67 l i).f0 (rd_T67 l i).f1) = histogram_Check.j1 (k + 2) acc i l (l.length : Int) i true l (rd_T67 l i).f0 (rd_T67 l i).f1 := by
        by_cases h : (rd_T67 l i).f0 < 0
        · rw [if_pos h]
        · rw [if_neg h, show decide ((rd_T67 l i).f0 ≥ 305) = true from decide_eq_true (by omega)]
      rw [e, histogram_Check.j1, if_pos rfl]
    · rw [if_neg h1, if_neg (by omega), show decide ((rd_T67 l i).f0 ≥ 305) = false from decide_eq_false (by omega), histogram_Check.j1, if_neg (by decide)]
      have tail : ∀ q : Bool, histogram_Check.j2 (k + 1) acc l (l.length : Int) i q l (rd_T67 l i).f0 (rd_T67 l i).f1 = some (if q = true then 8 else if (rd_T67 l i).f1 < 1 ∨ (rd_T67 l i).f1 > 1048576 then 2 else chk (some (rd_T67 l i).f0) (l.drop (i + 1)) (wrap64 (acc + (rd_T67 l i).f1))) := by
        intro q
        rw [histogram_Check.j2]
        cases q with
        | true => rfl
        | false =>
          rw [if_neg Bool.false_ne_true, if_neg Bool.false_ne_true]
          by_cases h2 : (rd_T67 l i).f1 < 1
          · rw [if_pos h2, if_pos (.inl h2)]
          · rw [if_neg h2]
            by_cases h3 : (rd_T67 l i).f1 > 1048576
            · rw [if_pos h3, if_pos (.inr h3)]
            · rw [if_neg h3, if_neg (by omega), wr_succ i (by omega), hn]
      by_cases h0 : i = 0
      · rw [if_neg (by omega), tail]
        unfold prevOf
        rw [if_pos h0]
        rfl
      · rw [if_pos (by omega), wr_small ((i : Int) - 1) (by omega) (by omega), if_pos (by omega), if_pos (by omega), tail]
        unfold prevOf
        rw [if_neg h0]
        rfl
theorem check_ok (k : Nat) (l : List S67) (hb : l.length ≤ 1000000) (hk : 3 * l.length < k) : histogram_Check.f k l = some (chk none l 0) := by
  unfold histogram_Check.f
  have := check_loop l hb l.length 0 k 0 (by omega) hk
  simpa [prevOf] using this
def isum : List Int → Int
  | [] => 0
  | c :: cs => c + isum cs
theorem isum_nonneg : ∀ cs : List Int, (∀ c, c ∈ cs → 0 ≤ c) → 0 ≤ isum cs
  | [], _ => by simp [isum]
  | c :: cs, h => by
    have := h c List.mem_cons_self
    have := isum_nonneg cs (fun x hx => h x (List.mem_cons_of_mem _ hx))
    simp only [isum]
    omega
theorem chk_buck : ∀ (cs : List Int) (s : Int) (p : Option Int) (acc : Int), 0 ≤ s → s + cs.length ≤ 305 → (∀ q, p = some q → q < s) → (∀ c, c ∈ cs → 0 ≤ c) → 0 ≤ acc → acc + isum cs ≤ 1048576 → chk p (buckFrom s cs) acc = 0
  | [], s, p, acc, _, _, _, _, h0, h1 => by
    simp only [isum, Int.add_zero] at h1
    simp only [buckFrom, chk]
    rw [if_neg (by omega)]
  | c :: cs, s, p, acc, hs, hl, hp, hc, h0, h1 => by
    simp only [List.length_cons] at hl
    simp only [isum] at h1
    have hc0 := hc c List.mem_cons_self
    have hcs := isum_nonneg cs (fun x hx => hc x (List.mem_cons_of_mem _ hx))
    simp only [buckFrom]
    by_cases e : c = 0
    · rw [if_pos e]
      exact chk_buck cs (s + 1) p acc (by omega) (by omega) (fun q hq => by have := hp q hq; omega) (fun x hx => hc x (List.mem_cons_of_mem _ hx)) h0 (by omega)
    · rw [if_neg e]
      simp only [chk]
      rw [if_neg (by omega)]
      have hq : ¬ leP p s = true := by
        cases p with
        | none => simp [leP]
        | some q => have := hp q rfl; simp [leP]; omega
      rw [if_neg hq, if_neg (by omega), wr_small (acc + c) (by omega) (by omega)]
      exact chk_buck cs (s + 1) (some s) (acc + c) (by omega) (by omega) (fun q hq => by injection hq with hq; omega) (fun x hx => hc x (List.mem_cons_of_mem _ hx)) (by omega) (by omega)
theorem zsum_one : ∀ (cs : List Int) (s : Int), zsum (fun _ => 1) s cs = isum cs
  | [], _ => rfl
  | c :: cs, s => by simp only [zsum, isum, zsum_one cs (s + 1)]; omega
theorem isum_cnt (l : List Int) (h : valid l) : isum (vec (cnt l)) = l.length := by
  rw [← zsum_one _ 0, zsum_cnt _ _ h, lsum_one]
theorem hst_check (k : Nat) (hk : 1000 ≤ k) (l : List Int) (h : valid l) (hl : l.length ≤ 1048576) : histogram_Check.f k (hst l) = some 0 := by
  have hle := hst_len l
  rw [check_ok k _ (by omega) (by omega)]
  congr 1
  refine chk_buck _ 0 none 0 (by omega) (by rw [vec_len]; omega) (fun q hq => by cases hq) (fun c hc => ?_) (by omega) (by rw [isum_cnt l h]; omega)
  obtain ⟨i, _, _, rfl⟩ := vec_mem hc
  exact (cnt_range l i).1

/-! ### AtMost and Sum -/
def ind (p : Prop) [Decidable p] : Int := if p then 1 else 0
theorem atmost_loop (v : Int) (l : List S67) (hb : l.length ≤ 1000000) (hc : ∀ b, b ∈ l → 0 ≤ b.f0 ∧ b.f0 < 305 ∧ 0 ≤ b.f1 ∧ b.f1 ≤ 1099511627776) :
    ∀ (d i k : Nat) (x y : Int), i + d = l.length → d + 1 < k → 0 ≤ x → x ≤ (i : Int) * 1099511627776 → 0 ≤ y → y ≤ (i : Int) * 1099511627776 →
    histogram_AtMost.l0 k v x y l (l.length : Int) i = some (x + wsum (fun n => ind (highI n ≤ v)) (l.drop i), y + wsum (fun n => ind (lowI n ≤ v)) (l.drop i)) := by
  intro d
  induction d with
  | zero =>
    intro i k x y hi hk h0 h1 h2 h3
    obtain ⟨k, rfl⟩ : ∃ m, k = m + 1 := ⟨k - 1, by omega⟩
    rw [histogram_AtMost.l0, if_neg (by omega), List.drop_of_length_le (by omega)]
    simp [wsum]
  | succ d ih =>
    intro i k x y hi hk h0 h1 h2 h3
    obtain ⟨k, rfl⟩ : ∃ m, k = m + 2 := ⟨k - 2, by omega⟩
    have hlt : i < l.length := by omega
    have hq := hc (rd_T67 l i) (List.mem_of_mem_drop (i := i) (by rw [rd67_drop l i hlt]; exact List.mem_cons_self))
    rw [histogram_AtMost.l0, if_pos (by omega), if_pos (by omega), if_pos (by omega), bounds_ok _ k hq.1 hq.2.1, rd67_drop l i hlt]
    simp only [Option.bind_some, wsum, ind]
    rw [wr_succ i (by omega), wr_small (x + _) (by omega) (by omega), wr_small (y + _) (by omega) (by omega)]
    by_cases a : highI (rd_T67 l i).f0 ≤ v
    · rw [if_pos a, if_pos a]
      by_cases b : lowI (rd_T67 l i).f0 ≤ v
      · rw [if_pos b, if_pos b, ih (i + 1) (k + 1) _ _ (by omega) (by omega) (by omega) (by omega) (by omega) (by omega)]
        simp only [ind]; congr 2 <;> omega
      · rw [if_neg b, if_neg b, ih (i + 1) (k + 1) _ _ (by omega) (by omega) (by omega) (by omega) (by omega) (by omega)]
        simp only [ind]; congr 2 <;> omega
    · rw [if_neg a, if_neg a]
      by_cases b : lowI (rd_T67 l i).f0 ≤ v
      · rw [if_pos b, if_pos b, ih (i + 1) (k + 1) _ _ (by omega) (by omega) (by omega) (by omega) (by omega) (by omega)]
        simp only [ind]; congr 2 <;> omega
      · rw [if_neg b, if_neg b, ih (i + 1) (k + 1) _ _ (by omega) (by omega) (by omega) (by omega) (by omega) (by omega)]
        simp only [ind]; congr 2 <;> omega
theorem atmost_ok (k : Nat) (v : Int) (l : List S67) (hk : l.length + 1 < k) (hb : l.length ≤ 1000000) (hc : ∀ b, b ∈ l → 0 ≤ b.f0 ∧ b.f0 < 305 ∧ 0 ≤ b.f1 ∧ b.f1 ≤ 1099511627776) :
    histogram_AtMost.f k l v = some (wsum (fun n => ind (highI n ≤ v)) l, wsum (fun n => ind (lowI n ≤ v)) l) := by
  unfold histogram_AtMost.f
  have := atmost_loop v l hb hc l.length 0 k 0 0 (by omega) hk (by omega) (by omega) (by omega) (by omega)
  simpa using this
theorem prod_bd {a b B : Int} (ha0 : 0 ≤ a) (ha : a ≤ 1099511627776) (hb0 : 0 ≤ b) (hb : b ≤ B) (hB : 0 ≤ B) : 0 ≤ a * b ∧ a * b ≤ 1099511627776 * B := by
  have x : a * b ≤ 1099511627776 * b := Int.mul_le_mul_of_nonneg_right ha hb0
  have y : 0 ≤ a * b := Int.mul_nonneg ha0 hb0
  have z : 1099511627776 * b ≤ 1099511627776 * B := Int.mul_le_mul_of_nonneg_left hb (by omega)
  omega
theorem wsum_cons (g : Int → Int) (b : S67) (bs : List S67) : wsum g (b :: bs) = g b.f0 * b.f1 + wsum g bs := rfl
theorem sum_loop (l : List S67) (hb : l.length ≤ 305) (hc : ∀ b, b ∈ l → 0 ≤ b.f0 ∧ b.f0 < 305 ∧ 0 ≤ b.f1 ∧ b.f1 ≤ 1000) :
    ∀ (d i k : Nat) (x y : Int), i + d = l.length → d + 1 < k → 0 ≤ x → x ≤ (i : Int) * 1099511627776000 → 0 ≤ y → y ≤ (i : Int) * 1099511627776000 →
    histogram_Sum.l0 k x y l (l.length : Int) i = some (x + wsum lowI (l.drop i), y + wsum highI (l.drop i)) := by
  intro d
  induction d with
  | zero =>
    intro i k x y hi hk h0 h1 h2 h3
    obtain ⟨k, rfl⟩ : ∃ m, k = m + 1 := ⟨k - 1, by omega⟩
    rw [histogram_Sum.l0, if_neg (by omega), List.drop_of_length_le (by omega)]
    simp [wsum]
  | succ d ih =>
    intro i k x y hi hk h0 h1 h2 h3
    obtain ⟨k, rfl⟩ : ∃ m, k = m + 2 := ⟨k - 2, by omega⟩
    have hlt : i < l.length := by omega
    have hq := hc (rd_T67 l i) (List.mem_of_mem_drop (i := i) (by rw [rd67_drop l i hlt]; exact List.mem_cons_self))
    have hr := lowI_range _ hq.1 hq.2.1
    have p1 := prod_bd hr.1 hr.2.1 hq.2.2.1 hq.2.2.2 (by decide)
    have p2 := prod_bd hr.2.2.1 hr.2.2.2.1 hq.2.2.1 hq.2.2.2 (by decide)
    rw [histogram_Sum.l0, if_pos (by omega), if_pos (by omega), if_pos (by omega), bounds_ok _ k hq.1 hq.2.1, rd67_drop l i hlt, Option.bind_some, wsum_cons, wsum_cons]
    dsimp only
    generalize lowI (rd_T67 l i).f0 * (rd_T67 l i).f1 = P at *
    generalize highI (rd_T67 l i).f0 * (rd_T67 l i).f1 = Q at *
    clear hr hq hc
    rw [show (1099511627776 : Int) * 1000 = 1099511627776000 from by decide] at p1 p2
    have e1 : (((i + 1 : Nat)) : Int) * 1099511627776000 = (i : Int) * 1099511627776000 + 1099511627776000 := by omega
    have e2 : (i : Int) * 1099511627776000 ≤ 335351046471680000 := by omega
    have w1 := wr_small P (by omega) (by omega)
    have w2 := wr_small Q (by omega) (by omega)
    have w3 := wr_small (x + P) (by omega) (by omega)
    have w4 := wr_small (y + Q) (by omega) (by omega)
    have ih2 := ih (i + 1) (k + 1) (x + P) (y + Q) (by omega) (by omega) (by omega) (by rw [e1]; omega) (by omega) (by rw [e1]; omega)
    rw [wr_succ i (by omega), w1, w2, w3, w4, ih2, Int.add_assoc x, Int.add_assoc y]
theorem sum_ok (k : Nat) (l : List S67) (hk : l.length + 1 < k) (hb : l.length ≤ 305) (hc : ∀ b, b ∈ l → 0 ≤ b.f0 ∧ b.f0 < 305 ∧ 0 ≤ b.f1 ∧ b.f1 ≤ 1000) : histogram_Sum.f k l = some (wsum lowI l, wsum highI l) := by
  unfold histogram_Sum.f
  have := sum_loop l hb hc l.length 0 k 0 0 (by omega) hk (by omega) (by omega) (by omega) (by omega)
  simpa using this
end Go.Proofs.Ytfnhicmjdfeanaa.PH

namespace Go.Proofs.Ytfnhicmjdfeanaa.PH
open Go.RowKit Go.Proofs.YtfnhicmjdfeanaaW.PrintWords Go.Proofs.YtfnhicmjdfeanaaW.PrintLast Go.Proofs.YtfnhicmjdfeanaaW.PrintMore
set_option linter.unusedVariables false

theorem accum_buck (g : Int → Int) (hg : ∀ n, 0 ≤ g n ∧ g n ≤ 1099511627776) : ∀ (d s : Nat) (f : Int → Int), s + d ≤ 305 → (∀ n : Int, (s : Int) ≤ n → 0 ≤ f n ∧ f n ≤ 1099511627776) →
    accum (buckFrom s (vecFrom g s d)) (vec f) = some (vec (fun n => if (s : Int) ≤ n ∧ n < s + d then f n + g n else f n)) := by
  intro d
  induction d with
  | zero =>
    intro s f hs hf
    simp only [vecFrom, List.range'_zero, List.map_nil, buckFrom, accum]
    congr 1
    refine vec_congr (fun i _ _ => ?_)
    rw [if_neg (by omega)]
  | succ d ih =>
    intro s f hs hf
    rw [vecFrom_succ]
    simp only [buckFrom]
    have hgs := hg s
    have hfs := hf s (Int.le_refl _)
    by_cases e : g s = 0
    · rw [if_pos e, show (s : Int) + 1 = ((s + 1 : Nat) : Int) by omega, ih (s + 1) f (by omega) (fun n hn => hf n (by omega))]
      congr 1
      refine vec_congr (fun i _ _ => ?_)
      by_cases c : i = s
      · subst c
        rw [if_neg (by omega), if_pos (by omega), e]; omega
      · by_cases c2 : ((s + 1 : Nat) : Int) ≤ i ∧ i < ((s + 1 : Nat) : Int) + d
        · rw [if_pos c2, if_pos (by omega)]
        · rw [if_neg c2, if_neg (by omega)]
    · rw [if_neg e]
      simp only [accum]
      rw [if_pos (by omega), if_pos (by omega), vec_at f s (by omega) (by omega), wr_small _ (by omega) (by omega), vec_set f s (by omega) (by omega), show (s : Int) + 1 = ((s + 1 : Nat) : Int) by omega,
        ih (s + 1) _ (by omega) (fun n hn => by rw [if_neg (by omega)]; exact hf n (by omega))]
      congr 1
      refine vec_congr (fun i _ _ => ?_)
      by_cases c : i = s
      · subst c
        rw [if_neg (by omega), if_pos rfl, if_pos (by omega)]
      · by_cases c2 : ((s + 1 : Nat) : Int) ≤ i ∧ i < ((s + 1 : Nat) : Int) + d
        · rw [if_pos c2, if_neg c, if_pos (by omega)]
        · rw [if_neg c2, if_neg c, if_neg (by omega)]
theorem accum_vec (f g : Int → Int) (hf : ∀ n, 0 ≤ f n ∧ f n ≤ 1099511627776) (hg : ∀ n, 0 ≤ g n ∧ g n ≤ 1099511627776) : accum (buckFrom 0 (vec g)) (vec f) = some (vec (fun n => f n + g n)) := by
  have h := accum_buck g hg 305 0 f (by omega) (fun n _ => hf n)
  rw [show ((0 : Nat) : Int) = 0 from rfl, show vecFrom g 0 305 = vec g from rfl] at h
  rw [h, vec_congr (g := fun n => f n + g n) (fun i h0 h1 => by rw [if_pos ⟨h0, by omega⟩])]
theorem accum_zero (g : Int → Int) (hg : ∀ n, 0 ≤ g n ∧ g n ≤ 1099511627776) : accum (buckFrom 0 (vec g)) (List.replicate 305 0) = some (vec g) := by
  rw [zeros_vec, accum_vec _ g (fun _ => by omega) hg]
  congr 1
  exact vec_congr (fun i _ _ => by omega)
theorem cnt_bd (l : List Int) (hl : l.length ≤ 1000000) : ∀ n, 0 ≤ cnt l n ∧ cnt l n ≤ 1099511627776 := fun n => by
  have := cnt_range l n
  omega

/-! ### totals -/
theorem vec_total (k : Nat) (f : Int → Int) (hk : 306 ≤ k) (hf : ∀ n, 0 ≤ f n ∧ f n ≤ 1099511627776) : histogram_Total.f k (buckFrom 0 (vec f)) = some (isum (vec f)) := by
  have h1 := buck_len (vec f) 0
  rw [vec_len] at h1
  rw [total_ok k _ (by omega) (by omega) (fun b hb => by
    obtain ⟨_, _, h3, _⟩ := buck_mem _ _ _ hb
    obtain ⟨i, _, _, e⟩ := vec_mem h3
    rw [e]; exact hf i), wsum_buck, zsum_one]
theorem isum_add (f g : Int → Int) : ∀ (d a : Nat), isum (vecFrom (fun n => f n + g n) a d) = isum (vecFrom f a d) + isum (vecFrom g a d)
  | 0, a => by simp [vecFrom, isum]
  | d + 1, a => by
    rw [vecFrom_succ, vecFrom_succ, vecFrom_succ]
    simp only [isum]
    rw [isum_add f g d (a + 1)]
    omega
theorem isum_mul (f : Int → Int) (c : Int) : ∀ (d a : Nat), isum (vecFrom (fun n => f n * c) a d) = isum (vecFrom f a d) * c
  | 0, a => by simp [vecFrom, isum]
  | d + 1, a => by
    rw [vecFrom_succ, vecFrom_succ]
    simp only [isum]
    rw [isum_mul f c d (a + 1), Int.add_mul]
theorem isum_one (m x : Int) : ∀ (d a : Nat), isum (vecFrom (fun n => if n = m then x else 0) a d) = if (a : Int) ≤ m ∧ m < a + d then x else 0
  | 0, a => by simp only [vecFrom, List.range'_zero, List.map_nil, isum]; rw [if_neg (by omega)]
  | d + 1, a => by
    rw [vecFrom_succ]
    simp only [isum]
    rw [isum_one m x d (a + 1)]
    by_cases c : (a : Int) = m
    · rw [if_pos c, if_neg (by omega), if_pos (by omega)]; omega
    · rw [if_neg c]
      by_cases c2 : ((a + 1 : Nat) : Int) ≤ m ∧ m < ((a + 1 : Nat) : Int) + d
      · rw [if_pos c2, if_pos (by omega)]; omega
      · rw [if_neg c2, if_neg (by omega)]; omega
theorem limited_ok (k : Nat) (f : Int → Int) (hk : 306 ≤ k) (hf : ∀ n, 0 ≤ f n ∧ f n ≤ 1099511627776) : histogram_limited.f k (buckFrom 0 (vec f)) = if isum (vec f) > 1048576 then some ([], 20) else some (buckFrom 0 (vec f), 0) := by
  unfold histogram_limited.f
  rw [vec_total k f hk hf, Option.bind_some]
theorem vec_check (k : Nat) (f : Int → Int) (hk : 1000 ≤ k) (hf : ∀ n, 0 ≤ f n ∧ f n ≤ 1099511627776) (hs : isum (vec f) ≤ 1048576) : histogram_Check.f k (buckFrom 0 (vec f)) = some 0 := by
  have hle := buck_len (vec f) 0
  rw [vec_len] at hle
  rw [check_ok k _ (by omega) (by omega)]
  congr 1
  refine chk_buck _ 0 none 0 (by omega) (by rw [vec_len]; omega) (fun q hq => by cases hq) (fun c hc => ?_) (by omega) (by omega)
  obtain ⟨i, _, _, rfl⟩ := vec_mem hc
  exact (hf i).1
theorem buck_len305 (f : Int → Int) : (buckFrom 0 (vec f)).length ≤ 305 := by
  have hle := buck_len (vec f) 0
  rw [vec_len] at hle
  exact hle

/-! ### Add -/
theorem add_ok (k : Nat) (hk : 400 ≤ k) (l : List Int) (h : valid l) (hl : l.length ≤ 40) (v n : Int) (h0 : 0 ≤ v) (h1 : v ≤ 1099511627776) (hn0 : 0 ≤ n) (hn1 : n ≤ 1048576) :
    histogram_Add.f k (hst l) v n = if (l.length : Int) + n > 1048576 then some ([], 20) else some (buckFrom 0 (vec (fun i => cnt l i + if i = bix v then n else 0)), 0) := by
  obtain ⟨j, rfl⟩ : ∃ j, k = j + 2 := ⟨k - 2, by omega⟩
  have hr := bix_range v h0 h1
  have hb := cnt_bd l (by omega)
  unfold histogram_Add.f histogram_Add.g hst
  rw [index_ok v j h0 h1, Option.bind_some, if_pos rfl, if_neg (by omega), if_neg (by omega), accum_zero _ hb, Option.bind_some, if_pos hr.1, if_pos hr.2, vec_at _ _ hr.1 hr.2]
  have hc := hb (bix v)
  rw [wr_small _ (by omega) (by omega), vec_set _ _ hr.1 hr.2]
  have e : vec (fun m => if m = bix v then cnt l (bix v) + n else cnt l m) = vec (fun i => cnt l i + if i = bix v then n else 0) := vec_congr (fun i _ _ => by
    by_cases c : i = bix v
    · rw [if_pos c, if_pos c, c]
    · rw [if_neg c, if_neg c]; omega)
  rw [e, limited_ok _ _ (by omega) (fun m => by have := cnt_range l m; split <;> omega)]
  have e2 : isum (vec (fun i => cnt l i + if i = bix v then n else 0)) = (l.length : Int) + n := by
    unfold vec
    rw [isum_add, isum_one, if_pos (by omega)]
    have := isum_cnt l h
    unfold vec at this
    rw [this]
  rw [e2]
theorem add_bad (k : Nat) (hk : 400 ≤ k) (l : List S67) (v n : Int) (hb : (v < 0 ∨ v > 1099511627776) ∨ n < 0 ∨ n > 1048576) : histogram_Add.f k l v n = some ([], 2) := by
  obtain ⟨j, rfl⟩ : ∃ j, k = j + 2 := ⟨k - 2, by omega⟩
  unfold histogram_Add.f
  by_cases c : v < 0 ∨ v > 1099511627776
  · rw [index_bad v (j + 1) c, Option.bind_some]
    rfl
  · rw [index_ok v j (by omega) (by omega), Option.bind_some, if_pos rfl]
    unfold histogram_Add.g
    by_cases c2 : n < 0
    · rw [if_pos c2]
    · rw [if_neg c2, if_pos (by omega)]
end Go.Proofs.Ytfnhicmjdfeanaa.PH

namespace Go.Proofs.Ytfnhicmjdfeanaa.PH
open Go.RowKit Go.Proofs.YtfnhicmjdfeanaaW.PrintWords Go.Proofs.YtfnhicmjdfeanaaW.PrintLast Go.Proofs.YtfnhicmjdfeanaaW.PrintMore
set_option linter.unusedVariables false

theorem equal_loop (l m : List S67) (hl : l.length = m.length) (hb : l.length ≤ 1000000) : ∀ (d i k : Nat), i + d = l.length → d < k → ∃ b, histogram_Bucket_48.l0 k l m (l.length : Int) (i : Int) = some b ∧ (b = true ↔ l.drop i = m.drop i) := by
  intro d
  induction d with
  | zero =>
    intro i k hi hk
    obtain ⟨k, rfl⟩ : ∃ j, k = j + 1 := ⟨k - 1, by omega⟩
    rw [histogram_Bucket_48.l0, if_neg (by omega)]
    refine ⟨true, rfl, ?_⟩
    rw [List.drop_of_length_le (by omega), List.drop_of_length_le (by omega)]
    simp
  | succ d ih =>
    intro i k hi hk
    obtain ⟨k, rfl⟩ : ∃ j, k = j + 1 := ⟨k - 1, by omega⟩
    rw [histogram_Bucket_48.l0, if_pos (by omega), if_pos (by omega), if_pos (by omega), if_pos (by omega), rd67_drop l i (by omega), rd67_drop m i (by omega), wr_succ i (by omega)]
    obtain ⟨b, e, hbb⟩ := ih (i + 1) k (by omega) (by omega)
    generalize rd_T67 l (i : Int) = x
    generalize rd_T67 m (i : Int) = y
    obtain ⟨x0, x1⟩ := x
    obtain ⟨y0, y1⟩ := y
    by_cases h : x0 = y0 ∧ x1 = y1
    · obtain ⟨rfl, rfl⟩ := h
      rw [if_neg (by simp)]
      refine ⟨b, e, ?_⟩
      rw [hbb]
      simp
    · refine ⟨false, ?_, ?_⟩
      · rw [if_pos]
        by_cases h0 : x0 = y0
        · have h1 : ¬ x1 = y1 := fun h1 => h ⟨h0, h1⟩
          simp [h1]
        · simp [h0]
      · constructor
        · intro c; cases c
        · intro c
          have c := (List.cons.inj c).1
          injection c with c0 c1
          exact absurd ⟨c0, c1⟩ h
theorem equal_ok (k : Nat) (l m : List S67) (hb : l.length ≤ 1000000) (hk : l.length < k) : ∃ b, histogram_Equal.f k l m = some b ∧ (b = true ↔ l = m) := by
  unfold histogram_Equal.f histogram_Bucket_48.f
  by_cases h : l.length = m.length
  · rw [if_pos (by omega)]
    obtain ⟨b, e, hbb⟩ := equal_loop l m h hb l.length 0 k (by omega) hk
    rw [show ((0 : Nat) : Int) = 0 from rfl] at e
    rw [e]
    exact ⟨b, rfl, hbb⟩
  · rw [if_neg (by omega)]
    exact ⟨false, rfl, ⟨fun c => absurd c (by decide), fun c => absurd (by rw [c]) h⟩⟩
theorem equal_self (k : Nat) (l : List S67) (hb : l.length ≤ 1000000) (hk : l.length < k) : histogram_Equal.f k l l = some true := by
  obtain ⟨b, e, hbb⟩ := equal_ok k l l hb hk
  rw [e, hbb.mpr rfl]

theorem merge_ok (k : Nat) (hk : 306 ≤ k) (f g : Int → Int) (hf : ∀ n, 0 ≤ f n ∧ f n ≤ 549755813888) (hg : ∀ n, 0 ≤ g n ∧ g n ≤ 549755813888) :
    histogram_Merge.f k (buckFrom 0 (vec f)) (buckFrom 0 (vec g)) = if isum (vec (fun n => f n + g n)) > 1048576 then some ([], 20) else some (buckFrom 0 (vec (fun n => f n + g n)), 0) := by
  unfold histogram_Merge.f
  rw [accum_zero f (fun n => by have := hf n; omega), Option.bind_some, accum_vec f g (fun n => by have := hf n; omega) (fun n => by have := hg n; omega), Option.bind_some, limited_ok k _ hk (fun n => by have := hf n; have := hg n; omega)]

theorem vec_map (f : Int → Int) (h : Int → Int) : (vec f).map h = vec (fun n => h (f n)) := by
  unfold vec vecFrom
  rw [List.map_map]
  rfl
theorem scaled_bd (l : List Int) (hl : l.length ≤ 40) (by_ : Int) (h0 : 0 ≤ by_) (h1 : l = [] ∨ by_ ≤ 1048576) (n : Int) : 0 ≤ cnt l n * by_ ∧ cnt l n * by_ ≤ 41943040 := by
  have hc := cnt_range l n
  rcases h1 with rfl | h1
  · have : cnt [] n = 0 := by have : (([] : List Int).length : Int) = 0 := rfl; omega
    rw [this, Int.zero_mul]; omega
  · have a := Int.mul_nonneg hc.1 h0
    have b : cnt l n * by_ ≤ 40 * 1048576 := Int.mul_le_mul (by omega) h1 h0 (by omega)
    omega
theorem scale_ok (l : List Int) (hl : l.length ≤ 40) (by_ : Int) (h0 : 0 ≤ by_) (h1 : l = [] ∨ by_ ≤ 1048576) : scaleRest (hst l) by_ = some (buckFrom 0 (vec (fun n => cnt l n * by_)), 0) := by
  unfold scaleRest hst
  rw [accum_zero _ (cnt_bd l (by omega)), Option.bind_some, vec_map]
  congr 3
  exact vec_congr (fun i _ _ => by have := scaled_bd l hl by_ h0 h1 i; rw [wr_small _ (by omega) (by omega)])
theorem buck_zeros : ∀ (n : Nat) (s : Int), buckFrom s (List.replicate n 0) = []
  | 0, _ => rfl
  | n + 1, s => by rw [List.replicate_succ]; simp [buckFrom, buck_zeros n]
theorem hst_nil : hst [] = [] := by
  unfold hst
  have e : vec (cnt []) = List.replicate 305 0 := by rw [zeros_vec]; exact vec_congr (fun i _ _ => rfl)
  rw [e, buck_zeros]
theorem cnt_nil_mul (b : Int) : buckFrom 0 (vec (fun n => cnt [] n * b)) = [] := by
  have e : vec (fun n => cnt [] n * b) = List.replicate 305 0 := by rw [zeros_vec]; exact vec_congr (fun i _ _ => by show (0 : Int) * b = 0; exact Int.zero_mul b)
  rw [e, buck_zeros]
end Go.Proofs.Ytfnhicmjdfeanaa.PH
