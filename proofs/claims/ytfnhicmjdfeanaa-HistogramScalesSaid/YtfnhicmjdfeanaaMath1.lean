/- The bucket index of a value: what math/bits.Len, Index, Bounds and the definition's own index, low and high compute, in plain numbers. -/
import Derived.Test.YtfnhicmjdfeanaaPHx3
import Derived.Test.YtfnhicmjdfeanaaPHx14
import Derived.Test.YtfnhicmjdfeanaaPHx17
import Derived.Test.YtfnhicmjdfeanaaPHx18
import Derived.Test.YtfnhicmjdfeanaaPHx20
-- NEEDS H: bits_Len histogram_Bounds histogram_Index sleuthlaw21_index sleuthlaw21_known sleuthlaw21_low
namespace Go.Proofs.Ytfnhicmjdfeanaa.PH
open Go.RowKit Go.Proofs.YtfnhicmjdfeanaaW.PrintWords Go.Proofs.YtfnhicmjdfeanaaW.PrintLast Go.Proofs.YtfnhicmjdfeanaaW.PrintMore

/-- n bits are needed for x. -/
def Bits (x n : Int) : Prop := 0 < x ∧ 0 ≤ n ∧ n ≤ 64 ∧ (2 : Int) ^ n.toNat ≤ 2 * x ∧ x < 2 ^ n.toNat
def lenTab : ByteArray := ⟨#[0, 1, 2, 2, 3, 3, 3, 3, 4, 4, 4, 4, 4, 4, 4, 4, 5, 5, 5, 5, 5, 5, 5, 5, 5, 5, 5, 5, 5, 5, 5, 5, 6, 6, 6, 6, 6, 6, 6, 6, 6, 6, 6, 6, 6, 6, 6, 6, 6, 6, 6, 6, 6, 6, 6, 6, 6, 6, 6, 6, 6, 6, 6, 6, 7, 7, 7, 7, 7, 7, 7, 7, 7, 7, 7, 7, 7, 7, 7, 7, 7, 7, 7, 7, 7, 7, 7, 7, 7, 7, 7, 7, 7, 7, 7, 7, 7, 7, 7, 7, 7, 7, 7, 7, 7, 7, 7, 7, 7, 7, 7, 7, 7, 7, 7, 7, 7, 7, 7, 7, 7, 7, 7, 7, 7, 7, 7, 7, 8, 8, 8, 8, 8, 8, 8, 8, 8, 8, 8, 8, 8, 8, 8, 8, 8, 8, 8, 8, 8, 8, 8, 8, 8, 8, 8, 8, 8, 8, 8, 8, 8, 8, 8, 8, 8, 8, 8, 8, 8, 8, 8, 8, 8, 8, 8, 8, 8, 8, 8, 8, 8, 8, 8, 8, 8, 8, 8, 8, 8, 8, 8, 8, 8, 8, 8, 8, 8, 8, 8, 8, 8, 8, 8, 8, 8, 8, 8, 8, 8, 8, 8, 8, 8, 8, 8, 8, 8, 8, 8, 8, 8, 8, 8, 8, 8, 8, 8, 8, 8, 8, 8, 8, 8, 8, 8, 8, 8, 8, 8, 8, 8, 8, 8, 8, 8, 8, 8, 8, 8, 8, 8, 8, 8, 8, 8, 8]⟩
set_option maxRecDepth 100000 in
theorem tab_bits8 : ∀ i : Fin 256, i.val ≠ 0 → 1 ≤ bt lenTab i.val ∧ bt lenTab i.val ≤ 8 ∧ (2 : Nat) ^ (bt lenTab i.val).toNat ≤ 2 * i.val ∧ i.val < 2 ^ (bt lenTab i.val).toNat := by decide +kernel
theorem tab_bits (x : Int) (h0 : 0 < x) (h1 : x < 256) : Bits x (bt lenTab x) ∧ bt lenTab x ≤ 8 ∧ 1 ≤ bt lenTab x := by
  obtain ⟨n, rfl⟩ := Int.eq_ofNat_of_zero_le (Int.le_of_lt h0)
  have h := tab_bits8 ⟨n, by omega⟩ (by simp; omega)
  dsimp only at h
  obtain ⟨a, b, c, d⟩ := h
  refine ⟨⟨h0, by omega, by omega, ?_, ?_⟩, b, a⟩
  · have : ((2 ^ (bt lenTab (n : Int)).toNat : Nat) : Int) ≤ ((2 * n : Nat) : Int) := by exact_mod_cast c
    simpa using this
  · have : ((n : Nat) : Int) < ((2 ^ (bt lenTab (n : Int)).toNat : Nat) : Int) := by exact_mod_cast d
    simpa using this
theorem bits_up (x y n : Int) (j : Nat) (p : Int) (hp : p = 2 ^ j) (h : Bits y n) (hy : y = x / p) (hn : n + j ≤ 64) : Bits x (n + j) := by
  obtain ⟨h0, h1, h2, h3, h4⟩ := h
  have pp : 0 < p := by rw [hp]; exact Int.pow_pos (by decide)
  have e : (n + (j : Int)).toNat = n.toNat + j := by omega
  have hx : y * p ≤ x := by rw [hy]; exact Int.ediv_mul_le _ (by omega)
  have hx2 : x < (y + 1) * p := by rw [hy]; exact Int.lt_ediv_add_one_mul_self _ pp
  have e2 : (2 : Int) ^ (n + (j : Int)).toNat = 2 ^ n.toNat * p := by rw [e, Int.pow_add, hp]
  refine ⟨?_, by omega, hn, ?_, ?_⟩
  · have : 0 < y * p := Int.mul_pos h0 pp
    omega
  · rw [e2]
    have : 2 ^ n.toNat * p ≤ (2 * y) * p := Int.mul_le_mul_of_nonneg_right h3 (by omega)
    rw [Int.mul_assoc] at this
    omega
  · rw [e2]
    have : (y + 1) * p ≤ 2 ^ n.toNat * p := Int.mul_le_mul_of_nonneg_right (by omega) (by omega)
    omega
theorem wr_small (x : Int) (h0 : -9223372036854775808 ≤ x) (h1 : x ≤ 9223372036854775807) : wrap64 x = x := by unfold wrap64; omega
theorem j0_eq (k : Nat) (x0 x2 : Int) : bits_Len64.j0 (k + 1) x0 x2 = if x0 ≥ 65536 then (if (x0 / 65536) ≥ 256 then (if 0 ≤ (((x0 / 65536) / 256) % 256) then (if (((x0 / 65536) / 256) % 256) < 256 then (some (wrap64 ((wrap64 ((wrap64 (x2 + 16)) + 8)) + (wrap64 (bt lenTab (((x0 / 65536) / 256) % 256)))))) else (none)) else (none)) else (if 0 ≤ ((x0 / 65536) % 256) then (if ((x0 / 65536) % 256) < 256 then (some (wrap64 ((wrap64 (x2 + 16)) + (wrap64 (bt lenTab ((x0 / 65536) % 256)))))) else (none)) else (none))) else (if x0 ≥ 256 then (if 0 ≤ ((x0 / 256) % 256) then (if ((x0 / 256) % 256) < 256 then (some (wrap64 ((wrap64 (x2 + 8)) + (wrap64 (bt lenTab ((x0 / 256) % 256)))))) else (none)) else (none)) else (if 0 ≤ ((x0) % 256) then (if ((x0) % 256) < 256 then (some (wrap64 (x2 + (wrap64 (bt lenTab ((x0) % 256)))))) else (none)) else (none))) := rfl
theorem len_j0 (k : Nat) (x s : Int) (h0 : 0 < x) (h1 : x < 4294967296) (hs : 0 ≤ s) (hs2 : s ≤ 32) : ∃ n, bits_Len64.j0 (k + 1) x s = some (s + n) ∧ Bits x n ∧ n ≤ 32 := by
  rw [j0_eq]
  by_cases a : x ≥ 65536
  · rw [if_pos a]
    by_cases b : x / 65536 ≥ 256
    · have e : x / 65536 / 256 % 256 = x / 16777216 := by omega
      rw [if_pos b, e, if_pos (by omega), if_pos (by omega)]
      obtain ⟨t1, t2, t3⟩ := tab_bits (x / 16777216) (by omega) (by omega)
      refine ⟨bt lenTab (x / 16777216) + 24, ?_, ?_, by omega⟩
      · rw [wr_small (s + 16) (by omega) (by omega), wr_small (s + 16 + 8) (by omega) (by omega), wr_small (bt _ _) (by omega) (by omega), wr_small _ (by omega) (by omega)]
        congr 1; omega
      · exact bits_up x _ _ 24 16777216 (by decide) t1 rfl (by omega)
    · have e : x / 65536 % 256 = x / 65536 := by omega
      rw [if_neg b, e, if_pos (by omega), if_pos (by omega)]
      obtain ⟨t1, t2, t3⟩ := tab_bits (x / 65536) (by omega) (by omega)
      refine ⟨bt lenTab (x / 65536) + 16, ?_, ?_, by omega⟩
      · rw [wr_small (s + 16) (by omega) (by omega), wr_small (bt _ _) (by omega) (by omega), wr_small _ (by omega) (by omega)]
        congr 1; omega
      · exact bits_up x _ _ 16 65536 (by decide) t1 rfl (by omega)
  · rw [if_neg a]
    by_cases b : x ≥ 256
    · have e : x / 256 % 256 = x / 256 := by omega
      rw [if_pos b, e, if_pos (by omega), if_pos (by omega)]
      obtain ⟨t1, t2, t3⟩ := tab_bits (x / 256) (by omega) (by omega)
      refine ⟨bt lenTab (x / 256) + 8, ?_, ?_, by omega⟩
      · rw [wr_small (s + 8) (by omega) (by omega), wr_small (bt _ _) (by omega) (by omega), wr_small _ (by omega) (by omega)]
        congr 1; omega
      · exact bits_up x _ _ 8 256 (by decide) t1 rfl (by omega)
    · have e : x % 256 = x := by omega
      rw [if_neg b, e, if_pos (by omega), if_pos (by omega)]
      obtain ⟨t1, t2, t3⟩ := tab_bits x (by omega) (by omega)
      refine ⟨bt lenTab x, ?_, t1, by omega⟩
      rw [wr_small (bt _ _) (by omega) (by omega), wr_small _ (by omega) (by omega)]
theorem bits_len (k : Nat) (x : Int) (h0 : 0 < x) (h1 : x < 18446744073709551616) : ∃ n, bits_Len.f (k + 1) x = some n ∧ Bits x n := by
  unfold bits_Len.f bits_Len64.f
  by_cases a : x ≥ 4294967296
  · obtain ⟨n, hn, hb, h32⟩ := len_j0 k (x / 4294967296) 32 (by omega) (by omega) (by omega) (by omega)
    refine ⟨32 + n, by rw [if_pos a, hn]; rfl, ?_⟩
    rw [Int.add_comm]
    exact bits_up x _ _ 32 4294967296 (by decide) hb rfl (by omega)
  · obtain ⟨n, hn, hb, h32⟩ := len_j0 k x 0 h0 (by omega) (by omega) (by omega)
    exact ⟨0 + n, by rw [if_neg a, hn]; rfl, by rw [Int.zero_add]; exact hb⟩
end Go.Proofs.Ytfnhicmjdfeanaa.PH

namespace Go.Proofs.Ytfnhicmjdfeanaa.PH
open Go.RowKit Go.Proofs.YtfnhicmjdfeanaaW.PrintWords Go.Proofs.YtfnhicmjdfeanaaW.PrintLast Go.Proofs.YtfnhicmjdfeanaaW.PrintMore
set_option linter.unusedVariables false

theorem cast_pow (k : Nat) : ((2 ^ k : Nat) : Int) = (2 : Int) ^ k := by simp
theorem pow_lt_of {a b : Nat} (h : (2 : Int) ^ a < 2 ^ b) : a < b := by
  rw [← cast_pow, ← cast_pow] at h
  exact (Nat.pow_lt_pow_iff_right (show 1 < 2 by decide)).1 (Int.ofNat_lt.1 h)
theorem pow_le_of {a b : Nat} (h : a ≤ b) : (2 : Int) ^ a ≤ 2 ^ b := by
  rw [← cast_pow, ← cast_pow]
  have := Nat.pow_le_pow_right (n := 2) (by decide) h
  omega
theorem pow_bd {k : Nat} (h : k ≤ 37) : 1 ≤ (2 : Int) ^ k ∧ (2 : Int) ^ k ≤ 137438953472 := by
  constructor
  · have := pow_le_of (Nat.zero_le k); simpa using this
  · have := pow_le_of h; simpa using this

def sh (v : Int) : Nat := Nat.log2 v.toNat - 3
theorem sh_spec (v : Int) (h0 : 16 ≤ v) (h1 : v ≤ 1099511627776) : 1 ≤ sh v ∧ sh v ≤ 37 ∧ 8 * (2 : Int) ^ sh v ≤ v ∧ v < 16 * 2 ^ sh v := by
  obtain ⟨n, rfl⟩ := Int.eq_ofNat_of_zero_le (show 0 ≤ v by omega)
  have a := Nat.log2_self_le (n := n) (by omega)
  have b := Nat.lt_log2_self (n := n)
  have c : 4 ≤ Nat.log2 n := by
    rcases Nat.lt_or_ge (Nat.log2 n) 4 with h | h
    · have := Nat.pow_le_pow_right (n := 2) (by decide) (show Nat.log2 n + 1 ≤ 4 by omega)
      omega
    · exact h
  unfold sh
  rw [Int.toNat_natCast]
  obtain ⟨k, hk⟩ : ∃ k, Nat.log2 n = k + 3 := ⟨Nat.log2 n - 3, by omega⟩
  rw [hk] at a b ⊢
  rw [Nat.add_sub_cancel]
  have e1 : 2 ^ (k + 3) = 8 * 2 ^ k := by rw [Nat.pow_add]; omega
  have e2 : 2 ^ (k + 3 + 1) = 16 * 2 ^ k := by rw [Nat.pow_add, Nat.pow_add]; omega
  rw [e1] at a
  rw [e2] at b
  have d : k ≤ 37 := by
    rcases Nat.lt_or_ge 37 k with h | h
    · have := Nat.pow_le_pow_right (n := 2) (by decide) (show 38 ≤ k from h)
      omega
    · exact h
  refine ⟨by omega, d, ?_, ?_⟩
  · rw [← cast_pow]; omega
  · rw [← cast_pow]; omega
theorem sh_unique (v : Int) (k : Nat) (h0 : 16 ≤ v) (h1 : v ≤ 1099511627776) (h2 : 8 * (2 : Int) ^ k ≤ v) (h3 : v < 16 * 2 ^ k) : k = sh v := by
  obtain ⟨a, b, c, d⟩ := sh_spec v h0 h1
  have p1 : (2 : Int) ^ k < 2 ^ (sh v + 1) := by rw [Int.pow_succ]; omega
  have p2 : (2 : Int) ^ sh v < 2 ^ (k + 1) := by rw [Int.pow_succ]; omega
  have := pow_lt_of p1
  have := pow_lt_of p2
  omega
theorem div_bd (v p : Int) (hp : 0 < p) (h2 : 8 * p ≤ v) (h3 : v < 16 * p) : 8 ≤ v / p ∧ v / p ≤ 15 ∧ v / p * p ≤ v ∧ v < v / p * p + p := by
  refine ⟨(Int.le_ediv_iff_mul_le hp).2 h2, ?_, Int.ediv_mul_le _ (by omega), Int.lt_ediv_add_one_mul_self v hp |> fun h => by rw [Int.add_mul, Int.one_mul] at h; exact h⟩
  have := (Int.ediv_lt_iff_lt_mul hp).2 h3
  omega

/-- The index of a value, as it is defined. -/
def bix (v : Int) : Int := if v < 16 then v else 8 * (sh v : Int) + v / 2 ^ sh v
def lowI (n : Int) : Int := if n < 16 then n else (n % 8 + 8) * 2 ^ (n / 8 - 1).toNat
def highI (n : Int) : Int := if n < 16 then n else if (n % 8 + 9) * 2 ^ (n / 8 - 1).toNat - 1 ≤ 1099511627776 then (n % 8 + 9) * 2 ^ (n / 8 - 1).toNat - 1 else 1099511627776

theorem u64_id (v : Int) (h0 : 0 ≤ v) (h1 : v ≤ 1099511627776) : IntKind.u64.wrap v = v := by
  rw [show IntKind.u64.wrap v = v % 18446744073709551616 from rfl]
  omega
theorem index_big (v : Int) (k : Nat) (h0 : 16 ≤ v) (h1 : v ≤ 1099511627776) : histogram_Index.f (k + 2) v = some (bix v, 0) := by
  obtain ⟨a, b, c, d⟩ := sh_spec v h0 h1
  obtain ⟨n, hn, hb⟩ := bits_len k v (by omega) (by omega)
  obtain ⟨b0, b1, b2, b3, b4⟩ := hb
  have p1 : (2 : Int) ^ n.toNat < 2 ^ (sh v + 5) := by rw [Int.pow_add]; omega
  have p2 : (2 : Int) ^ (sh v + 3) < 2 ^ n.toNat := by rw [Int.pow_add]; omega
  have q1 := pow_lt_of p1
  have q2 := pow_lt_of p2
  obtain rfl : n = (sh v : Int) + 4 := by omega
  obtain ⟨e1, e2, e3, e4⟩ := div_bd v (2 ^ sh v) (by have := pow_bd b; omega) c d
  unfold histogram_Index.f
  rw [if_neg (by omega), show decide (v > 1099511627776) = false from decide_eq_false (by omega)]
  rw [histogram_Index.j0, if_neg (by decide), if_neg (by omega), u64_id v (by omega) (by omega), hn]
  simp only [Option.bind_some]
  rw [show (sh v : Int) + 4 - 4 = (sh v : Int) by omega, wr_small (sh v : Int) (by omega) (by omega), if_pos (by omega), wr_small (8 * (sh v : Int)) (by omega) (by omega)]
  have hs : shr .i64 v (sh v : Int) = v / 2 ^ sh v := by
    unfold shr
    rw [Int.toNat_natCast, Nat.min_eq_left (by show sh v ≤ 64; omega)]
  rw [hs, wr_small _ (by omega) (by omega)]
  unfold bix
  rw [if_neg (by omega)]
theorem index_small (v : Int) (k : Nat) (h0 : 0 ≤ v) (h1 : v < 16) : histogram_Index.f (k + 1) v = some (bix v, 0) := by
  unfold histogram_Index.f
  rw [if_neg (by omega), show decide (v > 1099511627776) = false from decide_eq_false (by omega)]
  rw [histogram_Index.j0, if_neg (by decide), if_pos h1]
  unfold bix
  rw [if_pos h1]
theorem index_ok (v : Int) (k : Nat) (h0 : 0 ≤ v) (h1 : v ≤ 1099511627776) : histogram_Index.f (k + 2) v = some (bix v, 0) := by
  by_cases h : v < 16
  · exact index_small v (k + 1) h0 h
  · exact index_big v k (by omega) h1
theorem index_bad (v : Int) (k : Nat) (h : v < 0 ∨ v > 1099511627776) : histogram_Index.f (k + 1) v = some (0, 2) := by
  unfold histogram_Index.f
  by_cases h0 : v < 0
  · rw [if_pos h0, histogram_Index.j0, if_pos rfl]
  · rw [if_neg h0, show decide (v > 1099511627776) = true from decide_eq_true (by omega), histogram_Index.j0, if_pos rfl]
theorem bix_range (v : Int) (h0 : 0 ≤ v) (h1 : v ≤ 1099511627776) : 0 ≤ bix v ∧ bix v < 305 := by
  unfold bix
  by_cases h : v < 16
  · rw [if_pos h]; omega
  · rw [if_neg h]
    obtain ⟨a, b, c, d⟩ := sh_spec v (by omega) h1
    obtain ⟨e1, e2, e3, e4⟩ := div_bd v (2 ^ sh v) (by have := pow_bd b; omega) c d
    by_cases hk : sh v = 37
    · rw [hk] at e3 e1 ⊢
      omega
    · omega
/-- The parts of a great index. -/
theorem bix_parts (v : Int) (h0 : 16 ≤ v) (h1 : v ≤ 1099511627776) : 16 ≤ bix v ∧ (bix v / 8 - 1).toNat = sh v ∧ bix v % 8 + 8 = v / 2 ^ sh v := by
  obtain ⟨a, b, c, d⟩ := sh_spec v h0 h1
  obtain ⟨e1, e2, e3, e4⟩ := div_bd v (2 ^ sh v) (by have := pow_bd b; omega) c d
  unfold bix
  rw [if_neg (by omega)]
  omega
/-- The law's own index: from k on. -/
theorem index_loop (v : Int) (h0 : 0 ≤ v) (h1 : v ≤ 1099511627776) (K : Nat) (hK : K ≤ 37) (hv : v / 2 ^ K < 16) (hk : ∀ j, j < K → 16 ≤ v / 2 ^ j) :
    ∀ (d j k : Nat), j + d = K → d < k → sleuthlaw21_index.l0 k v j = some (8 * (K : Int) + v / 2 ^ K) := by
  intro d
  induction d with
  | zero =>
    intro j k hj hd
    obtain ⟨k, rfl⟩ : ∃ m, k = m + 1 := ⟨k - 1, by omega⟩
    obtain rfl : j = K := by omega
    have hs : shr .i64 v (j : Int) = v / 2 ^ j := by
      unfold shr
      rw [Int.toNat_natCast, Nat.min_eq_left (by show j ≤ 64; omega)]
    rw [sleuthlaw21_index.l0, if_pos (by omega), hs, if_neg (by omega)]
    have : 0 ≤ v / 2 ^ j := Int.ediv_nonneg h0 (by have := pow_bd hK; omega)
    rw [wr_small (8 * (j : Int)) (by omega) (by omega), wr_small _ (by omega) (by omega)]
  | succ d ih =>
    intro j k hj hd
    obtain ⟨k, rfl⟩ : ∃ m, k = m + 1 := ⟨k - 1, by omega⟩
    have hs : shr .i64 v (j : Int) = v / 2 ^ j := by
      unfold shr
      rw [Int.toNat_natCast, Nat.min_eq_left (by show j ≤ 64; omega)]
    rw [sleuthlaw21_index.l0, if_pos (by omega), hs, if_pos (by have := hk j (by omega); omega), wr_small _ (by omega) (by omega)]
    have := ih (j + 1) k (by omega) (by omega)
    rw [show ((j + 1 : Nat) : Int) = (j : Int) + 1 by omega] at this
    exact this
theorem law_index (v : Int) (k : Nat) (h0 : 0 ≤ v) (h1 : v ≤ 1099511627776) : sleuthlaw21_index.f (k + 40) v = some (bix v) := by
  unfold sleuthlaw21_index.f bix
  by_cases h : v < 16
  · rw [if_pos h]
    have := index_loop v h0 h1 0 (by omega) (by simpa using h) (fun j hj => by omega) 0 0 (k + 40) (by omega) (by omega)
    simpa using this
  · rw [if_neg h]
    obtain ⟨a, b, c, d⟩ := sh_spec v (by omega) h1
    obtain ⟨e1, e2, e3, e4⟩ := div_bd v (2 ^ sh v) (by have := pow_bd b; omega) c d
    refine index_loop v h0 h1 (sh v) b (by omega) (fun j hj => ?_) (sh v) 0 (k + 40) (by omega) (by omega)
    have hp := pow_le_of (show j + 1 ≤ sh v by omega)
    rw [Int.pow_succ] at hp
    refine (Int.le_ediv_iff_mul_le (by have := pow_bd (show j ≤ 37 by omega); omega)).2 ?_
    omega
end Go.Proofs.Ytfnhicmjdfeanaa.PH

namespace Go.Proofs.Ytfnhicmjdfeanaa.PH
open Go.RowKit Go.Proofs.YtfnhicmjdfeanaaW.PrintWords Go.Proofs.YtfnhicmjdfeanaaW.PrintLast Go.Proofs.YtfnhicmjdfeanaaW.PrintMore
set_option linter.unusedVariables false

theorem mul_bd {m p : Int} (hm0 : 0 ≤ m) (hm : m ≤ 16) (hp : 1 ≤ p) (hp2 : p ≤ 137438953472) : 0 ≤ m * p ∧ m * p ≤ 2199023255552 := by
  have a : m * p ≤ 16 * p := Int.mul_le_mul_of_nonneg_right hm (by omega)
  have b : 0 ≤ m * p := Int.mul_nonneg hm0 (by omega)
  omega
theorem shl_ok (m : Int) (k : Nat) (hk : k ≤ 37) (hm0 : 0 ≤ m) (hm : m ≤ 16) : shl .i64 m (k : Int) = m * 2 ^ k := by
  have hp := pow_bd hk
  have hb := mul_bd hm0 hm hp.1 hp.2
  unfold shl
  rw [i64_w, Int.toNat_natCast, Nat.min_eq_left (by show k ≤ 64; omega), wr_small _ (by omega) (by omega)]
theorem bounds_ok (n : Int) (k : Nat) (h0 : 0 ≤ n) (h1 : n < 305) : histogram_Bounds.f (k + 1) n = some (lowI n, highI n, 0) := by
  unfold histogram_Bounds.f
  rw [if_neg (by omega), show decide (n ≥ 305) = false from decide_eq_false (by omega), histogram_Bounds.j0, if_neg (by decide)]
  unfold lowI highI
  by_cases h : n < 16
  · rw [if_pos h, if_pos h, if_pos h]
  · rw [if_neg h, if_neg h, if_neg h]
    rw [Int.tdiv_eq_ediv_of_nonneg h0, Int.tmod_eq_emod_of_nonneg h0]
    obtain ⟨j, hj⟩ : ∃ j : Nat, n / 8 - 1 = (j : Int) := ⟨(n / 8 - 1).toNat, by omega⟩
    rw [wr_small (n / 8) (by omega) (by omega), hj, wr_small (j : Int) (by omega) (by omega), if_pos (by omega), Int.toNat_natCast,
      wr_small (n % 8 + 8) (by omega) (by omega), wr_small (n % 8 + 8 + 1) (by omega) (by omega), show n % 8 + 8 + 1 = n % 8 + 9 by omega,
      shl_ok _ _ (by omega) (by omega) (by omega), shl_ok _ _ (by omega) (by omega) (by omega)]
    have hp := pow_bd (show j ≤ 37 by omega)
    have hb := mul_bd (show 0 ≤ n % 8 + 9 by omega) (by omega) hp.1 hp.2
    rw [wr_small _ (by omega) (by omega)]
    unfold mn
    congr 3
    by_cases hc : 1099511627776 < (n % 8 + 9) * 2 ^ j - 1
    · rw [if_pos hc, if_neg (by omega)]
    · rw [if_neg hc, if_pos (by omega)]
theorem bounds_bad (n : Int) (k : Nat) (h : n < 0 ∨ n ≥ 305) : histogram_Bounds.f (k + 1) n = some (0, 0, 2) := by
  unfold histogram_Bounds.f
  by_cases h0 : n < 0
  · rw [if_pos h0, histogram_Bounds.j0, if_pos rfl]
  · rw [if_neg h0, show decide (n ≥ 305) = true from decide_eq_true (by omega), histogram_Bounds.j0, if_pos rfl]
theorem low_ok (n : Int) (h0 : 0 ≤ n) (h1 : n < 305) : sleuthlaw21_low.f n = some (lowI n) := by
  unfold sleuthlaw21_low.f lowI
  by_cases h : n < 16
  · rw [if_pos h, if_pos h]
  · rw [if_neg h, if_neg h, Int.tdiv_eq_ediv_of_nonneg h0]
    obtain ⟨j, hj⟩ : ∃ j : Nat, n / 8 - 1 = (j : Int) := ⟨(n / 8 - 1).toNat, by omega⟩
    rw [wr_small (n / 8) (by omega) (by omega), hj, wr_small (j : Int) (by omega) (by omega), if_pos (by omega), Int.toNat_natCast,
      wr_small (8 * (j : Int)) (by omega) (by omega), wr_small (n - 8 * (j : Int)) (by omega) (by omega), show n - 8 * (j : Int) = n % 8 + 8 by omega, shl_ok _ _ (by omega) (by omega) (by omega)]
theorem high_ok (n : Int) (h0 : 0 ≤ n) (h1 : n < 305) : sleuthlaw21_high.f n = some (highI n) := by
  unfold sleuthlaw21_high.f highI
  by_cases h : n < 16
  · rw [if_pos h, if_pos h]
  · rw [if_neg h, if_neg h, Int.tdiv_eq_ediv_of_nonneg h0]
    obtain ⟨j, hj⟩ : ∃ j : Nat, n / 8 - 1 = (j : Int) := ⟨(n / 8 - 1).toNat, by omega⟩
    rw [wr_small (n / 8) (by omega) (by omega), hj, wr_small (j : Int) (by omega) (by omega), if_pos (by omega), Int.toNat_natCast,
      wr_small (8 * (j : Int)) (by omega) (by omega), wr_small (n - 8 * (j : Int)) (by omega) (by omega), wr_small (n - 8 * (j : Int) + 1) (by omega) (by omega), show n - 8 * (j : Int) + 1 = n % 8 + 9 by omega, shl_ok _ _ (by omega) (by omega) (by omega)]
    have hp := pow_bd (show j ≤ 37 by omega)
    have hb := mul_bd (show 0 ≤ n % 8 + 9 by omega) (by omega) hp.1 hp.2
    rw [wr_small _ (by omega) (by omega)]
    unfold mn
    congr 1
    by_cases hc : 1099511627776 < (n % 8 + 9) * 2 ^ j - 1
    · rw [if_pos hc, if_neg (by omega)]
    · rw [if_neg hc, if_pos (by omega)]
/-- A value lies in its bucket. -/
theorem bix_in (v : Int) (h0 : 0 ≤ v) (h1 : v ≤ 1099511627776) : lowI (bix v) ≤ v ∧ v ≤ highI (bix v) := by
  by_cases h : v < 16
  · have e : bix v = v := by unfold bix; rw [if_pos h]
    rw [e]
    unfold lowI highI
    rw [if_pos h, if_pos h]
    omega
  · obtain ⟨a, b, c⟩ := bix_parts v (by omega) h1
    obtain ⟨a', b', c', d'⟩ := sh_spec v (by omega) h1
    obtain ⟨e1, e2, e3, e4⟩ := div_bd v (2 ^ sh v) (by have := pow_bd b'; omega) c' d'
    unfold lowI highI
    rw [if_neg (by omega), if_neg (by omega), b, c, show bix v % 8 + 9 = v / 2 ^ sh v + 1 by omega, Int.add_mul, Int.one_mul]
    split <;> omega
theorem lowI_range (n : Int) (h0 : 0 ≤ n) (h1 : n < 305) : 0 ≤ lowI n ∧ lowI n ≤ 1099511627776 ∧ 0 ≤ highI n ∧ highI n ≤ 1099511627776 ∧ lowI n ≤ highI n := by
  unfold lowI highI
  by_cases h : n < 16
  · rw [if_pos h, if_pos h]; omega
  · rw [if_neg h, if_neg h]
    obtain ⟨j, hj⟩ : ∃ j : Nat, n / 8 - 1 = (j : Int) := ⟨(n / 8 - 1).toNat, by omega⟩
    rw [hj, Int.toNat_natCast]
    have hp := pow_bd (show j ≤ 37 by omega)
    have hm : (n % 8 + 8) * 2 ^ j ≤ 1099511627776 := by
      by_cases h37 : j = 37
      · subst h37
        have : n = 304 := by omega
        subst this
        decide
      · have hp2 := pow_le_of (show j ≤ 36 by omega)
        have e : (2 : Int) ^ 36 = 68719476736 := by decide
        rw [e] at hp2
        have a : (n % 8 + 8) * 2 ^ j ≤ 16 * 2 ^ j := Int.mul_le_mul_of_nonneg_right (by omega) (by omega)
        omega
    have hn : 0 ≤ (n % 8 + 8) * 2 ^ j := Int.mul_nonneg (by omega) (by omega)
    have hs : (n % 8 + 9) * 2 ^ j = (n % 8 + 8) * 2 ^ j + 2 ^ j := by rw [show n % 8 + 9 = (n % 8 + 8) + 1 by omega, Int.add_mul, Int.one_mul]
    rw [hs]
    split <;> omega
theorem narrow (n : Int) (h0 : 16 ≤ n) (h1 : n < 305) : 8 * (highI n - lowI n + 1) ≤ lowI n := by
  have h : ¬ n < 16 := by omega
  unfold lowI highI
  simp only [if_neg h]
  obtain ⟨j, hj⟩ : ∃ j : Nat, n / 8 - 1 = (j : Int) := ⟨(n / 8 - 1).toNat, by omega⟩
  rw [hj, Int.toNat_natCast]
  have hp := pow_bd (show j ≤ 37 by omega)
  have a : 8 * 2 ^ j ≤ (n % 8 + 8) * 2 ^ j := Int.mul_le_mul_of_nonneg_right (by omega) (by omega)
  have hs : (n % 8 + 9) * 2 ^ j = (n % 8 + 8) * 2 ^ j + 2 ^ j := by rw [show n % 8 + 9 = (n % 8 + 8) + 1 by omega, Int.add_mul, Int.one_mul]
  rw [hs]
  split <;> omega
/-- The value before: the same bucket, or the one before, and this one begins here. -/
theorem bix_prev (v : Int) (h0 : 0 < v) (h1 : v ≤ 1099511627776) : bix (v - 1) = bix v ∨ (bix (v - 1) = bix v - 1 ∧ v = lowI (bix v)) := by
  by_cases h : v < 16
  · have e : bix v = v := by unfold bix; rw [if_pos h]
    have e2 : bix (v - 1) = v - 1 := by unfold bix; rw [if_pos (by omega)]
    refine .inr ⟨by omega, ?_⟩
    rw [e]
    unfold lowI
    rw [if_pos h]
  · obtain ⟨a, b, c⟩ := bix_parts v (by omega) h1
    obtain ⟨a', b', c', d'⟩ := sh_spec v (by omega) h1
    obtain ⟨e1, e2, e3, e4⟩ := div_bd v (2 ^ sh v) (by have := pow_bd b'; omega) c' d'
    by_cases h16 : v = 16
    · subst h16
      refine .inr ⟨by decide +kernel, by decide +kernel⟩
    · obtain ⟨a2, b2, c2, d2⟩ := sh_spec (v - 1) (by omega) (by omega)
      obtain ⟨f1, f2, f3, f4⟩ := div_bd (v - 1) (2 ^ sh (v - 1)) (by have := pow_bd b2; omega) c2 d2
      have hlow : lowI (bix v) = v / 2 ^ sh v * 2 ^ sh v := by
        unfold lowI
        rw [if_neg (by omega), b, c]
      rw [hlow]
      have ev : bix v = 8 * (sh v : Int) + v / 2 ^ sh v := by unfold bix; rw [if_neg h]
      have ev1 : bix (v - 1) = 8 * (sh (v - 1) : Int) + (v - 1) / 2 ^ sh (v - 1) := by unfold bix; rw [if_neg (by omega)]
      by_cases hq : 8 * 2 ^ sh v ≤ v - 1
      · have hs : sh v = sh (v - 1) := sh_unique (v - 1) (sh v) (by omega) (by omega) hq (by omega)
        rw [← hs] at ev1 f1 f2 f3 f4
        by_cases hm : v / 2 ^ sh v * 2 ^ sh v ≤ v - 1
        · left
          have : (v - 1) / 2 ^ sh v = v / 2 ^ sh v := by
            have x1 : v / 2 ^ sh v ≤ (v - 1) / 2 ^ sh v := (Int.le_ediv_iff_mul_le (by have := pow_bd b'; omega)).2 hm
            have x2 : (v - 1) / 2 ^ sh v ≤ v / 2 ^ sh v := Int.ediv_le_ediv (by have := pow_bd b'; omega) (by omega)
            omega
          omega
        · right
          have hv : v = v / 2 ^ sh v * 2 ^ sh v := by omega
          refine ⟨?_, hv⟩
          have : (v - 1) / 2 ^ sh v = v / 2 ^ sh v - 1 := by
            have x2 : (v - 1) / 2 ^ sh v ≤ v / 2 ^ sh v - 1 := by
              have := (Int.ediv_lt_iff_lt_mul (show 0 < (2 : Int) ^ sh v by have := pow_bd b'; omega)).2 (show v - 1 < v / 2 ^ sh v * 2 ^ sh v by omega)
              omega
            have x1 : v / 2 ^ sh v - 1 ≤ (v - 1) / 2 ^ sh v := (Int.le_ediv_iff_mul_le (by have := pow_bd b'; omega)).2 (by rw [Int.sub_mul, Int.one_mul]; have := pow_bd b'; omega)
            omega
          omega
      · have hv : v = 8 * 2 ^ sh v := by omega
        have hm : v / 2 ^ sh v = 8 := by
          have : v / 2 ^ sh v ≤ 8 := by
            have := (Int.ediv_lt_iff_lt_mul (show 0 < (2 : Int) ^ sh v by have := pow_bd b'; omega)).2 (show v < 9 * 2 ^ sh v by have := pow_bd b'; omega)
            omega
          omega
        obtain ⟨j, hj⟩ : ∃ j, sh v = j + 1 := ⟨sh v - 1, by omega⟩
        have ep : (2 : Int) ^ sh v = 2 ^ j * 2 := by rw [hj, Int.pow_succ]
        have hpj := pow_bd (show j ≤ 37 by omega)
        have hs : j = sh (v - 1) := sh_unique (v - 1) j (by omega) (by omega) (by omega) (by omega)
        have hd : (v - 1) / 2 ^ j = 15 := by
          have x1 : 15 ≤ (v - 1) / 2 ^ j := (Int.le_ediv_iff_mul_le (by omega)).2 (by omega)
          rw [hs] at x1 ⊢
          omega
        rw [← hs, hd] at ev1
        rw [hm] at ev ⊢
        right
        refine ⟨by omega, hv⟩
end Go.Proofs.Ytfnhicmjdfeanaa.PH

namespace Go.Proofs.Ytfnhicmjdfeanaa.PH
open Go.RowKit Go.Proofs.YtfnhicmjdfeanaaW.PrintWords Go.Proofs.YtfnhicmjdfeanaaW.PrintLast Go.Proofs.YtfnhicmjdfeanaaW.PrintMore
set_option linter.unusedVariables false
set_option maxRecDepth 1000000 in
theorem known_100 : sleuthlaw21_known.f 400 = some true := by decide +kernel
end Go.Proofs.Ytfnhicmjdfeanaa.PH
