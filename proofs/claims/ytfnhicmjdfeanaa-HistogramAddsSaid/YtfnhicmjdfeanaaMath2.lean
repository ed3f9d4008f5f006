/- The bucket index of a value: what Index, Bounds and the definition's own index, low and high compute, in plain numbers. -/
import Derived.Test.YtfnhicmjdfeanaaMath1
import Derived.Test.YtfnhicmjdfeanaaPHx13
import Derived.Test.YtfnhicmjdfeanaaPHx17
-- NEEDS H: histogram_Index sleuthlaw21_index
namespace Go.Proofs.Ytfnhicmjdfeanaa.PH
open Go.RowKit Go.Proofs.YtfnhicmjdfeanaaW.PrintWords Go.Proofs.YtfnhicmjdfeanaaW.PrintLast Go.Proofs.YtfnhicmjdfeanaaW.PrintMore
set_option linter.unusedVariables false

theorem cast_pow (k : Nat) : ((2 ^ k : Nat) : Int) = (2 : Int) ^ k := by simp
theorem pow_lt_of {a b : Nat} (h : (2 : Int) ^ a < 2 ^ b) : a < b := by
  rw [← cast_pow, ← cast_pow] at h
  exact (Nat.pow_lt_pow_iff_right (show 1 < 2 by decide)).1 (Int.ofNat_lt.1 h)
theorem pow_le_of {a b : Nat} (h : a ≤ b) : (2 : Int) ^ a ≤ 2 ^ b := by
  rw [← cast_pow, ← cast_pow]
  have := Nat.pow_le_pow_right (n := 2) (by decide) h
  omega
theorem pow_bd {k : Nat} (h : k ≤ 37) : 1 ≤ (2 : Int) ^ k ∧ (2 : Int) ^ k ≤ 137438953472 := by
  constructor
  · have := pow_le_of (Nat.zero_le k); simpa using this
  · have := pow_le_of h; simpa using this

def sh (v : Int) : Nat := Nat.log2 v.toNat - 3
theorem sh_spec (v : Int) (h0 : 16 ≤ v) (h1 : v ≤ 1099511627776) : 1 ≤ sh v ∧ sh v ≤ 37 ∧ 8 * (2 : Int) ^ sh v ≤ v ∧ v < 16 * 2 ^ sh v := by
  obtain ⟨n, rfl⟩ := Int.eq_ofNat_of_zero_le (show 0 ≤ v by omega)
  have a := Nat.log2_self_le (n := n) (by omega)
  have b := Nat.lt_log2_self (n := n)
  have c : 4 ≤ Nat.log2 n := by
    rcases Nat.lt_or_ge (Nat.log2 n) 4 with h | h
    · have := Nat.pow_le_pow_right (n := 2) (by decide) (show Nat.log2 n + 1 ≤ 4 by omega)
      omega
    · exact h
  unfold sh
  rw [Int.toNat_natCast]
  obtain ⟨k, hk⟩ : ∃ k, Nat.log2 n = k + 3 := ⟨Nat.log2 n - 3, by omega⟩
  rw [hk] at a b ⊢
  rw [Nat.add_sub_cancel]
  have e1 : 2 ^ (k + 3) = 8 * 2 ^ k := by rw [Nat.pow_add]; omega
  have e2 : 2 ^ (k + 3 + 1) = 16 * 2 ^ k := by rw [Nat.pow_add, Nat.pow_add]; omega
  rw [e1] at a
  rw [e2] at b
  have d : k ≤ 37 := by
    rcases Nat.lt_or_ge 37 k with h | h
    · have := Nat.pow_le_pow_right (n := 2) (by decide) (show 38 ≤ k from h)
      omega
    · exact h
  refine ⟨by omega, d, ?_, ?_⟩
  · rw [← cast_pow]; omega
  · rw [← cast_pow]; omega
theorem sh_unique (v : Int) (k : Nat) (h0 : 16 ≤ v) (h1 : v ≤ 1099511627776) (h2 : 8 * (2 : Int) ^ k ≤ v) (h3 : v < 16 * 2 ^ k) : k = sh v := by
  obtain ⟨a, b, c, d⟩ := sh_spec v h0 h1
  have p1 : (2 : Int) ^ k < 2 ^ (sh v + 1) := by rw [Int.pow_succ]; omega
  have p2 : (2 : Int) ^ sh v < 2 ^ (k + 1) := by rw [Int.pow_succ]; omega
  have := pow_lt_of p1
  have := pow_lt_of p2
  omega
theorem div_bd (v p : Int) (hp : 0 < p) (h2 : 8 * p ≤ v) (h3 : v < 16 * p) : 8 ≤ v / p ∧ v / p ≤ 15 ∧ v / p * p ≤ v ∧ v < v / p * p + p := by
  refine ⟨(Int.le_ediv_iff_mul_le hp).2 h2, ?_, Int.ediv_mul_le _ (by omega), Int.lt_ediv_add_one_mul_self v hp |> fun h => by rw [Int.add_mul, Int.one_mul] at h; exact h⟩
  have := (Int.ediv_lt_iff_lt_mul hp).2 h3
  omega

/-- The index of a value, as it is defined. -/
def bix (v : Int) : Int := if v < 16 then v else 8 * (sh v : Int) + v / 2 ^ sh v
def lowI (n : Int) : Int := if n < 16 then n else (n % 8 + 8) * 2 ^ (n / 8 - 1).toNat
def highI (n : Int) : Int := if n < 16 then n else if (n % 8 + 9) * 2 ^ (n / 8 - 1).toNat - 1 ≤ 1099511627776 then (n % 8 + 9) * 2 ^ (n / 8 - 1).toNat - 1 else 1099511627776

theorem u64_id (v : Int) (h0 : 0 ≤ v) (h1 : v ≤ 1099511627776) : IntKind.u64.wrap v = v := by
  rw [show IntKind.u64.wrap v = v % 18446744073709551616 from rfl]
  omega
theorem index_big (v : Int) (k : Nat) (h0 : 16 ≤ v) (h1 : v ≤ 1099511627776) : histogram_Index.f (k + 2) v = some (bix v, 0) := by
  obtain ⟨a, b, c, d⟩ := sh_spec v h0 h1
  obtain ⟨n, hn, hb⟩ := bits_len k v (by omega) (by omega)
  obtain ⟨b0, b1, b2, b3, b4⟩ := hb
  have p1 : (2 : Int) ^ n.toNat < 2 ^ (sh v + 5) := by rw [Int.pow_add]; omega
  have p2 : (2 : Int) ^ (sh v + 3) < 2 ^ n.toNat := by rw [Int.pow_add]; omega
  have q1 := pow_lt_of p1
  have q2 := pow_lt_of p2
  obtain rfl : n = (sh v : Int) + 4 := by omega
  obtain ⟨e1, e2, e3, e4⟩ := div_bd v (2 ^ sh v) (by have := pow_bd b; omega) c d
  unfold histogram_Index.f
  rw [if_neg (by omega), show decide (v > 1099511627776) = false from decide_eq_false (by omega)]
  rw [histogram_Index.j0, if_neg (by decide), if_neg (by omega), u64_id v (by omega) (by omega), hn]
  simp only [Option.bind_some]
  rw [show (sh v : Int) + 4 - 4 = (sh v : Int) by omega, wr_small (sh v : Int) (by omega) (by omega), if_pos (by omega), wr_small (8 * (sh v : Int)) (by omega) (by omega)]
  have hs : shr .i64 v (sh v : Int) = v / 2 ^ sh v := by
    unfold shr
    rw [Int.toNat_natCast, Nat.min_eq_left (by show sh v ≤ 64; omega)]
  rw [hs, wr_small _ (by omega) (by omega)]
  unfold bix
  rw [if_neg (by omega)]
theorem index_small (v : Int) (k : Nat) (h0 : 0 ≤ v) (h1 : v < 16) : histogram_Index.f (k + 1) v = some (bix v, 0) := by
  unfold histogram_Index.f
  rw [if_neg (by omega), show decide (v > 1099511627776) = false from decide_eq_false (by omega)]
  rw [histogram_Index.j0, if_neg (by decide), if_pos h1]
  unfold bix
  rw [if_pos h1]
theorem index_ok (v : Int) (k : Nat) (h0 : 0 ≤ v) (h1 : v ≤ 1099511627776) : histogram_Index.f (k + 2) v = some (bix v, 0) := by
  by_cases h : v < 16
  · exact index_small v (k + 1) h0 h
  · exact index_big v k (by omega) h1
theorem index_bad (v : Int) (k : Nat) (h : v < 0 ∨ v > 1099511627776) : histogram_Index.f (k + 1) v = some (0, 2) := by
  unfold histogram_Index.f
  by_cases h0 : v < 0
  · rw [if_pos h0, histogram_Index.j0, if_pos rfl]
  · rw [if_neg h0, show decide (v > 1099511627776) = true from decide_eq_true (by omega), histogram_Index.j0, if_pos rfl]
theorem bix_range (v : Int) (h0 : 0 ≤ v) (h1 : v ≤ 1099511627776) : 0 ≤ bix v ∧ bix v < 305 := by
  unfold bix
  by_cases h : v < 16
  · rw [if_pos h]; omega
  · rw [if_neg h]
    obtain ⟨a, b, c, d⟩ := sh_spec v (by omega) h1
    obtain ⟨e1, e2, e3, e4⟩ := div_bd v (2 ^ sh v) (by have := pow_bd b; omega) c d
    by_cases hk : sh v = 37
    · rw [hk] at e3 e1 ⊢
      omega
    · omega
/-- The parts of a great index. -/
theorem bix_parts (v : Int) (h0 : 16 ≤ v) (h1 : v ≤ 1099511627776) : 16 ≤ bix v ∧ (bix v / 8 - 1).toNat = sh v ∧ bix v % 8 + 8 = v / 2 ^ sh v := by
  obtain ⟨a, b, c, d⟩ := sh_spec v h0 h1
  obtain ⟨e1, e2, e3, e4⟩ := div_bd v (2 ^ sh v) (by have := pow_bd b; omega) c d
  unfold bix
  rw [if_neg (by omega)]
  omega
/-- The law's own index: from k on. -/
theorem index_loop (v : Int) (h0 : 0 ≤ v) (h1 : v ≤ 1099511627776) (K : Nat) (hK : K ≤ 37) (hv : v / 2 ^ K < 16) (hk : ∀ j, j < K → 16 ≤ v / 2 ^ j) :
    ∀ (d j k : Nat), j + d = K → d < k → sleuthlaw21_index.l0 k v j = some (8 * (K : Int) + v / 2 ^ K) := by
  intro d
  induction d with
  | zero =>
    intro j k hj hd
    obtain ⟨k, rfl⟩ : ∃ m, k = m + 1 := ⟨k - 1, by omega⟩
    obtain rfl : j = K := by omega
    have hs : shr .i64 v (j : Int) = v / 2 ^ j := by
      unfold shr
      rw [Int.toNat_natCast, Nat.min_eq_left (by show j ≤ 64; omega)]
    rw [sleuthlaw21_index.l0, if_pos (by omega), hs, if_neg (by omega)]
    have : 0 ≤ v / 2 ^ j := Int.ediv_nonneg h0 (by have := pow_bd hK; omega)
    rw [wr_small (8 * (j : Int)) (by omega) (by omega), wr_small _ (by omega) (by omega)]
  | succ d ih =>
    intro j k hj hd
    obtain ⟨k, rfl⟩ : ∃ m, k = m + 1 := ⟨k - 1, by omega⟩
    have hs : shr .i64 v (j : Int) = v / 2 ^ j := by
      unfold shr
      rw [Int.toNat_natCast, Nat.min_eq_left (by show j ≤ 64; omega)]
    rw [sleuthlaw21_index.l0, if_pos (by omega), hs, if_pos (by have := hk j (by omega); omega), wr_small _ (by omega) (by omega)]
    have := ih (j + 1) k (by omega) (by omega)
    rw [show ((j + 1 : Nat) : Int) = (j : Int) + 1 by omega] at this
    exact this
theorem law_index (v : Int) (k : Nat) (h0 : 0 ≤ v) (h1 : v ≤ 1099511627776) : sleuthlaw21_index.f (k + 40) v = some (bix v) := by
  unfold sleuthlaw21_index.f bix
  by_cases h : v < 16
  · rw [if_pos h]
    have := index_loop v h0 h1 0 (by omega) (by simpa using h) (fun j hj => by omega) 0 0 (k + 40) (by omega) (by omega)
    simpa using this
  · rw [if_neg h]
    obtain ⟨a, b, c, d⟩ := sh_spec v (by omega) h1
    obtain ⟨e1, e2, e3, e4⟩ := div_bd v (2 ^ sh v) (by have := pow_bd b; omega) c d
    refine index_loop v h0 h1 (sh v) b (by omega) (fun j hj => ?_) (sh v) 0 (k + 40) (by omega) (by omega)
    have hp := pow_le_of (show j + 1 ≤ sh v by omega)
    rw [Int.pow_succ] at hp
    refine (Int.le_ediv_iff_mul_le (by have := pow_bd (show j ≤ 37 by omega); omega)).2 ?_
    omega
end Go.Proofs.Ytfnhicmjdfeanaa.PH
