/- FractionDecimals, in plain numbers and lists. -/
import Derived.Test.YtikioicjhdhdpaaDoorMath3
import Derived.Test.YtikioicjhdhdpaaDoorPDx17
import Derived.Test.YtikioicjhdhdpaaDoorPDx18
import Derived.Test.YtikioicjhdhdpaaDoorPDx19
import Derived.Test.YtikioicjhdhdpaaDoorPDx20
-- NEEDS D: sleuthlaw02_FractionDecimals fraction_Decimal sleuthref02_Decimal sleuthref02_power sleuthref02_MulFloor
namespace Go.Proofs.YtikioicjhdhdpaaDoor.Pure
open Go.RowKit Go.Proofs.YtikioicjhdhdpaaDoor.PD Go.Proofs.YtikioicjhdhdpaaDoorW.PrintWords Go.Proofs.YtikioicjhdhdpaaDoorW.PrintLast
set_option linter.unusedVariables false
set_option linter.unusedSimpArgs false
/-- m in units of 10^c, with c digits behind the point; s is the sign. -/
def dcm (s : List UInt8) (m c : Nat) : List UInt8 := if c = 0 then s ++ Lib.decDigits (m / (p10 c).toNat) else s ++ Lib.decDigits (m / (p10 c).toNat) ++ 46 :: dgs (m % (p10 c).toNat) c
theorem p10_6 (c : Nat) (h : c ≤ 6) : 1 ≤ p10 c ∧ p10 c ≤ 1000000 := ⟨p10_pos c, p10_mono c 6 h⟩
theorem parts (m c : Nat) (hc : c ≤ 6) (hm : m < 100000000000000) : m / (p10 c).toNat < 100000000000000 ∧ m % (p10 c).toNat < 1000000 ∧ Int.tdiv (m : Int) (p10 c) = ((m / (p10 c).toNat : Nat) : Int) ∧ Int.tmod (m : Int) (p10 c) = ((m % (p10 c).toNat : Nat) : Int) := by
  obtain ⟨h0, h1⟩ := p10_6 c hc
  generalize p10 c = p at h0 h1
  obtain ⟨q, rfl⟩ : ∃ q : Nat, p = q := ⟨p.toNat, by omega⟩
  have hq : 0 < q := by omega
  refine ⟨Nat.lt_of_le_of_lt (Nat.div_le_self _ _) hm, ?_, ?_, ?_⟩
  · have := Nat.mod_lt m hq
    simp only [Int.toNat_natCast]; omega
  · rw [Int.tdiv_eq_ediv_of_nonneg (by omega), Int.toNat_natCast]; rfl
  · rw [Int.tmod_eq_emod_of_nonneg (by omega), Int.toNat_natCast]; rfl
theorem p10_pow : ∀ c : Nat, p10 c = ((10 ^ c : Nat) : Int)
  | 0 => rfl
  | c + 1 => by simp only [p10]; rw [p10_pow c, Nat.pow_succ]; omega
theorem mod_bd (m c : Nat) (h : c ≠ 0) : m % (p10 c).toNat < 10 ^ (c - 1 + 1) := by
  rw [show c - 1 + 1 = c by omega, p10_pow c, Int.toNat_natCast]
  exact Nat.mod_lt _ (Nat.pow_pos (by decide))
theorem repeat_ok (n : Nat) (hn : n ≤ 6) : strings_Repeat.f (⟨#[48]⟩ : ByteArray) (n : Int) = some (B (List.replicate n 48)) := by
  unfold strings_Repeat.f
  rw [if_pos (by omega), if_pos ⟨by rw [Int.toNat_natCast, show (⟨#[48]⟩ : ByteArray).size = 1 from rfl]; omega, by omega⟩, Int.toNat_natCast]
  have := Lib.repeatL_replicate 48 1 n
  rw [show (⟨#[48]⟩ : ByteArray).data.toList = List.replicate 1 48 from rfl, this, Nat.mul_one]; rfl
theorem j2_ok (k : Nat) (c : Nat) (hc : c ≤ 6) (m : Nat) (hm : m < 100000000000000) (s : List UInt8) (hs : s.length ≤ 1) : fraction_Decimal.j2 (k + 1) (c : Int) (p10 c) (m : Int) (B s) = some (B (dcm s m c), 0) := by
  obtain ⟨h0, h1⟩ := p10_6 c hc
  obtain ⟨q1, q2, q3, q4⟩ := parts m c hc hm
  have hn := mod_bd m c
  unfold dcm
  rw [fraction_Decimal.j2, if_neg (by omega), q3, q4]
  clear q3 q4
  generalize m / (p10 c).toNat = Q at *
  generalize m % (p10 c).toNat = R at *
  rw [wr_small _ (by omega) (by omega), Itoa_B _ (by omega) (by omega), Option.bind_some, itoa_nat _ (by omega), Int.toNat_natCast]
  have l1 := dec_len14 Q q1
  by_cases h : c = 0
  · rw [if_pos (by omega), if_pos (by simp only [B_size]; omega), B_append, if_pos h]
  · have l2 := dec_len (c - 1) R (hn h)
    have l3 := List.length_pos_iff.mpr (dec_ne R)
    rw [if_neg (by omega), if_neg h, Itoa_B _ (by omega) (by omega), Option.bind_some, itoa_nat _ (by omega), Int.toNat_natCast, if_pos (by simp only [B_size]; omega), B_append, if_pos (by simp only [B_size, List.length_append]; omega), B_size, wr_small _ (by omega) (by omega),
      show (c : Int) - ((Lib.decDigits R).length : Int) = ((c - (Lib.decDigits R).length : Nat) : Int) by omega, repeat_ok _ (by omega), Option.bind_some, show (⟨#[46]⟩ : ByteArray) = B [46] from rfl, B_append, if_pos (by simp only [B_size, List.length_append, List.length_cons, List.length_nil, List.length_replicate]; omega), B_append,
      if_pos (by simp only [B_size, List.length_append, List.length_cons, List.length_nil, List.length_replicate]; omega), B_append, dgs_dec _ c (.inl (by omega))]
    simp
theorem rj0_ok (k : Nat) (hk : 100 ≤ k) (c : Nat) (hc : c ≤ 6) (m : Nat) (hm : m < 100000000000000) (s : List UInt8) (hs : s.length ≤ 1) : sleuthref02_Decimal.j0 (k + 1) (c : Int) (p10 c) (B s) (m : Int) = some (B (dcm s m c)) := by
  obtain ⟨h0, h1⟩ := p10_6 c hc
  obtain ⟨q1, q2, q3, q4⟩ := parts m c hc hm
  unfold dcm
  rw [sleuthref02_Decimal.j0, if_neg (by omega), q3, q4]
  clear q3 q4
  generalize m / (p10 c).toNat = Q at *
  generalize m % (p10 c).toNat = R at *
  have l1 := dec_len14 Q q1
  rw [wr_small _ (by omega) (by omega), show sleuthref02_digits.f k (Q : Int) 1 = some (B (dgs Q 1)) from digits_ok k Q 1 hk (by omega) (by omega), Option.bind_some, dgs_one, if_pos (by simp only [B_size]; omega), B_append]
  by_cases h : c = 0
  · rw [if_neg (by omega), if_pos h]
  · have l2 : (dgs R c).length ≤ 20 := by
      rw [dgs_dec _ c (.inl (by omega)), List.length_append, List.length_replicate]
      have := dec_len14 R (by omega)
      omega
    rw [if_pos (by omega), if_neg h, if_pos (by simp only [B_size, List.length_append]; omega), digits_ok k R c hk (by omega) (by omega), Option.bind_some, show (⟨#[46]⟩ : ByteArray) = B [46] from rfl, B_append, if_pos (by simp only [B_size, List.length_append, List.length_cons, List.length_nil]; omega), B_append]
    simp
theorem mul_bd (a p : Int) (a0 : -1048576 ≤ a) (a1 : a ≤ 1048576) (p0 : 1 ≤ p) (p1 : p ≤ 1000000) : -1048576000000 ≤ a * p ∧ a * p ≤ 1048576000000 := by
  have h1 : a * p ≤ 1048576 * p := Int.mul_le_mul_of_nonneg_right a1 (by omega)
  have h2 : -1048576 * p ≤ a * p := Int.mul_le_mul_of_nonneg_right a0 (by omega)
  omega
theorem quo_bd (v b : Int) (h1 : 1 ≤ b) (v0 : -1048576000000 ≤ v) (v1 : v ≤ 1048576000000) : -1048576000000 ≤ v / b ∧ v / b ≤ 1048576000000 := by
  constructor
  · apply Int.le_ediv_of_mul_le (by omega)
    have : -1048576000000 * b ≤ -1048576000000 * 1 := by apply Int.mul_le_mul_of_nonpos_left <;> omega
    omega
  · apply Int.ediv_le_of_le_mul (by omega)
    have : 1048576000000 * 1 ≤ 1048576000000 * b := by apply Int.mul_le_mul_of_nonneg_left <;> omega
    omega
def ans (a b : Int) (c : Nat) : List UInt8 := if a * p10 c / b < 0 then dcm [45] (a * p10 c / b).natAbs c else dcm [] (a * p10 c / b).natAbs c
theorem scale_ok (a b : Int) (h : can a b) (c : Nat) (hc : c ≤ 6) : ∀ (d i k : Nat), i + d = c → d + 5 ≤ k → fraction_Decimal.l0 k (c : Int) (p10 i) (c : Int) (i : Int) a b = some (B (ans a b c), 0) := by
  obtain ⟨b0, b1, a0, a1, _⟩ := h
  intro d
  induction d with
  | zero =>
    intro i k hi hk
    obtain rfl : i = c := by omega
    obtain ⟨k, rfl⟩ : ∃ j, k = j + 1 + 1 := ⟨k - 2, by omega⟩
    obtain ⟨p0, p1⟩ := p10_6 i hc
    obtain ⟨m0, m1⟩ := mul_bd a (p10 i) a0 a1 p0 p1
    obtain ⟨q0, q1⟩ := quo_bd (a * p10 i) b b0 m0 m1
    rw [fraction_Decimal.l0, if_neg (by omega), wr_small _ (by omega) (by omega), floor_ok _ _ b0 b1 (by omega) (by omega), Option.bind_some]
    unfold ans
    by_cases hneg : a * p10 i / b < 0
    · rw [if_pos hneg, if_pos hneg, wr_small _ (by omega) (by omega), show -(a * p10 i / b) = (((a * p10 i / b).natAbs : Nat) : Int) by omega, show (⟨#[45]⟩ : ByteArray) = B [45] from rfl]
      exact j2_ok k i hc _ (by omega) [45] (by simp)
    · rw [if_neg hneg, if_neg hneg, show a * p10 i / b = (((a * p10 i / b).natAbs : Nat) : Int) by omega, show (⟨#[]⟩ : ByteArray) = B [] from rfl, Int.natAbs_natCast]
      exact j2_ok k i hc _ (by omega) [] (by simp)
  | succ d ih =>
    intro i k hi hk
    obtain ⟨k, rfl⟩ : ∃ j, k = j + 1 := ⟨k - 1, by omega⟩
    obtain ⟨p0, p1⟩ := p10_6 i (by omega)
    rw [fraction_Decimal.l0, if_pos (by omega), wr_small _ (by omega) (by omega), wr_small _ (by omega) (by omega), show p10 i * 10 = p10 (i + 1) by simp only [p10]; omega, show (i : Int) + 1 = ((i + 1 : Nat) : Int) by omega]
    exact ih (i + 1) k (by omega) (by omega)
theorem Decimal_ok (k : Nat) (hk : 100 ≤ k) (a b : Int) (h : can a b) (c : Nat) (hc : c ≤ 6) : fraction_Decimal.f k a b (c : Int) = some (B (ans a b c), 0) := by
  unfold fraction_Decimal.f
  obtain ⟨k, rfl⟩ : ∃ j, k = j + 1 := ⟨k - 1, by omega⟩
  rw [if_neg (by omega), show decide ((c : Int) > 6) = false from decide_eq_false (by omega), fraction_Decimal.j0, if_neg (by decide)]
  exact scale_ok a b h c hc c 0 k (by omega) (by omega)
theorem Decimal_bad (k : Nat) (hk : 100 ≤ k) (a b c : Int) (hc : c < 0 ∨ c > 6) : fraction_Decimal.f k a b c = some (B [], 2) := by
  unfold fraction_Decimal.f
  obtain ⟨k, rfl⟩ : ∃ j, k = j + 1 := ⟨k - 1, by omega⟩
  by_cases h : c < 0
  · rw [if_pos h, fraction_Decimal.j0, if_pos rfl]; rfl
  · rw [if_neg h, show decide (c > 6) = true from decide_eq_true (by omega), fraction_Decimal.j0, if_pos rfl]; rfl
theorem RDecimal_ok (k : Nat) (hk : 200 ≤ k) (a b : Int) (h : can a b) (c : Nat) (hc : c ≤ 6) : sleuthref02_Decimal.f k a b (c : Int) = some (B (ans a b c)) := by
  obtain ⟨b0, b1, a0, a1, _⟩ := h
  obtain ⟨p0, p1⟩ := p10_6 c hc
  obtain ⟨m0, m1⟩ := mul_bd a (p10 c) a0 a1 p0 p1
  obtain ⟨q0, q1⟩ := quo_bd (a * p10 c) b b0 m0 m1
  unfold sleuthref02_Decimal.f sleuthref02_MulFloor.f
  obtain ⟨k, rfl⟩ : ∃ j, k = j + 1 := ⟨k - 1, by omega⟩
  rw [power_ok _ c (by omega) (by omega), Option.bind_some, Int.mul_comm (p10 c) a, wr_small _ (by omega) (by omega), rfloor_ok _ _ b0 b1 (by omega) (by omega), Option.bind_some, Option.bind_some]
  unfold ans
  by_cases hneg : a * p10 c / b < 0
  · rw [if_pos hneg, if_pos hneg, wr_small _ (by omega) (by omega), show -(a * p10 c / b) = (((a * p10 c / b).natAbs : Nat) : Int) by omega, show (⟨#[45]⟩ : ByteArray) = B [45] from rfl]
    exact rj0_ok k (by omega) c hc _ (by omega) [45] (by simp)
  · rw [if_neg hneg, if_neg hneg, show a * p10 c / b = (((a * p10 c / b).natAbs : Nat) : Int) by omega, show (⟨#[]⟩ : ByteArray) = B [] from rfl, Int.natAbs_natCast]
    exact rj0_ok k (by omega) c hc _ (by omega) [] (by simp)
theorem FractionDecimals : sleuthlaw02_FractionDecimals.Pure := by
  intro a b c ha hb hc
  refine ⟨400, ?_⟩
  unfold sleuthlaw02_FractionDecimals.f
  rw [known_ok _ (by omega), Option.bind_some, if_pos rfl, Check_ok _ (by omega), Option.bind_some]
  by_cases h : can a b
  · rw [decide_eq_true h, show (400 : Nat) = 399 + 1 from rfl, sleuthlaw02_FractionDecimals.j0, if_neg (by decide)]
    by_cases h1 : c < 0 ∨ c > 6
    · rw [Decimal_bad _ (by omega) a b c h1, Option.bind_some]
      dsimp only
      rw [B_list]
      by_cases h2 : c < 0
      · rw [if_pos h2, if_pos rfl]; rfl
      · rw [if_neg h2, if_pos (by omega), if_pos rfl]; rfl
    · obtain ⟨n, rfl⟩ : ∃ n : Nat, c = n := ⟨c.toNat, by omega⟩
      rw [Decimal_ok _ (by omega) a b h n (by omega), Option.bind_some, if_neg (by omega), if_neg (by omega), RDecimal_ok _ (by omega) a b h n (by omega), Option.bind_some, if_pos rfl]
      rfl
  · rw [decide_eq_false h, show (400 : Nat) = 399 + 1 from rfl, sleuthlaw02_FractionDecimals.j0, if_pos (by decide), known_ok _ (by omega)]; rfl
end Go.Proofs.YtikioicjhdhdpaaDoor.Pure
