/- Decimal digits: strconv.Itoa and the reference's digits, in plain lists. -/
import Derived.Test.YtikioicjhdhdpaaDoorMath2
import Derived.Lib.ItoaNum
import Derived.Lib.Repeat
import Derived.Test.YtikioicjhdhdpaaDoorPDx11
import Derived.Test.YtikioicjhdhdpaaDoorPDx12
import Derived.Test.YtikioicjhdhdpaaDoorPDx13
import Derived.Test.YtikioicjhdhdpaaDoorPDx14
import Derived.Test.YtikioicjhdhdpaaDoorPDx16
-- NEEDS D: strconv_Itoa strings_Repeat sleuthref02_digits sleuthref02_Print fraction_Print
namespace Go.Proofs.YtikioicjhdhdpaaDoor.PD
open Go.RowKit Go.Proofs.YtikioicjhdhdpaaDoorW.PrintWords Go.Proofs.YtikioicjhdhdpaaDoorW.PrintLast Go.Proofs.YtikioicjhdhdpaaDoorW.PrintMore
set_option linter.unusedVariables false
set_option linter.unusedSimpArgs false

/-! ### decimal digits -/
theorem ofNat_toNat (n : Nat) (h : n < 256) : (UInt8.ofNat n).toNat = n := by simp [UInt8.toNat_ofNat']; omega
theorem dec_all : ∀ (u : Nat), allD (Lib.decDigits u) := by
  intro u
  induction u using Nat.strongRecOn with
  | ind u ih =>
    rw [Lib.decDigits]
    by_cases h : u < 10
    · rw [dif_pos h]
      intro c hc
      obtain rfl := List.mem_singleton.mp hc
      unfold isD
      rw [ofNat_toNat _ (by omega)]; omega
    · rw [dif_neg h]
      intro c hc
      rcases List.mem_append.mp hc with hc | hc
      · exact ih (u / 10) (by omega) c hc
      · obtain rfl := List.mem_singleton.mp hc
        unfold isD
        rw [ofNat_toNat _ (by omega)]; omega
theorem dec_vl : ∀ (u : Nat), vl (Lib.decDigits u) 0 = u := by
  intro u
  induction u using Nat.strongRecOn with
  | ind u ih =>
    rw [Lib.decDigits]
    by_cases h : u < 10
    · rw [dif_pos h]
      simp only [vl]
      rw [ofNat_toNat _ (by omega)]; omega
    · rw [dif_neg h, vl_append, ih (u / 10) (by omega)]
      simp only [vl]
      rw [ofNat_toNat _ (by omega)]; omega
theorem dec_ne (u : Nat) : Lib.decDigits u ≠ [] := by
  rw [Lib.decDigits]
  by_cases h : u < 10
  · rw [dif_pos h]; simp
  · rw [dif_neg h]; simp
theorem dec_len : ∀ (k u : Nat), u < 10 ^ (k + 1) → (Lib.decDigits u).length ≤ k + 1 := by
  intro k
  induction k with
  | zero =>
    intro u hu
    rw [Lib.decDigits, dif_pos (by simpa using hu)]; simp
  | succ k ih =>
    intro u hu
    rw [Lib.decDigits]
    by_cases h : u < 10
    · rw [dif_pos h]; simp
    · rw [dif_neg h, List.length_append]
      have := ih (u / 10) (by rw [Nat.pow_succ] at hu; omega)
      simp; omega
theorem dec_len7 (u : Nat) (h : u ≤ 1048576) : (Lib.decDigits u).length ≤ 7 := dec_len 6 u (by omega)
theorem dec_len14 (u : Nat) (h : u < 100000000000000) : (Lib.decDigits u).length ≤ 14 := dec_len 13 u (by omega)
theorem Itoa_B (a : Int) (h0 : -9223372036854775808 ≤ a) (h1 : a ≤ 9223372036854775807) : strconv_Itoa.f a = some (B (Lib.itoa a)) := by
  unfold strconv_Itoa.f
  rw [if_pos ⟨h0, h1⟩]; rfl
theorem itoa_nat (a : Int) (h : 0 ≤ a) : Lib.itoa a = Lib.decDigits a.toNat := by unfold Lib.itoa; rw [if_neg (by omega)]
theorem itoa_neg (a : Int) (h : a < 0) : Lib.itoa a = 45 :: Lib.decDigits a.natAbs := by unfold Lib.itoa; rw [if_pos h]

/-- The digits of n, at least r of them. -/
def dgs (n r : Nat) : List UInt8 := if n = 0 ∧ r = 0 then [] else dgs (n / 10) (r - 1) ++ [UInt8.ofNat (48 + n % 10)]
termination_by n + r
decreasing_by omega
theorem dgs_nil : dgs 0 0 = [] := by rw [dgs, if_pos ⟨rfl, rfl⟩]
theorem dgs_step (n r : Nat) (h : ¬ (n = 0 ∧ r = 0)) : dgs n r = dgs (n / 10) (r - 1) ++ [UInt8.ofNat (48 + n % 10)] := by rw [dgs, if_neg h]
theorem dgs_zero : ∀ r : Nat, dgs 0 r = List.replicate r 48
  | 0 => dgs_nil
  | r + 1 => by
    rw [dgs_step 0 (r + 1) (by omega), Nat.add_sub_cancel, show (0 : Nat) / 10 = 0 from rfl, dgs_zero r, List.replicate_succ']
    rfl
theorem dgs_dec : ∀ (n r : Nat), 1 ≤ r ∨ 1 ≤ n → dgs n r = List.replicate (r - (Lib.decDigits n).length) 48 ++ Lib.decDigits n := by
  intro n
  induction n using Nat.strongRecOn with
  | ind n ih =>
    intro r hr
    rw [dgs_step n r (by omega)]
    by_cases h : n < 10
    · have e : Lib.decDigits n = [UInt8.ofNat (48 + n)] := by rw [Lib.decDigits, dif_pos h]
      rw [e, show n / 10 = 0 by omega, dgs_zero, show n % 10 = n by omega]; rfl
    · have e : Lib.decDigits n = Lib.decDigits (n / 10) ++ [UInt8.ofNat (48 + n % 10)] := by rw [Lib.decDigits, dif_neg h]
      rw [ih (n / 10) (by omega) (r - 1) (.inr (by omega)), e, List.append_assoc, List.length_append, show r - 1 - (Lib.decDigits (n / 10)).length = r - ((Lib.decDigits (n / 10)).length + [UInt8.ofNat (48 + n % 10)].length) by simp; omega]
theorem dgs_one (n : Nat) : dgs n 1 = Lib.decDigits n := by
  rw [dgs_dec n 1 (.inl (by omega))]
  have := List.length_pos_iff.mpr (dec_ne n)
  rw [show 1 - (Lib.decDigits n).length = 0 by omega]; rfl
theorem str_one (n : Nat) : strOfNums [(wrap64 (48 + Int.tmod (n : Int) 10)) % 256] = B [UInt8.ofNat (48 + n % 10)] := by
  have e : Int.tmod (n : Int) 10 = ((n % 10 : Nat) : Int) := by rw [Int.tmod_eq_emod_of_nonneg (by omega)]; omega
  rw [e, wr_small _ (by omega) (by omega), show ((48 : Int) + ((n % 10 : Nat) : Int)) % 256 = ((48 + n % 10 : Nat) : Int) by omega]
  unfold strOfNums B
  simp only [List.map_cons, List.map_nil, Int.toNat_natCast]
theorem digits_l0 : ∀ (d k n i least : Nat) (S : List UInt8), n < 10 ^ d → least - i ≤ d → d + 1 ≤ k → S.length + d ≤ 1000 → i + d ≤ 1000 → n ≤ 1000000000000000000 →
    sleuthref02_digits.l0 k (n : Int) (least : Int) (B S) (i : Int) = some (B (dgs n (least - i) ++ S)) := by
  intro d
  induction d with
  | zero =>
    intro k n i least S hn hl hk hS hi hb
    obtain ⟨k, rfl⟩ : ∃ j, k = j + 1 := ⟨k - 1, by omega⟩
    have hn0 : n = 0 := by simpa using hn
    subst hn0
    rw [sleuthref02_digits.l0, if_neg (by omega), if_neg (by omega), show least - i = 0 by omega, dgs_nil]; rfl
  | succ d ih =>
    intro k n i least S hn hl hk hS hi hb
    obtain ⟨k, rfl⟩ : ∃ j, k = j + 1 := ⟨k - 1, by omega⟩
    have step : ¬ (n = 0 ∧ least - i = 0) → ((some (([(wrap64 (48 + (Int.tmod (n : Int) 10))) % 256] : List Int) : List Int)).bind fun y161 => (if (strOfNums y161).size + (B S).size ≤ 9223372036854775807 then (sleuthref02_digits.l0 k (wrap64 (Int.tdiv (n : Int) 10)) least ((strOfNums y161) ++ (B S)) (wrap64 ((i : Int) + 1))) else (none))) = some (B (dgs n (least - i) ++ S)) := by
      intro h
      rw [Option.bind_some, str_one, if_pos (by rw [B_size, B_size]; simp; omega), B_append, show Int.tdiv (n : Int) 10 = ((n / 10 : Nat) : Int) by rw [Int.tdiv_eq_ediv_of_nonneg (by omega)]; omega, wr_small _ (by omega) (by omega), wr_small _ (by omega) (by omega), show (i : Int) + 1 = ((i + 1 : Nat) : Int) by omega,
        ih k (n / 10) (i + 1) least _ (by rw [Nat.pow_succ] at hn; omega) (by omega) (by omega) (by simp; omega) (by omega) (by omega), dgs_step n (least - i) h, show least - (i + 1) = least - i - 1 by omega, List.append_assoc]
    rw [sleuthref02_digits.l0]
    by_cases h1 : i < least
    · rw [if_pos (by omega)]
      exact step (by omega)
    · rw [if_neg (by omega)]
      by_cases h2 : 0 < n
      · rw [if_pos (by omega)]
        exact step (by omega)
      · rw [if_neg (by omega), show least - i = 0 by omega, show n = 0 by omega, dgs_nil]; rfl
theorem digits_ok (k n least : Nat) (hk : 100 ≤ k) (hn : n < 100000000000000) (hl : least ≤ 50) : sleuthref02_digits.f k (n : Int) (least : Int) = some (B (dgs n least)) := by
  unfold sleuthref02_digits.f
  have h := digits_l0 50 k n 0 least [] (Nat.lt_of_lt_of_le hn (by decide)) (by omega) (by omega) (by simp) (by omega) (by omega)
  rw [List.append_nil] at h
  exact h

/-! ### Print -/
def prt (a b : Int) : List UInt8 := if b = 1 then Lib.itoa a else Lib.itoa a ++ 47 :: Lib.itoa b
theorem itoa_len (a : Int) (h0 : -1048576 ≤ a) (h1 : a ≤ 1048576) : (Lib.itoa a).length ≤ 8 := by
  by_cases h : a < 0
  · rw [itoa_neg a h]
    have := dec_len7 a.natAbs (by omega)
    simp; omega
  · rw [itoa_nat a (by omega)]
    have := dec_len7 a.toNat (by omega)
    omega
theorem Print_ok (a b : Int) (h : can a b) : fraction_Print.f a b = some (B (prt a b)) := by
  obtain ⟨b0, b1, a0, a1, _⟩ := h
  have l1 := itoa_len a a0 a1
  have l2 := itoa_len b (by omega) b1
  unfold fraction_Print.f prt
  rw [Itoa_B a (by omega) (by omega), Itoa_B b (by omega) (by omega)]
  by_cases h1 : b = 1
  · rw [if_pos h1, if_pos h1, Option.bind_some]
  · rw [if_neg h1, if_neg h1, Option.bind_some, if_pos (by rw [B_size]; omega), Option.bind_some, show (⟨#[47]⟩ : ByteArray) = B [47] from rfl, B_append, if_pos (by rw [B_size, B_size]; simp; omega), B_append, List.append_assoc]; rfl
theorem RPrint_ok (k : Nat) (hk : 100 ≤ k) (a b : Int) (h : can a b) : sleuthref02_Print.f k a b = some (B (prt a b)) := by
  obtain ⟨b0, b1, a0, a1, _⟩ := h
  unfold sleuthref02_Print.f prt
  have d1 := digits_ok k a.natAbs 1 hk (by omega) (by omega)
  have d2 := digits_ok k b.toNat 1 hk (by omega) (by omega)
  rw [dgs_one] at d1 d2
  rw [show ((b.toNat : Nat) : Int) = b by omega] at d2
  have l1 := dec_len7 a.natAbs (by omega)
  have l2 := dec_len7 b.toNat (by omega)
  rw [mag_ref, mag_ok a (by omega) (by omega), Option.bind_some, wr_small _ (by omega) (by omega)]
  rw [show (1 : Int) = ((1 : Nat) : Int) from rfl, d1, Option.bind_some]
  by_cases h0 : a < 0
  · rw [if_pos h0, itoa_neg a h0, if_pos (by rw [B_size]; omega), show (⟨#[45]⟩ : ByteArray) = B [45] from rfl, B_append]
    by_cases h1 : b = ((1 : Nat) : Int)
    · rw [if_pos h1, if_pos h1]; rfl
    · rw [if_neg h1, if_neg h1, if_pos (by rw [B_size]; simp; omega), d2, Option.bind_some, show (⟨#[47]⟩ : ByteArray) = B [47] from rfl, B_append, if_pos (by rw [B_size, B_size]; simp; omega), B_append, itoa_nat b (by omega)]
      simp
  · rw [if_neg h0, itoa_nat a (by omega), show a.toNat = a.natAbs by omega]
    by_cases h1 : b = ((1 : Nat) : Int)
    · rw [if_pos h1, if_pos h1]
    · rw [if_neg h1, if_neg h1, if_pos (by rw [B_size]; omega), d2, Option.bind_some, show (⟨#[47]⟩ : ByteArray) = B [47] from rfl, B_append, if_pos (by rw [B_size, B_size]; simp; omega), B_append, itoa_nat b (by omega)]
      simp
end Go.Proofs.YtikioicjhdhdpaaDoor.PD
