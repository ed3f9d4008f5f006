/- The estimate of the number of keys in plain numbers: what the law's quotient tells, what Mul64 tells, and in which range the hashes lie. Conditions: the size is at most 1024, the hash at most 2^62. -/
import Derived.Test.YtddhpkobingmhaaDivM
import Derived.Test.YtddhpkobingmhaaPBx12
import Derived.Test.YtddhpkobingmhaaTxt

namespace Go.Proofs.Ytddhpkobingmhaa.PB
open Go.RowKit Go.Proofs.YtddhpkobingmhaaW.PrintWords Go.Proofs.YtddhpkobingmhaaW.PrintLast Go.Proofs.YtddhpkobingmhaaW.PrintMore
set_option linter.unusedVariables false
set_option maxRecDepth 100000

def distQ (m h : Int) : Int := m * 4611686018427387904 / h
def dist (Kn h : Int) : Int := if h = 0 then Kn else if distQ (Kn - 1) h > 1099511627776 then 1099511627776 else if distQ (Kn - 1) h > Kn then distQ (Kn - 1) h else Kn
theorem quot_l0 (h M : Int) (h0 : 0 < h) (h1 : h ≤ 4611686018427387904) : ∀ (n i : Nat) (q r : Int), i + n = 62 → 0 ≤ r → r < h → 0 ≤ q → q ≤ 2199023255553 → (q * h + r) * 2 ^ n = M →
    sleuthlaw23_quotient.l0 (n + 1) h 1099511627776 q r (i : Int) = some (if M / h > 1099511627776 then -1 else M / h)
  | 0, i, q, r, hi, r0, r1, q0, q1, hM => by
    have e : M / h = q := by
      have h2 : M = q * h + r := by rw [← hM]; simp
      have m1 : q ≤ M / h := Int.le_ediv_of_mul_le h0 (by omega)
      have m2 : M / h < q + 1 := Int.ediv_lt_of_lt_mul h0 (by rw [Int.add_mul, Int.one_mul]; omega)
      omega
    rw [sleuthlaw23_quotient.l0, if_neg (by omega), e]
    split <;> rfl
  | n + 1, i, q, r, hi, r0, r1, q0, q1, hM => by
    have pn : (0 : Int) < 2 ^ n := Int.pow_pos (by decide)
    rw [Int.pow_succ, Int.mul_comm ((2 : Int) ^ n) 2, ← Int.mul_assoc] at hM
    rw [sleuthlaw23_quotient.l0, if_pos (by omega)]
    by_cases c : q > 1099511627776
    · have qh : 0 ≤ q * h := Int.mul_nonneg q0 (by omega)
      have m0 : q * h ≤ M := by
        rw [← hM]
        have := Int.mul_le_mul_of_nonneg_left (show (1 : Int) ≤ 2 ^ n by omega) (show 0 ≤ (q * h + r) * 2 by omega)
        omega
      have m1 : q ≤ M / h := Int.le_ediv_of_mul_le h0 m0
      rw [if_pos c, if_pos (by omega)]
    · rw [if_neg c, wrap64_small (2 * r) (by omega) (by omega), wrap64_small (2 * q) (by omega) (by omega), wrap64_small ((i : Int) + 1) (by omega) (by omega)]
      by_cases d : 2 * r ≥ h
      · rw [if_pos d, wrap64_small (2 * q + 1) (by omega) (by omega), wrap64_small (2 * r - h) (by omega) (by omega)]
        refine quot_l0 h M h0 h1 n (i + 1) (2 * q + 1) (2 * r - h) (by omega) (by omega) (by omega) (by omega) (by omega) ?_
        rw [← hM]; congr 1
        rw [Int.add_mul, Int.mul_assoc]; omega
      · rw [if_neg d]
        refine quot_l0 h M h0 h1 n (i + 1) (2 * q) (2 * r) (by omega) (by omega) (by omega) (by omega) (by omega) ?_
        rw [← hM]; congr 1
        rw [Int.mul_assoc]; omega
theorem quot_ok (m h : Int) (hm0 : 0 ≤ m) (hm1 : m ≤ 1023) (h0 : 0 < h) (h1 : h ≤ 4611686018427387904) : sleuthlaw23_quotient.f 63 m h 1099511627776 = some (if distQ m h > 1099511627776 then -1 else distQ m h) := by
  unfold sleuthlaw23_quotient.f distQ
  have hn : h ≠ 0 := by omega
  have d0 : 0 ≤ m / h := Int.ediv_nonneg hm0 (by omega)
  have d1 : m / h ≤ m := Int.ediv_le_self _ hm0
  rw [if_neg hn, Int.tdiv_eq_ediv_of_nonneg hm0, Int.tmod_eq_emod_of_nonneg hm0, wrap64_small _ d0 (by omega)]
  refine quot_l0 h _ h0 h1 62 0 _ _ rfl (Int.emod_nonneg m hn) (Int.emod_lt_of_pos m h0) d0 (by omega) ?_
  rw [Int.mul_comm (m / h) h, Int.mul_ediv_add_emod]; rfl
theorem mul_all : ∀ m : Fin 1024, bits_Mul64.f (m.val : Int) 4611686018427387904 = some ((m.val : Int) / 4, (m.val : Int) % 4 * 4611686018427387904) := by decide +kernel
theorem mul_ok (m : Int) (hm0 : 0 ≤ m) (hm1 : m ≤ 1023) : bits_Mul64.f m 4611686018427387904 = some (m / 4, m % 4 * 4611686018427387904) := by
  have := mul_all ⟨m.toNat, by omega⟩
  rwa [show (((⟨m.toNat, by omega⟩ : Fin 1024).val : Nat) : Int) = m from by simp; omega] at this
/-- What Distinct computes where its Div64 is asked. -/
theorem div_dist (m h : Int) (hm0 : 0 ≤ m) (hm1 : m ≤ 1023) (h0 : 0 < h) (h1 : h ≤ 4611686018427387904) (hh : m / 4 < h) : ∃ r2, bits_Div64.f 10 (m / 4) (m % 4 * 4611686018427387904) h = some (distQ m h, r2) := by
  have e : distQ m h = ((m / 4) * 18446744073709551616 + m % 4 * 4611686018427387904) / h := by unfold distQ; congr 1; omega
  rw [e]
  by_cases z : m / 4 = 0
  · rw [z, Int.zero_mul, Int.zero_add]
    exact div64_zero 10 _ h h0 (by omega) (by omega)
  · exact div64_ok 1 (m / 4) _ h (by omega) hh (by omega) (by omega) (by omega)
theorem dist_great (m h : Int) (hm0 : 0 ≤ m) (h0 : 0 < h) (hh : h ≤ m / 4) : distQ m h > 1099511627776 := by
  have : (1099511627777 : Int) ≤ m * 4611686018427387904 / h := Int.le_ediv_of_mul_le h0 (by omega)
  unfold distQ; omega
theorem dist_nonneg (m h : Int) (hm0 : 0 ≤ m) (h0 : 0 < h) : 0 ≤ distQ m h := Int.ediv_nonneg (by omega) (by omega)
theorem dist_word (m h : Int) (hm0 : 0 ≤ m) (hm1 : m ≤ 1023) (h0 : 0 < h) (hh : m / 4 < h) : distQ m h < 18446744073709551616 := by
  refine Int.ediv_lt_of_lt_mul h0 ?_
  omega
theorem xor_range (x y : Int) : 0 ≤ Go.bits .xor .u64 x y ∧ Go.bits .xor .u64 x y < 18446744073709551616 := by
  unfold Go.bits
  dsimp only
  rw [wu_def]
  omega
theorem word_range {a b r : Int} (h : checksum_Word.f a b = some r) : 0 ≤ r ∧ r < 18446744073709551616 := by
  unfold checksum_Word.f at h
  rw [← Option.some.inj h]
  exact xor_range _ _
theorem text_range (s : ByteArray) (n : Int) : ∀ (k : Nat) (x j r : Int), 0 ≤ x → x < 18446744073709551616 → checksum_Text.l0 k s x n j = some r → 0 ≤ r ∧ r < 4611686018427387904
  | 0, x, j, r, h0, h1, h => by simp [checksum_Text.l0] at h
  | k + 1, x, j, r, h0, h1, h => by
    rw [checksum_Text.l0] at h
    split at h
    · split at h
      · split at h
        · obtain ⟨y, hy, h⟩ := Option.bind_eq_some_iff.mp h
          have := word_range hy
          exact text_range s n k y _ r this.1 this.2 h
        · cases h
      · cases h
    · rw [← Option.some.inj h, wrap64_small _ (by omega) (by omega)]
      omega
theorem hash_range (a : Int) (s : ByteArray) (hs : s.size ≤ 1000000) : 0 ≤ hashT a s ∧ hashT a s < 4611686018427387904 := by
  have h := hash_ok a s hs (s.size + 1) (Nat.le_refl _)
  unfold checksum_Text.f at h
  obtain ⟨y, hy, h⟩ := Option.bind_eq_some_iff.mp h
  have := word_range hy
  exact text_range s _ _ y _ _ this.1 this.2 h
end Go.Proofs.Ytddhpkobingmhaa.PB
