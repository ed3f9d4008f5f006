/- The quotients rounded down, and the search of the reference for a simple fraction. -/
import Derived.Test.YtikioicjhdhdpaaMath5
import Derived.Test.YtikioicjhdhdpaaPFx7
import Derived.Test.YtikioicjhdhdpaaPFx24
import Derived.Test.YtikioicjhdhdpaaPFx30
-- NEEDS F: fraction_floor sleuthref02_floor sleuthref02_MulFloor sleuthref02_MulCeil sleuthref02_Between
namespace Go.Proofs.Ytikioicjhdhdpaa.PF
open Go.RowKit Go.Proofs.YtikioicjhdhdpaaW.PrintWords Go.Proofs.YtikioicjhdhdpaaW.PrintLast Go.Proofs.YtikioicjhdhdpaaW.PrintMore
set_option linter.unusedVariables false
theorem tdiv_floor (v b : Int) (h1 : 1 ≤ b) : (if Int.tmod v b < 0 then Int.tdiv v b - 1 else Int.tdiv v b) = v / b := by
  rw [Int.tdiv_eq_ediv, Int.tmod_eq_emod]
  have hm := Int.emod_nonneg v (show b ≠ 0 by omega)
  have hl := Int.emod_lt_of_pos v (show 0 < b by omega)
  by_cases c : 0 ≤ v ∨ b ∣ v
  · rw [if_pos c, if_pos c, if_neg (by omega)]; omega
  · rw [if_neg c, if_neg c, if_pos (by omega), Int.sign_eq_one_of_pos (by omega)]; omega
theorem div_bd (v b : Int) (h1 : 1 ≤ b) (v0 : -1152921504606846976 ≤ v) (v1 : v ≤ 1152921504606846976) : -1152921504606846976 ≤ v / b ∧ v / b ≤ 1152921504606846976 := by
  constructor
  · apply Int.le_ediv_of_mul_le (by omega); have : -1152921504606846976 * b ≤ -1152921504606846976 * 1 := by apply Int.mul_le_mul_of_nonpos_left <;> omega
    omega
  · apply Int.ediv_le_of_le_mul (by omega); have : 1152921504606846976 * 1 ≤ 1152921504606846976 * b := by apply Int.mul_le_mul_of_nonneg_left <;> omega
    omega
theorem floor_ok (v b : Int) (h1 : 1 ≤ b) (h2 : b ≤ 1048576) (v0 : -1152921504606846976 ≤ v) (v1 : v ≤ 1152921504606846976) : fraction_floor.f v b = some (v / b) := by
  unfold fraction_floor.f
  have hb := div_bd v b h1 v0 v1
  have ht := tdiv_floor v b h1
  rw [if_neg (by omega)]
  by_cases c : Int.tmod v b < 0
  · rw [if_pos c] at ht ⊢
    rw [wr_small (Int.tdiv v b) (by omega) (by omega), wr_small _ (by omega) (by omega), ht]
  · rw [if_neg c] at ht ⊢
    rw [wr_small _ (by omega) (by omega), ht]
theorem rfloor_ok (v b : Int) (h1 : 1 ≤ b) (h2 : b ≤ 1048576) (v0 : -1152921504606846976 ≤ v) (v1 : v ≤ 1152921504606846976) : sleuthref02_floor.f v b = some (v / b) := floor_ok v b h1 h2 v0 v1

def lo (a b i : Int) : Int := (i * a) / b + 1
def hi (c d i : Int) : Int := -((-(i * c)) / d) - 1
def pick (l h : Int) : Int := if l ≤ 0 ∧ 0 ≤ h then 0 else if h < 0 then h else l
theorem lo_iff (a b i n : Int) (hb : 1 ≤ b) : lo a b i ≤ n ↔ a * i < n * b := by
  unfold lo
  have h := @Int.ediv_lt_iff_lt_mul (i * a) n b (by omega)
  rw [Int.mul_comm a i]
  omega
theorem hi_iff (c d i n : Int) (hd : 1 ≤ d) : n ≤ hi c d i ↔ n * d < c * i := by
  unfold hi
  have h := @Int.ediv_lt_iff_lt_mul (-(i * c)) (-n) d (by omega)
  rw [Int.neg_mul] at h
  rw [Int.mul_comm c i]
  omega
theorem lo_bd (a b i : Int) (hb : 1 ≤ b) (h0 : -1048576 ≤ a) (h1 : a ≤ 1048576) (i0 : 1 ≤ i) (i1 : i ≤ 200) : -1152921504606846976 ≤ lo a b i ∧ lo a b i ≤ 1152921504606846977 := by
  have e := mul_bd i a (by omega) (by omega) h0 h1
  have := div_bd (i * a) b hb (by omega) (by omega)
  unfold lo; omega
theorem hi_bd (c d i : Int) (hd : 1 ≤ d) (h0 : -1048576 ≤ c) (h1 : c ≤ 1048576) (i0 : 1 ≤ i) (i1 : i ≤ 200) : -1152921504606846977 ≤ hi c d i ∧ hi c d i ≤ 1152921504606846976 := by
  have e := mul_bd i c (by omega) (by omega) h0 h1
  have := div_bd (-(i * c)) d hd (by omega) (by omega)
  unfold hi; omega
section
variable (a b c d m R : Int) (hf : can a b) (hg : can c d)
include hf hg
theorem RBetween_step (k : Nat) (i : Int) (i0 : 1 ≤ i) (i1 : i ≤ 200) : sleuthref02_Between.l0 (k + 1) 200 i a b c d =
    if hi c d i < lo a b i then sleuthref02_Between.l0 k 200 (i + 1) a b c d else sleuthref02_Between.j1 k i (lo a b i) (hi c d i) (decide (lo a b i ≤ 0 ∧ 0 ≤ hi c d i)) := by
  obtain ⟨f1, f2, f3, f4, _⟩ := hf
  obtain ⟨g1, g2, g3, g4, _⟩ := hg
  have e1 := mul_bd i a (by omega) (by omega) f3 f4
  have e2 := mul_bd i c (by omega) (by omega) g3 g4
  have d1 := div_bd (i * a) b f1 (by omega) (by omega)
  have d2 := div_bd (-(i * c)) d g1 (by omega) (by omega)
  rw [sleuthref02_Between.l0, if_pos (by omega)]
  unfold sleuthref02_MulFloor.f sleuthref02_MulCeil.f
  rw [wr_small (i * a) (by omega) (by omega), wr_small (i * c) (by omega) (by omega), wr_small (-(i * c)) (by omega) (by omega), rfloor_ok (i * a) b f1 f2 (by omega) (by omega), rfloor_ok (-(i * c)) d g1 g2 (by omega) (by omega)]
  simp only [Option.bind_some]
  unfold lo hi
  rw [wr_small (-(-(i * c) / d)) (by omega) (by omega), wr_small (i * a / b + 1) (by omega) (by omega), wr_small (-(-(i * c) / d) - 1) (by omega) (by omega), wr_small (i + 1) (by omega) (by omega)]
  by_cases h : i * a / b + 1 > -(-(i * c) / d) - 1
  · rw [if_pos h, if_pos (by omega)]
  · rw [if_neg h, if_neg (show ¬ (-(-(i * c) / d) - 1 < i * a / b + 1) by omega)]
    by_cases h2 : i * a / b + 1 ≤ 0
    · rw [if_pos h2]; congr 1
      by_cases h3 : -(-(i * c) / d) - 1 ≥ 0
      · rw [decide_eq_true h3, decide_eq_true ⟨h2, h3⟩]
      · rw [decide_eq_false h3, decide_eq_false (fun h => h3 h.2)]
    · rw [if_neg h2, decide_eq_false (fun h => h2 h.1)]
theorem RBetween_end (k : Nat) (hk : 140 ≤ k) (i : Int) (i0 : 1 ≤ i) (i1 : i ≤ 200) : sleuthref02_Between.j1 k i (lo a b i) (hi c d i) (decide (lo a b i ≤ 0 ∧ 0 ≤ hi c d i)) = some (mkB (pick (lo a b i) (hi c d i)) i) := by
  obtain ⟨k, rfl⟩ : ∃ j, k = j + 1 := ⟨k - 1, by omega⟩
  obtain ⟨f1, f2, f3, f4, _⟩ := hf
  obtain ⟨g1, g2, g3, g4, _⟩ := hg
  have l1 := lo_bd a b i f1 f3 f4 i0 i1
  have l2 := hi_bd c d i g1 g3 g4 i0 i1
  rw [sleuthref02_Between.j1]
  unfold pick
  generalize lo a b i = l at *
  generalize hi c d i = h at *
  by_cases h1 : l ≤ 0 ∧ 0 ≤ h
  · rw [decide_eq_true h1, if_pos rfl, if_pos h1, RMake_ok _ (by omega) 0 i (by omega) (by omega) (by omega) (by omega) (by omega)]; rfl
  · rw [decide_eq_false h1, if_neg (by decide), if_neg h1]
    by_cases h2 : h < 0
    · rw [if_pos h2, if_pos h2, RMake_ok _ (by omega) h i (by omega) (by omega) (by omega) (by omega) (by omega)]; rfl
    · rw [if_neg h2, if_neg h2, RMake_ok _ (by omega) l i (by omega) (by omega) (by omega) (by omega) (by omega)]; rfl
theorem RBetween_loop (hm : 1 ≤ m) (hno : ∀ i : Int, 1 ≤ i → i < m → hi c d i < lo a b i) (hyes : lo a b m ≤ hi c d m) (hp : pick (lo a b m) (hi c d m) = R) :
    ∀ (t : Nat) (k : Nat) (i : Int), 1 ≤ i → i ≤ 201 → i + t = m → 201 - i + 142 ≤ k → sleuthref02_Between.l0 k 200 i a b c d = some (if m ≤ 200 then mkB R m else (0, 0, false)) := by
  intro t
  induction t with
  | zero =>
    intro k i i0 i1 hi hk
    obtain rfl : i = m := by omega
    obtain ⟨k, rfl⟩ : ∃ j, k = j + 1 := ⟨k - 1, by omega⟩
    by_cases h : i ≤ 200
    · rw [RBetween_step a b c d hf hg k i i0 h, if_neg (by omega), RBetween_end a b c d hf hg k (by omega) i i0 h, if_pos h, hp]
    · rw [sleuthref02_Between.l0, if_neg h, if_neg h]
  | succ t ih =>
    intro k i i0 i1 hi hk
    obtain ⟨k, rfl⟩ : ∃ j, k = j + 1 := ⟨k - 1, by omega⟩
    by_cases h : i ≤ 200
    · rw [RBetween_step a b c d hf hg k i i0 h, if_pos (hno i i0 (by omega))]
      exact ih k (i + 1) (by omega) (by omega) (by omega) (by omega)
    · rw [sleuthref02_Between.l0, if_neg h, if_neg (by omega)]
theorem RBetween_ok (k : Nat) (hk : 400 ≤ k) (hm : 1 ≤ m) (hno : ∀ i : Int, 1 ≤ i → i < m → hi c d i < lo a b i) (hyes : lo a b m ≤ hi c d m) (hp : pick (lo a b m) (hi c d m) = R) :
    sleuthref02_Between.f k a b c d 200 = some (if m ≤ 200 then mkB R m else (0, 0, false)) := by
  unfold sleuthref02_Between.f
  exact RBetween_loop a b c d m R hf hg hm hno hyes hp (m - 1).toNat k 1 (by omega) (by omega) (by omega) (by omega)
end
end Go.Proofs.Ytikioicjhdhdpaa.PF
