/- Texts of this claim, taken together: PBx12, Knuth, Div, DivM, DistM, Sk16, Sk17. -/
import Derived.Test.YtddhpkobingmhaaJ0
import Derived.WalkKit
import Derived.Test.YtddhpkobingmhaaJ2
import Derived.Test.YtddhpkobingmhaaJ5
import Derived.Test.YtddhpkobingmhaaJ6
/-! # PBx12 -/
section
-- Written by a program of this session (gprint.py) out of Lean's own print of the program. Lean checks it.
namespace Go.Proofs.Ytddhpkobingmhaa.PB
open Go.RowKit Go.Proofs.YtddhpkobingmhaaW.PrintWords Go.Proofs.YtddhpkobingmhaaW.PrintLast Go.Proofs.YtddhpkobingmhaaW.PrintMore
attribute [local go_sem] str_gtr str_leq str_geq max2_int min2_int max_two min_two max_three min_three max_four min_four   -- for this text's walks alone
set_option linter.unusedVariables false
set_option linter.unusedSimpArgs false

/-! ### sleuthlaw23_quotient: function 41 -/
def sleuthlaw23_quotient.l0 : Nat → Int → Int → Int → Int → Int → Option (Int)
  | 0, _, _, _, _, _ => none
  | k + 1, x1, x2, x7, x8, x9 => if x9 < 62 then (if x7 > x2 then (some (-1)) else (if (wrap64 (2 * x8)) ≥ x1 then (sleuthlaw23_quotient.l0 k x1 x2 (wrap64 ((wrap64 (2 * x7)) + 1)) (wrap64 ((wrap64 (2 * x8)) - x1)) (wrap64 (x9 + 1))) else (sleuthlaw23_quotient.l0 k x1 x2 (wrap64 (2 * x7)) (wrap64 (2 * x8)) (wrap64 (x9 + 1))))) else (if x7 > x2 then (some (-1)) else (some x7))
def sleuthlaw23_quotient.f (k : Nat) (a0 : Int) (a1 : Int) (a2 : Int) : Option (Int) := if a1 = 0 then (some (-1)) else (sleuthlaw23_quotient.l0 k a1 a2 (wrap64 (Int.tdiv a0 a1)) (Int.tmod a0 a1) 0)
theorem sleuthlaw23_quotient.mono_l : ∀ k, (∀ y0 y1 y2 y3 y4, LeO (sleuthlaw23_quotient.l0 k y0 y1 y2 y3 y4) (sleuthlaw23_quotient.l0 (k + 1) y0 y1 y2 y3 y4))
  | 0 => fun _ _ _ _ _ r h => by simp [sleuthlaw23_quotient.l0] at h
  | k + 1 => by
    have ih0 := sleuthlaw23_quotient.mono_l k
    · intro y0 y1 y2 y3 y4
      unfold sleuthlaw23_quotient.l0
      repeat' first
      | (with_reducible exact ih0 _ _ _ _ _)
      | (with_reducible exact LeO.refl _)
      | (with_reducible exact LeO.none _)
      | (with_reducible refine LeO.ite ?_ ?_)
      | (with_reducible refine LeO.bind ?_ (fun _ => ?_))
      | exact ih0 _ _ _ _ _
      | exact LeO.none _
      | refine LeO.ite ?_ ?_
      | refine LeO.bind ?_ (fun _ => ?_)
theorem sleuthlaw23_quotient.mono : ∀ a0 a1 a2 k, LeO (sleuthlaw23_quotient.f k a0 a1 a2) (sleuthlaw23_quotient.f (k + 1) a0 a1 a2) := by
  intro a0 a1 a2 k
  have ih0 := sleuthlaw23_quotient.mono_l k
  unfold sleuthlaw23_quotient.f
  repeat' first
      | (with_reducible exact ih0 _ _ _ _ _)
      | (with_reducible exact LeO.refl _)
      | (with_reducible exact LeO.none _)
      | (with_reducible refine LeO.ite ?_ ?_)
      | (with_reducible refine LeO.bind ?_ (fun _ => ?_))
      | exact ih0 _ _ _ _ _
      | exact LeO.none _
      | refine LeO.ite ?_ ?_
      | refine LeO.bind ?_ (fun _ => ?_)
set_option maxHeartbeats 8000000 in
set_option maxRecDepth 100000 in
theorem sleuthlaw23_quotient.calls (k : Nat) (a0 : Int) (a1 : Int) (a2 : Int) (r : Int) (w : World) (h : sleuthlaw23_quotient.f k a0 a1 a2 = some r) :
    Calls Try.prog 41 #[.int .i64 a0, .int .i64 a1, .int .i64 a2] w fun e w' => e = .returned (.int .i64 r) ∧ Drawn0 w w' := by
  have H : (if a1 = 0 then (some (-1)) else (sleuthlaw23_quotient.l0 k a1 a2 (wrap64 (Int.tdiv a0 a1)) (Int.tmod a0 a1) 0)) = some r := h
  clear h
  by_cases c4 : a1 = 0
  · rw [if_pos c4] at H
    have c4b0 : (a1 == 0) = true := beq_iff_eq.mpr c4
    have c4b1 : (a1 != 0) = false := bne_eq_false_iff_eq.mpr c4
    clear c4
    obtain rfl := Option.some.inj H
    go_enter Try.func41, Try.ntmps41
    go_wp2
    repeat (go_quiet (fail); try go_wp2)
    go_ret
    exact ⟨by first | rfl | (simp; done) | (simp [*]; done), by repeat (first | exact Drawn0.refl _ | apply Drawn0.step)⟩
  · rw [if_neg c4] at H
    have c4b0 : (a1 == 0) = false := beq_eq_false_iff_ne.mpr c4
    have c4b1 : (a1 != 0) = true := bne_iff_ne.mpr c4
    have H' := Aside0.mk H
    clear H
    go_enter Try.func41, Try.ntmps41
    go_wp2
    repeat (go_quiet (fail); try go_wp2)
    go_loopg [7, 8, 9] k (fun kq v7 v8 v9 w' => ∃ (x7_1 : Int) (x8_1 : Int) (x9_1 : Int), v7 = .int .i64 x7_1 ∧ v8 = .int .i64 x8_1 ∧ v9 = .int .i64 x9_1 ∧ Aside0 (sleuthlaw23_quotient.l0 kq a1 a2 x7_1 x8_1 x9_1 = some r) ∧ Aside0 (kq ≤ k) ∧ Drawn0 w w')
    case atStart => exact ⟨(wrap64 (Int.tdiv a0 a1)), (Int.tmod a0 a1), (0), (by first | rfl | (simp; done) | (simp [*]; done)), (by first | rfl | (simp; done) | (simp [*]; done)), (by first | rfl | (simp; done) | (simp [*]; done)), H', ⟨Nat.le_refl _⟩, by repeat (first | exact Drawn0.refl _ | apply Drawn0.step)⟩
    case round =>
      clear H'
      try clear p2
      try clear c4
      try clear c4b0
      try clear c4b1
      obtain ⟨x7_1, x8_1, x9_1, rfl, rfl, rfl, HA, HK1, ⟨m1, rfl⟩⟩ := hrel
      cases gk with
      | zero => exact absurd HA.out (by simp [sleuthlaw23_quotient.l0])
      | succ k1 =>
        have H := HA.out
        clear HA
        simp only [sleuthlaw23_quotient.l0] at H
        by_cases c5 : x9_1 < 62
        · rw [if_pos c5] at H
          have c5b0 : decide (x9_1 < 62) = true := decide_eq_true c5
          clear c5
          by_cases c6 : x7_1 > a2
          · rw [if_pos c6] at H
            have c6b0 : decide (a2 < x7_1) = true := decide_eq_true c6
            clear c6
            obtain rfl := Option.some.inj H
            go_wp2
            repeat (go_quiet (fail); try go_wp2)
            go_ret
            exact ⟨by first | rfl | (simp; done) | (simp [*]; done), by repeat (first | exact Drawn0.refl _ | apply Drawn0.step)⟩
          · rw [if_neg c6] at H
            have c6b0 : decide (a2 < x7_1) = false := decide_eq_false c6
            clear c6
            by_cases c7 : (wrap64 (2 * x8_1)) ≥ a1
            · rw [if_pos c7] at H
              have c7b0 : decide (a1 ≤ (wrap64 (2 * x8_1))) = true := decide_eq_true c7
              clear c7
              have H' := Aside0.mk H
              clear H
              go_wp2
              repeat (go_quiet (fail); try go_wp2)
              go_roundg k1
              case measure => have := HK1.out; omega
              case rel => exact ⟨(wrap64 ((wrap64 (2 * x7_1)) + 1)), (wrap64 ((wrap64 (2 * x8_1)) - a1)), (wrap64 (x9_1 + 1)), (by first | rfl | (simp; done) | (simp [*]; done)), (by first | rfl | (simp; done) | (simp [*]; done)), (by first | rfl | (simp; done) | (simp [*]; done)), H', ⟨by have := HK1.out; omega⟩, by repeat (first | exact Drawn0.refl _ | apply Drawn0.step)⟩
            · rw [if_neg c7] at H
              have c7b0 : decide (a1 ≤ (wrap64 (2 * x8_1))) = false := decide_eq_false c7
              clear c7
              have H' := Aside0.mk H
              clear H
              go_wp2
              repeat (go_quiet (fail); try go_wp2)
              go_roundg k1
              case measure => have := HK1.out; omega
              case rel => exact ⟨(wrap64 (2 * x7_1)), (wrap64 (2 * x8_1)), (wrap64 (x9_1 + 1)), (by first | rfl | (simp; done) | (simp [*]; done)), (by first | rfl | (simp; done) | (simp [*]; done)), (by first | rfl | (simp; done) | (simp [*]; done)), H', ⟨by have := HK1.out; omega⟩, by repeat (first | exact Drawn0.refl _ | apply Drawn0.step)⟩
        · rw [if_neg c5] at H
          have c5b0 : decide (x9_1 < 62) = false := decide_eq_false c5
          clear c5
          by_cases c8 : x7_1 > a2
          · rw [if_pos c8] at H
            have c8b0 : decide (a2 < x7_1) = true := decide_eq_true c8
            clear c8
            obtain rfl := Option.some.inj H
            go_wp2
            repeat (go_quiet (fail); try go_wp2)
            go_ret
            exact ⟨by first | rfl | (simp; done) | (simp [*]; done), by repeat (first | exact Drawn0.refl _ | apply Drawn0.step)⟩
          · rw [if_neg c8] at H
            have c8b0 : decide (a2 < x7_1) = false := decide_eq_false c8
            clear c8
            obtain rfl := Option.some.inj H
            go_wp2
            repeat (go_quiet (fail); try go_wp2)
            go_ret
            exact ⟨by first | rfl | (simp; done) | (simp [*]; done), by repeat (first | exact Drawn0.refl _ | apply Drawn0.step)⟩

end Go.Proofs.Ytddhpkobingmhaa.PB
end

/-! # Knuth -/
section
namespace Go.Proofs.Ytddhpkobingmhaa.PB
set_option linter.unusedVariables false

abbrev KC (n0 u q r : Int) : Prop := q ≥ 4294967296 ∨ q * n0 > 4294967296 * r + u
def KG (y U u q : Int) : Prop := 0 ≤ q ∧ q * y ≤ U * 4294967296 + u ∧ U * 4294967296 + u < (q + 1) * y

section
variable {y n1 n0 U u q r : Int}
theorem kn_q0 (h2 : n1 < 4294967296) (h1 : 2147483648 ≤ n1) (hU : 0 ≤ U) (hr1 : r < n1) (hq : q * n1 + r = U) : 0 ≤ q := by
  apply Int.not_lt.mp
  intro hn
  have : q * n1 ≤ (-1) * n1 := Int.mul_le_mul_of_nonneg_right (by omega) (by omega)
  omega
theorem kn_q1 (hy : y = n1 * 4294967296 + n0) (h1 : 2147483648 ≤ n1) (h3 : 0 ≤ n0) (h4 : n0 < 4294967296) (hUy : U < y) (hr0 : 0 ≤ r) (hq : q * n1 + r = U) : q ≤ 4294967297 := by
  apply Int.not_lt.mp
  intro hn
  have : 4294967298 * n1 ≤ q * n1 := Int.mul_le_mul_of_nonneg_right (by omega) (by omega)
  omega
theorem kn_qy (hy : y = n1 * 4294967296 + n0) (q : Int) : q * y = q * n1 * 4294967296 + q * n0 := by
  rw [hy, Int.mul_add, Int.mul_assoc]
/-- where the test fails, the estimate is not too great -/
theorem kn_le (hy : y = n1 * 4294967296 + n0) (hq : q * n1 + r = U) (hc : ¬ KC n0 u q r) : q * y ≤ U * 4294967296 + u := by
  have := kn_qy hy q
  unfold KC at hc
  omega
/-- where the estimate's rest is great, it is not too great, either -/
theorem kn_le2 (hy : y = n1 * 4294967296 + n0) (hq : q * n1 + r = U) (h3 : 0 ≤ n0) (h4 : n0 < 4294967296) (hu : 0 ≤ u) (hr : 4294967296 ≤ r) (hqb : q ≤ 4294967296) (hq0 : 0 ≤ q) : q * y ≤ U * 4294967296 + u := by
  have := kn_qy hy q
  have h : q * n0 ≤ 4294967296 * n0 := Int.mul_le_mul_of_nonneg_right hqb h3
  omega
/-- where the test holds, the estimate is too great -/
theorem kn_gt (hy : y = n1 * 4294967296 + n0) (hq : q * n1 + r = U) (hUy : U < y) (hy0 : 0 ≤ y) (hu : 0 ≤ u) (hu2 : u < 4294967296) (hc : KC n0 u q r) : U * 4294967296 + u < q * y := by
  have := kn_qy hy q
  rcases hc with h | h
  · have : 4294967296 * y ≤ q * y := Int.mul_le_mul_of_nonneg_right h hy0
    omega
  · omega
theorem kn_lt (hy : y = n1 * 4294967296 + n0) (hq : q * n1 + r = U) (h3 : 0 ≤ n0) (hr1 : r < n1) (hu2 : u < 4294967296) (hq0 : 0 ≤ q) : U * 4294967296 + u < (q + 1) * y := by
  have h := kn_qy hy (q + 1)
  rw [Int.add_mul q 1 n1, Int.add_mul q 1 n0] at h
  have : 0 ≤ q * n0 := Int.mul_nonneg hq0 h3
  omega
theorem kn_pos (hq0 : 0 ≤ q) (hr0 : 0 ≤ r) (hu : 0 ≤ u) (hc : KC n0 u q r) : 1 ≤ q := by
  apply Int.not_lt.mp
  intro hn
  obtain rfl : q = 0 := by omega
  rcases hc with h | h <;> omega
theorem kn_step (hq : q * n1 + r = U) : (q - 1) * n1 + (r + n1) = U := by rw [Int.sub_mul]; omega
end
/-- The digit: which of the three estimates it is, and what the tests answer on the way. -/
theorem knuth (y n1 n0 U u q r : Int) (hy : y = n1 * 4294967296 + n0) (h1 : 2147483648 ≤ n1) (h2 : n1 < 4294967296) (h3 : 0 ≤ n0) (h4 : n0 < 4294967296) (hU : 0 ≤ U) (hUy : U < y) (hu : 0 ≤ u) (hu2 : u < 4294967296)
    (hr0 : 0 ≤ r) (hr1 : r < n1) (hq : q * n1 + r = U) : 0 ≤ q ∧ q ≤ 4294967297 ∧
    ((¬ KC n0 u q r ∧ KG y U u q) ∨
     (KC n0 u q r ∧ 1 ≤ q ∧ r + n1 ≥ 4294967296 ∧ KG y U u (q - 1)) ∨
     (KC n0 u q r ∧ 1 ≤ q ∧ r + n1 < 4294967296 ∧ ¬ KC n0 u (q - 1) (r + n1) ∧ KG y U u (q - 1)) ∨
     (KC n0 u q r ∧ 1 ≤ q ∧ r + n1 < 4294967296 ∧ KC n0 u (q - 1) (r + n1) ∧ 2 ≤ q ∧ r + n1 + n1 ≥ 4294967296 ∧ KG y U u (q - 1 - 1))) := by
  have q0 := kn_q0 h2 h1 hU hr1 hq
  have q1 := kn_q1 hy h1 h3 h4 hUy hr0 hq
  have y0 : 0 ≤ y := by omega
  refine ⟨q0, q1, ?_⟩
  by_cases c : KC n0 u q r
  · have p1 := kn_pos q0 hr0 hu c
    have g1 := kn_gt hy hq hUy y0 hu hu2 c
    have s1 := kn_step hq
    by_cases b : r + n1 ≥ 4294967296
    · exact .inr (.inl ⟨c, p1, b, by omega, kn_le2 hy s1 h3 h4 hu b (by omega) (by omega), by rw [Int.sub_add_cancel]; exact g1⟩)
    · by_cases c2 : KC n0 u (q - 1) (r + n1)
      · have p2 := kn_pos (by omega) (by omega) hu c2
        have g2 := kn_gt hy s1 hUy y0 hu hu2 c2
        have s2 := kn_step s1
        exact .inr (.inr (.inr ⟨c, p1, by omega, c2, by omega, by omega, by omega, kn_le2 hy s2 h3 h4 hu (by omega) (by omega) (by omega), by rw [Int.sub_add_cancel]; exact g2⟩))
      · exact .inr (.inr (.inl ⟨c, p1, by omega, c2, by omega, kn_le hy s1 c2, by rw [Int.sub_add_cancel]; exact g1⟩))
  · exact .inl ⟨c, q0, kn_le hy hq c, kn_lt hy hq h3 hr1 hu2 q0⟩
end Go.Proofs.Ytddhpkobingmhaa.PB
end

/-! # Div -/
section
namespace Go.Proofs.Ytddhpkobingmhaa.PB
open Go.RowKit Go.Proofs.YtddhpkobingmhaaW.PrintWords Go.Proofs.YtddhpkobingmhaaW.PrintLast Go.Proofs.YtddhpkobingmhaaW.PrintMore
attribute [local go_sem] str_gtr str_leq str_geq max2_int min2_int max_two min_two max_three min_three max_four min_four
set_option linter.unusedVariables false
set_option linter.unusedSimpArgs false

/-! ### bits_Div64: function 40 -/
mutual
def bits_Div64.j2 : Nat → Int → Int → Int → Int → Int → Int → Int → Int → Option (Int × Int)
  | 0, _, _, _, _, _, _, _, _ => none
  | k + 1, x2, x8, x9, x10, x11, x13, x14, x15 => if x9 = 0 then (none) else (bits_Div64.l1 k x2 x8 x9 x10 x14 x15 (IntKind.u64.wrap ((IntKind.u64.wrap ((IntKind.u64.wrap ((IntKind.u64.wrap (x11 * 4294967296)) + x13)) - (IntKind.u64.wrap (x15 * x2)))) - (IntKind.u64.wrap ((IntKind.u64.wrap (Int.tdiv (IntKind.u64.wrap ((IntKind.u64.wrap ((IntKind.u64.wrap (x11 * 4294967296)) + x13)) - (IntKind.u64.wrap (x15 * x2)))) x9)) * x9)))) (IntKind.u64.wrap ((IntKind.u64.wrap ((IntKind.u64.wrap (x11 * 4294967296)) + x13)) - (IntKind.u64.wrap (x15 * x2)))) (IntKind.u64.wrap (Int.tdiv (IntKind.u64.wrap ((IntKind.u64.wrap ((IntKind.u64.wrap (x11 * 4294967296)) + x13)) - (IntKind.u64.wrap (x15 * x2)))) x9)))
def bits_Div64.l1 : Nat → Int → Int → Int → Int → Int → Int → Int → Int → Int → Option (Int × Int)
  | 0, _, _, _, _, _, _, _, _, _ => none
  | k + 1, x2, x8, x9, x10, x14, x15, x16, x17, x18 => if x18 ≥ 4294967296 then (bits_Div64.j4 k x2 x8 x9 x10 x14 x15 x16 x17 x18 true) else (bits_Div64.j4 k x2 x8 x9 x10 x14 x15 x16 x17 x18 (decide ((IntKind.u64.wrap (x18 * x10)) > (IntKind.u64.wrap ((IntKind.u64.wrap (4294967296 * x16)) + x14)))))
def bits_Div64.j4 : Nat → Int → Int → Int → Int → Int → Int → Int → Int → Int → Bool → Option (Int × Int)
  | 0, _, _, _, _, _, _, _, _, _, _ => none
  | k + 1, x2, x8, x9, x10, x14, x15, x16, x17, x18, x113 => if x113 = true then (if (IntKind.u64.wrap (x16 + x9)) ≥ 4294967296 then (if 0 ≤ x8 then (some (IntKind.u64.wrap ((IntKind.u64.wrap (x15 * 4294967296)) + (IntKind.u64.wrap (x18 - 1))), shr .u64 (IntKind.u64.wrap ((IntKind.u64.wrap ((IntKind.u64.wrap (x17 * 4294967296)) + x14)) - (IntKind.u64.wrap ((IntKind.u64.wrap (x18 - 1)) * x2)))) x8)) else (none)) else (bits_Div64.l1 k x2 x8 x9 x10 x14 x15 (IntKind.u64.wrap (x16 + x9)) x17 (IntKind.u64.wrap (x18 - 1)))) else (if 0 ≤ x8 then (some (IntKind.u64.wrap ((IntKind.u64.wrap (x15 * 4294967296)) + x18), shr .u64 (IntKind.u64.wrap ((IntKind.u64.wrap ((IntKind.u64.wrap (x17 * 4294967296)) + x14)) - (IntKind.u64.wrap (x18 * x2)))) x8)) else (none))
def bits_Div64.l0 : Nat → Int → Int → Int → Int → Int → Int → Int → Int → Int → Option (Int × Int)
  | 0, _, _, _, _, _, _, _, _, _ => none
  | k + 1, x2, x8, x9, x10, x11, x13, x14, x15, x16 => if x15 ≥ 4294967296 then (bits_Div64.j1 k x2 x8 x9 x10 x11 x13 x14 x15 x16 true) else (bits_Div64.j1 k x2 x8 x9 x10 x11 x13 x14 x15 x16 (decide ((IntKind.u64.wrap (x15 * x10)) > (IntKind.u64.wrap ((IntKind.u64.wrap (4294967296 * x16)) + x13)))))
def bits_Div64.j1 : Nat → Int → Int → Int → Int → Int → Int → Int → Int → Int → Bool → Option (Int × Int)
  | 0, _, _, _, _, _, _, _, _, _, _ => none
  | k + 1, x2, x8, x9, x10, x11, x13, x14, x15, x16, x78 => if x78 = true then (if (IntKind.u64.wrap (x16 + x9)) ≥ 4294967296 then (bits_Div64.j2 k x2 x8 x9 x10 x11 x13 x14 (IntKind.u64.wrap (x15 - 1))) else (bits_Div64.l0 k x2 x8 x9 x10 x11 x13 x14 (IntKind.u64.wrap (x15 - 1)) (IntKind.u64.wrap (x16 + x9)))) else (bits_Div64.j2 k x2 x8 x9 x10 x11 x13 x14 x15)
end
def bits_Div64.f (k : Nat) (a0 : Int) (a1 : Int) (a2 : Int) : Option (Int × Int) := if a2 = 0 then (some (0, 0)) else (if a2 ≤ a0 then (some (0, 0)) else (if a0 = 0 then (some (IntKind.u64.wrap (Int.tdiv a1 a2), Int.tmod a1 a2)) else ((bits_LeadingZeros64.f k a2).bind fun t202 => (if 0 ≤ (IntKind.u64.wrap (t202)) then (if 0 ≤ (IntKind.u64.wrap (64 - (IntKind.u64.wrap (t202)))) then (if ((shl .u64 a2 (IntKind.u64.wrap (t202))) / 4294967296) = 0 then (none) else (bits_Div64.l0 k (shl .u64 a2 (IntKind.u64.wrap (t202))) (IntKind.u64.wrap (t202)) ((shl .u64 a2 (IntKind.u64.wrap (t202))) / 4294967296) (Go.bits .and .u64 (shl .u64 a2 (IntKind.u64.wrap (t202))) 4294967295) (Go.bits .or .u64 (shl .u64 a0 (IntKind.u64.wrap (t202))) (shr .u64 a1 (IntKind.u64.wrap (64 - (IntKind.u64.wrap (t202)))))) ((shl .u64 a1 (IntKind.u64.wrap (t202))) / 4294967296) (Go.bits .and .u64 (shl .u64 a1 (IntKind.u64.wrap (t202))) 4294967295) (IntKind.u64.wrap (Int.tdiv (Go.bits .or .u64 (shl .u64 a0 (IntKind.u64.wrap (t202))) (shr .u64 a1 (IntKind.u64.wrap (64 - (IntKind.u64.wrap (t202)))))) ((shl .u64 a2 (IntKind.u64.wrap (t202))) / 4294967296))) (IntKind.u64.wrap ((Go.bits .or .u64 (shl .u64 a0 (IntKind.u64.wrap (t202))) (shr .u64 a1 (IntKind.u64.wrap (64 - (IntKind.u64.wrap (t202)))))) - (IntKind.u64.wrap ((IntKind.u64.wrap (Int.tdiv (Go.bits .or .u64 (shl .u64 a0 (IntKind.u64.wrap (t202))) (shr .u64 a1 (IntKind.u64.wrap (64 - (IntKind.u64.wrap (t202)))))) ((shl .u64 a2 (IntKind.u64.wrap (t202))) / 4294967296))) * ((shl .u64 a2 (IntKind.u64.wrap (t202))) / 4294967296))))))) else (none)) else (none)))))
theorem bits_Div64.mono_l : ∀ k, (∀ y0 y1 y2 y3 y4 y5 y6 y7, LeO (bits_Div64.j2 k y0 y1 y2 y3 y4 y5 y6 y7) (bits_Div64.j2 (k + 1) y0 y1 y2 y3 y4 y5 y6 y7)) ∧ (∀ y0 y1 y2 y3 y4 y5 y6 y7 y8, LeO (bits_Div64.l1 k y0 y1 y2 y3 y4 y5 y6 y7 y8) (bits_Div64.l1 (k + 1) y0 y1 y2 y3 y4 y5 y6 y7 y8)) ∧ (∀ y0 y1 y2 y3 y4 y5 y6 y7 y8 y9, LeO (bits_Div64.j4 k y0 y1 y2 y3 y4 y5 y6 y7 y8 y9) (bits_Div64.j4 (k + 1) y0 y1 y2 y3 y4 y5 y6 y7 y8 y9)) ∧ (∀ y0 y1 y2 y3 y4 y5 y6 y7 y8, LeO (bits_Div64.l0 k y0 y1 y2 y3 y4 y5 y6 y7 y8) (bits_Div64.l0 (k + 1) y0 y1 y2 y3 y4 y5 y6 y7 y8)) ∧ (∀ y0 y1 y2 y3 y4 y5 y6 y7 y8 y9, LeO (bits_Div64.j1 k y0 y1 y2 y3 y4 y5 y6 y7 y8 y9) (bits_Div64.j1 (k + 1) y0 y1 y2 y3 y4 y5 y6 y7 y8 y9))
  | 0 => ⟨fun _ _ _ _ _ _ _ _ r h => by simp [bits_Div64.j2] at h, fun _ _ _ _ _ _ _ _ _ r h => by simp [bits_Div64.l1] at h, fun _ _ _ _ _ _ _ _ _ _ r h => by simp [bits_Div64.j4] at h, fun _ _ _ _ _ _ _ _ _ r h => by simp [bits_Div64.l0] at h, fun _ _ _ _ _ _ _ _ _ _ r h => by simp [bits_Div64.j1] at h⟩
  | k + 1 => by
    obtain ⟨ih0, ih1, ih2, ih3, ih4⟩ := bits_Div64.mono_l k
    refine ⟨?_, ?_, ?_, ?_, ?_⟩
    · intro y0 y1 y2 y3 y4 y5 y6 y7
      unfold bits_Div64.j2
      repeat' first
      | (with_reducible exact ih0 _ _ _ _ _ _ _ _)
      | (with_reducible exact ih1 _ _ _ _ _ _ _ _ _)
      | (with_reducible exact ih2 _ _ _ _ _ _ _ _ _ _)
      | (with_reducible exact ih3 _ _ _ _ _ _ _ _ _)
      | (with_reducible exact ih4 _ _ _ _ _ _ _ _ _ _)
      | (with_reducible exact bits_LeadingZeros64.mono _ _)
      | (with_reducible exact LeO.refl _)
      | (with_reducible exact LeO.none _)
      | (with_reducible refine LeO.ite ?_ ?_)
      | (with_reducible refine LeO.bind ?_ (fun _ => ?_))
      | exact ih0 _ _ _ _ _ _ _ _
      | exact ih1 _ _ _ _ _ _ _ _ _
      | exact ih2 _ _ _ _ _ _ _ _ _ _
      | exact ih3 _ _ _ _ _ _ _ _ _
      | exact ih4 _ _ _ _ _ _ _ _ _ _
      | exact bits_LeadingZeros64.mono _ _
      | exact LeO.none _
      | refine LeO.ite ?_ ?_
      | refine LeO.bind ?_ (fun _ => ?_)
    · intro y0 y1 y2 y3 y4 y5 y6 y7 y8
      unfold bits_Div64.l1
      repeat' first
      | (with_reducible exact ih0 _ _ _ _ _ _ _ _)
      | (with_reducible exact ih1 _ _ _ _ _ _ _ _ _)
      | (with_reducible exact ih2 _ _ _ _ _ _ _ _ _ _)
      | (with_reducible exact ih3 _ _ _ _ _ _ _ _ _)
      | (with_reducible exact ih4 _ _ _ _ _ _ _ _ _ _)
      | (with_reducible exact bits_LeadingZeros64.mono _ _)
      | (with_reducible exact LeO.refl _)
      | (with_reducible exact LeO.none _)
      | (with_reducible refine LeO.ite ?_ ?_)
      | (with_reducible refine LeO.bind ?_ (fun _ => ?_))
      | exact ih0 _ _ _ _ _ _ _ _
      | exact ih1 _ _ _ _ _ _ _ _ _
      | exact ih2 _ _ _ _ _ _ _ _ _ _
      | exact ih3 _ _ _ _ _ _ _ _ _
      | exact ih4 _ _ _ _ _ _ _ _ _ _
      | exact bits_LeadingZeros64.mono _ _
      | exact LeO.none _
      | refine LeO.ite ?_ ?_
      | refine LeO.bind ?_ (fun _ => ?_)
    · intro y0 y1 y2 y3 y4 y5 y6 y7 y8 y9
      unfold bits_Div64.j4
      repeat' first
      | (with_reducible exact ih0 _ _ _ _ _ _ _ _)
      | (with_reducible exact ih1 _ _ _ _ _ _ _ _ _)
      | (with_reducible exact ih2 _ _ _ _ _ _ _ _ _ _)
      | (with_reducible exact ih3 _ _ _ _ _ _ _ _ _)
      | (with_reducible exact ih4 _ _ _ _ _ _ _ _ _ _)
      | (with_reducible exact bits_LeadingZeros64.mono _ _)
      | (with_reducible exact LeO.refl _)
      | (with_reducible exact LeO.none _)
      | (with_reducible refine LeO.ite ?_ ?_)
      | (with_reducible refine LeO.bind ?_ (fun _ => ?_))
      | exact ih0 _ _ _ _ _ _ _ _
      | exact ih1 _ _ _ _ _ _ _ _ _
      | exact ih2 _ _ _ _ _ _ _ _ _ _
      | exact ih3 _ _ _ _ _ _ _ _ _
      | exact ih4 _ _ _ _ _ _ _ _ _ _
      | exact bits_LeadingZeros64.mono _ _
      | exact LeO.none _
      | refine LeO.ite ?_ ?_
      | refine LeO.bind ?_ (fun _ => ?_)
    · intro y0 y1 y2 y3 y4 y5 y6 y7 y8
      unfold bits_Div64.l0
      repeat' first
      | (with_reducible exact ih0 _ _ _ _ _ _ _ _)
      | (with_reducible exact ih1 _ _ _ _ _ _ _ _ _)
      | (with_reducible exact ih2 _ _ _ _ _ _ _ _ _ _)
      | (with_reducible exact ih3 _ _ _ _ _ _ _ _ _)
      | (with_reducible exact ih4 _ _ _ _ _ _ _ _ _ _)
      | (with_reducible exact bits_LeadingZeros64.mono _ _)
      | (with_reducible exact LeO.refl _)
      | (with_reducible exact LeO.none _)
      | (with_reducible refine LeO.ite ?_ ?_)
      | (with_reducible refine LeO.bind ?_ (fun _ => ?_))
      | exact ih0 _ _ _ _ _ _ _ _
      | exact ih1 _ _ _ _ _ _ _ _ _
      | exact ih2 _ _ _ _ _ _ _ _ _ _
      | exact ih3 _ _ _ _ _ _ _ _ _
      | exact ih4 _ _ _ _ _ _ _ _ _ _
      | exact bits_LeadingZeros64.mono _ _
      | exact LeO.none _
      | refine LeO.ite ?_ ?_
      | refine LeO.bind ?_ (fun _ => ?_)
    · intro y0 y1 y2 y3 y4 y5 y6 y7 y8 y9
      unfold bits_Div64.j1
      repeat' first
      | (with_reducible exact ih0 _ _ _ _ _ _ _ _)
      | (with_reducible exact ih1 _ _ _ _ _ _ _ _ _)
      | (with_reducible exact ih2 _ _ _ _ _ _ _ _ _ _)
      | (with_reducible exact ih3 _ _ _ _ _ _ _ _ _)
      | (with_reducible exact ih4 _ _ _ _ _ _ _ _ _ _)
      | (with_reducible exact bits_LeadingZeros64.mono _ _)
      | (with_reducible exact LeO.refl _)
      | (with_reducible exact LeO.none _)
      | (with_reducible refine LeO.ite ?_ ?_)
      | (with_reducible refine LeO.bind ?_ (fun _ => ?_))
      | exact ih0 _ _ _ _ _ _ _ _
      | exact ih1 _ _ _ _ _ _ _ _ _
      | exact ih2 _ _ _ _ _ _ _ _ _ _
      | exact ih3 _ _ _ _ _ _ _ _ _
      | exact ih4 _ _ _ _ _ _ _ _ _ _
      | exact bits_LeadingZeros64.mono _ _
      | exact LeO.none _
      | refine LeO.ite ?_ ?_
      | refine LeO.bind ?_ (fun _ => ?_)
theorem bits_Div64.mono : ∀ a0 a1 a2 k, LeO (bits_Div64.f k a0 a1 a2) (bits_Div64.f (k + 1) a0 a1 a2) := by
  intro a0 a1 a2 k
  obtain ⟨ih0, ih1, ih2, ih3, ih4⟩ := bits_Div64.mono_l k
  unfold bits_Div64.f
  repeat' first
      | (with_reducible exact ih0 _ _ _ _ _ _ _ _)
      | (with_reducible exact ih1 _ _ _ _ _ _ _ _ _)
      | (with_reducible exact ih2 _ _ _ _ _ _ _ _ _ _)
      | (with_reducible exact ih3 _ _ _ _ _ _ _ _ _)
      | (with_reducible exact ih4 _ _ _ _ _ _ _ _ _ _)
      | (with_reducible exact bits_LeadingZeros64.mono _ _)
      | (with_reducible exact LeO.refl _)
      | (with_reducible exact LeO.none _)
      | (with_reducible refine LeO.ite ?_ ?_)
      | (with_reducible refine LeO.bind ?_ (fun _ => ?_))
      | exact ih0 _ _ _ _ _ _ _ _
      | exact ih1 _ _ _ _ _ _ _ _ _
      | exact ih2 _ _ _ _ _ _ _ _ _ _
      | exact ih3 _ _ _ _ _ _ _ _ _
      | exact ih4 _ _ _ _ _ _ _ _ _ _
      | exact bits_LeadingZeros64.mono _ _
      | exact LeO.none _
      | refine LeO.ite ?_ ?_
      | refine LeO.bind ?_ (fun _ => ?_)
set_option maxHeartbeats 8000000 in
set_option maxRecDepth 100000 in
theorem bits_Div64.calls (k : Nat) (a0 : Int) (a1 : Int) (a2 : Int) (r1 : Int) (r2 : Int) (w : World) (h : bits_Div64.f k a0 a1 a2 = some (r1, r2)) (hq0 : ¬ a2 = 0) (hq1 : ¬ a2 ≤ a0) :
    Calls Try.prog 40 #[.int .u64 a0, .int .u64 a1, .int .u64 a2] w fun e w' => e = .returned (.tuple #[.int .u64 r1, .int .u64 r2]) ∧ Drawn0 w w' := by
  have H : (if a2 = 0 then (some (0, 0)) else (if a2 ≤ a0 then (some (0, 0)) else (if a0 = 0 then (some (IntKind.u64.wrap (Int.tdiv a1 a2), Int.tmod a1 a2)) else ((bits_LeadingZeros64.f k a2).bind fun t202 => (if 0 ≤ (IntKind.u64.wrap (t202)) then (if 0 ≤ (IntKind.u64.wrap (64 - (IntKind.u64.wrap (t202)))) then (if ((shl .u64 a2 (IntKind.u64.wrap (t202))) / 4294967296) = 0 then (none) else (bits_Div64.l0 k (shl .u64 a2 (IntKind.u64.wrap (t202))) (IntKind.u64.wrap (t202)) ((shl .u64 a2 (IntKind.u64.wrap (t202))) / 4294967296) (Go.bits .and .u64 (shl .u64 a2 (IntKind.u64.wrap (t202))) 4294967295) (Go.bits .or .u64 (shl .u64 a0 (IntKind.u64.wrap (t202))) (shr .u64 a1 (IntKind.u64.wrap (64 - (IntKind.u64.wrap (t202)))))) ((shl .u64 a1 (IntKind.u64.wrap (t202))) / 4294967296) (Go.bits .and .u64 (shl .u64 a1 (IntKind.u64.wrap (t202))) 4294967295) (IntKind.u64.wrap (Int.tdiv (Go.bits .or .u64 (shl .u64 a0 (IntKind.u64.wrap (t202))) (shr .u64 a1 (IntKind.u64.wrap (64 - (IntKind.u64.wrap (t202)))))) ((shl .u64 a2 (IntKind.u64.wrap (t202))) / 4294967296))) (IntKind.u64.wrap ((Go.bits .or .u64 (shl .u64 a0 (IntKind.u64.wrap (t202))) (shr .u64 a1 (IntKind.u64.wrap (64 - (IntKind.u64.wrap (t202)))))) - (IntKind.u64.wrap ((IntKind.u64.wrap (Int.tdiv (Go.bits .or .u64 (shl .u64 a0 (IntKind.u64.wrap (t202))) (shr .u64 a1 (IntKind.u64.wrap (64 - (IntKind.u64.wrap (t202)))))) ((shl .u64 a2 (IntKind.u64.wrap (t202))) / 4294967296))) * ((shl .u64 a2 (IntKind.u64.wrap (t202))) / 4294967296))))))) else (none)) else (none)))))) = some (r1, r2) := h
  clear h
  by_cases c4 : a2 = 0
  · exact absurd c4 hq0
  · rw [if_neg c4] at H
    have c4b0 : (a2 == 0) = false := beq_eq_false_iff_ne.mpr c4
    have c4b1 : (a2 != 0) = true := bne_iff_ne.mpr c4
    by_cases c5 : a2 ≤ a0
    · exact absurd c5 hq1
    · rw [if_neg c5] at H
      have c5b0 : decide (a2 ≤ a0) = false := decide_eq_false c5
      clear c5
      by_cases c6 : a0 = 0
      · rw [if_pos c6] at H
        have c6b0 : (a0 == 0) = true := beq_iff_eq.mpr c6
        have c6b1 : (a0 != 0) = false := bne_eq_false_iff_eq.mpr c6
        clear c6
        simp only [Option.some.injEq, Prod.mk.injEq] at H
        obtain ⟨rfl, rfl⟩ := H
        go_enter Try.func40, Try.ntmps40
        go_wp2
        repeat (go_quiet (fail); try go_wp2)
        go_ret2
        exact ⟨by first | rfl | (simp; done) | (simp [*]; done), by repeat (first | exact Drawn0.refl _ | apply Drawn0.step)⟩
      · rw [if_neg c6] at H
        have c6b0 : (a0 == 0) = false := beq_eq_false_iff_ne.mpr c6
        have c6b1 : (a0 != 0) = true := bne_iff_ne.mpr c6
        replace H := Option.bind_eq_some_iff.mp H
        obtain ⟨t202, A70, H⟩ := H
        replace H : (if 0 ≤ (IntKind.u64.wrap (t202)) then (if 0 ≤ (IntKind.u64.wrap (64 - (IntKind.u64.wrap (t202)))) then (if ((shl .u64 a2 (IntKind.u64.wrap (t202))) / 4294967296) = 0 then (none) else (bits_Div64.l0 k (shl .u64 a2 (IntKind.u64.wrap (t202))) (IntKind.u64.wrap (t202)) ((shl .u64 a2 (IntKind.u64.wrap (t202))) / 4294967296) (Go.bits .and .u64 (shl .u64 a2 (IntKind.u64.wrap (t202))) 4294967295) (Go.bits .or .u64 (shl .u64 a0 (IntKind.u64.wrap (t202))) (shr .u64 a1 (IntKind.u64.wrap (64 - (IntKind.u64.wrap (t202)))))) ((shl .u64 a1 (IntKind.u64.wrap (t202))) / 4294967296) (Go.bits .and .u64 (shl .u64 a1 (IntKind.u64.wrap (t202))) 4294967295) (IntKind.u64.wrap (Int.tdiv (Go.bits .or .u64 (shl .u64 a0 (IntKind.u64.wrap (t202))) (shr .u64 a1 (IntKind.u64.wrap (64 - (IntKind.u64.wrap (t202)))))) ((shl .u64 a2 (IntKind.u64.wrap (t202))) / 4294967296))) (IntKind.u64.wrap ((Go.bits .or .u64 (shl .u64 a0 (IntKind.u64.wrap (t202))) (shr .u64 a1 (IntKind.u64.wrap (64 - (IntKind.u64.wrap (t202)))))) - (IntKind.u64.wrap ((IntKind.u64.wrap (Int.tdiv (Go.bits .or .u64 (shl .u64 a0 (IntKind.u64.wrap (t202))) (shr .u64 a1 (IntKind.u64.wrap (64 - (IntKind.u64.wrap (t202)))))) ((shl .u64 a2 (IntKind.u64.wrap (t202))) / 4294967296))) * ((shl .u64 a2 (IntKind.u64.wrap (t202))) / 4294967296))))))) else (none)) else (none)) = some (r1, r2) := H
        have A7 := Aside0.mk A70
        clear A70
        obtain ⟨ji8, hji8⟩ : ∃ j_ : Int, (IntKind.u64.wrap (t202)) = j_ := ⟨_, rfl⟩
        replace H : (if 0 ≤ (ji8) then (if 0 ≤ (IntKind.u64.wrap (64 - (ji8))) then (if ((shl .u64 a2 (ji8)) / 4294967296) = 0 then (none) else (bits_Div64.l0 k (shl .u64 a2 (ji8)) ji8 ((shl .u64 a2 (ji8)) / 4294967296) (Go.bits .and .u64 (shl .u64 a2 (ji8)) 4294967295) (Go.bits .or .u64 (shl .u64 a0 (ji8)) (shr .u64 a1 (IntKind.u64.wrap (64 - (ji8))))) ((shl .u64 a1 (ji8)) / 4294967296) (Go.bits .and .u64 (shl .u64 a1 (ji8)) 4294967295) (IntKind.u64.wrap (Int.tdiv (Go.bits .or .u64 (shl .u64 a0 (ji8)) (shr .u64 a1 (IntKind.u64.wrap (64 - (ji8))))) ((shl .u64 a2 (ji8)) / 4294967296))) (IntKind.u64.wrap ((Go.bits .or .u64 (shl .u64 a0 (ji8)) (shr .u64 a1 (IntKind.u64.wrap (64 - (ji8))))) - (IntKind.u64.wrap ((IntKind.u64.wrap (Int.tdiv (Go.bits .or .u64 (shl .u64 a0 (ji8)) (shr .u64 a1 (IntKind.u64.wrap (64 - (ji8))))) ((shl .u64 a2 (ji8)) / 4294967296))) * ((shl .u64 a2 (ji8)) / 4294967296))))))) else (none)) else (none)) = some (r1, r2) := by first | (rw [hji8] at H; exact H) | (simp only [hji8] at H ⊢; exact H)
        (try rw [hji8] at A7)
        by_cases c9 : 0 ≤ (ji8)
        · rw [if_pos c9] at H
          have c9b0 := eq_true c9
          have c9b1 : decide (0 ≤ (ji8)) = true := decide_eq_true c9
          clear c9
          obtain ⟨ji10, hji10⟩ : ∃ j_ : Int, (shl .u64 a2 (ji8)) = j_ := ⟨_, rfl⟩
          replace H : (if 0 ≤ (IntKind.u64.wrap (64 - (ji8))) then (if ((ji10) / 4294967296) = 0 then (none) else (bits_Div64.l0 k ji10 ji8 ((ji10) / 4294967296) (Go.bits .and .u64 (ji10) 4294967295) (Go.bits .or .u64 (shl .u64 a0 (ji8)) (shr .u64 a1 (IntKind.u64.wrap (64 - (ji8))))) ((shl .u64 a1 (ji8)) / 4294967296) (Go.bits .and .u64 (shl .u64 a1 (ji8)) 4294967295) (IntKind.u64.wrap (Int.tdiv (Go.bits .or .u64 (shl .u64 a0 (ji8)) (shr .u64 a1 (IntKind.u64.wrap (64 - (ji8))))) ((ji10) / 4294967296))) (IntKind.u64.wrap ((Go.bits .or .u64 (shl .u64 a0 (ji8)) (shr .u64 a1 (IntKind.u64.wrap (64 - (ji8))))) - (IntKind.u64.wrap ((IntKind.u64.wrap (Int.tdiv (Go.bits .or .u64 (shl .u64 a0 (ji8)) (shr .u64 a1 (IntKind.u64.wrap (64 - (ji8))))) ((ji10) / 4294967296))) * ((ji10) / 4294967296))))))) else (none)) = some (r1, r2) := by first | (rw [hji10] at H; exact H) | (simp only [hji10] at H ⊢; exact H)
          (try rw [hji10] at A7)
          have hji10_ : (IntKind.u64.wrap (a2 * 2 ^ min (ji8).toNat 64)) = ji10 := hji10
          have hji10z : (ji8) ≤ 64 → (IntKind.u64.wrap (a2 * 2 ^ (ji8).toNat)) = ji10 := shl_small hji10
          have c11b0 := eq_true (of_decide_eq_true (by first | (with_reducible assumption) | assumption) : 0 ≤ (ji8))
          obtain ⟨ji12, hji12⟩ : ∃ j_ : Int, (shl .u64 a0 (ji8)) = j_ := ⟨_, rfl⟩
          replace H : (if 0 ≤ (IntKind.u64.wrap (64 - (ji8))) then (if ((ji10) / 4294967296) = 0 then (none) else (bits_Div64.l0 k ji10 ji8 ((ji10) / 4294967296) (Go.bits .and .u64 (ji10) 4294967295) (Go.bits .or .u64 (ji12) (shr .u64 a1 (IntKind.u64.wrap (64 - (ji8))))) ((shl .u64 a1 (ji8)) / 4294967296) (Go.bits .and .u64 (shl .u64 a1 (ji8)) 4294967295) (IntKind.u64.wrap (Int.tdiv (Go.bits .or .u64 (ji12) (shr .u64 a1 (IntKind.u64.wrap (64 - (ji8))))) ((ji10) / 4294967296))) (IntKind.u64.wrap ((Go.bits .or .u64 (ji12) (shr .u64 a1 (IntKind.u64.wrap (64 - (ji8))))) - (IntKind.u64.wrap ((IntKind.u64.wrap (Int.tdiv (Go.bits .or .u64 (ji12) (shr .u64 a1 (IntKind.u64.wrap (64 - (ji8))))) ((ji10) / 4294967296))) * ((ji10) / 4294967296))))))) else (none)) = some (r1, r2) := by first | (rw [hji12] at H; exact H) | (simp only [hji12] at H ⊢; exact H)
          (try rw [hji12] at A7)
          have hji12_ : (IntKind.u64.wrap (a0 * 2 ^ min (ji8).toNat 64)) = ji12 := hji12
          have hji12z : (ji8) ≤ 64 → (IntKind.u64.wrap (a0 * 2 ^ (ji8).toNat)) = ji12 := shl_small hji12
          obtain ⟨ji13, hji13⟩ : ∃ j_ : Int, (IntKind.u64.wrap (64 - (ji8))) = j_ := ⟨_, rfl⟩
          replace H : (if 0 ≤ (ji13) then (if ((ji10) / 4294967296) = 0 then (none) else (bits_Div64.l0 k ji10 ji8 ((ji10) / 4294967296) (Go.bits .and .u64 (ji10) 4294967295) (Go.bits .or .u64 (ji12) (shr .u64 a1 (ji13))) ((shl .u64 a1 (ji8)) / 4294967296) (Go.bits .and .u64 (shl .u64 a1 (ji8)) 4294967295) (IntKind.u64.wrap (Int.tdiv (Go.bits .or .u64 (ji12) (shr .u64 a1 (ji13))) ((ji10) / 4294967296))) (IntKind.u64.wrap ((Go.bits .or .u64 (ji12) (shr .u64 a1 (ji13))) - (IntKind.u64.wrap ((IntKind.u64.wrap (Int.tdiv (Go.bits .or .u64 (ji12) (shr .u64 a1 (ji13))) ((ji10) / 4294967296))) * ((ji10) / 4294967296))))))) else (none)) = some (r1, r2) := by first | (rw [hji13] at H; exact H) | (simp only [hji13] at H ⊢; exact H)
          (try rw [hji13] at A7)
          by_cases c14 : 0 ≤ (ji13)
          · rw [if_pos c14] at H
            have c14b0 := eq_true c14
            have c14b1 : decide (0 ≤ (ji13)) = true := decide_eq_true c14
            clear c14
            obtain ⟨ji15, hji15⟩ : ∃ j_ : Int, (shr .u64 a1 (ji13)) = j_ := ⟨_, rfl⟩
            replace H : (if ((ji10) / 4294967296) = 0 then (none) else (bits_Div64.l0 k ji10 ji8 ((ji10) / 4294967296) (Go.bits .and .u64 (ji10) 4294967295) (Go.bits .or .u64 (ji12) (ji15)) ((shl .u64 a1 (ji8)) / 4294967296) (Go.bits .and .u64 (shl .u64 a1 (ji8)) 4294967295) (IntKind.u64.wrap (Int.tdiv (Go.bits .or .u64 (ji12) (ji15)) ((ji10) / 4294967296))) (IntKind.u64.wrap ((Go.bits .or .u64 (ji12) (ji15)) - (IntKind.u64.wrap ((IntKind.u64.wrap (Int.tdiv (Go.bits .or .u64 (ji12) (ji15)) ((ji10) / 4294967296))) * ((ji10) / 4294967296))))))) = some (r1, r2) := by first | (rw [hji15] at H; exact H) | (simp only [hji15] at H ⊢; exact H)
            (try rw [hji15] at A7)
            have hji15_ : (a1 / 2 ^ min (ji13).toNat 64) = ji15 := hji15
            have hji15z : (ji13) ≤ 64 → (a1 / 2 ^ (ji13).toNat) = ji15 := shr_small hji15
            have c16b0 := eq_true (of_decide_eq_true (by first | (with_reducible assumption) | assumption) : 0 ≤ (ji8))
            obtain ⟨ji17, hji17⟩ : ∃ j_ : Int, (shl .u64 a1 (ji8)) = j_ := ⟨_, rfl⟩
            replace H : (if ((ji10) / 4294967296) = 0 then (none) else (bits_Div64.l0 k ji10 ji8 ((ji10) / 4294967296) (Go.bits .and .u64 (ji10) 4294967295) (Go.bits .or .u64 (ji12) (ji15)) ((ji17) / 4294967296) (Go.bits .and .u64 (ji17) 4294967295) (IntKind.u64.wrap (Int.tdiv (Go.bits .or .u64 (ji12) (ji15)) ((ji10) / 4294967296))) (IntKind.u64.wrap ((Go.bits .or .u64 (ji12) (ji15)) - (IntKind.u64.wrap ((IntKind.u64.wrap (Int.tdiv (Go.bits .or .u64 (ji12) (ji15)) ((ji10) / 4294967296))) * ((ji10) / 4294967296))))))) = some (r1, r2) := by first | (rw [hji17] at H; exact H) | (simp only [hji17] at H ⊢; exact H)
            (try rw [hji17] at A7)
            have hji17_ : (IntKind.u64.wrap (a1 * 2 ^ min (ji8).toNat 64)) = ji17 := hji17
            have hji17z : (ji8) ≤ 64 → (IntKind.u64.wrap (a1 * 2 ^ (ji8).toNat)) = ji17 := shl_small hji17
            by_cases c18 : ((ji10) / 4294967296) = 0
            · rw [if_pos c18] at H
              exact absurd H (by simp)
            · rw [if_neg c18] at H
              have c18b0 : (((ji10) / 4294967296) == 0) = false := beq_eq_false_iff_ne.mpr c18
              have c18b1 : (((ji10) / 4294967296) != 0) = true := bne_iff_ne.mpr c18
              have HC19 := Aside0.mk H
              clear H
              go_enter Try.func40, Try.ntmps40
              go_upto_block 0 with (first | (go_at_call 67; (with_reducible refine (bits_LeadingZeros64.calls k a2 t202 _ A7.out).mono ?_); rintro e w' ⟨rfl, ⟨nd, rfl⟩⟩; (try first | exact ⟨rfl, _, World.drewN_drewN _ _ _⟩ | exact ⟨rfl, _, Eq.trans (World.drewN_drewN _ _ _) (congrArg (World.drewN _) (Nat.add_assoc _ _ _))⟩)))
              repeat (go_quiet (first | (go_at_call 67; (with_reducible refine (bits_LeadingZeros64.calls k a2 t202 _ A7.out).mono ?_); rintro e w' ⟨rfl, ⟨nd, rfl⟩⟩; (try first | exact ⟨rfl, _, World.drewN_drewN _ _ _⟩ | exact ⟨rfl, _, Eq.trans (World.drewN_drewN _ _ _) (congrArg (World.drewN _) (Nat.add_assoc _ _ _))⟩))); go_upto_block 0 with (first | (go_at_call 67; (with_reducible refine (bits_LeadingZeros64.calls k a2 t202 _ A7.out).mono ?_); rintro e w' ⟨rfl, ⟨nd, rfl⟩⟩; (try first | exact ⟨rfl, _, World.drewN_drewN _ _ _⟩ | exact ⟨rfl, _, Eq.trans (World.drewN_drewN _ _ _) (congrArg (World.drewN _) (Nat.add_assoc _ _ _))⟩))))
              (try simp only [Act.put, List.setIfInBounds_toArray, List.set_cons_zero, List.set_cons_succ])
              go_cut [15] (fun v15 wc => ∃ (kq : Nat) (x15_18 : Int), v15 = .int .u64 x15_18 ∧ Aside0 (bits_Div64.j2 kq ji10 ji8 ((ji10) / 4294967296) (Go.bits .and .u64 (ji10) 4294967295) (Go.bits .or .u64 (ji12) (ji15)) ((ji17) / 4294967296) (Go.bits .and .u64 (ji17) 4294967295) x15_18 = some (r1, r2)) ∧ Aside0 (kq ≤ k) ∧ Drawn0 w wc)
              case first =>
                have H := HC19.out
                clear HC19
                have H' := Aside0.mk H
                clear H
                go_wp2
                repeat (go_quiet (fail); try go_wp2)
                go_loopg [15, 16] k (fun kq v15 v16 w' => ∃ (x15_1 : Int) (x16_1 : Int), v15 = .int .u64 x15_1 ∧ v16 = .int .u64 x16_1 ∧ Aside0 (bits_Div64.l0 kq ji10 ji8 ((ji10) / 4294967296) (Go.bits .and .u64 (ji10) 4294967295) (Go.bits .or .u64 (ji12) (ji15)) ((ji17) / 4294967296) (Go.bits .and .u64 (ji17) 4294967295) x15_1 x16_1 = some (r1, r2)) ∧ Aside0 (kq ≤ k) ∧ Drawn0 w w')
                case atStart => exact ⟨(IntKind.u64.wrap (Int.tdiv (Go.bits .or .u64 (ji12) (ji15)) ((ji10) / 4294967296))), (IntKind.u64.wrap ((Go.bits .or .u64 (ji12) (ji15)) - (IntKind.u64.wrap ((IntKind.u64.wrap (Int.tdiv (Go.bits .or .u64 (ji12) (ji15)) ((ji10) / 4294967296))) * ((ji10) / 4294967296))))), (by first | rfl | (simp; done) | (simp only [← hji10, ← hji12, ← hji15] <;> (first | rfl | simp)) | (simp [*]; done)), (by first | rfl | (simp; done) | (simp only [← hji10, ← hji12, ← hji15] <;> (first | rfl | simp)) | (simp [*]; done)), H', ⟨Nat.le_refl _⟩, by repeat (first | exact Drawn0.refl _ | apply Drawn0.step)⟩
                case round =>
                  clear H'
                  try clear c1
                  try clear p2
                  try clear c4
                  try clear c4b0
                  try clear c4b1
                  try clear c5
                  try clear c5b0
                  try clear c6
                  try clear c6b0
                  try clear c6b1
                  try clear c9
                  try clear c9b0
                  try clear c9b1
                  try clear c11
                  try clear c11b0
                  try clear c14
                  try clear c14b0
                  try clear c14b1
                  try clear c16
                  try clear c16b0
                  try clear c18
                  try clear c18b0
                  try clear c18b1
                  obtain ⟨x15_1, x16_1, rfl, rfl, HA, HK1, ⟨m1, rfl⟩⟩ := hrel
                  cases gk with
                  | zero => exact absurd HA.out (by simp [bits_Div64.l0])
                  | succ k1 =>
                    have H := HA.out
                    clear HA
                    simp only [bits_Div64.l0] at H
                    have HC20 := Aside0.mk H
                    clear H
                    go_upto_region 17 with (fail)
                    repeat (go_quiet (fail); go_upto_region 17 with (fail))
                    go_cut [78] (fun v78 wc => ∃ (kq : Nat) (x78_19 : Bool), v78 = .bool x78_19 ∧ Aside0 (bits_Div64.j1 kq ji10 ji8 ((ji10) / 4294967296) (Go.bits .and .u64 (ji10) 4294967295) (Go.bits .or .u64 (ji12) (ji15)) ((ji17) / 4294967296) (Go.bits .and .u64 (ji17) 4294967295) x15_1 x16_1 x78_19 = some (r1, r2)) ∧ Aside0 (kq ≤ k1) ∧ Drawn0 w wc)
                    case first =>
                      have H := HC20.out
                      clear HC20
                      by_cases c21 : x15_1 ≥ 4294967296
                      · rw [if_pos c21] at H
                        have c21b0 : decide (4294967296 ≤ x15_1) = true := decide_eq_true c21
                        clear c21
                        (first | rw [c21b0] | (simp only [i64_w, i32_w]; rw [c21b0]) | skip)
                        have H' := Aside0.mk H
                        clear H
                        go_wp2
                        repeat (go_quiet (fail); try go_wp2)
                        go_meet
                        case rel => exact ⟨_, (true), (by first | rfl | (simp; done) | (simp [*]; done)), H', ⟨by have := HK1.out; first | omega | exact Nat.le_refl _⟩, by repeat (first | exact Drawn0.refl _ | apply Drawn0.step)⟩
                      · rw [if_neg c21] at H
                        have c21b0 : decide (4294967296 ≤ x15_1) = false := decide_eq_false c21
                        clear c21
                        (first | rw [c21b0] | (simp only [i64_w, i32_w]; rw [c21b0]) | skip)
                        have H' := Aside0.mk H
                        clear H
                        go_wp2
                        repeat (go_quiet (fail); try go_wp2)
                        go_meet
                        case rel => exact ⟨_, (decide ((IntKind.u64.wrap (x15_1 * (Go.bits .and .u64 (ji10) 4294967295))) > (IntKind.u64.wrap ((IntKind.u64.wrap (4294967296 * x16_1)) + ((ji17) / 4294967296))))), (by first | rfl | (simp; done) | (simp only [← hji10, ← hji17] <;> (first | rfl | simp)) | (simp [*]; done)), H', ⟨by have := HK1.out; first | omega | exact Nat.le_refl _⟩, by repeat (first | exact Drawn0.refl _ | apply Drawn0.step)⟩
                    case rest =>
                      clear HC20
                      try clear c1
                      try clear c2
                      try clear p2
                      try clear c4
                      try clear c4b0
                      try clear c4b1
                      try clear c5
                      try clear c5b0
                      try clear c6
                      try clear c6b0
                      try clear c6b1
                      try clear c9
                      try clear c9b0
                      try clear c9b1
                      try clear c11
                      try clear c11b0
                      try clear c14
                      try clear c14b0
                      try clear c14b1
                      try clear c16
                      try clear c16b0
                      try clear c18
                      try clear c18b0
                      try clear c18b1
                      try clear c21
                      try clear c21b0
                      try clear p2
                      obtain ⟨kq, x78_19, rfl, HA, HJ19, ⟨mc19, rfl⟩⟩ := hcut
                      cases kq with
                      | zero => exact absurd HA.out (by simp [bits_Div64.j1])
                      | succ kj19 =>
                        have H := HA.out
                        clear HA
                        simp only [bits_Div64.j1] at H
                        by_cases c22 : x78_19 = true
                        · subst c22
                          have H1 : (if (IntKind.u64.wrap (x16_1 + ((ji10) / 4294967296))) ≥ 4294967296 then (bits_Div64.j2 kj19 ji10 ji8 ((ji10) / 4294967296) (Go.bits .and .u64 (ji10) 4294967295) (Go.bits .or .u64 (ji12) (ji15)) ((ji17) / 4294967296) (Go.bits .and .u64 (ji17) 4294967295) (IntKind.u64.wrap (x15_1 - 1))) else (bits_Div64.l0 kj19 ji10 ji8 ((ji10) / 4294967296) (Go.bits .and .u64 (ji10) 4294967295) (Go.bits .or .u64 (ji12) (ji15)) ((ji17) / 4294967296) (Go.bits .and .u64 (ji17) 4294967295) (IntKind.u64.wrap (x15_1 - 1)) (IntKind.u64.wrap (x16_1 + ((ji10) / 4294967296))))) = some (r1, r2) := by rw [if_pos rfl] at H; exact H
                          clear H
                          have H := H1
                          clear H1
                          by_cases c23 : (IntKind.u64.wrap (x16_1 + ((ji10) / 4294967296))) ≥ 4294967296
                          · rw [if_pos c23] at H
                            have c23b0 : decide (4294967296 ≤ (IntKind.u64.wrap (x16_1 + ((ji10) / 4294967296)))) = true := decide_eq_true c23
                            clear c23
                            have H' := Aside0.mk H
                            clear H
                            go_wp2
                            repeat (go_quiet (fail); try go_wp2)
                            go_meet
                            case rel => exact ⟨_, (IntKind.u64.wrap (x15_1 - 1)), (by first | rfl | (simp; done) | (simp [*]; done)), H', ⟨by have := HK1.out; have := HJ19.out; first | omega | exact Nat.le_refl _⟩, by repeat (first | exact Drawn0.refl _ | apply Drawn0.step)⟩
                          · rw [if_neg c23] at H
                            have c23b0 : decide (4294967296 ≤ (IntKind.u64.wrap (x16_1 + ((ji10) / 4294967296)))) = false := decide_eq_false c23
                            clear c23
                            have H' := Aside0.mk H
                            clear H
                            go_wp2
                            repeat (go_quiet (fail); try go_wp2)
                            go_roundg kj19
                            case measure => have := HK1.out; have := HJ19.out; omega
                            case rel => exact ⟨(IntKind.u64.wrap (x15_1 - 1)), (IntKind.u64.wrap (x16_1 + ((ji10) / 4294967296))), (by first | rfl | (simp; done) | (simp [*]; done)), (by first | rfl | (simp; done) | (simp only [← hji10] <;> (first | rfl | simp)) | (simp [*]; done)), H', ⟨by have := HK1.out; have := HJ19.out; omega⟩, by repeat (first | exact Drawn0.refl _ | apply Drawn0.step)⟩
                        · replace c22 := Bool.eq_false_iff.mpr c22
                          subst c22
                          have H1 : (bits_Div64.j2 kj19 ji10 ji8 ((ji10) / 4294967296) (Go.bits .and .u64 (ji10) 4294967295) (Go.bits .or .u64 (ji12) (ji15)) ((ji17) / 4294967296) (Go.bits .and .u64 (ji17) 4294967295) x15_1) = some (r1, r2) := by rw [if_neg (show ¬ (false = true) by decide)] at H; exact H
                          clear H
                          have H := H1
                          clear H1
                          have H' := Aside0.mk H
                          clear H
                          go_wp2
                          repeat (go_quiet (fail); try go_wp2)
                          go_meet
                          case rel => exact ⟨_, (x15_1), (by first | rfl | (simp; done) | (simp [*]; done)), H', ⟨by have := HK1.out; have := HJ19.out; first | omega | exact Nat.le_refl _⟩, by repeat (first | exact Drawn0.refl _ | apply Drawn0.step)⟩
              case rest =>
                clear HC19
                try clear c1
                try clear c2
                try clear p2
                try clear c4
                try clear c4b0
                try clear c4b1
                try clear c5
                try clear c5b0
                try clear c6
                try clear c6b0
                try clear c6b1
                try clear c9
                try clear c9b0
                try clear c9b1
                try clear c11
                try clear c11b0
                try clear c14
                try clear c14b0
                try clear c14b1
                try clear c16
                try clear c16b0
                try clear c18
                try clear c18b0
                try clear c18b1
                try clear c19
                try clear c21
                try clear c21b0
                try clear c22
                try clear c23
                try clear c23b0
                try clear p2
                obtain ⟨kq, x15_18, rfl, HA, HJ18, ⟨mc18, rfl⟩⟩ := hcut
                cases kq with
                | zero => exact absurd HA.out (by simp [bits_Div64.j2])
                | succ kj18 =>
                  have H := HA.out
                  clear HA
                  simp only [bits_Div64.j2] at H
                  by_cases c24 : ((ji10) / 4294967296) = 0
                  · rw [if_pos c24] at H
                    exact absurd H (by simp)
                  · rw [if_neg c24] at H
                    have c24b0 : (((ji10) / 4294967296) == 0) = false := beq_eq_false_iff_ne.mpr c24
                    have c24b1 : (((ji10) / 4294967296) != 0) = true := bne_iff_ne.mpr c24
                    have H' := Aside0.mk H
                    clear H
                    go_wp2
                    repeat (go_quiet (fail); try go_wp2)
                    go_loopg [16, 18] kj18 (fun kq v16 v18 w' => ∃ (x16_2 : Int) (x18_2 : Int), v16 = .int .u64 x16_2 ∧ v18 = .int .u64 x18_2 ∧ Aside0 (bits_Div64.l1 kq ji10 ji8 ((ji10) / 4294967296) (Go.bits .and .u64 (ji10) 4294967295) (Go.bits .and .u64 (ji17) 4294967295) x15_18 x16_2 (IntKind.u64.wrap ((IntKind.u64.wrap ((IntKind.u64.wrap ((Go.bits .or .u64 (ji12) (ji15)) * 4294967296)) + ((ji17) / 4294967296))) - (IntKind.u64.wrap (x15_18 * ji10)))) x18_2 = some (r1, r2)) ∧ Aside0 (kq ≤ kj18) ∧ Drawn0 w w')
                    case atStart => exact ⟨(IntKind.u64.wrap ((IntKind.u64.wrap ((IntKind.u64.wrap ((IntKind.u64.wrap ((Go.bits .or .u64 (ji12) (ji15)) * 4294967296)) + ((ji17) / 4294967296))) - (IntKind.u64.wrap (x15_18 * ji10)))) - (IntKind.u64.wrap ((IntKind.u64.wrap (Int.tdiv (IntKind.u64.wrap ((IntKind.u64.wrap ((IntKind.u64.wrap ((Go.bits .or .u64 (ji12) (ji15)) * 4294967296)) + ((ji17) / 4294967296))) - (IntKind.u64.wrap (x15_18 * ji10)))) ((ji10) / 4294967296))) * ((ji10) / 4294967296))))), (IntKind.u64.wrap (Int.tdiv (IntKind.u64.wrap ((IntKind.u64.wrap ((IntKind.u64.wrap ((Go.bits .or .u64 (ji12) (ji15)) * 4294967296)) + ((ji17) / 4294967296))) - (IntKind.u64.wrap (x15_18 * ji10)))) ((ji10) / 4294967296))), (by first | rfl | (simp; done) | (simp only [← hji10, ← hji12, ← hji15, ← hji17] <;> (first | rfl | simp)) | (simp [*]; done)), (by first | rfl | (simp; done) | (simp only [← hji10, ← hji12, ← hji15, ← hji17] <;> (first | rfl | simp)) | (simp [*]; done)), H', ⟨Nat.le_refl _⟩, by repeat (first | exact Drawn0.refl _ | apply Drawn0.step)⟩
                    case round =>
                      clear H'
                      try clear c1
                      try clear c2
                      try clear p2
                      try clear c4
                      try clear c4b0
                      try clear c4b1
                      try clear c5
                      try clear c5b0
                      try clear c6
                      try clear c6b0
                      try clear c6b1
                      try clear c9
                      try clear c9b0
                      try clear c9b1
                      try clear c11
                      try clear c11b0
                      try clear c14
                      try clear c14b0
                      try clear c14b1
                      try clear c16
                      try clear c16b0
                      try clear c18
                      try clear c18b0
                      try clear c18b1
                      try clear c19
                      try clear c21
                      try clear c21b0
                      try clear c22
                      try clear c23
                      try clear c23b0
                      try clear c24
                      try clear c24b0
                      try clear c24b1
                      try clear p2
                      obtain ⟨x16_2, x18_2, rfl, rfl, HA, HK2, ⟨m2, rfl⟩⟩ := hrel
                      cases gk with
                      | zero => exact absurd HA.out (by simp [bits_Div64.l1])
                      | succ k2 =>
                        have H := HA.out
                        clear HA
                        simp only [bits_Div64.l1] at H
                        have HC25 := Aside0.mk H
                        clear H
                        go_upto_region 24 with (fail)
                        repeat (go_quiet (fail); go_upto_region 24 with (fail))
                        go_cut [113] (fun v113 wc => ∃ (kq : Nat) (x113_24 : Bool), v113 = .bool x113_24 ∧ Aside0 (bits_Div64.j4 kq ji10 ji8 ((ji10) / 4294967296) (Go.bits .and .u64 (ji10) 4294967295) (Go.bits .and .u64 (ji17) 4294967295) x15_18 x16_2 (IntKind.u64.wrap ((IntKind.u64.wrap ((IntKind.u64.wrap ((Go.bits .or .u64 (ji12) (ji15)) * 4294967296)) + ((ji17) / 4294967296))) - (IntKind.u64.wrap (x15_18 * ji10)))) x18_2 x113_24 = some (r1, r2)) ∧ Aside0 (kq ≤ k2) ∧ Drawn0 w wc)
                        case first =>
                          have H := HC25.out
                          clear HC25
                          by_cases c26 : x18_2 ≥ 4294967296
                          · rw [if_pos c26] at H
                            have c26b0 : decide (4294967296 ≤ x18_2) = true := decide_eq_true c26
                            clear c26
                            (first | rw [c26b0] | (simp only [i64_w, i32_w]; rw [c26b0]) | skip)
                            have H' := Aside0.mk H
                            clear H
                            go_wp2
                            repeat (go_quiet (fail); try go_wp2)
                            go_meet
                            case rel => exact ⟨_, (true), (by first | rfl | (simp; done) | (simp [*]; done)), H', ⟨by have := HJ18.out; have := HK2.out; first | omega | exact Nat.le_refl _⟩, by repeat (first | exact Drawn0.refl _ | apply Drawn0.step)⟩
                          · rw [if_neg c26] at H
                            have c26b0 : decide (4294967296 ≤ x18_2) = false := decide_eq_false c26
                            clear c26
                            (first | rw [c26b0] | (simp only [i64_w, i32_w]; rw [c26b0]) | skip)
                            have H' := Aside0.mk H
                            clear H
                            go_wp2
                            repeat (go_quiet (fail); try go_wp2)
                            go_meet
                            case rel => exact ⟨_, (decide ((IntKind.u64.wrap (x18_2 * (Go.bits .and .u64 (ji10) 4294967295))) > (IntKind.u64.wrap ((IntKind.u64.wrap (4294967296 * x16_2)) + (Go.bits .and .u64 (ji17) 4294967295))))), (by first | rfl | (simp; done) | (simp only [← hji10, ← hji17] <;> (first | rfl | simp)) | (simp [*]; done)), H', ⟨by have := HJ18.out; have := HK2.out; first | omega | exact Nat.le_refl _⟩, by repeat (first | exact Drawn0.refl _ | apply Drawn0.step)⟩
                        case rest =>
                          clear HC25
                          try clear c1
                          try clear c2
                          try clear p2
                          try clear c4
                          try clear c4b0
                          try clear c4b1
                          try clear c5
                          try clear c5b0
                          try clear c6
                          try clear c6b0
                          try clear c6b1
                          try clear c9
                          try clear c9b0
                          try clear c9b1
                          try clear c11
                          try clear c11b0
                          try clear c14
                          try clear c14b0
                          try clear c14b1
                          try clear c16
                          try clear c16b0
                          try clear c18
                          try clear c18b0
                          try clear c18b1
                          try clear c19
                          try clear c21
                          try clear c21b0
                          try clear c22
                          try clear c23
                          try clear c23b0
                          try clear c24
                          try clear c24b0
                          try clear c24b1
                          try clear c26
                          try clear c26b0
                          try clear p2
                          obtain ⟨kq, x113_24, rfl, HA, HJ24, ⟨mc24, rfl⟩⟩ := hcut
                          cases kq with
                          | zero => exact absurd HA.out (by simp [bits_Div64.j4])
                          | succ kj24 =>
                            have H := HA.out
                            clear HA
                            simp only [bits_Div64.j4] at H
                            by_cases c27 : x113_24 = true
                            · subst c27
                              have H1 : (if (IntKind.u64.wrap (x16_2 + ((ji10) / 4294967296))) ≥ 4294967296 then (if 0 ≤ ji8 then (some (IntKind.u64.wrap ((IntKind.u64.wrap (x15_18 * 4294967296)) + (IntKind.u64.wrap (x18_2 - 1))), shr .u64 (IntKind.u64.wrap ((IntKind.u64.wrap ((IntKind.u64.wrap ((IntKind.u64.wrap ((IntKind.u64.wrap ((IntKind.u64.wrap ((Go.bits .or .u64 (ji12) (ji15)) * 4294967296)) + ((ji17) / 4294967296))) - (IntKind.u64.wrap (x15_18 * ji10)))) * 4294967296)) + (Go.bits .and .u64 (ji17) 4294967295))) - (IntKind.u64.wrap ((IntKind.u64.wrap (x18_2 - 1)) * ji10)))) ji8)) else (none)) else (bits_Div64.l1 kj24 ji10 ji8 ((ji10) / 4294967296) (Go.bits .and .u64 (ji10) 4294967295) (Go.bits .and .u64 (ji17) 4294967295) x15_18 (IntKind.u64.wrap (x16_2 + ((ji10) / 4294967296))) (IntKind.u64.wrap ((IntKind.u64.wrap ((IntKind.u64.wrap ((Go.bits .or .u64 (ji12) (ji15)) * 4294967296)) + ((ji17) / 4294967296))) - (IntKind.u64.wrap (x15_18 * ji10)))) (IntKind.u64.wrap (x18_2 - 1)))) = some (r1, r2) := by rw [if_pos rfl] at H; exact H
                              clear H
                              have H := H1
                              clear H1
                              by_cases c28 : (IntKind.u64.wrap (x16_2 + ((ji10) / 4294967296))) ≥ 4294967296
                              · rw [if_pos c28] at H
                                have c28b0 : decide (4294967296 ≤ (IntKind.u64.wrap (x16_2 + ((ji10) / 4294967296)))) = true := decide_eq_true c28
                                clear c28
                                by_cases c29 : 0 ≤ ji8
                                · rw [if_pos c29] at H
                                  have c29b0 := eq_true c29
                                  have c29b1 : decide (0 ≤ ji8) = true := decide_eq_true c29
                                  clear c29
                                  obtain ⟨ji30, hji30⟩ : ∃ j_ : Int, (shr .u64 (IntKind.u64.wrap ((IntKind.u64.wrap ((IntKind.u64.wrap ((IntKind.u64.wrap ((IntKind.u64.wrap ((IntKind.u64.wrap ((Go.bits .or .u64 (ji12) (ji15)) * 4294967296)) + ((ji17) / 4294967296))) - (IntKind.u64.wrap (x15_18 * ji10)))) * 4294967296)) + (Go.bits .and .u64 (ji17) 4294967295))) - (IntKind.u64.wrap ((IntKind.u64.wrap (x18_2 - 1)) * ji10)))) ji8) = j_ := ⟨_, rfl⟩
                                  replace H : (some (IntKind.u64.wrap ((IntKind.u64.wrap (x15_18 * 4294967296)) + (IntKind.u64.wrap (x18_2 - 1))), ji30)) = some (r1, r2) := by first | (rw [hji30] at H; exact H) | (simp only [hji30] at H ⊢; exact H)
                                  have hji30_ : ((IntKind.u64.wrap ((IntKind.u64.wrap ((IntKind.u64.wrap ((IntKind.u64.wrap ((IntKind.u64.wrap ((IntKind.u64.wrap ((Go.bits .or .u64 (ji12) (ji15)) * 4294967296)) + ((ji17) / 4294967296))) - (IntKind.u64.wrap (x15_18 * ji10)))) * 4294967296)) + (Go.bits .and .u64 (ji17) 4294967295))) - (IntKind.u64.wrap ((IntKind.u64.wrap (x18_2 - 1)) * ji10)))) / 2 ^ min ji8.toNat 64) = ji30 := hji30
                                  have hji30z : ji8 ≤ 64 → ((IntKind.u64.wrap ((IntKind.u64.wrap ((IntKind.u64.wrap ((IntKind.u64.wrap ((IntKind.u64.wrap ((IntKind.u64.wrap ((Go.bits .or .u64 (ji12) (ji15)) * 4294967296)) + ((ji17) / 4294967296))) - (IntKind.u64.wrap (x15_18 * ji10)))) * 4294967296)) + (Go.bits .and .u64 (ji17) 4294967295))) - (IntKind.u64.wrap ((IntKind.u64.wrap (x18_2 - 1)) * ji10)))) / 2 ^ ji8.toNat) = ji30 := shr_small hji30
                                  simp only [Option.some.injEq, Prod.mk.injEq] at H
                                  obtain ⟨rfl, rfl⟩ := H
                                  go_wp2
                                  repeat (go_quiet (fail); try go_wp2)
                                  go_ret2
                                  exact ⟨by first | rfl | (simp; done) | (simp only [← hji8, ← hji10, ← hji12, ← hji13, ← hji15, ← hji17, ← hji30] <;> (first | rfl | simp)) | (simp [*]; done), by repeat (first | exact Drawn0.refl _ | apply Drawn0.step)⟩
                                · rw [if_neg c29] at H
                                  exact absurd H (by simp)
                              · rw [if_neg c28] at H
                                have c28b0 : decide (4294967296 ≤ (IntKind.u64.wrap (x16_2 + ((ji10) / 4294967296)))) = false := decide_eq_false c28
                                clear c28
                                have H' := Aside0.mk H
                                clear H
                                go_wp2
                                repeat (go_quiet (fail); try go_wp2)
                                go_roundg kj24
                                case measure => have := HJ18.out; have := HK2.out; have := HJ24.out; omega
                                case rel => exact ⟨(IntKind.u64.wrap (x16_2 + ((ji10) / 4294967296))), (IntKind.u64.wrap (x18_2 - 1)), (by first | rfl | (simp; done) | (simp only [← hji10] <;> (first | rfl | simp)) | (simp [*]; done)), (by first | rfl | (simp; done) | (simp [*]; done)), H', ⟨by have := HJ18.out; have := HK2.out; have := HJ24.out; omega⟩, by repeat (first | exact Drawn0.refl _ | apply Drawn0.step)⟩
                            · replace c27 := Bool.eq_false_iff.mpr c27
                              subst c27
                              have H1 : (if 0 ≤ ji8 then (some (IntKind.u64.wrap ((IntKind.u64.wrap (x15_18 * 4294967296)) + x18_2), shr .u64 (IntKind.u64.wrap ((IntKind.u64.wrap ((IntKind.u64.wrap ((IntKind.u64.wrap ((IntKind.u64.wrap ((IntKind.u64.wrap ((Go.bits .or .u64 (ji12) (ji15)) * 4294967296)) + ((ji17) / 4294967296))) - (IntKind.u64.wrap (x15_18 * ji10)))) * 4294967296)) + (Go.bits .and .u64 (ji17) 4294967295))) - (IntKind.u64.wrap (x18_2 * ji10)))) ji8)) else (none)) = some (r1, r2) := by rw [if_neg (show ¬ (false = true) by decide)] at H; exact H
                              clear H
                              have H := H1
                              clear H1
                              by_cases c31 : 0 ≤ ji8
                              · rw [if_pos c31] at H
                                have c31b0 := eq_true c31
                                have c31b1 : decide (0 ≤ ji8) = true := decide_eq_true c31
                                clear c31
                                obtain ⟨ji32, hji32⟩ : ∃ j_ : Int, (shr .u64 (IntKind.u64.wrap ((IntKind.u64.wrap ((IntKind.u64.wrap ((IntKind.u64.wrap ((IntKind.u64.wrap ((IntKind.u64.wrap ((Go.bits .or .u64 (ji12) (ji15)) * 4294967296)) + ((ji17) / 4294967296))) - (IntKind.u64.wrap (x15_18 * ji10)))) * 4294967296)) + (Go.bits .and .u64 (ji17) 4294967295))) - (IntKind.u64.wrap (x18_2 * ji10)))) ji8) = j_ := ⟨_, rfl⟩
                                replace H : (some (IntKind.u64.wrap ((IntKind.u64.wrap (x15_18 * 4294967296)) + x18_2), ji32)) = some (r1, r2) := by first | (rw [hji32] at H; exact H) | (simp only [hji32] at H ⊢; exact H)
                                have hji32_ : ((IntKind.u64.wrap ((IntKind.u64.wrap ((IntKind.u64.wrap ((IntKind.u64.wrap ((IntKind.u64.wrap ((IntKind.u64.wrap ((Go.bits .or .u64 (ji12) (ji15)) * 4294967296)) + ((ji17) / 4294967296))) - (IntKind.u64.wrap (x15_18 * ji10)))) * 4294967296)) + (Go.bits .and .u64 (ji17) 4294967295))) - (IntKind.u64.wrap (x18_2 * ji10)))) / 2 ^ min ji8.toNat 64) = ji32 := hji32
                                have hji32z : ji8 ≤ 64 → ((IntKind.u64.wrap ((IntKind.u64.wrap ((IntKind.u64.wrap ((IntKind.u64.wrap ((IntKind.u64.wrap ((IntKind.u64.wrap ((Go.bits .or .u64 (ji12) (ji15)) * 4294967296)) + ((ji17) / 4294967296))) - (IntKind.u64.wrap (x15_18 * ji10)))) * 4294967296)) + (Go.bits .and .u64 (ji17) 4294967295))) - (IntKind.u64.wrap (x18_2 * ji10)))) / 2 ^ ji8.toNat) = ji32 := shr_small hji32
                                simp only [Option.some.injEq, Prod.mk.injEq] at H
                                obtain ⟨rfl, rfl⟩ := H
                                go_wp2
                                repeat (go_quiet (fail); try go_wp2)
                                go_ret2
                                exact ⟨by first | rfl | (simp; done) | (simp only [← hji8, ← hji10, ← hji12, ← hji13, ← hji15, ← hji17, ← hji32] <;> (first | rfl | simp)) | (simp [*]; done), by repeat (first | exact Drawn0.refl _ | apply Drawn0.step)⟩
                              · rw [if_neg c31] at H
                                exact absurd H (by simp)
          · rw [if_neg c14] at H
            exact absurd H (by simp)
        · rw [if_neg c9] at H
          exact absurd H (by simp)

end Go.Proofs.Ytddhpkobingmhaa.PB
end

/-! # DivM -/
section
namespace Go.Proofs.Ytddhpkobingmhaa.PB
open Go.RowKit Go.Proofs.YtddhpkobingmhaaW.PrintWords Go.Proofs.YtddhpkobingmhaaW.PrintLast Go.Proofs.YtddhpkobingmhaaW.PrintMore
set_option linter.unusedVariables false
set_option maxRecDepth 100000

/-- n bits are needed for x. -/
def Bits (x n : Int) : Prop := 0 < x ∧ 0 ≤ n ∧ n ≤ 64 ∧ (2 : Int) ^ n.toNat ≤ 2 * x ∧ x < 2 ^ n.toNat
def lenTab : ByteArray := ⟨#[0, 1, 2, 2, 3, 3, 3, 3, 4, 4, 4, 4, 4, 4, 4, 4, 5, 5, 5, 5, 5, 5, 5, 5, 5, 5, 5, 5, 5, 5, 5, 5, 6, 6, 6, 6, 6, 6, 6, 6, 6, 6, 6, 6, 6, 6, 6, 6, 6, 6, 6, 6, 6, 6, 6, 6, 6, 6, 6, 6, 6, 6, 6, 6, 7, 7, 7, 7, 7, 7, 7, 7, 7, 7, 7, 7, 7, 7, 7, 7, 7, 7, 7, 7, 7, 7, 7, 7, 7, 7, 7, 7, 7, 7, 7, 7, 7, 7, 7, 7, 7, 7, 7, 7, 7, 7, 7, 7, 7, 7, 7, 7, 7, 7, 7, 7, 7, 7, 7, 7, 7, 7, 7, 7, 7, 7, 7, 7, 8, 8, 8, 8, 8, 8, 8, 8, 8, 8, 8, 8, 8, 8, 8, 8, 8, 8, 8, 8, 8, 8, 8, 8, 8, 8, 8, 8, 8, 8, 8, 8, 8, 8, 8, 8, 8, 8, 8, 8, 8, 8, 8, 8, 8, 8, 8, 8, 8, 8, 8, 8, 8, 8, 8, 8, 8, 8, 8, 8, 8, 8, 8, 8, 8, 8, 8, 8, 8, 8, 8, 8, 8, 8, 8, 8, 8, 8, 8, 8, 8, 8, 8, 8, 8, 8, 8, 8, 8, 8, 8, 8, 8, 8, 8, 8, 8, 8, 8, 8, 8, 8, 8, 8, 8, 8, 8, 8, 8, 8, 8, 8, 8, 8, 8, 8, 8, 8, 8, 8, 8, 8, 8, 8, 8, 8, 8, 8]⟩
set_option maxRecDepth 100000 in
theorem tab_bits8 : ∀ i : Fin 256, i.val ≠ 0 → 1 ≤ bt lenTab i.val ∧ bt lenTab i.val ≤ 8 ∧ (2 : Nat) ^ (bt lenTab i.val).toNat ≤ 2 * i.val ∧ i.val < 2 ^ (bt lenTab i.val).toNat := by decide +kernel
theorem tab_bits (x : Int) (h0 : 0 < x) (h1 : x < 256) : Bits x (bt lenTab x) ∧ bt lenTab x ≤ 8 ∧ 1 ≤ bt lenTab x := by
  obtain ⟨n, rfl⟩ := Int.eq_ofNat_of_zero_le (Int.le_of_lt h0)
  have h := tab_bits8 ⟨n, by omega⟩ (by simp; omega)
  dsimp only at h
  obtain ⟨a, b, c, d⟩ := h
  refine ⟨⟨h0, by omega, by omega, ?_, ?_⟩, b, a⟩
  · have : ((2 ^ (bt lenTab (n : Int)).toNat : Nat) : Int) ≤ ((2 * n : Nat) : Int) := by exact_mod_cast c
    simpa using this
  · have : ((n : Nat) : Int) < ((2 ^ (bt lenTab (n : Int)).toNat : Nat) : Int) := by exact_mod_cast d
    simpa using this
theorem bits_up (x y n : Int) (j : Nat) (p : Int) (hp : p = 2 ^ j) (h : Bits y n) (hy : y = x / p) (hn : n + j ≤ 64) : Bits x (n + j) := by
  obtain ⟨h0, h1, h2, h3, h4⟩ := h
  have pp : 0 < p := by rw [hp]; exact Int.pow_pos (by decide)
  have e : (n + (j : Int)).toNat = n.toNat + j := by omega
  have hx : y * p ≤ x := by rw [hy]; exact Int.ediv_mul_le _ (by omega)
  have hx2 : x < (y + 1) * p := by rw [hy]; exact Int.lt_ediv_add_one_mul_self _ pp
  have e2 : (2 : Int) ^ (n + (j : Int)).toNat = 2 ^ n.toNat * p := by rw [e, Int.pow_add, hp]
  refine ⟨?_, by omega, hn, ?_, ?_⟩
  · have : 0 < y * p := Int.mul_pos h0 pp
    omega
  · rw [e2]
    have : 2 ^ n.toNat * p ≤ (2 * y) * p := Int.mul_le_mul_of_nonneg_right h3 (by omega)
    rw [Int.mul_assoc] at this
    omega
  · rw [e2]
    have : (y + 1) * p ≤ 2 ^ n.toNat * p := Int.mul_le_mul_of_nonneg_right (by omega) (by omega)
    omega
theorem wr_small (x : Int) (h0 : -9223372036854775808 ≤ x) (h1 : x ≤ 9223372036854775807) : wrap64 x = x := by unfold wrap64; omega
theorem j0_eq (k : Nat) (x0 x2 : Int) : bits_Len64.j0 (k + 1) x0 x2 = if x0 ≥ 65536 then (if (x0 / 65536) ≥ 256 then (if 0 ≤ (((x0 / 65536) / 256) % 256) then (if (((x0 / 65536) / 256) % 256) < 256 then (some (wrap64 ((wrap64 ((wrap64 (x2 + 16)) + 8)) + (wrap64 (bt lenTab (((x0 / 65536) / 256) % 256)))))) else (none)) else (none)) else (if 0 ≤ ((x0 / 65536) % 256) then (if ((x0 / 65536) % 256) < 256 then (some (wrap64 ((wrap64 (x2 + 16)) + (wrap64 (bt lenTab ((x0 / 65536) % 256)))))) else (none)) else (none))) else (if x0 ≥ 256 then (if 0 ≤ ((x0 / 256) % 256) then (if ((x0 / 256) % 256) < 256 then (some (wrap64 ((wrap64 (x2 + 8)) + (wrap64 (bt lenTab ((x0 / 256) % 256)))))) else (none)) else (none)) else (if 0 ≤ ((x0) % 256) then (if ((x0) % 256) < 256 then (some (wrap64 (x2 + (wrap64 (bt lenTab ((x0) % 256)))))) else (none)) else (none))) := rfl
theorem len_j0 (k : Nat) (x s : Int) (h0 : 0 < x) (h1 : x < 4294967296) (hs : 0 ≤ s) (hs2 : s ≤ 32) : ∃ n, bits_Len64.j0 (k + 1) x s = some (s + n) ∧ Bits x n ∧ n ≤ 32 := by
  rw [j0_eq]
  by_cases a : x ≥ 65536
  · rw [if_pos a]
    by_cases b : x / 65536 ≥ 256
    · have e : x / 65536 / 256 % 256 = x / 16777216 := by omega
      rw [if_pos b, e, if_pos (by omega), if_pos (by omega)]
      obtain ⟨t1, t2, t3⟩ := tab_bits (x / 16777216) (by omega) (by omega)
      refine ⟨bt lenTab (x / 16777216) + 24, ?_, ?_, by omega⟩
      · rw [wr_small (s + 16) (by omega) (by omega), wr_small (s + 16 + 8) (by omega) (by omega), wr_small (bt _ _) (by omega) (by omega), wr_small _ (by omega) (by omega)]
        congr 1; omega
      · exact bits_up x _ _ 24 16777216 (by decide) t1 rfl (by omega)
    · have e : x / 65536 % 256 = x / 65536 := by omega
      rw [if_neg b, e, if_pos (by omega), if_pos (by omega)]
      obtain ⟨t1, t2, t3⟩ := tab_bits (x / 65536) (by omega) (by omega)
      refine ⟨bt lenTab (x / 65536) + 16, ?_, ?_, by omega⟩
      · rw [wr_small (s + 16) (by omega) (by omega), wr_small (bt _ _) (by omega) (by omega), wr_small _ (by omega) (by omega)]
        congr 1; omega
      · exact bits_up x _ _ 16 65536 (by decide) t1 rfl (by omega)
  · rw [if_neg a]
    by_cases b : x ≥ 256
    · have e : x / 256 % 256 = x / 256 := by omega
      rw [if_pos b, e, if_pos (by omega), if_pos (by omega)]
      obtain ⟨t1, t2, t3⟩ := tab_bits (x / 256) (by omega) (by omega)
      refine ⟨bt lenTab (x / 256) + 8, ?_, ?_, by omega⟩
      · rw [wr_small (s + 8) (by omega) (by omega), wr_small (bt _ _) (by omega) (by omega), wr_small _ (by omega) (by omega)]
        congr 1; omega
      · exact bits_up x _ _ 8 256 (by decide) t1 rfl (by omega)
    · have e : x % 256 = x := by omega
      rw [if_neg b, e, if_pos (by omega), if_pos (by omega)]
      obtain ⟨t1, t2, t3⟩ := tab_bits x (by omega) (by omega)
      refine ⟨bt lenTab x, ?_, t1, by omega⟩
      rw [wr_small (bt _ _) (by omega) (by omega), wr_small _ (by omega) (by omega)]
theorem wu_def (n : Int) : IntKind.u64.wrap n = n % 18446744073709551616 := by simp [IntKind.wrap, IntKind.bits, IntKind.signed]
theorem wu (n : Int) (h0 : 0 ≤ n) (h1 : n < 18446744073709551616) : IntKind.u64.wrap n = n := by rw [wu_def]; omega
theorem wu_pow (n : Int) (h0 : 0 ≤ n) (h1 : n < 2 ^ 64) : IntKind.u64.wrap n = n := wu n h0 (by simpa using h1)
theorem clz (y : Int) (h0 : 0 < y) (h1 : y < 18446744073709551616) (k : Nat) : ∃ s : Nat, s ≤ 63 ∧ bits_LeadingZeros64.f (k + 1) y = some (s : Int) ∧ (18446744073709551616 : Int) ≤ 2 * y * 2 ^ s ∧ y < 2 ^ (64 - s) := by
  have fin : ∀ n : Int, bits_Len64.f (k + 1) y = some n → Bits y n → ∃ s : Nat, s ≤ 63 ∧ bits_LeadingZeros64.f (k + 1) y = some (s : Int) ∧ (18446744073709551616 : Int) ≤ 2 * y * 2 ^ s ∧ y < 2 ^ (64 - s) := by
    intro n hn ⟨_, b1, b2, b3, b4⟩
    have n1 : 1 ≤ n := by
      apply Int.not_lt.mp
      intro hh
      obtain rfl : n = 0 := by omega
      simp at b4
      omega
    refine ⟨(64 - n).toNat, by omega, ?_, ?_, ?_⟩
    · unfold bits_LeadingZeros64.f
      rw [hn, Option.bind_some, wr_small _ (by omega) (by omega)]
      congr 1; omega
    · have e : (18446744073709551616 : Int) = 2 ^ n.toNat * 2 ^ (64 - n).toNat := by
        rw [← Int.pow_add, show n.toNat + (64 - n).toNat = 64 by omega]; rfl
      rw [e]
      exact Int.mul_le_mul_of_nonneg_right b3 (Int.le_of_lt (Int.pow_pos (by decide)))
    · rwa [show 64 - (64 - n).toNat = n.toNat by omega]
  by_cases a : y ≥ 4294967296
  · obtain ⟨n, hn, hb, h32⟩ := len_j0 k (y / 4294967296) 32 (by omega) (by omega) (by omega) (by omega)
    refine fin (32 + n) (by unfold bits_Len64.f; rw [if_pos a, hn]) ?_
    rw [Int.add_comm]
    exact bits_up y _ _ 32 4294967296 (by decide) hb rfl (by omega)
  · obtain ⟨n, hn, hb, h32⟩ := len_j0 k y 0 h0 (by omega) (by omega) (by omega)
    exact fin (0 + n) (by unfold bits_Len64.f; rw [if_neg a, hn]) (by rw [Int.zero_add]; exact hb)

section
variable {y s n1 n0 U u v q r : Int} (k : Nat)
theorem kc_dec (h3 : 0 ≤ n0) (h4 : n0 < 4294967296) (hu : 0 ≤ u) (hu2 : u < 4294967296) (hr0 : 0 ≤ r) (hr1 : r < 4294967296) (hq0 : 0 ≤ q) (hq : ¬ q ≥ 4294967296) : (decide ((IntKind.u64.wrap (q * n0)) > (IntKind.u64.wrap ((IntKind.u64.wrap (4294967296 * r)) + u)))) = decide (KC n0 u q r) := by
  have a0 : 0 ≤ q * n0 := Int.mul_nonneg hq0 h3
  have a1 : q * n0 ≤ 4294967295 * n0 := Int.mul_le_mul_of_nonneg_right (by omega) h3
  rw [wu (q * n0) a0 (by omega), wu (4294967296 * r) (by omega) (by omega), wu _ (by omega) (by omega)]
  unfold KC
  simp [hq]
theorem l0_no (h3 : 0 ≤ n0) (h4 : n0 < 4294967296) (hu : 0 ≤ u) (hu2 : u < 4294967296) (hr0 : 0 ≤ r) (hr1 : r < 4294967296) (hq0 : 0 ≤ q) (c : ¬ KC n0 u q r) : bits_Div64.l0 (k + 2) y s n1 n0 U u v q r = bits_Div64.j2 k y s n1 n0 U u v q := by
  have hq : ¬ q ≥ 4294967296 := fun h => c (.inl h)
  rw [bits_Div64.l0, if_neg hq, kc_dec h3 h4 hu hu2 hr0 hr1 hq0 hq, decide_eq_false c, bits_Div64.j1, if_neg (by decide)]
theorem l0_yes (h3 : 0 ≤ n0) (h4 : n0 < 4294967296) (hu : 0 ≤ u) (hu2 : u < 4294967296) (hr0 : 0 ≤ r) (hr1 : r < 4294967296) (hq0 : 1 ≤ q) (hq2 : q ≤ 4294967297) (h1 : 0 ≤ n1) (h2 : n1 < 4294967296) (c : KC n0 u q r) : bits_Div64.l0 (k + 2) y s n1 n0 U u v q r = if r + n1 ≥ 4294967296 then bits_Div64.j2 k y s n1 n0 U u v (q - 1) else bits_Div64.l0 k y s n1 n0 U u v (q - 1) (r + n1) := by
  have e : bits_Div64.j1 (k + 1) y s n1 n0 U u v q r true = if r + n1 ≥ 4294967296 then bits_Div64.j2 k y s n1 n0 U u v (q - 1) else bits_Div64.l0 k y s n1 n0 U u v (q - 1) (r + n1) := by
    rw [bits_Div64.j1, if_pos rfl, wu (r + n1) (by omega) (by omega), wu (q - 1) (by omega) (by omega)]
  rw [bits_Div64.l0]
  by_cases hq : q ≥ 4294967296
  · rw [if_pos hq, e]
  · rw [if_neg hq, kc_dec h3 h4 hu hu2 hr0 hr1 (by omega) hq, decide_eq_true c, e]
theorem kg_lt (hUy : U < y) (hu2 : u < 4294967296) (hy : 0 ≤ y) (h : KG y U u q) : q < 4294967296 := by
  apply Int.not_le.mp
  intro hn
  have := Int.mul_le_mul_of_nonneg_right hn hy
  have := h.2.1
  omega
theorem l0_ok (hy : y = n1 * 4294967296 + n0) (h1 : 2147483648 ≤ n1) (h2 : n1 < 4294967296) (h3 : 0 ≤ n0) (h4 : n0 < 4294967296) (hU : 0 ≤ U) (hUy : U < y) (hu : 0 ≤ u) (hu2 : u < 4294967296)
    (hr0 : 0 ≤ r) (hr1 : r < n1) (hq : q * n1 + r = U) : ∃ Q, KG y U u Q ∧ ∀ res, bits_Div64.j2 k y s n1 n0 U u v Q = some res → bits_Div64.l0 (k + 4) y s n1 n0 U u v q r = some res := by
  have up2 : ∀ q, LeO (bits_Div64.j2 k y s n1 n0 U u v q) (bits_Div64.j2 (k + 2) y s n1 n0 U u v q) := fun q res h => (bits_Div64.mono_l (k + 1)).1 _ _ _ _ _ _ _ _ res ((bits_Div64.mono_l k).1 _ _ _ _ _ _ _ _ res h)
  obtain ⟨a0, a1, ⟨c, g⟩ | ⟨c, p, b, g⟩ | ⟨c, p, b, c2, g⟩ | ⟨c, p, b, c2, p2, b2, g⟩⟩ := knuth y n1 n0 U u q r hy h1 h2 h3 h4 hU hUy hu hu2 hr0 hr1 hq
  · refine ⟨q, g, fun res h => ?_⟩
    rw [l0_no (k + 2) h3 h4 hu hu2 hr0 (by omega) a0 c]
    exact up2 _ res h
  · refine ⟨q - 1, g, fun res h => ?_⟩
    rw [l0_yes (k + 2) h3 h4 hu hu2 hr0 (by omega) p a1 (by omega) h2 c, if_pos b]
    exact up2 _ res h
  · refine ⟨q - 1, g, fun res h => ?_⟩
    rw [l0_yes (k + 2) h3 h4 hu hu2 hr0 (by omega) p a1 (by omega) h2 c, if_neg (by omega), l0_no k h3 h4 hu hu2 (by omega) b (by omega) c2]
    exact h
  · refine ⟨q - 1 - 1, g, fun res h => ?_⟩
    rw [l0_yes (k + 2) h3 h4 hu hu2 hr0 (by omega) p a1 (by omega) h2 c, if_neg (by omega), l0_yes k h3 h4 hu hu2 (by omega) b (by omega) (by omega) (by omega) h2 c2, if_pos b2]
    exact h
end
section
variable {y s n1 n0 u Q1 q r V : Int} (k : Nat)
theorem l1_no (hs : 0 ≤ s) (h3 : 0 ≤ n0) (h4 : n0 < 4294967296) (hu : 0 ≤ u) (hu2 : u < 4294967296) (hr0 : 0 ≤ r) (hr1 : r < 4294967296) (hq0 : 0 ≤ q) (c : ¬ KC n0 u q r) : ∃ r2, bits_Div64.l1 (k + 2) y s n1 n0 u Q1 r V q = some (IntKind.u64.wrap ((IntKind.u64.wrap (Q1 * 4294967296)) + q), r2) := by
  have hq : ¬ q ≥ 4294967296 := fun h => c (.inl h)
  rw [bits_Div64.l1, if_neg hq, kc_dec h3 h4 hu hu2 hr0 hr1 hq0 hq, decide_eq_false c, bits_Div64.j4, if_neg (by decide), if_pos hs]
  exact ⟨_, rfl⟩
theorem l1_yes (h3 : 0 ≤ n0) (h4 : n0 < 4294967296) (hu : 0 ≤ u) (hu2 : u < 4294967296) (hr0 : 0 ≤ r) (hr1 : r < 4294967296) (hq0 : 1 ≤ q) (hq2 : q ≤ 4294967297) (h1 : 0 ≤ n1) (h2 : n1 < 4294967296) (c : KC n0 u q r) :
    bits_Div64.l1 (k + 2) y s n1 n0 u Q1 r V q = bits_Div64.j4 (k + 1) y s n1 n0 u Q1 r V q true := by
  rw [bits_Div64.l1]
  by_cases hq : q ≥ 4294967296
  · rw [if_pos hq]
  · rw [if_neg hq, kc_dec h3 h4 hu hu2 hr0 hr1 (by omega) hq, decide_eq_true c]
theorem l1_out (hs : 0 ≤ s) (hq0 : 1 ≤ q) (hq2 : q ≤ 4294967297) (hr0 : 0 ≤ r) (hr1 : r < 4294967296) (h1 : 0 ≤ n1) (h2 : n1 < 4294967296) (b : r + n1 ≥ 4294967296) : ∃ r2, bits_Div64.j4 (k + 1) y s n1 n0 u Q1 r V q true = some (IntKind.u64.wrap ((IntKind.u64.wrap (Q1 * 4294967296)) + (q - 1)), r2) := by
  rw [bits_Div64.j4, if_pos rfl, wu (r + n1) (by omega) (by omega), wu (q - 1) (by omega) (by omega), if_pos b, if_pos hs]
  exact ⟨_, rfl⟩
theorem l1_on (hq0 : 1 ≤ q) (hq2 : q ≤ 4294967297) (hr0 : 0 ≤ r) (hr1 : r < 4294967296) (h1 : 0 ≤ n1) (h2 : n1 < 4294967296) (b : r + n1 < 4294967296) : bits_Div64.j4 (k + 1) y s n1 n0 u Q1 r V q true = bits_Div64.l1 k y s n1 n0 u Q1 (r + n1) V (q - 1) := by
  rw [bits_Div64.j4, if_pos rfl, wu (r + n1) (by omega) (by omega), wu (q - 1) (by omega) (by omega), if_neg (by omega)]
theorem l1_ok (hs : 0 ≤ s) (hy : y = n1 * 4294967296 + n0) (h1 : 2147483648 ≤ n1) (h2 : n1 < 4294967296) (h3 : 0 ≤ n0) (h4 : n0 < 4294967296) (hV : 0 ≤ V) (hVy : V < y) (hu : 0 ≤ u) (hu2 : u < 4294967296)
    (hr0 : 0 ≤ r) (hr1 : r < n1) (hq : q * n1 + r = V) : ∃ Q r2, KG y V u Q ∧ bits_Div64.l1 (k + 4) y s n1 n0 u Q1 r V q = some (IntKind.u64.wrap ((IntKind.u64.wrap (Q1 * 4294967296)) + Q), r2) := by
  obtain ⟨a0, a1, ⟨c, g⟩ | ⟨c, p, b, g⟩ | ⟨c, p, b, c2, g⟩ | ⟨c, p, b, c2, p2, b2, g⟩⟩ := knuth y n1 n0 V u q r hy h1 h2 h3 h4 hV hVy hu hu2 hr0 hr1 hq
  · obtain ⟨r2, e⟩ := l1_no (y := y) (s := s) (n1 := n1) (Q1 := Q1) (V := V) (k + 2) hs h3 h4 hu hu2 hr0 (by omega) a0 c
    exact ⟨q, r2, g, e⟩
  · obtain ⟨r2, e⟩ := l1_out (y := y) (s := s) (n1 := n1) (n0 := n0) (u := u) (Q1 := Q1) (V := V) (k + 2) hs p a1 hr0 (by omega) (by omega) h2 b
    exact ⟨q - 1, r2, g, by rw [l1_yes (k + 2) h3 h4 hu hu2 hr0 (by omega) p a1 (by omega) h2 c]; exact e⟩
  · obtain ⟨r2, e⟩ := l1_no (y := y) (s := s) (n1 := n1) (Q1 := Q1) (V := V) k hs h3 h4 hu hu2 (r := r + n1) (q := q - 1) (by omega) b (by omega) c2
    exact ⟨q - 1, r2, g, by rw [l1_yes (k + 2) h3 h4 hu hu2 hr0 (by omega) p a1 (by omega) h2 c, l1_on (k + 2) p a1 hr0 (by omega) (by omega) h2 b]; exact e⟩
  · obtain ⟨r2, e⟩ := l1_out (y := y) (s := s) (n1 := n1) (n0 := n0) (u := u) (Q1 := Q1) (V := V) (q := q - 1) (r := r + n1) k hs (by omega) (by omega) (by omega) b (by omega) h2 b2
    exact ⟨q - 1 - 1, r2, g, by rw [l1_yes (k + 2) h3 h4 hu hu2 hr0 (by omega) p a1 (by omega) h2 c, l1_on (k + 2) p a1 hr0 (by omega) (by omega) h2 b, l1_yes k h3 h4 hu hu2 (by omega) b (by omega) (by omega) (by omega) h2 c2]; exact e⟩
end
theorem rest_of (U n1 : Int) (hU : 0 ≤ U) (hU2 : U < 18446744073709551616) (h1 : 2147483648 ≤ n1) : IntKind.u64.wrap (Int.tdiv U n1) = U / n1 ∧ IntKind.u64.wrap (U - IntKind.u64.wrap (IntKind.u64.wrap (Int.tdiv U n1) * n1)) = U % n1 ∧ (U / n1) * n1 + U % n1 = U ∧ 0 ≤ U % n1 ∧ U % n1 < n1 := by
  have hn : n1 ≠ 0 := by omega
  have hm : (U / n1) * n1 + U % n1 = U := by rw [Int.mul_comm]; exact Int.mul_ediv_add_emod U n1
  have h0 : 0 ≤ U % n1 := Int.emod_nonneg U hn
  have hl : U % n1 < n1 := Int.emod_lt_of_pos U (by omega)
  have hd0 : 0 ≤ U / n1 := Int.ediv_nonneg hU (by omega)
  have hd1 : U / n1 ≤ U := Int.ediv_le_self _ hU
  have e1 : IntKind.u64.wrap (Int.tdiv U n1) = U / n1 := by rw [Int.tdiv_eq_ediv_of_nonneg hU, wu _ hd0 (by omega)]
  have p0 : 0 ≤ (U / n1) * n1 := Int.mul_nonneg hd0 (by omega)
  refine ⟨e1, ?_, hm, h0, hl⟩
  rw [e1, wu (U / n1 * n1) p0 (by omega), wu _ (by omega) (by omega)]
  omega
/-- Div64 on the words made ready. -/
theorem div_core (k : Nat) (y s n1 n0 U u v : Int) (hs : 0 ≤ s) (hy : y = n1 * 4294967296 + n0) (h1 : 2147483648 ≤ n1) (h2 : n1 < 4294967296) (h3 : 0 ≤ n0) (h4 : n0 < 4294967296) (hU : 0 ≤ U) (hUy : U < y) (hu : 0 ≤ u) (hu2 : u < 4294967296) (hv : 0 ≤ v) (hv2 : v < 4294967296) :
    ∃ Q r2, Q * y ≤ U * 18446744073709551616 + u * 4294967296 + v ∧ U * 18446744073709551616 + u * 4294967296 + v < (Q + 1) * y ∧
    bits_Div64.l0 (k + 9) y s n1 n0 U u v (IntKind.u64.wrap (Int.tdiv U n1)) (IntKind.u64.wrap (U - IntKind.u64.wrap (IntKind.u64.wrap (Int.tdiv U n1) * n1))) = some (Q, r2) := by
  obtain ⟨e1, e2, hm, hr0, hr1⟩ := rest_of U n1 hU (by omega) h1
  obtain ⟨Q1, g1, up⟩ := l0_ok (s := s) (v := v) (k + 5) hy h1 h2 h3 h4 hU hUy hu hu2 hr0 hr1 hm
  have q1 := kg_lt hUy hu2 (by omega) g1
  obtain ⟨b0, b1, b2⟩ := g1
  have bp : 0 ≤ Q1 * y := Int.mul_nonneg b0 (by omega)
  rw [Int.add_mul Q1 1 y, Int.one_mul] at b2
  obtain ⟨V, hV⟩ : ∃ V, V = U * 4294967296 + u - Q1 * y := ⟨_, rfl⟩
  have eV : IntKind.u64.wrap ((IntKind.u64.wrap ((IntKind.u64.wrap (U * 4294967296)) + u)) - (IntKind.u64.wrap (Q1 * y))) = V := by
    simp only [wu_def]
    omega
  obtain ⟨f1, f2, fm, fr0, fr1⟩ := rest_of V n1 (by omega) (by omega) h1
  obtain ⟨Q0, r2, g0, e0⟩ := l1_ok (Q1 := Q1) k hs hy h1 h2 h3 h4 (V := V) (by omega) (by omega) hv hv2 fr0 fr1 fm
  have q0 := kg_lt (U := V) (by omega) hv2 (by omega) g0
  obtain ⟨d0, d1, d2⟩ := g0
  rw [Int.add_mul Q0 1 y, Int.one_mul] at d2
  have ey : (Q1 * 4294967296 + Q0) * y = 4294967296 * (Q1 * y) + Q0 * y := by rw [Int.add_mul, Int.mul_assoc, Int.mul_comm Q1, Int.mul_assoc, Int.mul_comm y]
  refine ⟨Q1 * 4294967296 + Q0, r2, by omega, by rw [Int.add_mul _ 1 y, Int.one_mul]; omega, ?_⟩
  rw [e2, e1]
  refine up _ ?_
  rw [bits_Div64.j2, if_neg (by omega), eV, f2, f1, e0, wu (Q1 * 4294967296) (by omega) (by omega), wu _ (by omega) (by omega)]
/-- Div64: the quotient. -/
theorem div64_ok (k : Nat) (hi lo y : Int) (hh0 : 0 < hi) (hh : hi < y) (hl0 : 0 ≤ lo) (hl : lo < 18446744073709551616) (hy2 : y < 18446744073709551616) : ∃ r2, bits_Div64.f (k + 9) hi lo y = some ((hi * 18446744073709551616 + lo) / y, r2) := by
  obtain ⟨s, hs, hz, hp, hyn⟩ := clz y (by omega) hy2 (k + 8)
  have P0 : (0 : Int) < 2 ^ s := Int.pow_pos (by decide)
  have R0 : (0 : Int) < 2 ^ (64 - s) := Int.pow_pos (by decide)
  have PR : (2 : Int) ^ (64 - s) * 2 ^ s = 18446744073709551616 := by rw [← Int.pow_add, show 64 - s + s = 64 by omega]; rfl
  have shl_e : ∀ x : Int, shl .u64 x (s : Int) = IntKind.u64.wrap (x * 2 ^ s) := fun x => by
    unfold shl
    rw [Int.toNat_natCast, Nat.min_eq_left (show s ≤ IntKind.u64.bits from by simp [IntKind.bits]; omega)]
  have shr_e : shr .u64 lo (64 - (s : Int)) = lo / 2 ^ (64 - s) := by
    unfold shr
    rw [show (64 - (s : Int)).toNat = 64 - s by omega, Nat.min_eq_left (show 64 - s ≤ IntKind.u64.bits from by simp [IntKind.bits])]
  have es : IntKind.u64.wrap (s : Int) = (s : Int) := wu _ (by omega) (by omega)
  have es2 : IntKind.u64.wrap (64 - (s : Int)) = 64 - (s : Int) := wu _ (by omega) (by omega)
  generalize hP : (2 : Int) ^ s = P at *
  generalize hR : (2 : Int) ^ (64 - s) = R at *
  have y1 : y * P < 18446744073709551616 := by rw [← PR]; exact Int.mul_lt_mul_of_pos_right hyn P0
  have y1a : 18446744073709551616 ≤ 2 * (y * P) := by rw [← Int.mul_assoc]; exact hp
  have u1 : hi * P < 18446744073709551616 := Int.lt_of_le_of_lt (Int.mul_le_mul_of_nonneg_right (Int.le_of_lt hh) (Int.le_of_lt P0)) y1
  have u0 : 0 ≤ hi * P := Int.mul_nonneg (by omega) (Int.le_of_lt P0)
  have u2 : hi * P + P ≤ y * P := by
    have := Int.mul_le_mul_of_nonneg_right (show hi + 1 ≤ y by omega) (Int.le_of_lt P0)
    rwa [Int.add_mul, Int.one_mul] at this
  obtain ⟨c, hc⟩ : ∃ c, c = lo / R := ⟨_, rfl⟩
  have c0 : 0 ≤ c := by rw [hc]; exact Int.ediv_nonneg hl0 (Int.le_of_lt R0)
  have cm : c * R + lo % R = lo := by rw [hc, Int.mul_comm]; exact Int.mul_ediv_add_emod lo R
  have e0 : 0 ≤ lo % R := Int.emod_nonneg lo (by omega)
  have e1 : lo % R < R := Int.emod_lt_of_pos lo R0
  have cP : c < P := by
    apply Int.not_le.mp
    intro hn
    have := Int.mul_le_mul_of_nonneg_right hn (Int.le_of_lt R0)
    rw [Int.mul_comm P R, PR] at this
    omega
  obtain ⟨w, hw⟩ : ∃ w, w = (lo % R) * P := ⟨_, rfl⟩
  have w0 : 0 ≤ w := by rw [hw]; exact Int.mul_nonneg e0 (Int.le_of_lt P0)
  have w1 : w < 18446744073709551616 := by rw [hw, ← PR]; exact Int.mul_lt_mul_of_pos_right e1 P0
  have lP : lo * P = c * 18446744073709551616 + w := by
    rw [hw, ← PR, ← Int.mul_assoc, ← Int.add_mul, cm]
  have a_y : shl .u64 y (s : Int) = y * P := by rw [shl_e, wu _ (by omega) y1]
  have a_h : shl .u64 hi (s : Int) = hi * P := by rw [shl_e, wu _ u0 u1]
  have a_l : shl .u64 lo (s : Int) = w := by rw [shl_e, lP, wu_def]; omega
  have a_c : shr .u64 lo (64 - (s : Int)) = c := by rw [shr_e, hc]
  have P1 : P ≤ 18446744073709551616 := by
    have := Int.mul_le_mul_of_nonneg_right (show (1 : Int) ≤ R by omega) (Int.le_of_lt P0)
    omega
  have a_o : Go.bits .or .u64 (hi * P) c = hi * P + c :=
    bits_join .u64 64 (by simp [IntKind.bits]) wu_pow s (hi * P) c u0 (by rw [hP]; exact Int.mul_emod_left hi P) (by simpa using u1) c0 (by rw [hP]; exact cP) (by simpa using (show c < 18446744073709551616 by omega))
  have mask : ∀ x : Int, 0 ≤ x → x < 18446744073709551616 → Go.bits .and .u64 x 4294967295 = x % 4294967296 := fun x h0 h1 =>
    bits_mask .u64 64 (by simp [IntKind.bits]) wu_pow 32 (by decide) x h0 (by simpa using h1)
  obtain ⟨Q, r2, g1, g2, eQ⟩ := div_core k (y * P) (s : Int) (y * P / 4294967296) (y * P % 4294967296) (hi * P + c) (w / 4294967296) (w % 4294967296) (by omega) (by omega) (by omega) (by omega) (by omega) (by omega) (by omega) (by omega) (by omega) (by omega) (by omega) (by omega)
  have hQ : Q = (hi * 18446744073709551616 + lo) / y := by
    have eD : (hi * 18446744073709551616 + lo) * P = (hi * P + c) * 18446744073709551616 + w / 4294967296 * 4294967296 + w % 4294967296 := by
      rw [Int.add_mul, lP, Int.mul_assoc, Int.mul_comm 18446744073709551616 P, ← Int.mul_assoc]
      omega
    have l1 : Q * y ≤ hi * 18446744073709551616 + lo := by
      refine Int.le_of_mul_le_mul_right ?_ P0
      rw [eD, Int.mul_assoc]; exact g1
    have l2 : hi * 18446744073709551616 + lo < (Q + 1) * y := by
      refine Int.lt_of_mul_lt_mul_right ?_ (Int.le_of_lt P0)
      rw [eD, Int.mul_assoc]; exact g2
    have m1 : Q ≤ (hi * 18446744073709551616 + lo) / y := Int.le_ediv_of_mul_le (by omega) l1
    have m2 : (hi * 18446744073709551616 + lo) / y < Q + 1 := Int.ediv_lt_of_lt_mul (by omega) l2
    omega
  refine ⟨r2, ?_⟩
  unfold bits_Div64.f
  rw [if_neg (by omega), if_neg (by omega), if_neg (by omega), hz, Option.bind_some, es, if_pos (by omega), es2, if_pos (by omega), a_y, if_neg (by omega), a_h, a_c, a_o, a_l, mask _ (by omega) y1, mask w w0 w1, eQ, hQ]
theorem div64_zero (k : Nat) (lo y : Int) (hy : 0 < y) (hl0 : 0 ≤ lo) (hl : lo < 18446744073709551616) : ∃ r2, bits_Div64.f k 0 lo y = some (lo / y, r2) := by
  unfold bits_Div64.f
  rw [if_neg (by omega), if_neg (by omega), if_pos rfl, Int.tdiv_eq_ediv_of_nonneg hl0, wu _ (Int.ediv_nonneg hl0 (by omega)) (by have := Int.ediv_le_self y hl0; omega)]
  exact ⟨_, rfl⟩
end Go.Proofs.Ytddhpkobingmhaa.PB
end

/-! # DistM -/
section
namespace Go.Proofs.Ytddhpkobingmhaa.PB
open Go.RowKit Go.Proofs.YtddhpkobingmhaaW.PrintWords Go.Proofs.YtddhpkobingmhaaW.PrintLast Go.Proofs.YtddhpkobingmhaaW.PrintMore
set_option linter.unusedVariables false
set_option maxRecDepth 100000

def distQ (m h : Int) : Int := m * 4611686018427387904 / h
def dist (Kn h : Int) : Int := if h = 0 then Kn else if distQ (Kn - 1) h > 1099511627776 then 1099511627776 else if distQ (Kn - 1) h > Kn then distQ (Kn - 1) h else Kn
theorem quot_l0 (h M : Int) (h0 : 0 < h) (h1 : h ≤ 4611686018427387904) : ∀ (n i : Nat) (q r : Int), i + n = 62 → 0 ≤ r → r < h → 0 ≤ q → q ≤ 2199023255553 → (q * h + r) * 2 ^ n = M →
    sleuthlaw23_quotient.l0 (n + 1) h 1099511627776 q r (i : Int) = some (if M / h > 1099511627776 then -1 else M / h)
  | 0, i, q, r, hi, r0, r1, q0, q1, hM => by
    have e : M / h = q := by
      have h2 : M = q * h + r := by rw [← hM]; simp
      have m1 : q ≤ M / h := Int.le_ediv_of_mul_le h0 (by omega)
      have m2 : M / h < q + 1 := Int.ediv_lt_of_lt_mul h0 (by rw [Int.add_mul, Int.one_mul]; omega)
      omega
    rw [sleuthlaw23_quotient.l0, if_neg (by omega), e]
    split <;> rfl
  | n + 1, i, q, r, hi, r0, r1, q0, q1, hM => by
    have pn : (0 : Int) < 2 ^ n := Int.pow_pos (by decide)
    rw [Int.pow_succ, Int.mul_comm ((2 : Int) ^ n) 2, ← Int.mul_assoc] at hM
    rw [sleuthlaw23_quotient.l0, if_pos (by omega)]
    by_cases c : q > 1099511627776
    · have qh : 0 ≤ q * h := Int.mul_nonneg q0 (by omega)
      have m0 : q * h ≤ M := by
        rw [← hM]
        have := Int.mul_le_mul_of_nonneg_left (show (1 : Int) ≤ 2 ^ n by omega) (show 0 ≤ (q * h + r) * 2 by omega)
        omega
      have m1 : q ≤ M / h := Int.le_ediv_of_mul_le h0 m0
      rw [if_pos c, if_pos (by omega)]
    · rw [if_neg c, wrap64_small (2 * r) (by omega) (by omega), wrap64_small (2 * q) (by omega) (by omega), wrap64_small ((i : Int) + 1) (by omega) (by omega)]
      by_cases d : 2 * r ≥ h
      · rw [if_pos d, wrap64_small (2 * q + 1) (by omega) (by omega), wrap64_small (2 * r - h) (by omega) (by omega)]
        refine quot_l0 h M h0 h1 n (i + 1) (2 * q + 1) (2 * r - h) (by omega) (by omega) (by omega) (by omega) (by omega) ?_
        rw [← hM]; congr 1
        rw [Int.add_mul, Int.mul_assoc]; omega
      · rw [if_neg d]
        refine quot_l0 h M h0 h1 n (i + 1) (2 * q) (2 * r) (by omega) (by omega) (by omega) (by omega) (by omega) ?_
        rw [← hM]; congr 1
        rw [Int.mul_assoc]; omega
theorem quot_ok (m h : Int) (hm0 : 0 ≤ m) (hm1 : m ≤ 1023) (h0 : 0 < h) (h1 : h ≤ 4611686018427387904) : sleuthlaw23_quotient.f 63 m h 1099511627776 = some (if distQ m h > 1099511627776 then -1 else distQ m h) := by
  unfold sleuthlaw23_quotient.f distQ
  have hn : h ≠ 0 := by omega
  have d0 : 0 ≤ m / h := Int.ediv_nonneg hm0 (by omega)
  have d1 : m / h ≤ m := Int.ediv_le_self _ hm0
  rw [if_neg hn, Int.tdiv_eq_ediv_of_nonneg hm0, Int.tmod_eq_emod_of_nonneg hm0, wrap64_small _ d0 (by omega)]
  refine quot_l0 h _ h0 h1 62 0 _ _ rfl (Int.emod_nonneg m hn) (Int.emod_lt_of_pos m h0) d0 (by omega) ?_
  rw [Int.mul_comm (m / h) h, Int.mul_ediv_add_emod]; rfl
theorem mul_all : ∀ m : Fin 1024, bits_Mul64.f (m.val : Int) 4611686018427387904 = some ((m.val : Int) / 4, (m.val : Int) % 4 * 4611686018427387904) := by decide +kernel
theorem mul_ok (m : Int) (hm0 : 0 ≤ m) (hm1 : m ≤ 1023) : bits_Mul64.f m 4611686018427387904 = some (m / 4, m % 4 * 4611686018427387904) := by
  have := mul_all ⟨m.toNat, by omega⟩
  rwa [show (((⟨m.toNat, by omega⟩ : Fin 1024).val : Nat) : Int) = m from by simp; omega] at this
/-- What Distinct computes where its Div64 is asked. -/
theorem div_dist (m h : Int) (hm0 : 0 ≤ m) (hm1 : m ≤ 1023) (h0 : 0 < h) (h1 : h ≤ 4611686018427387904) (hh : m / 4 < h) : ∃ r2, bits_Div64.f 10 (m / 4) (m % 4 * 4611686018427387904) h = some (distQ m h, r2) := by
  have e : distQ m h = ((m / 4) * 18446744073709551616 + m % 4 * 4611686018427387904) / h := by unfold distQ; congr 1; omega
  rw [e]
  by_cases z : m / 4 = 0
  · rw [z, Int.zero_mul, Int.zero_add]
    exact div64_zero 10 _ h h0 (by omega) (by omega)
  · exact div64_ok 1 (m / 4) _ h (by omega) hh (by omega) (by omega) (by omega)
theorem dist_great (m h : Int) (hm0 : 0 ≤ m) (h0 : 0 < h) (hh : h ≤ m / 4) : distQ m h > 1099511627776 := by
  have : (1099511627777 : Int) ≤ m * 4611686018427387904 / h := Int.le_ediv_of_mul_le h0 (by omega)
  unfold distQ; omega
theorem dist_nonneg (m h : Int) (hm0 : 0 ≤ m) (h0 : 0 < h) : 0 ≤ distQ m h := Int.ediv_nonneg (by omega) (by omega)
theorem dist_word (m h : Int) (hm0 : 0 ≤ m) (hm1 : m ≤ 1023) (h0 : 0 < h) (hh : m / 4 < h) : distQ m h < 18446744073709551616 := by
  refine Int.ediv_lt_of_lt_mul h0 ?_
  omega
theorem xor_range (x y : Int) : 0 ≤ Go.bits .xor .u64 x y ∧ Go.bits .xor .u64 x y < 18446744073709551616 := by
  unfold Go.bits
  dsimp only
  rw [wu_def]
  omega
theorem word_range {a b r : Int} (h : checksum_Word.f a b = some r) : 0 ≤ r ∧ r < 18446744073709551616 := by
  unfold checksum_Word.f at h
  rw [← Option.some.inj h]
  exact xor_range _ _
theorem text_range (s : ByteArray) (n : Int) : ∀ (k : Nat) (x j r : Int), 0 ≤ x → x < 18446744073709551616 → checksum_Text.l0 k s x n j = some r → 0 ≤ r ∧ r < 4611686018427387904
  | 0, x, j, r, h0, h1, h => by simp [checksum_Text.l0] at h
  | k + 1, x, j, r, h0, h1, h => by
    rw [checksum_Text.l0] at h
    split at h
    · split at h
      · split at h
        · obtain ⟨y, hy, h⟩ := Option.bind_eq_some_iff.mp h
          have := word_range hy
          exact text_range s n k y _ r this.1 this.2 h
        · cases h
      · cases h
    · rw [← Option.some.inj h, wrap64_small _ (by omega) (by omega)]
      omega
theorem hash_range (a : Int) (s : ByteArray) (hs : s.size ≤ 1000000) : 0 ≤ hashT a s ∧ hashT a s < 4611686018427387904 := by
  have h := hash_ok a s hs (s.size + 1) (Nat.le_refl _)
  unfold checksum_Text.f at h
  obtain ⟨y, hy, h⟩ := Option.bind_eq_some_iff.mp h
  have := word_range hy
  exact text_range s _ _ y _ _ this.1 this.2 h
end Go.Proofs.Ytddhpkobingmhaa.PB
end

/-! # Sk16 -/
section
namespace Go.Proofs.Ytddhpkobingmhaa.PB
open Go.RowKit Go.Proofs.YtddhpkobingmhaaW.PrintWords Go.Proofs.YtddhpkobingmhaaW.PrintLast Go.Proofs.YtddhpkobingmhaaW.PrintMore Go.Proofs.Ytddhpkobingmhaa.Sep
attribute [local go_sem] max2_int min2_int max_two min_two
set_option linter.unusedVariables false
set_option linter.unusedSimpArgs false
set_option maxHeartbeats 8000000
set_option maxRecDepth 100000

def dsn.T5 : Bool × List (List Nat × List Nat) := (true, [([], []), ([0], [0]), ([1], [1]), ([2], [2]), ([], []), ([4], [4]), ([5], [5]), ([6], [6]), ([7], [7]), ([3, 8], [3, 8]), ([9], [9]), ([10], [10]), ([11], [11]), ([12, 0, 1, 2, 3, 4, 5, 6, 7, 8, 9, 10, 11, 12], [12])])
def dsn.B5 : List Nat := [0, 1, 3, 7, 0, 16, 48, 112, 240, 511, 1023, 2047, 4095, 8191]
theorem dsn.tab5 : rtab .any (opsOf Try.f16 5) = dsn.T5 := by kernel_rfl
theorem dsn.bits5 : waitsOk dsn.T5.2 dsn.B5 = true := by kernel_rfl
theorem dsn_zero (Kn j : Nat) (hj : Kn = j + 1) (hK : Kn ≤ 1024) (sd h : Int) (h0 : 0 ≤ h) (h1 : h < 4611686018427387904) (ad : Addr) (c : Nat) (l : List S52) (hl : l.length = Kn) (hh : (rd_T52 l (j : Int)).f0 = h) (p : Nat) (hi lo : Int) (hmul : Aside0 (bits_Mul64.f (j : Int) 4611686018427387904 = some (hi, lo))) (hz : (h == 0) = true) {N : Nat} {w : World} {L : List Res} (HS0 : St N w (Blk p #[.int .i64 Kn, .int .i64 sd, .slice (some ad) Kn c, .bool true] 59 :: Row k52 52 (.slice (some ad) Kn c) l :: L)) :
    Calls Try.prog 16 #[.pointer (some ⟨p, 0, none⟩)] w fun e w' => e = .returned (.int .i64 Kn) ∧ St N w' (Blk p #[.int .i64 Kn, .int .i64 sd, .slice (some ad) Kn c, .bool true] 59 :: Row k52 52 (.slice (some ad) Kn c) l :: L) ∧ Below N w w' := by
  have HS := Aside0.mk HS0
  have HB := Aside0.mk (Below.refl N w)
  clear HS0
  have q1 : (0 : Int) ≤ (j : Int) := by omega
  have q2 : (j : Int) < (Kn : Int) := by omega
  have q3 : wrap64 ((Kn : Int) - 1) = (j : Int) := by rw [wrap64_small _ (by omega) (by omega)]; omega
  have q4 : IntKind.u64.wrap h = h := wu h h0 (by omega)
  have q5 : IntKind.u64.wrap (j : Int) = (j : Int) := wu _ q1 (by omega)
  have q6 : IntKind.u64.wrap (Kn : Int) = (Kn : Int) := wu _ (by omega) (by omega)
  have q7 : wrap64 (Kn : Int) = (Kn : Int) := wrap64_small _ (by omega) (by omega)
  obtain ⟨ad', e, hx, _⟩ := at_T52 (HS.out.pick 1 rfl).rowC.2.2 (j : Int) q1 (by omega)
  cases e
  rw [hh, Int.toNat_natCast] at hx
  replace hx := Aside0.mk hx
  replace hj := Aside0.mk hj
  replace hl := Aside0.mk hl
  clear hh hK
  have hc0_3 := ((HS.out.pick 0 rfl).cell 3).trans (show _ = some (.bool true) from rfl)
  go_enter Try.func16, Try.ntmps16
  go_upto_region 5 with (fail)
  clear hc0_3
  have n2_ := Aside0.mk (show w.drew.cell? _ = _ from hx.out); clear hx; have hx := n2_; clear n2_
  have n0_ := Aside0.mk (HS.out.drew); have n1_ := Aside0.mk (HB.out.drew); clear HS HB; have HS := n0_; have HB := n1_; clear n0_ n1_
  refine start_ (n := 14) (S := fun w' => w'.cell? ⟨p, 2, none⟩ = some (.slice (some ad) Kn c) ∧ w'.cell? ⟨p, 0, none⟩ = some (.int .i64 Kn) ∧ w'.cell? (ad.add (j * 2)) = some (.int .i64 h)) (ds := []) (tfs true [0, 14]).toArray (by kernel_rfl) rfl rfl ⟨((HS.out.pick 0 rfl).cell 2).trans rfl, ((HS.out.pick 0 rfl).cell 0).trans rfl, hx.out⟩ (fun hHeld => ?_); refine with_tabW dsn.tab5 dsn.bits5 (fun HT_ HW_ => ?_)
  generalize w.drew = w1 at HS HB hx hHeld ⊢
  refine pU 0 22 (tfs true [1, 13]).toArray rfl rfl HT_ ?_
  refine pU 1 23 (tfs true [2, 12]).toArray rfl rfl HT_ ?_
  refine pU 2 24 (tfs true [3, 11]).toArray rfl rfl HT_ ?_
  refine pU 4 26 (tfs true [3, 1, 1, 9]).toArray rfl rfl HT_ ?_
  refine pU 5 27 (tfs true [3, 1, 2, 8]).toArray rfl rfl HT_ ?_
  refine pU 6 28 (tfs true [3, 1, 3, 7]).toArray rfl rfl HT_ ?_
  refine tK 3 25 (tfs true [7, 7]).toArray rfl rfl HT_ HW_ hHeld ?_ (by rintro w' ⟨s0, s1, s2⟩; go_simp; with_reducible rfl)
  refine tK 7 29 (tfs true [8, 6]).toArray rfl rfl HT_ HW_ hHeld ?_ (by rintro w' ⟨s0, s1, s2⟩; go_simp; with_reducible rfl)
  refine pU 8 30 (tfs true [9, 5]).toArray rfl rfl HT_ ?_
  refine pU 9 31 (tfs true [10, 4]).toArray rfl rfl HT_ ?_
  refine pU 10 32 (tfs true [11, 3]).toArray rfl rfl HT_ ?_
  refine tK 11 33 (tfs true [12, 2]).toArray rfl rfl HT_ HW_ hHeld ?_ (by rintro w' ⟨s0, s1, s2⟩; go_simp; with_reducible rfl)
  refine pU 12 34 (tfs true [13, 1]).toArray rfl rfl HT_ ?_
  refine pU 13 3 (tfs true [14]).toArray rfl rfl HT_ ?_
  refine done_ (done_of HT_.out (by kernel_rfl)) ?_
  clear HT_ HW_
  try clear hHeld
  have hc0_0 := ((HS.out.pick 0 rfl).cell 0).trans (show _ = some (.int .i64 Kn) from rfl)
  clear q1 q2 h0 h1
  go_wp2_with (first | ((with_reducible refine gate_callee (f := 39) rfl ?_); refine goesL_ (some 42) rfl rfl Try.func39 (by kernel_rfl) rfl #[.int .u64 (j : Int), .int .u64 4611686018427387904] rfl (by (try simp only [List.map_toArray, List.map_cons, List.map_nil]); first | done | rfl | (simp only [List.length_drop, List.length_take]; rfl)) ?_; (with_reducible refine (bits_Mul64.calls _ _ _ _ _ hmul.out).mono ?_); rintro e w2 ⟨rfl, hb0⟩; have hb := hb0.below; clear hb0 hc0_0; refine ⟨_, rfl, ?_⟩; have n0_ := Aside0.mk (HS.out.step hb); have n1_ := Aside0.mk (below_step' HB.out HS.out.size hb); clear HS HB; have HS := n0_; have HB := n1_; clear n0_ n1_; (try simp only [List.eraseIdx_cons_succ, List.eraseIdx_cons_zero] at HS); clear hb; have hc0_0 := ((HS.out.pick 0 rfl).cell 0).trans (show _ = some (.int .i64 Kn) from rfl)))
  go_ret
  exact ⟨rfl, HS.out, HB.out⟩

theorem dsn_great (Kn j : Nat) (hj : Kn = j + 1) (hK : Kn ≤ 1024) (sd h : Int) (h0 : 0 ≤ h) (h1 : h < 4611686018427387904) (ad : Addr) (c : Nat) (l : List S52) (hl : l.length = Kn) (hh : (rd_T52 l (j : Int)).f0 = h) (p : Nat) (hi lo : Int) (hmul : Aside0 (bits_Mul64.f (j : Int) 4611686018427387904 = some (hi, lo))) (hz : (h == 0) = false) (hle : (decide (h ≤ hi)) = true) {N : Nat} {w : World} {L : List Res} (HS0 : St N w (Blk p #[.int .i64 Kn, .int .i64 sd, .slice (some ad) Kn c, .bool true] 59 :: Row k52 52 (.slice (some ad) Kn c) l :: L)) :
    Calls Try.prog 16 #[.pointer (some ⟨p, 0, none⟩)] w fun e w' => e = .returned (.int .i64 1099511627776) ∧ St N w' (Blk p #[.int .i64 Kn, .int .i64 sd, .slice (some ad) Kn c, .bool true] 59 :: Row k52 52 (.slice (some ad) Kn c) l :: L) ∧ Below N w w' := by
  have HS := Aside0.mk HS0
  have HB := Aside0.mk (Below.refl N w)
  clear HS0
  have q1 : (0 : Int) ≤ (j : Int) := by omega
  have q2 : (j : Int) < (Kn : Int) := by omega
  have q3 : wrap64 ((Kn : Int) - 1) = (j : Int) := by rw [wrap64_small _ (by omega) (by omega)]; omega
  have q4 : IntKind.u64.wrap h = h := wu h h0 (by omega)
  have q5 : IntKind.u64.wrap (j : Int) = (j : Int) := wu _ q1 (by omega)
  have q6 : IntKind.u64.wrap (Kn : Int) = (Kn : Int) := wu _ (by omega) (by omega)
  have q7 : wrap64 (Kn : Int) = (Kn : Int) := wrap64_small _ (by omega) (by omega)
  obtain ⟨ad', e, hx, _⟩ := at_T52 (HS.out.pick 1 rfl).rowC.2.2 (j : Int) q1 (by omega)
  cases e
  rw [hh, Int.toNat_natCast] at hx
  replace hx := Aside0.mk hx
  replace hj := Aside0.mk hj
  replace hl := Aside0.mk hl
  clear hh hK
  have hc0_3 := ((HS.out.pick 0 rfl).cell 3).trans (show _ = some (.bool true) from rfl)
  go_enter Try.func16, Try.ntmps16
  go_upto_region 5 with (fail)
  clear hc0_3
  have n2_ := Aside0.mk (show w.drew.cell? _ = _ from hx.out); clear hx; have hx := n2_; clear n2_
  have n0_ := Aside0.mk (HS.out.drew); have n1_ := Aside0.mk (HB.out.drew); clear HS HB; have HS := n0_; have HB := n1_; clear n0_ n1_
  refine start_ (n := 14) (S := fun w' => w'.cell? ⟨p, 2, none⟩ = some (.slice (some ad) Kn c) ∧ w'.cell? ⟨p, 0, none⟩ = some (.int .i64 Kn) ∧ w'.cell? (ad.add (j * 2)) = some (.int .i64 h)) (ds := []) (tfs true [0, 14]).toArray (by kernel_rfl) rfl rfl ⟨((HS.out.pick 0 rfl).cell 2).trans rfl, ((HS.out.pick 0 rfl).cell 0).trans rfl, hx.out⟩ (fun hHeld => ?_); refine with_tabW dsn.tab5 dsn.bits5 (fun HT_ HW_ => ?_)
  generalize w.drew = w1 at HS HB hx hHeld ⊢
  refine pU 0 22 (tfs true [1, 13]).toArray rfl rfl HT_ ?_
  refine pU 1 23 (tfs true [2, 12]).toArray rfl rfl HT_ ?_
  refine pU 2 24 (tfs true [3, 11]).toArray rfl rfl HT_ ?_
  refine pU 4 26 (tfs true [3, 1, 1, 9]).toArray rfl rfl HT_ ?_
  refine pU 5 27 (tfs true [3, 1, 2, 8]).toArray rfl rfl HT_ ?_
  refine pU 6 28 (tfs true [3, 1, 3, 7]).toArray rfl rfl HT_ ?_
  refine tK 3 25 (tfs true [7, 7]).toArray rfl rfl HT_ HW_ hHeld ?_ (by rintro w' ⟨s0, s1, s2⟩; go_simp; with_reducible rfl)
  refine tK 7 29 (tfs true [8, 6]).toArray rfl rfl HT_ HW_ hHeld ?_ (by rintro w' ⟨s0, s1, s2⟩; go_simp; with_reducible rfl)
  refine pU 8 30 (tfs true [9, 5]).toArray rfl rfl HT_ ?_
  refine pU 9 31 (tfs true [10, 4]).toArray rfl rfl HT_ ?_
  refine pU 10 32 (tfs true [11, 3]).toArray rfl rfl HT_ ?_
  refine tK 11 33 (tfs true [12, 2]).toArray rfl rfl HT_ HW_ hHeld ?_ (by rintro w' ⟨s0, s1, s2⟩; go_simp; with_reducible rfl)
  refine pU 12 34 (tfs true [13, 1]).toArray rfl rfl HT_ ?_
  refine pU 13 3 (tfs true [14]).toArray rfl rfl HT_ ?_
  refine done_ (done_of HT_.out (by kernel_rfl)) ?_
  clear HT_ HW_
  try clear hHeld
  have hc0_0 := ((HS.out.pick 0 rfl).cell 0).trans (show _ = some (.int .i64 Kn) from rfl)
  clear q1 q2 h0 h1
  go_wp2_with (first | ((with_reducible refine gate_callee (f := 39) rfl ?_); refine goesL_ (some 42) rfl rfl Try.func39 (by kernel_rfl) rfl #[.int .u64 (j : Int), .int .u64 4611686018427387904] rfl (by (try simp only [List.map_toArray, List.map_cons, List.map_nil]); first | done | rfl | (simp only [List.length_drop, List.length_take]; rfl)) ?_; (with_reducible refine (bits_Mul64.calls _ _ _ _ _ hmul.out).mono ?_); rintro e w2 ⟨rfl, hb0⟩; have hb := hb0.below; clear hb0 hc0_0; refine ⟨_, rfl, ?_⟩; have n0_ := Aside0.mk (HS.out.step hb); have n1_ := Aside0.mk (below_step' HB.out HS.out.size hb); clear HS HB; have HS := n0_; have HB := n1_; clear n0_ n1_; (try simp only [List.eraseIdx_cons_succ, List.eraseIdx_cons_zero] at HS); clear hb; have hc0_0 := ((HS.out.pick 0 rfl).cell 0).trans (show _ = some (.int .i64 Kn) from rfl)))
  go_ret
  exact ⟨rfl, HS.out, HB.out⟩

theorem dsn_A (Kn j : Nat) (hj : Kn = j + 1) (hK : Kn ≤ 1024) (sd h : Int) (h0 : 0 ≤ h) (h1 : h < 4611686018427387904) (ad : Addr) (c : Nat) (l : List S52) (hl : l.length = Kn) (hh : (rd_T52 l (j : Int)).f0 = h) (p : Nat) (hi lo : Int) (hmul : Aside0 (bits_Mul64.f (j : Int) 4611686018427387904 = some (hi, lo))) (hz : Aside0 (¬ h = 0)) (hz2 : (h == 0) = false) (hle : Aside0 (¬ h ≤ hi)) (hle2 : (decide (h ≤ hi)) = false) (Q r2 : Int) (hdiv : Aside0 (bits_Div64.f 10 hi lo h = some (Q, r2))) (k1 : (1099511627776 < Q) = True) (k2 : ((Kn : Int) < 1099511627776) = True) (k3 : wrap64 1099511627776 = 1099511627776) {N : Nat} {w : World} {L : List Res} (HS0 : St N w (Blk p #[.int .i64 Kn, .int .i64 sd, .slice (some ad) Kn c, .bool true] 59 :: Row k52 52 (.slice (some ad) Kn c) l :: L)) :
    Calls Try.prog 16 #[.pointer (some ⟨p, 0, none⟩)] w fun e w' => e = .returned (.int .i64 1099511627776) ∧ St N w' (Blk p #[.int .i64 Kn, .int .i64 sd, .slice (some ad) Kn c, .bool true] 59 :: Row k52 52 (.slice (some ad) Kn c) l :: L) ∧ Below N w w' := by
  have HS := Aside0.mk HS0
  have HB := Aside0.mk (Below.refl N w)
  clear HS0
  have q1 : (0 : Int) ≤ (j : Int) := by omega
  have q2 : (j : Int) < (Kn : Int) := by omega
  have q3 : wrap64 ((Kn : Int) - 1) = (j : Int) := by rw [wrap64_small _ (by omega) (by omega)]; omega
  have q4 : IntKind.u64.wrap h = h := wu h h0 (by omega)
  have q5 : IntKind.u64.wrap (j : Int) = (j : Int) := wu _ q1 (by omega)
  have q6 : IntKind.u64.wrap (Kn : Int) = (Kn : Int) := wu _ (by omega) (by omega)
  have q7 : wrap64 (Kn : Int) = (Kn : Int) := wrap64_small _ (by omega) (by omega)
  obtain ⟨ad', e, hx, _⟩ := at_T52 (HS.out.pick 1 rfl).rowC.2.2 (j : Int) q1 (by omega)
  cases e
  rw [hh, Int.toNat_natCast] at hx
  replace hx := Aside0.mk hx
  replace hj := Aside0.mk hj
  replace hl := Aside0.mk hl
  clear hh hK
  have hc0_3 := ((HS.out.pick 0 rfl).cell 3).trans (show _ = some (.bool true) from rfl)
  go_enter Try.func16, Try.ntmps16
  go_upto_region 5 with (fail)
  clear hc0_3
  have n2_ := Aside0.mk (show w.drew.cell? _ = _ from hx.out); clear hx; have hx := n2_; clear n2_
  have n0_ := Aside0.mk (HS.out.drew); have n1_ := Aside0.mk (HB.out.drew); clear HS HB; have HS := n0_; have HB := n1_; clear n0_ n1_
  refine start_ (n := 14) (S := fun w' => w'.cell? ⟨p, 2, none⟩ = some (.slice (some ad) Kn c) ∧ w'.cell? ⟨p, 0, none⟩ = some (.int .i64 Kn) ∧ w'.cell? (ad.add (j * 2)) = some (.int .i64 h)) (ds := []) (tfs true [0, 14]).toArray (by kernel_rfl) rfl rfl ⟨((HS.out.pick 0 rfl).cell 2).trans rfl, ((HS.out.pick 0 rfl).cell 0).trans rfl, hx.out⟩ (fun hHeld => ?_); refine with_tabW dsn.tab5 dsn.bits5 (fun HT_ HW_ => ?_)
  generalize w.drew = w1 at HS HB hx hHeld ⊢
  refine pU 0 22 (tfs true [1, 13]).toArray rfl rfl HT_ ?_
  refine pU 1 23 (tfs true [2, 12]).toArray rfl rfl HT_ ?_
  refine pU 2 24 (tfs true [3, 11]).toArray rfl rfl HT_ ?_
  refine pU 4 26 (tfs true [3, 1, 1, 9]).toArray rfl rfl HT_ ?_
  refine pU 5 27 (tfs true [3, 1, 2, 8]).toArray rfl rfl HT_ ?_
  refine pU 6 28 (tfs true [3, 1, 3, 7]).toArray rfl rfl HT_ ?_
  refine tK 3 25 (tfs true [7, 7]).toArray rfl rfl HT_ HW_ hHeld ?_ (by rintro w' ⟨s0, s1, s2⟩; go_simp; with_reducible rfl)
  refine tK 7 29 (tfs true [8, 6]).toArray rfl rfl HT_ HW_ hHeld ?_ (by rintro w' ⟨s0, s1, s2⟩; go_simp; with_reducible rfl)
  refine pU 8 30 (tfs true [9, 5]).toArray rfl rfl HT_ ?_
  refine pU 9 31 (tfs true [10, 4]).toArray rfl rfl HT_ ?_
  refine pU 10 32 (tfs true [11, 3]).toArray rfl rfl HT_ ?_
  refine tK 11 33 (tfs true [12, 2]).toArray rfl rfl HT_ HW_ hHeld ?_ (by rintro w' ⟨s0, s1, s2⟩; go_simp; with_reducible rfl)
  refine pU 12 34 (tfs true [13, 1]).toArray rfl rfl HT_ ?_
  refine pU 13 3 (tfs true [14]).toArray rfl rfl HT_ ?_
  refine done_ (done_of HT_.out (by kernel_rfl)) ?_
  clear HT_ HW_
  try clear hHeld
  have hc0_0 := ((HS.out.pick 0 rfl).cell 0).trans (show _ = some (.int .i64 Kn) from rfl)
  clear q1 q2 h0 h1
  go_wp2_with (first | ((with_reducible refine gate_callee (f := 39) rfl ?_); refine goesL_ (some 42) rfl rfl Try.func39 (by kernel_rfl) rfl #[.int .u64 (j : Int), .int .u64 4611686018427387904] rfl (by (try simp only [List.map_toArray, List.map_cons, List.map_nil]); first | done | rfl | (simp only [List.length_drop, List.length_take]; rfl)) ?_; (with_reducible refine (bits_Mul64.calls _ _ _ _ _ hmul.out).mono ?_); rintro e w2 ⟨rfl, hb0⟩; have hb := hb0.below; clear hb0 hc0_0; refine ⟨_, rfl, ?_⟩; have n0_ := Aside0.mk (HS.out.step hb); have n1_ := Aside0.mk (below_step' HB.out HS.out.size hb); clear HS HB; have HS := n0_; have HB := n1_; clear n0_ n1_; (try simp only [List.eraseIdx_cons_succ, List.eraseIdx_cons_zero] at HS); clear hb; have hc0_0 := ((HS.out.pick 0 rfl).cell 0).trans (show _ = some (.int .i64 Kn) from rfl)) | ((with_reducible refine gate_callee (f := 40) rfl ?_); refine goesL_ (some 60) rfl rfl Try.func40 (by kernel_rfl) rfl #[.int .u64 hi, .int .u64 lo, .int .u64 h] rfl (by (try simp only [List.map_toArray, List.map_cons, List.map_nil]); first | done | rfl | (simp only [List.length_drop, List.length_take]; rfl)) ?_; (with_reducible refine (bits_Div64.calls 10 _ _ _ Q r2 _ hdiv.out hz.out hle.out).mono ?_); rintro e w3 ⟨rfl, hb0⟩; have hb := hb0.below; clear hb0 hc0_0; refine ⟨_, rfl, ?_⟩; have n0_ := Aside0.mk (HS.out.step hb); have n1_ := Aside0.mk (below_step' HB.out HS.out.size hb); clear HS HB; have HS := n0_; have HB := n1_; clear n0_ n1_; (try simp only [List.eraseIdx_cons_succ, List.eraseIdx_cons_zero] at HS); clear hb; have hc0_0 := ((HS.out.pick 0 rfl).cell 0).trans (show _ = some (.int .i64 Kn) from rfl)))
  go_ret
  exact ⟨rfl, HS.out, HB.out⟩

theorem dsn_B (Kn j : Nat) (hj : Kn = j + 1) (hK : Kn ≤ 1024) (sd h : Int) (h0 : 0 ≤ h) (h1 : h < 4611686018427387904) (ad : Addr) (c : Nat) (l : List S52) (hl : l.length = Kn) (hh : (rd_T52 l (j : Int)).f0 = h) (p : Nat) (hi lo : Int) (hmul : Aside0 (bits_Mul64.f (j : Int) 4611686018427387904 = some (hi, lo))) (hz : Aside0 (¬ h = 0)) (hz2 : (h == 0) = false) (hle : Aside0 (¬ h ≤ hi)) (hle2 : (decide (h ≤ hi)) = false) (Q r2 : Int) (hdiv : Aside0 (bits_Div64.f 10 hi lo h = some (Q, r2))) (hQ : wrap64 Q = Q) (k1 : (1099511627776 < Q) = False) (k2 : ((Kn : Int) < Q) = True) {N : Nat} {w : World} {L : List Res} (HS0 : St N w (Blk p #[.int .i64 Kn, .int .i64 sd, .slice (some ad) Kn c, .bool true] 59 :: Row k52 52 (.slice (some ad) Kn c) l :: L)) :
    Calls Try.prog 16 #[.pointer (some ⟨p, 0, none⟩)] w fun e w' => e = .returned (.int .i64 Q) ∧ St N w' (Blk p #[.int .i64 Kn, .int .i64 sd, .slice (some ad) Kn c, .bool true] 59 :: Row k52 52 (.slice (some ad) Kn c) l :: L) ∧ Below N w w' := by
  have HS := Aside0.mk HS0
  have HB := Aside0.mk (Below.refl N w)
  clear HS0
  have q1 : (0 : Int) ≤ (j : Int) := by omega
  have q2 : (j : Int) < (Kn : Int) := by omega
  have q3 : wrap64 ((Kn : Int) - 1) = (j : Int) := by rw [wrap64_small _ (by omega) (by omega)]; omega
  have q4 : IntKind.u64.wrap h = h := wu h h0 (by omega)
  have q5 : IntKind.u64.wrap (j : Int) = (j : Int) := wu _ q1 (by omega)
  have q6 : IntKind.u64.wrap (Kn : Int) = (Kn : Int) := wu _ (by omega) (by omega)
  have q7 : wrap64 (Kn : Int) = (Kn : Int) := wrap64_small _ (by omega) (by omega)
  obtain ⟨ad', e, hx, _⟩ := at_T52 (HS.out.pick 1 rfl).rowC.2.2 (j : Int) q1 (by omega)
  cases e
  rw [hh, Int.toNat_natCast] at hx
  replace hx := Aside0.mk hx
  replace hj := Aside0.mk hj
  replace hl := Aside0.mk hl
  clear hh hK
  have hc0_3 := ((HS.out.pick 0 rfl).cell 3).trans (show _ = some (.bool true) from rfl)
  go_enter Try.func16, Try.ntmps16
  go_upto_region 5 with (fail)
  clear hc0_3
  have n2_ := Aside0.mk (show w.drew.cell? _ = _ from hx.out); clear hx; have hx := n2_; clear n2_
  have n0_ := Aside0.mk (HS.out.drew); have n1_ := Aside0.mk (HB.out.drew); clear HS HB; have HS := n0_; have HB := n1_; clear n0_ n1_
  refine start_ (n := 14) (S := fun w' => w'.cell? ⟨p, 2, none⟩ = some (.slice (some ad) Kn c) ∧ w'.cell? ⟨p, 0, none⟩ = some (.int .i64 Kn) ∧ w'.cell? (ad.add (j * 2)) = some (.int .i64 h)) (ds := []) (tfs true [0, 14]).toArray (by kernel_rfl) rfl rfl ⟨((HS.out.pick 0 rfl).cell 2).trans rfl, ((HS.out.pick 0 rfl).cell 0).trans rfl, hx.out⟩ (fun hHeld => ?_); refine with_tabW dsn.tab5 dsn.bits5 (fun HT_ HW_ => ?_)
  generalize w.drew = w1 at HS HB hx hHeld ⊢
  refine pU 0 22 (tfs true [1, 13]).toArray rfl rfl HT_ ?_
  refine pU 1 23 (tfs true [2, 12]).toArray rfl rfl HT_ ?_
  refine pU 2 24 (tfs true [3, 11]).toArray rfl rfl HT_ ?_
  refine pU 4 26 (tfs true [3, 1, 1, 9]).toArray rfl rfl HT_ ?_
  refine pU 5 27 (tfs true [3, 1, 2, 8]).toArray rfl rfl HT_ ?_
  refine pU 6 28 (tfs true [3, 1, 3, 7]).toArray rfl rfl HT_ ?_
  refine tK 3 25 (tfs true [7, 7]).toArray rfl rfl HT_ HW_ hHeld ?_ (by rintro w' ⟨s0, s1, s2⟩; go_simp; with_reducible rfl)
  refine tK 7 29 (tfs true [8, 6]).toArray rfl rfl HT_ HW_ hHeld ?_ (by rintro w' ⟨s0, s1, s2⟩; go_simp; with_reducible rfl)
  refine pU 8 30 (tfs true [9, 5]).toArray rfl rfl HT_ ?_
  refine pU 9 31 (tfs true [10, 4]).toArray rfl rfl HT_ ?_
  refine pU 10 32 (tfs true [11, 3]).toArray rfl rfl HT_ ?_
  refine tK 11 33 (tfs true [12, 2]).toArray rfl rfl HT_ HW_ hHeld ?_ (by rintro w' ⟨s0, s1, s2⟩; go_simp; with_reducible rfl)
  refine pU 12 34 (tfs true [13, 1]).toArray rfl rfl HT_ ?_
  refine pU 13 3 (tfs true [14]).toArray rfl rfl HT_ ?_
  refine done_ (done_of HT_.out (by kernel_rfl)) ?_
  clear HT_ HW_
  try clear hHeld
  have hc0_0 := ((HS.out.pick 0 rfl).cell 0).trans (show _ = some (.int .i64 Kn) from rfl)
  clear q1 q2 h0 h1
  go_wp2_with (first | ((with_reducible refine gate_callee (f := 39) rfl ?_); refine goesL_ (some 42) rfl rfl Try.func39 (by kernel_rfl) rfl #[.int .u64 (j : Int), .int .u64 4611686018427387904] rfl (by (try simp only [List.map_toArray, List.map_cons, List.map_nil]); first | done | rfl | (simp only [List.length_drop, List.length_take]; rfl)) ?_; (with_reducible refine (bits_Mul64.calls _ _ _ _ _ hmul.out).mono ?_); rintro e w2 ⟨rfl, hb0⟩; have hb := hb0.below; clear hb0 hc0_0; refine ⟨_, rfl, ?_⟩; have n0_ := Aside0.mk (HS.out.step hb); have n1_ := Aside0.mk (below_step' HB.out HS.out.size hb); clear HS HB; have HS := n0_; have HB := n1_; clear n0_ n1_; (try simp only [List.eraseIdx_cons_succ, List.eraseIdx_cons_zero] at HS); clear hb; have hc0_0 := ((HS.out.pick 0 rfl).cell 0).trans (show _ = some (.int .i64 Kn) from rfl)) | ((with_reducible refine gate_callee (f := 40) rfl ?_); refine goesL_ (some 60) rfl rfl Try.func40 (by kernel_rfl) rfl #[.int .u64 hi, .int .u64 lo, .int .u64 h] rfl (by (try simp only [List.map_toArray, List.map_cons, List.map_nil]); first | done | rfl | (simp only [List.length_drop, List.length_take]; rfl)) ?_; (with_reducible refine (bits_Div64.calls 10 _ _ _ Q r2 _ hdiv.out hz.out hle.out).mono ?_); rintro e w3 ⟨rfl, hb0⟩; have hb := hb0.below; clear hb0 hc0_0; refine ⟨_, rfl, ?_⟩; have n0_ := Aside0.mk (HS.out.step hb); have n1_ := Aside0.mk (below_step' HB.out HS.out.size hb); clear HS HB; have HS := n0_; have HB := n1_; clear n0_ n1_; (try simp only [List.eraseIdx_cons_succ, List.eraseIdx_cons_zero] at HS); clear hb; have hc0_0 := ((HS.out.pick 0 rfl).cell 0).trans (show _ = some (.int .i64 Kn) from rfl)))
  go_ret
  exact ⟨rfl, HS.out, HB.out⟩

theorem dsn_C (Kn j : Nat) (hj : Kn = j + 1) (hK : Kn ≤ 1024) (sd h : Int) (h0 : 0 ≤ h) (h1 : h < 4611686018427387904) (ad : Addr) (c : Nat) (l : List S52) (hl : l.length = Kn) (hh : (rd_T52 l (j : Int)).f0 = h) (p : Nat) (hi lo : Int) (hmul : Aside0 (bits_Mul64.f (j : Int) 4611686018427387904 = some (hi, lo))) (hz : Aside0 (¬ h = 0)) (hz2 : (h == 0) = false) (hle : Aside0 (¬ h ≤ hi)) (hle2 : (decide (h ≤ hi)) = false) (Q r2 : Int) (hdiv : Aside0 (bits_Div64.f 10 hi lo h = some (Q, r2))) (hQ : wrap64 Q = Q) (k1 : (1099511627776 < Q) = False) (k2 : ((Kn : Int) < Q) = False) {N : Nat} {w : World} {L : List Res} (HS0 : St N w (Blk p #[.int .i64 Kn, .int .i64 sd, .slice (some ad) Kn c, .bool true] 59 :: Row k52 52 (.slice (some ad) Kn c) l :: L)) :
    Calls Try.prog 16 #[.pointer (some ⟨p, 0, none⟩)] w fun e w' => e = .returned (.int .i64 Kn) ∧ St N w' (Blk p #[.int .i64 Kn, .int .i64 sd, .slice (some ad) Kn c, .bool true] 59 :: Row k52 52 (.slice (some ad) Kn c) l :: L) ∧ Below N w w' := by
  have HS := Aside0.mk HS0
  have HB := Aside0.mk (Below.refl N w)
  clear HS0
  have q1 : (0 : Int) ≤ (j : Int) := by omega
  have q2 : (j : Int) < (Kn : Int) := by omega
  have q3 : wrap64 ((Kn : Int) - 1) = (j : Int) := by rw [wrap64_small _ (by omega) (by omega)]; omega
  have q4 : IntKind.u64.wrap h = h := wu h h0 (by omega)
  have q5 : IntKind.u64.wrap (j : Int) = (j : Int) := wu _ q1 (by omega)
  have q6 : IntKind.u64.wrap (Kn : Int) = (Kn : Int) := wu _ (by omega) (by omega)
  have q7 : wrap64 (Kn : Int) = (Kn : Int) := wrap64_small _ (by omega) (by omega)
  obtain ⟨ad', e, hx, _⟩ := at_T52 (HS.out.pick 1 rfl).rowC.2.2 (j : Int) q1 (by omega)
  cases e
  rw [hh, Int.toNat_natCast] at hx
  replace hx := Aside0.mk hx
  replace hj := Aside0.mk hj
  replace hl := Aside0.mk hl
  clear hh hK
  have hc0_3 := ((HS.out.pick 0 rfl).cell 3).trans (show _ = some (.bool true) from rfl)
  go_enter Try.func16, Try.ntmps16
  go_upto_region 5 with (fail)
  clear hc0_3
  have n2_ := Aside0.mk (show w.drew.cell? _ = _ from hx.out); clear hx; have hx := n2_; clear n2_
  have n0_ := Aside0.mk (HS.out.drew); have n1_ := Aside0.mk (HB.out.drew); clear HS HB; have HS := n0_; have HB := n1_; clear n0_ n1_
  refine start_ (n := 14) (S := fun w' => w'.cell? ⟨p, 2, none⟩ = some (.slice (some ad) Kn c) ∧ w'.cell? ⟨p, 0, none⟩ = some (.int .i64 Kn) ∧ w'.cell? (ad.add (j * 2)) = some (.int .i64 h)) (ds := []) (tfs true [0, 14]).toArray (by kernel_rfl) rfl rfl ⟨((HS.out.pick 0 rfl).cell 2).trans rfl, ((HS.out.pick 0 rfl).cell 0).trans rfl, hx.out⟩ (fun hHeld => ?_); refine with_tabW dsn.tab5 dsn.bits5 (fun HT_ HW_ => ?_)
  generalize w.drew = w1 at HS HB hx hHeld ⊢
  refine pU 0 22 (tfs true [1, 13]).toArray rfl rfl HT_ ?_
  refine pU 1 23 (tfs true [2, 12]).toArray rfl rfl HT_ ?_
  refine pU 2 24 (tfs true [3, 11]).toArray rfl rfl HT_ ?_
  refine pU 4 26 (tfs true [3, 1, 1, 9]).toArray rfl rfl HT_ ?_
  refine pU 5 27 (tfs true [3, 1, 2, 8]).toArray rfl rfl HT_ ?_
  refine pU 6 28 (tfs true [3, 1, 3, 7]).toArray rfl rfl HT_ ?_
  refine tK 3 25 (tfs true [7, 7]).toArray rfl rfl HT_ HW_ hHeld ?_ (by rintro w' ⟨s0, s1, s2⟩; go_simp; with_reducible rfl)
  refine tK 7 29 (tfs true [8, 6]).toArray rfl rfl HT_ HW_ hHeld ?_ (by rintro w' ⟨s0, s1, s2⟩; go_simp; with_reducible rfl)
  refine pU 8 30 (tfs true [9, 5]).toArray rfl rfl HT_ ?_
  refine pU 9 31 (tfs true [10, 4]).toArray rfl rfl HT_ ?_
  refine pU 10 32 (tfs true [11, 3]).toArray rfl rfl HT_ ?_
  refine tK 11 33 (tfs true [12, 2]).toArray rfl rfl HT_ HW_ hHeld ?_ (by rintro w' ⟨s0, s1, s2⟩; go_simp; with_reducible rfl)
  refine pU 12 34 (tfs true [13, 1]).toArray rfl rfl HT_ ?_
  refine pU 13 3 (tfs true [14]).toArray rfl rfl HT_ ?_
  refine done_ (done_of HT_.out (by kernel_rfl)) ?_
  clear HT_ HW_
  try clear hHeld
  have hc0_0 := ((HS.out.pick 0 rfl).cell 0).trans (show _ = some (.int .i64 Kn) from rfl)
  clear q1 q2 h0 h1
  go_wp2_with (first | ((with_reducible refine gate_callee (f := 39) rfl ?_); refine goesL_ (some 42) rfl rfl Try.func39 (by kernel_rfl) rfl #[.int .u64 (j : Int), .int .u64 4611686018427387904] rfl (by (try simp only [List.map_toArray, List.map_cons, List.map_nil]); first | done | rfl | (simp only [List.length_drop, List.length_take]; rfl)) ?_; (with_reducible refine (bits_Mul64.calls _ _ _ _ _ hmul.out).mono ?_); rintro e w2 ⟨rfl, hb0⟩; have hb := hb0.below; clear hb0 hc0_0; refine ⟨_, rfl, ?_⟩; have n0_ := Aside0.mk (HS.out.step hb); have n1_ := Aside0.mk (below_step' HB.out HS.out.size hb); clear HS HB; have HS := n0_; have HB := n1_; clear n0_ n1_; (try simp only [List.eraseIdx_cons_succ, List.eraseIdx_cons_zero] at HS); clear hb; have hc0_0 := ((HS.out.pick 0 rfl).cell 0).trans (show _ = some (.int .i64 Kn) from rfl)) | ((with_reducible refine gate_callee (f := 40) rfl ?_); refine goesL_ (some 60) rfl rfl Try.func40 (by kernel_rfl) rfl #[.int .u64 hi, .int .u64 lo, .int .u64 h] rfl (by (try simp only [List.map_toArray, List.map_cons, List.map_nil]); first | done | rfl | (simp only [List.length_drop, List.length_take]; rfl)) ?_; (with_reducible refine (bits_Div64.calls 10 _ _ _ Q r2 _ hdiv.out hz.out hle.out).mono ?_); rintro e w3 ⟨rfl, hb0⟩; have hb := hb0.below; clear hb0 hc0_0; refine ⟨_, rfl, ?_⟩; have n0_ := Aside0.mk (HS.out.step hb); have n1_ := Aside0.mk (below_step' HB.out HS.out.size hb); clear HS HB; have HS := n0_; have HB := n1_; clear n0_ n1_; (try simp only [List.eraseIdx_cons_succ, List.eraseIdx_cons_zero] at HS); clear hb; have hc0_0 := ((HS.out.pick 0 rfl).cell 0).trans (show _ = some (.int .i64 Kn) from rfl)))
  go_ret
  exact ⟨rfl, HS.out, HB.out⟩

theorem bottomk_Distinct.more (Kn j : Nat) (hj : Kn = j + 1) (hK : Kn ≤ 1024) (sd h : Int) (h0 : 0 ≤ h) (h1 : h < 4611686018427387904) (ad : Addr) (c : Nat) (l : List S52) (hl : l.length = Kn) (hh : (rd_T52 l (j : Int)).f0 = h) (p : Nat) {N : Nat} {w : World} {L : List Res} (HS0 : St N w (Blk p #[.int .i64 Kn, .int .i64 sd, .slice (some ad) Kn c, .bool true] 59 :: Row k52 52 (.slice (some ad) Kn c) l :: L)) :
    Calls Try.prog 16 #[.pointer (some ⟨p, 0, none⟩)] w fun e w' => e = .returned (.int .i64 (dist Kn h)) ∧ St N w' (Blk p #[.int .i64 Kn, .int .i64 sd, .slice (some ad) Kn c, .bool true] 59 :: Row k52 52 (.slice (some ad) Kn c) l :: L) ∧ Below N w w' := by
  have hm := mul_ok (j : Int) (by omega) (by omega)
  have ek : (Kn : Int) - 1 = (j : Int) := by omega
  unfold dist
  rw [ek]
  by_cases hz : h = 0
  · rw [if_pos hz]
    exact dsn_zero Kn j hj hK sd h h0 h1 ad c l hl hh p _ _ ⟨hm⟩ (by simpa using hz) HS0
  · rw [if_neg hz]
    by_cases hle : h ≤ (j : Int) / 4
    · rw [if_pos (dist_great (j : Int) h (by omega) (by omega) hle)]
      exact dsn_great Kn j hj hK sd h h0 h1 ad c l hl hh p _ _ ⟨hm⟩ (by simpa using hz) (decide_eq_true hle) HS0
    · obtain ⟨r2, hd⟩ := div_dist (j : Int) h (by omega) (by omega) (by omega) (by omega) (by omega)
      have n0 := dist_nonneg (j : Int) h (by omega) (by omega)
      generalize distQ (j : Int) h = Q at hd n0 ⊢
      by_cases k1 : Q > 1099511627776
      · rw [if_pos k1]
        exact dsn_A Kn j hj hK sd h h0 h1 ad c l hl hh p _ _ ⟨hm⟩ ⟨hz⟩ (by simpa using hz) ⟨hle⟩ (decide_eq_false hle) Q r2 ⟨hd⟩ (eq_true k1) (eq_true (by omega)) (wrap64_small _ (by omega) (by omega)) HS0
      · rw [if_neg k1]
        have hw : wrap64 Q = Q := wrap64_small _ n0 (by omega)
        by_cases k2 : Q > (Kn : Int)
        · rw [if_pos k2]
          exact dsn_B Kn j hj hK sd h h0 h1 ad c l hl hh p _ _ ⟨hm⟩ ⟨hz⟩ (by simpa using hz) ⟨hle⟩ (decide_eq_false hle) Q r2 ⟨hd⟩ hw (eq_false k1) (eq_true k2) HS0
        · rw [if_neg k2]
          exact dsn_C Kn j hj hK sd h h0 h1 ad c l hl hh p _ _ ⟨hm⟩ ⟨hz⟩ (by simpa using hz) ⟨hle⟩ (decide_eq_false hle) Q r2 ⟨hd⟩ hw (eq_false k1) (eq_false k2) HS0
/-- The number that is estimated. -/
def dst (Kn : Nat) (l : List S52) : Int := if l.length ≤ Kn then (l.length : Int) else dist (Kn : Int) (rd_T52 l ((Kn - 1 : Nat) : Int)).f0
theorem rd_take (l : List S52) (Kn j : Nat) (h : j < Kn) : rd_T52 (l.take Kn) (j : Int) = rd_T52 l (j : Int) := by
  unfold rd_T52
  rw [Int.toNat_natCast, List.getD_eq_getElem?_getD, List.getD_eq_getElem?_getD, List.getElem?_take_of_lt h]
/-- All hashes of a row lie in the range of hashes. -/
def Hin (l : List S52) : Prop := ∀ x ∈ l, 0 ≤ x.f0 ∧ x.f0 < 4611686018427387904
theorem Hin_rd {l : List S52} (h : Hin l) (j : Nat) (hj : j < l.length) : 0 ≤ (rd_T52 l (j : Int)).f0 ∧ (rd_T52 l (j : Int)).f0 < 4611686018427387904 := by
  rw [rd52 l j hj]; exact h _ (List.getElem_mem _)
theorem Hin_foldl (hs : ByteArray → Int) : ∀ (ts : List ByteArray) (l : List S52), Hin l → (∀ t ∈ ts, 0 ≤ hs t ∧ hs t < 4611686018427387904) → Hin (ts.foldl (fun l t => ins ⟨hs t, t⟩ l) l)
  | [], l, h, _ => h
  | t :: ts, l, h, ht => by
    refine Hin_foldl hs ts _ ?_ (fun t' h' => ht t' (List.mem_cons_of_mem _ h'))
    intro x hx
    rcases mem_ins.mp hx with rfl | hx
    · exact ht t List.mem_cons_self
    · exact h x hx
theorem Hin_foldk (sd : Int) (ts : List ByteArray) (ht : ∀ t ∈ ts, t.size ≤ 1000000) : Hin (foldk (hashT sd) ts) :=
  Hin_foldl (hashT sd) ts [] (fun x hx => by simp at hx) (fun t h => hash_range sd t (ht t h))
theorem Distinct_sk (p Kn : Nat) (sd : Int) (l : List S52) (hK1 : 1 ≤ Kn) (hK : Kn ≤ 1024) (hin : Hin l) {N : Nat} {w : World} {L : List Res} (HS0 : St N w (Sk p Kn sd l :: L)) :
    Calls Try.prog 16 #[.pointer (some ⟨p, 0, none⟩)] w fun e w' => e = .returned (.int .i64 (dst Kn l)) ∧ St N w' (Sk p Kn sd l :: L) ∧ Below N w w' := by
  obtain ⟨v, hv⟩ := Sk_open HS0
  obtain ⟨A, c, e, hc, _⟩ := hv.swap.reads
  subst e
  unfold dst
  by_cases hle : l.length ≤ Kn
  · rw [if_pos hle]
    rw [decide_eq_false (show ¬ Kn < l.length by omega)] at hv
    rw [List.take_of_length_le hle] at hv
    refine (bottomk_Distinct.exact _ _ A l.length c p w hv.blk).mono ?_
    rintro e w' ⟨rfl, rfl⟩
    exact ⟨rfl, HS0, Below.refl _ _⟩
  · rw [if_neg hle]
    have ht : (l.take Kn).length = Kn := by rw [List.length_take]; omega
    have hr := rd_take l Kn (Kn - 1) (by omega)
    have hb := Hin_rd hin (Kn - 1) (by omega)
    have hv2 := hv
    rw [decide_eq_true (show Kn < l.length by omega), ht] at hv2
    obtain ⟨ad, e, _⟩ := at_T52 hv2.swap.rowC.2.2 ((Kn - 1 : Nat) : Int) (by omega) (by omega)
    subst e
    refine (bottomk_Distinct.more Kn (Kn - 1) (by omega) hK sd _ hb.1 hb.2 ad c (l.take Kn) ht (congrArg S52.f0 hr) p hv2).mono ?_
    rintro e w' ⟨rfl, hs, hbl⟩
    refine ⟨rfl, Sk_shut (v := .slice (some ad) Kn c) ?_, hbl⟩
    rw [decide_eq_true (show Kn < l.length by omega)]
    exact hs

end Go.Proofs.Ytddhpkobingmhaa.PB
end

/-! # Sk17 -/
section
namespace Go.Proofs.Ytddhpkobingmhaa.PB
open Go.RowKit Go.Proofs.YtddhpkobingmhaaW.PrintWords Go.Proofs.YtddhpkobingmhaaW.PrintLast Go.Proofs.YtddhpkobingmhaaW.PrintMore Go.Proofs.Ytddhpkobingmhaa.Sep
attribute [local go_sem] max2_int min2_int max_two min_two
set_option linter.unusedVariables false
set_option linter.unusedSimpArgs false
set_option maxHeartbeats 8000000
set_option maxRecDepth 100000

theorem kept_more (Kn : Nat) (sd : Int) (A : Option Addr) (n c : Nat) (hn : n ≤ c) (hb : n ≤ 1000000) (h : Kn < n) (w : World) :
    Calls Try.prog 14 #[.agg #[.int .i64 Kn, .int .i64 sd, .slice A n c]] w fun e w' => e = .returned (.slice A Kn c) ∧ Below w.heap.size w w' := by
  have := kept_ok Kn sd A n c hn hb w
  rwa [show min Kn n = Kn by omega] at this
theorem kept_all (Kn : Nat) (sd : Int) (A : Option Addr) (n c : Nat) (hn : n ≤ c) (hb : n ≤ 1000000) (h : n ≤ Kn) (w : World) :
    Calls Try.prog 14 #[.agg #[.int .i64 Kn, .int .i64 sd, .slice A n c]] w fun e w' => e = .returned (.slice A n c) ∧ Below w.heap.size w w' := by
  have := kept_ok Kn sd A n c hn hb w
  rwa [show min Kn n = n by omega] at this

theorem dsl_exact (Kn : Nat) (sd : Int) (A : Option Addr) (c : Nat) (l : List S52) (hc0 : l.length ≤ c) (hl0 : l.length ≤ 1000000) (hle : Aside0 (l.length ≤ Kn)) {N : Nat} {w : World} {L : List Res} (HS0 : St N w (Row k52 52 (.slice A l.length c) l :: L)) :
    Calls Try.prog 17 #[.agg #[.int .i64 Kn, .int .i64 sd, .slice A l.length c]] w fun e w' => e = .returned (.int .i64 l.length) ∧ St N w' (Row k52 52 (.slice A l.length c) l :: L) ∧ Below N w w' := by
  have HS := Aside0.mk HS0
  have HB := Aside0.mk (Below.refl N w)
  have hc := Aside0.mk hc0
  have hl := Aside0.mk hl0
  clear HS0 hc0 hl0
  have hex : Aside0 (sleuthlaw23_state_exact.f (Kn : Int) sd l = some true) := ⟨by unfold sleuthlaw23_state_exact.f; rw [decide_eq_true]; have := hle.out; omega⟩
  go_enter Try.func17, Try.ntmps17
  go_wp2_with (first | ((with_reducible refine gate_dst (N := 1) rfl ?_); refine box_event ?hg (N := 1) ?hd (cs := #[.int .i64 Kn, .int .i64 sd, .slice A l.length c]) (t := 28) ?hr ?_; (case hd => rfl); (case hg => rfl); (case hr => first | (go_simp; done) | (go_simp; rfl)); intro b hg w1 hbox hb; have n0_ := Aside0.mk (HS.out.box hg hbox hb); have n1_ := Aside0.mk (below_step' HB.out HS.out.size hb); clear HS HB; have HS := n0_; have HB := n1_; clear n0_ n1_; (try simp only [List.eraseIdx_cons_succ, List.eraseIdx_cons_zero] at HS); clear hb hbox hg; have hc0_0 := ((HS.out.pick 0 rfl).cell 0).trans (show _ = some (.int .i64 Kn) from rfl); have hc0_1 := ((HS.out.pick 0 rfl).cell 1).trans (show _ = some (.int .i64 sd) from rfl); have hc0_2 := ((HS.out.pick 0 rfl).cell 2).trans (show _ = some (.slice A l.length c) from rfl)) | ((with_reducible refine gate_callee (f := 14) rfl ?_); refine goesL_ (some 7) rfl rfl Try.func14 (by kernel_rfl) rfl #[.agg #[.int .i64 Kn, .int .i64 sd, .slice A l.length c]] rfl (by (try simp only [List.map_toArray, List.map_cons, List.map_nil]); first | done | rfl | (simp only [List.length_drop, List.length_take]; rfl)) ?_; (with_reducible refine (kept_all Kn sd A l.length c hc.out hl.out hle.out _).mono ?_); rintro e w2 ⟨rfl, hb⟩; clear hc0_0 hc0_1 hc0_2; refine ⟨_, rfl, ?_⟩; have n0_ := Aside0.mk (HS.out.step hb); have n1_ := Aside0.mk (below_step' HB.out HS.out.size hb); clear HS HB; have HS := n0_; have HB := n1_; clear n0_ n1_; (try simp only [List.eraseIdx_cons_succ, List.eraseIdx_cons_zero] at HS); clear hb; have hc0_0 := ((HS.out.pick 0 rfl).cell 0).trans (show _ = some (.int .i64 Kn) from rfl); have hc0_1 := ((HS.out.pick 0 rfl).cell 1).trans (show _ = some (.int .i64 sd) from rfl); have hc0_2 := ((HS.out.pick 0 rfl).cell 2).trans (show _ = some (.slice A l.length c) from rfl)) | ((with_reducible refine gate_callee (f := 15) rfl ?_); refine goesL_ (some 9) rfl rfl Try.func15 (by kernel_rfl) rfl #[.agg #[.int .i64 Kn, .int .i64 sd, .slice A l.length c]] rfl (by (try simp only [List.map_toArray, List.map_cons, List.map_nil]); first | done | rfl | (simp only [List.length_drop, List.length_take]; rfl)) ?_; (with_reducible refine (sleuthlaw23_state_exact.calls _ _ A c l true _ (HS.out.pick 1 rfl).rowC.2.2 hc.out hex.out).mono ?_); rintro e w3 ⟨rfl, hb⟩; clear hc0_0 hc0_1 hc0_2; refine ⟨_, rfl, ?_⟩; have n0_ := Aside0.mk (HS.out.step hb); have n1_ := Aside0.mk (below_step' HB.out HS.out.size hb); clear HS HB; have HS := n0_; have HB := n1_; clear n0_ n1_; (try simp only [List.eraseIdx_cons_succ, List.eraseIdx_cons_zero] at HS); clear hb; have hc0_0 := ((HS.out.pick 0 rfl).cell 0).trans (show _ = some (.int .i64 Kn) from rfl); have hc0_1 := ((HS.out.pick 0 rfl).cell 1).trans (show _ = some (.int .i64 sd) from rfl); have hc0_2 := ((HS.out.pick 0 rfl).cell 2).trans (show _ = some (.slice A l.length c) from rfl)))
  go_ret
  exact ⟨rfl, (HS.out.pick 1 rfl).swap.drop, HB.out⟩

theorem dsl_zero (Kn : Nat) (sd : Int) (ad : Addr) (c : Nat) (l : List S52) (hc0 : l.length ≤ c) (hl0 : l.length ≤ 1000000) (hle : Aside0 (Kn < l.length)) (j : Nat) (hj : Aside0 (Kn = j + 1)) (hK : Aside0 (Kn ≤ 1024)) (h : Int) (hh : Aside0 ((rd_T52 l (j : Int)).f0 = h)) (hz : (h == 0) = true) {N : Nat} {w : World} {L : List Res} (HS0 : St N w (Row k52 52 (.slice (some ad) l.length c) l :: L)) :
    Calls Try.prog 17 #[.agg #[.int .i64 Kn, .int .i64 sd, .slice (some ad) l.length c]] w fun e w' => e = .returned (.int .i64 Kn) ∧ St N w' (Row k52 52 (.slice (some ad) l.length c) l :: L) ∧ Below N w w' := by
  have HS := Aside0.mk HS0
  have HB := Aside0.mk (Below.refl N w)
  have hc := Aside0.mk hc0
  have hl := Aside0.mk hl0
  clear HS0 hc0 hl0
  have hex : Aside0 (sleuthlaw23_state_exact.f (Kn : Int) sd l = some false) := ⟨by unfold sleuthlaw23_state_exact.f; rw [decide_eq_false]; have := hle.out; omega⟩
  have q1 : (0 : Int) ≤ (j : Int) := by omega
  have qn : Aside0 ((j : Int) < (l.length : Int)) := ⟨by have := hle.out; have := hj.out; omega⟩
  have q2 : (j : Int) < (Kn : Int) := by have := hj.out; omega
  have q3 : wrap64 ((Kn : Int) - 1) = (j : Int) := by rw [wrap64_small _ (by omega) (by have := hK.out; omega)]; have := hj.out; omega
  go_enter Try.func17, Try.ntmps17
  go_wp2_with (first | ((with_reducible refine gate_dst (N := 1) rfl ?_); refine box_event ?hg (N := 1) ?hd (cs := #[.int .i64 Kn, .int .i64 sd, .slice (some ad) l.length c]) (t := 28) ?hr ?_; (case hd => rfl); (case hg => rfl); (case hr => first | (go_simp; done) | (go_simp; rfl)); intro b hg w1 hbox hb; have n0_ := Aside0.mk (HS.out.box hg hbox hb); have n1_ := Aside0.mk (below_step' HB.out HS.out.size hb); clear HS HB; have HS := n0_; have HB := n1_; clear n0_ n1_; (try simp only [List.eraseIdx_cons_succ, List.eraseIdx_cons_zero] at HS); clear hb hbox hg; have hc0_0 := ((HS.out.pick 0 rfl).cell 0).trans (show _ = some (.int .i64 Kn) from rfl); have hc0_1 := ((HS.out.pick 0 rfl).cell 1).trans (show _ = some (.int .i64 sd) from rfl); have hc0_2 := ((HS.out.pick 0 rfl).cell 2).trans (show _ = some (.slice (some ad) l.length c) from rfl)) | ((with_reducible refine gate_callee (f := 14) rfl ?_); refine goesL_ (some 7) rfl rfl Try.func14 (by kernel_rfl) rfl #[.agg #[.int .i64 Kn, .int .i64 sd, .slice (some ad) l.length c]] rfl (by (try simp only [List.map_toArray, List.map_cons, List.map_nil]); first | done | rfl | (simp only [List.length_drop, List.length_take]; rfl)) ?_; (with_reducible refine (kept_more Kn sd (some ad) l.length c hc.out hl.out hle.out _).mono ?_); rintro e w2 ⟨rfl, hb⟩; clear hc0_0 hc0_1 hc0_2; refine ⟨_, rfl, ?_⟩; have n0_ := Aside0.mk (HS.out.step hb); have n1_ := Aside0.mk (below_step' HB.out HS.out.size hb); clear HS HB; have HS := n0_; have HB := n1_; clear n0_ n1_; (try simp only [List.eraseIdx_cons_succ, List.eraseIdx_cons_zero] at HS); clear hb; have hc0_0 := ((HS.out.pick 0 rfl).cell 0).trans (show _ = some (.int .i64 Kn) from rfl); have hc0_1 := ((HS.out.pick 0 rfl).cell 1).trans (show _ = some (.int .i64 sd) from rfl); have hc0_2 := ((HS.out.pick 0 rfl).cell 2).trans (show _ = some (.slice (some ad) l.length c) from rfl)) | ((with_reducible refine gate_callee (f := 15) rfl ?_); refine goesL_ (some 9) rfl rfl Try.func15 (by kernel_rfl) rfl #[.agg #[.int .i64 Kn, .int .i64 sd, .slice (some ad) l.length c]] rfl (by (try simp only [List.map_toArray, List.map_cons, List.map_nil]); first | done | rfl | (simp only [List.length_drop, List.length_take]; rfl)) ?_; (with_reducible refine (sleuthlaw23_state_exact.calls _ _ (some ad) c l false _ (HS.out.pick 1 rfl).rowC.2.2 hc.out hex.out).mono ?_); rintro e w3 ⟨rfl, hb⟩; clear hc0_0 hc0_1 hc0_2; refine ⟨_, rfl, ?_⟩; have n0_ := Aside0.mk (HS.out.step hb); have n1_ := Aside0.mk (below_step' HB.out HS.out.size hb); clear HS HB; have HS := n0_; have HB := n1_; clear n0_ n1_; (try simp only [List.eraseIdx_cons_succ, List.eraseIdx_cons_zero] at HS); clear hb; obtain ⟨ad2, e2, hx, hx2⟩ := at_T52 (HS.out.pick 1 rfl).rowC.2.2 (j : Int) q1 qn.out; cases e2; rw [hh.out, Int.toNat_natCast] at hx; clear hx2; have hc0_0 := ((HS.out.pick 0 rfl).cell 0).trans (show _ = some (.int .i64 Kn) from rfl); have hc0_1 := ((HS.out.pick 0 rfl).cell 1).trans (show _ = some (.int .i64 sd) from rfl); have hc0_2 := ((HS.out.pick 0 rfl).cell 2).trans (show _ = some (.slice (some ad) l.length c) from rfl)))
  go_ret
  exact ⟨rfl, (HS.out.pick 1 rfl).swap.drop, HB.out⟩

theorem dsl_neg (Kn : Nat) (sd : Int) (ad : Addr) (c : Nat) (l : List S52) (hc0 : l.length ≤ c) (hl0 : l.length ≤ 1000000) (hle : Aside0 (Kn < l.length)) (j : Nat) (hj : Aside0 (Kn = j + 1)) (hK : Aside0 (Kn ≤ 1024)) (h : Int) (hh : Aside0 ((rd_T52 l (j : Int)).f0 = h)) (hz : (h == 0) = false) (r : Int) (hq : Aside0 (sleuthlaw23_quotient.f 63 (j : Int) h 1099511627776 = some r)) (hr : (r < 0) = True) {N : Nat} {w : World} {L : List Res} (HS0 : St N w (Row k52 52 (.slice (some ad) l.length c) l :: L)) :
    Calls Try.prog 17 #[.agg #[.int .i64 Kn, .int .i64 sd, .slice (some ad) l.length c]] w fun e w' => e = .returned (.int .i64 1099511627776) ∧ St N w' (Row k52 52 (.slice (some ad) l.length c) l :: L) ∧ Below N w w' := by
  have HS := Aside0.mk HS0
  have HB := Aside0.mk (Below.refl N w)
  have hc := Aside0.mk hc0
  have hl := Aside0.mk hl0
  clear HS0 hc0 hl0
  have hex : Aside0 (sleuthlaw23_state_exact.f (Kn : Int) sd l = some false) := ⟨by unfold sleuthlaw23_state_exact.f; rw [decide_eq_false]; have := hle.out; omega⟩
  have q1 : (0 : Int) ≤ (j : Int) := by omega
  have qn : Aside0 ((j : Int) < (l.length : Int)) := ⟨by have := hle.out; have := hj.out; omega⟩
  have q2 : (j : Int) < (Kn : Int) := by have := hj.out; omega
  have q3 : wrap64 ((Kn : Int) - 1) = (j : Int) := by rw [wrap64_small _ (by omega) (by have := hK.out; omega)]; have := hj.out; omega
  go_enter Try.func17, Try.ntmps17
  go_wp2_with (first | ((with_reducible refine gate_dst (N := 1) rfl ?_); refine box_event ?hg (N := 1) ?hd (cs := #[.int .i64 Kn, .int .i64 sd, .slice (some ad) l.length c]) (t := 28) ?hr ?_; (case hd => rfl); (case hg => rfl); (case hr => first | (go_simp; done) | (go_simp; rfl)); intro b hg w1 hbox hb; have n0_ := Aside0.mk (HS.out.box hg hbox hb); have n1_ := Aside0.mk (below_step' HB.out HS.out.size hb); clear HS HB; have HS := n0_; have HB := n1_; clear n0_ n1_; (try simp only [List.eraseIdx_cons_succ, List.eraseIdx_cons_zero] at HS); clear hb hbox hg; have hc0_0 := ((HS.out.pick 0 rfl).cell 0).trans (show _ = some (.int .i64 Kn) from rfl); have hc0_1 := ((HS.out.pick 0 rfl).cell 1).trans (show _ = some (.int .i64 sd) from rfl); have hc0_2 := ((HS.out.pick 0 rfl).cell 2).trans (show _ = some (.slice (some ad) l.length c) from rfl)) | ((with_reducible refine gate_callee (f := 14) rfl ?_); refine goesL_ (some 7) rfl rfl Try.func14 (by kernel_rfl) rfl #[.agg #[.int .i64 Kn, .int .i64 sd, .slice (some ad) l.length c]] rfl (by (try simp only [List.map_toArray, List.map_cons, List.map_nil]); first | done | rfl | (simp only [List.length_drop, List.length_take]; rfl)) ?_; (with_reducible refine (kept_more Kn sd (some ad) l.length c hc.out hl.out hle.out _).mono ?_); rintro e w2 ⟨rfl, hb⟩; clear hc0_0 hc0_1 hc0_2; refine ⟨_, rfl, ?_⟩; have n0_ := Aside0.mk (HS.out.step hb); have n1_ := Aside0.mk (below_step' HB.out HS.out.size hb); clear HS HB; have HS := n0_; have HB := n1_; clear n0_ n1_; (try simp only [List.eraseIdx_cons_succ, List.eraseIdx_cons_zero] at HS); clear hb; have hc0_0 := ((HS.out.pick 0 rfl).cell 0).trans (show _ = some (.int .i64 Kn) from rfl); have hc0_1 := ((HS.out.pick 0 rfl).cell 1).trans (show _ = some (.int .i64 sd) from rfl); have hc0_2 := ((HS.out.pick 0 rfl).cell 2).trans (show _ = some (.slice (some ad) l.length c) from rfl)) | ((with_reducible refine gate_callee (f := 15) rfl ?_); refine goesL_ (some 9) rfl rfl Try.func15 (by kernel_rfl) rfl #[.agg #[.int .i64 Kn, .int .i64 sd, .slice (some ad) l.length c]] rfl (by (try simp only [List.map_toArray, List.map_cons, List.map_nil]); first | done | rfl | (simp only [List.length_drop, List.length_take]; rfl)) ?_; (with_reducible refine (sleuthlaw23_state_exact.calls _ _ (some ad) c l false _ (HS.out.pick 1 rfl).rowC.2.2 hc.out hex.out).mono ?_); rintro e w3 ⟨rfl, hb⟩; clear hc0_0 hc0_1 hc0_2; refine ⟨_, rfl, ?_⟩; have n0_ := Aside0.mk (HS.out.step hb); have n1_ := Aside0.mk (below_step' HB.out HS.out.size hb); clear HS HB; have HS := n0_; have HB := n1_; clear n0_ n1_; (try simp only [List.eraseIdx_cons_succ, List.eraseIdx_cons_zero] at HS); clear hb; obtain ⟨ad2, e2, hx, hx2⟩ := at_T52 (HS.out.pick 1 rfl).rowC.2.2 (j : Int) q1 qn.out; cases e2; rw [hh.out, Int.toNat_natCast] at hx; clear hx2; have hc0_0 := ((HS.out.pick 0 rfl).cell 0).trans (show _ = some (.int .i64 Kn) from rfl); have hc0_1 := ((HS.out.pick 0 rfl).cell 1).trans (show _ = some (.int .i64 sd) from rfl); have hc0_2 := ((HS.out.pick 0 rfl).cell 2).trans (show _ = some (.slice (some ad) l.length c) from rfl)) | (go_at_call 41; refine (sleuthlaw23_quotient.calls 63 _ _ _ r _ hq.out).mono ?_; rintro e w4 ⟨rfl, hb0⟩; have hb := hb0.below; clear hb0 hx; clear hc0_0 hc0_1 hc0_2; have n0_ := Aside0.mk (HS.out.step hb); have n1_ := Aside0.mk (below_step' HB.out HS.out.size hb); clear HS HB; have HS := n0_; have HB := n1_; clear n0_ n1_; (try simp only [List.eraseIdx_cons_succ, List.eraseIdx_cons_zero] at HS); clear hb; have hc0_0 := ((HS.out.pick 0 rfl).cell 0).trans (show _ = some (.int .i64 Kn) from rfl); have hc0_1 := ((HS.out.pick 0 rfl).cell 1).trans (show _ = some (.int .i64 sd) from rfl); have hc0_2 := ((HS.out.pick 0 rfl).cell 2).trans (show _ = some (.slice (some ad) l.length c) from rfl)))
  go_ret
  exact ⟨rfl, (HS.out.pick 1 rfl).swap.drop, HB.out⟩

theorem dsl_A (Kn : Nat) (sd : Int) (ad : Addr) (c : Nat) (l : List S52) (hc0 : l.length ≤ c) (hl0 : l.length ≤ 1000000) (hle : Aside0 (Kn < l.length)) (j : Nat) (hj : Aside0 (Kn = j + 1)) (hK : Aside0 (Kn ≤ 1024)) (h : Int) (hh : Aside0 ((rd_T52 l (j : Int)).f0 = h)) (hz : (h == 0) = false) (r : Int) (hq : Aside0 (sleuthlaw23_quotient.f 63 (j : Int) h 1099511627776 = some r)) (hr : (r < 0) = False) (hr2 : (r < (Kn : Int)) = True) {N : Nat} {w : World} {L : List Res} (HS0 : St N w (Row k52 52 (.slice (some ad) l.length c) l :: L)) :
    Calls Try.prog 17 #[.agg #[.int .i64 Kn, .int .i64 sd, .slice (some ad) l.length c]] w fun e w' => e = .returned (.int .i64 Kn) ∧ St N w' (Row k52 52 (.slice (some ad) l.length c) l :: L) ∧ Below N w w' := by
  have HS := Aside0.mk HS0
  have HB := Aside0.mk (Below.refl N w)
  have hc := Aside0.mk hc0
  have hl := Aside0.mk hl0
  clear HS0 hc0 hl0
  have hex : Aside0 (sleuthlaw23_state_exact.f (Kn : Int) sd l = some false) := ⟨by unfold sleuthlaw23_state_exact.f; rw [decide_eq_false]; have := hle.out; omega⟩
  have q1 : (0 : Int) ≤ (j : Int) := by omega
  have qn : Aside0 ((j : Int) < (l.length : Int)) := ⟨by have := hle.out; have := hj.out; omega⟩
  have q2 : (j : Int) < (Kn : Int) := by have := hj.out; omega
  have q3 : wrap64 ((Kn : Int) - 1) = (j : Int) := by rw [wrap64_small _ (by omega) (by have := hK.out; omega)]; have := hj.out; omega
  go_enter Try.func17, Try.ntmps17
  go_wp2_with (first | ((with_reducible refine gate_dst (N := 1) rfl ?_); refine box_event ?hg (N := 1) ?hd (cs := #[.int .i64 Kn, .int .i64 sd, .slice (some ad) l.length c]) (t := 28) ?hr ?_; (case hd => rfl); (case hg => rfl); (case hr => first | (go_simp; done) | (go_simp; rfl)); intro b hg w1 hbox hb; have n0_ := Aside0.mk (HS.out.box hg hbox hb); have n1_ := Aside0.mk (below_step' HB.out HS.out.size hb); clear HS HB; have HS := n0_; have HB := n1_; clear n0_ n1_; (try simp only [List.eraseIdx_cons_succ, List.eraseIdx_cons_zero] at HS); clear hb hbox hg; have hc0_0 := ((HS.out.pick 0 rfl).cell 0).trans (show _ = some (.int .i64 Kn) from rfl); have hc0_1 := ((HS.out.pick 0 rfl).cell 1).trans (show _ = some (.int .i64 sd) from rfl); have hc0_2 := ((HS.out.pick 0 rfl).cell 2).trans (show _ = some (.slice (some ad) l.length c) from rfl)) | ((with_reducible refine gate_callee (f := 14) rfl ?_); refine goesL_ (some 7) rfl rfl Try.func14 (by kernel_rfl) rfl #[.agg #[.int .i64 Kn, .int .i64 sd, .slice (some ad) l.length c]] rfl (by (try simp only [List.map_toArray, List.map_cons, List.map_nil]); first | done | rfl | (simp only [List.length_drop, List.length_take]; rfl)) ?_; (with_reducible refine (kept_more Kn sd (some ad) l.length c hc.out hl.out hle.out _).mono ?_); rintro e w2 ⟨rfl, hb⟩; clear hc0_0 hc0_1 hc0_2; refine ⟨_, rfl, ?_⟩; have n0_ := Aside0.mk (HS.out.step hb); have n1_ := Aside0.mk (below_step' HB.out HS.out.size hb); clear HS HB; have HS := n0_; have HB := n1_; clear n0_ n1_; (try simp only [List.eraseIdx_cons_succ, List.eraseIdx_cons_zero] at HS); clear hb; have hc0_0 := ((HS.out.pick 0 rfl).cell 0).trans (show _ = some (.int .i64 Kn) from rfl); have hc0_1 := ((HS.out.pick 0 rfl).cell 1).trans (show _ = some (.int .i64 sd) from rfl); have hc0_2 := ((HS.out.pick 0 rfl).cell 2).trans (show _ = some (.slice (some ad) l.length c) from rfl)) | ((with_reducible refine gate_callee (f := 15) rfl ?_); refine goesL_ (some 9) rfl rfl Try.func15 (by kernel_rfl) rfl #[.agg #[.int .i64 Kn, .int .i64 sd, .slice (some ad) l.length c]] rfl (by (try simp only [List.map_toArray, List.map_cons, List.map_nil]); first | done | rfl | (simp only [List.length_drop, List.length_take]; rfl)) ?_; (with_reducible refine (sleuthlaw23_state_exact.calls _ _ (some ad) c l false _ (HS.out.pick 1 rfl).rowC.2.2 hc.out hex.out).mono ?_); rintro e w3 ⟨rfl, hb⟩; clear hc0_0 hc0_1 hc0_2; refine ⟨_, rfl, ?_⟩; have n0_ := Aside0.mk (HS.out.step hb); have n1_ := Aside0.mk (below_step' HB.out HS.out.size hb); clear HS HB; have HS := n0_; have HB := n1_; clear n0_ n1_; (try simp only [List.eraseIdx_cons_succ, List.eraseIdx_cons_zero] at HS); clear hb; obtain ⟨ad2, e2, hx, hx2⟩ := at_T52 (HS.out.pick 1 rfl).rowC.2.2 (j : Int) q1 qn.out; cases e2; rw [hh.out, Int.toNat_natCast] at hx; clear hx2; have hc0_0 := ((HS.out.pick 0 rfl).cell 0).trans (show _ = some (.int .i64 Kn) from rfl); have hc0_1 := ((HS.out.pick 0 rfl).cell 1).trans (show _ = some (.int .i64 sd) from rfl); have hc0_2 := ((HS.out.pick 0 rfl).cell 2).trans (show _ = some (.slice (some ad) l.length c) from rfl)) | (go_at_call 41; refine (sleuthlaw23_quotient.calls 63 _ _ _ r _ hq.out).mono ?_; rintro e w4 ⟨rfl, hb0⟩; have hb := hb0.below; clear hb0 hx; clear hc0_0 hc0_1 hc0_2; have n0_ := Aside0.mk (HS.out.step hb); have n1_ := Aside0.mk (below_step' HB.out HS.out.size hb); clear HS HB; have HS := n0_; have HB := n1_; clear n0_ n1_; (try simp only [List.eraseIdx_cons_succ, List.eraseIdx_cons_zero] at HS); clear hb; have hc0_0 := ((HS.out.pick 0 rfl).cell 0).trans (show _ = some (.int .i64 Kn) from rfl); have hc0_1 := ((HS.out.pick 0 rfl).cell 1).trans (show _ = some (.int .i64 sd) from rfl); have hc0_2 := ((HS.out.pick 0 rfl).cell 2).trans (show _ = some (.slice (some ad) l.length c) from rfl)))
  go_ret
  exact ⟨rfl, (HS.out.pick 1 rfl).swap.drop, HB.out⟩

theorem dsl_B (Kn : Nat) (sd : Int) (ad : Addr) (c : Nat) (l : List S52) (hc0 : l.length ≤ c) (hl0 : l.length ≤ 1000000) (hle : Aside0 (Kn < l.length)) (j : Nat) (hj : Aside0 (Kn = j + 1)) (hK : Aside0 (Kn ≤ 1024)) (h : Int) (hh : Aside0 ((rd_T52 l (j : Int)).f0 = h)) (hz : (h == 0) = false) (r : Int) (hq : Aside0 (sleuthlaw23_quotient.f 63 (j : Int) h 1099511627776 = some r)) (hr : (r < 0) = False) (hr2 : (r < (Kn : Int)) = False) {N : Nat} {w : World} {L : List Res} (HS0 : St N w (Row k52 52 (.slice (some ad) l.length c) l :: L)) :
    Calls Try.prog 17 #[.agg #[.int .i64 Kn, .int .i64 sd, .slice (some ad) l.length c]] w fun e w' => e = .returned (.int .i64 r) ∧ St N w' (Row k52 52 (.slice (some ad) l.length c) l :: L) ∧ Below N w w' := by
  have HS := Aside0.mk HS0
  have HB := Aside0.mk (Below.refl N w)
  have hc := Aside0.mk hc0
  have hl := Aside0.mk hl0
  clear HS0 hc0 hl0
  have hex : Aside0 (sleuthlaw23_state_exact.f (Kn : Int) sd l = some false) := ⟨by unfold sleuthlaw23_state_exact.f; rw [decide_eq_false]; have := hle.out; omega⟩
  have q1 : (0 : Int) ≤ (j : Int) := by omega
  have qn : Aside0 ((j : Int) < (l.length : Int)) := ⟨by have := hle.out; have := hj.out; omega⟩
  have q2 : (j : Int) < (Kn : Int) := by have := hj.out; omega
  have q3 : wrap64 ((Kn : Int) - 1) = (j : Int) := by rw [wrap64_small _ (by omega) (by have := hK.out; omega)]; have := hj.out; omega
  go_enter Try.func17, Try.ntmps17
  go_wp2_with (first | ((with_reducible refine gate_dst (N := 1) rfl ?_); refine box_event ?hg (N := 1) ?hd (cs := #[.int .i64 Kn, .int .i64 sd, .slice (some ad) l.length c]) (t := 28) ?hr ?_; (case hd => rfl); (case hg => rfl); (case hr => first | (go_simp; done) | (go_simp; rfl)); intro b hg w1 hbox hb; have n0_ := Aside0.mk (HS.out.box hg hbox hb); have n1_ := Aside0.mk (below_step' HB.out HS.out.size hb); clear HS HB; have HS := n0_; have HB := n1_; clear n0_ n1_; (try simp only [List.eraseIdx_cons_succ, List.eraseIdx_cons_zero] at HS); clear hb hbox hg; have hc0_0 := ((HS.out.pick 0 rfl).cell 0).trans (show _ = some (.int .i64 Kn) from rfl); have hc0_1 := ((HS.out.pick 0 rfl).cell 1).trans (show _ = some (.int .i64 sd) from rfl); have hc0_2 := ((HS.out.pick 0 rfl).cell 2).trans (show _ = some (.slice (some ad) l.length c) from rfl)) | ((with_reducible refine gate_callee (f := 14) rfl ?_); refine goesL_ (some 7) rfl rfl Try.func14 (by kernel_rfl) rfl #[.agg #[.int .i64 Kn, .int .i64 sd, .slice (some ad) l.length c]] rfl (by (try simp only [List.map_toArray, List.map_cons, List.map_nil]); first | done | rfl | (simp only [List.length_drop, List.length_take]; rfl)) ?_; (with_reducible refine (kept_more Kn sd (some ad) l.length c hc.out hl.out hle.out _).mono ?_); rintro e w2 ⟨rfl, hb⟩; clear hc0_0 hc0_1 hc0_2; refine ⟨_, rfl, ?_⟩; have n0_ := Aside0.mk (HS.out.step hb); have n1_ := Aside0.mk (below_step' HB.out HS.out.size hb); clear HS HB; have HS := n0_; have HB := n1_; clear n0_ n1_; (try simp only [List.eraseIdx_cons_succ, List.eraseIdx_cons_zero] at HS); clear hb; have hc0_0 := ((HS.out.pick 0 rfl).cell 0).trans (show _ = some (.int .i64 Kn) from rfl); have hc0_1 := ((HS.out.pick 0 rfl).cell 1).trans (show _ = some (.int .i64 sd) from rfl); have hc0_2 := ((HS.out.pick 0 rfl).cell 2).trans (show _ = some (.slice (some ad) l.length c) from rfl)) | ((with_reducible refine gate_callee (f := 15) rfl ?_); refine goesL_ (some 9) rfl rfl Try.func15 (by kernel_rfl) rfl #[.agg #[.int .i64 Kn, .int .i64 sd, .slice (some ad) l.length c]] rfl (by (try simp only [List.map_toArray, List.map_cons, List.map_nil]); first | done | rfl | (simp only [List.length_drop, List.length_take]; rfl)) ?_; (with_reducible refine (sleuthlaw23_state_exact.calls _ _ (some ad) c l false _ (HS.out.pick 1 rfl).rowC.2.2 hc.out hex.out).mono ?_); rintro e w3 ⟨rfl, hb⟩; clear hc0_0 hc0_1 hc0_2; refine ⟨_, rfl, ?_⟩; have n0_ := Aside0.mk (HS.out.step hb); have n1_ := Aside0.mk (below_step' HB.out HS.out.size hb); clear HS HB; have HS := n0_; have HB := n1_; clear n0_ n1_; (try simp only [List.eraseIdx_cons_succ, List.eraseIdx_cons_zero] at HS); clear hb; obtain ⟨ad2, e2, hx, hx2⟩ := at_T52 (HS.out.pick 1 rfl).rowC.2.2 (j : Int) q1 qn.out; cases e2; rw [hh.out, Int.toNat_natCast] at hx; clear hx2; have hc0_0 := ((HS.out.pick 0 rfl).cell 0).trans (show _ = some (.int .i64 Kn) from rfl); have hc0_1 := ((HS.out.pick 0 rfl).cell 1).trans (show _ = some (.int .i64 sd) from rfl); have hc0_2 := ((HS.out.pick 0 rfl).cell 2).trans (show _ = some (.slice (some ad) l.length c) from rfl)) | (go_at_call 41; refine (sleuthlaw23_quotient.calls 63 _ _ _ r _ hq.out).mono ?_; rintro e w4 ⟨rfl, hb0⟩; have hb := hb0.below; clear hb0 hx; clear hc0_0 hc0_1 hc0_2; have n0_ := Aside0.mk (HS.out.step hb); have n1_ := Aside0.mk (below_step' HB.out HS.out.size hb); clear HS HB; have HS := n0_; have HB := n1_; clear n0_ n1_; (try simp only [List.eraseIdx_cons_succ, List.eraseIdx_cons_zero] at HS); clear hb; have hc0_0 := ((HS.out.pick 0 rfl).cell 0).trans (show _ = some (.int .i64 Kn) from rfl); have hc0_1 := ((HS.out.pick 0 rfl).cell 1).trans (show _ = some (.int .i64 sd) from rfl); have hc0_2 := ((HS.out.pick 0 rfl).cell 2).trans (show _ = some (.slice (some ad) l.length c) from rfl)))
  go_ret
  exact ⟨rfl, (HS.out.pick 1 rfl).swap.drop, HB.out⟩

theorem state_distinct (Kn : Nat) (hK1 : 1 ≤ Kn) (hK : Kn ≤ 1024) (sd : Int) (l : List S52) (hl0 : l.length ≤ 1000000) (hin : Hin l) (v : Value) {N : Nat} {w : World} {L : List Res} (HS0 : St N w (Row k52 52 v l :: L)) :
    Calls Try.prog 17 #[.agg #[.int .i64 Kn, .int .i64 sd, v]] w fun e w' => e = .returned (.int .i64 (dst Kn l)) ∧ St N w' (Row k52 52 v l :: L) ∧ Below N w w' := by
  obtain ⟨A, c, e, hc, _⟩ := HS0.reads
  subst e
  unfold dst
  by_cases hle : l.length ≤ Kn
  · rw [if_pos hle]
    exact dsl_exact Kn sd A c l hc hl0 ⟨hle⟩ HS0
  · rw [if_neg hle]
    have hlt : Kn < l.length := by omega
    obtain ⟨ad, e, _⟩ := at_T52 HS0.rowC.2.2 ((Kn - 1 : Nat) : Int) (by omega) (by omega)
    subst e
    have hb := Hin_rd hin (Kn - 1) (by omega)
    have ek : (Kn : Int) - 1 = ((Kn - 1 : Nat) : Int) := by omega
    have hj : Kn = (Kn - 1) + 1 := by omega
    unfold dist
    rw [ek]
    generalize hh : (rd_T52 l ((Kn - 1 : Nat) : Int)).f0 = h at hb ⊢
    by_cases hz : h = 0
    · rw [if_pos hz]
      exact dsl_zero Kn sd ad c l hc hl0 ⟨hlt⟩ (Kn - 1) ⟨hj⟩ ⟨hK⟩ h ⟨hh⟩ (by simpa using hz) HS0
    · rw [if_neg hz]
      have hq := quot_ok ((Kn - 1 : Nat) : Int) h (by omega) (by omega) (by omega) (by omega)
      have n0 := dist_nonneg ((Kn - 1 : Nat) : Int) h (by omega) (by omega)
      generalize distQ ((Kn - 1 : Nat) : Int) h = Q at hq n0 ⊢
      by_cases k1 : Q > 1099511627776
      · rw [if_pos k1] at hq ⊢
        exact dsl_neg Kn sd ad c l hc hl0 ⟨hlt⟩ (Kn - 1) ⟨hj⟩ ⟨hK⟩ h ⟨hh⟩ (by simpa using hz) (-1) ⟨hq⟩ (eq_true (by omega)) HS0
      · rw [if_neg k1] at hq ⊢
        by_cases k2 : Q < (Kn : Int)
        · rw [if_neg (show ¬ Q > (Kn : Int) by omega)]
          exact dsl_A Kn sd ad c l hc hl0 ⟨hlt⟩ (Kn - 1) ⟨hj⟩ ⟨hK⟩ h ⟨hh⟩ (by simpa using hz) Q ⟨hq⟩ (eq_false (by omega)) (eq_true k2) HS0
        · have : (if Q > (Kn : Int) then Q else (Kn : Int)) = Q := by split <;> omega
          rw [this]
          exact dsl_B Kn sd ad c l hc hl0 ⟨hlt⟩ (Kn - 1) ⟨hj⟩ ⟨hK⟩ h ⟨hh⟩ (by simpa using hz) Q ⟨hq⟩ (eq_false (by omega)) (eq_false k2) HS0

theorem distinct_to (Kn : Nat) (hK1 : 1 ≤ Kn) (hK : Kn ≤ 1024) (sd : Int) (l : List S52) (hl0 : l.length ≤ 1000000) (hin : Hin l) (D : Int) (hD : dst Kn l = D) (v : Value) {N : Nat} {w : World} {L : List Res} (HS0 : St N w (Row k52 52 v l :: L)) :
    Calls Try.prog 17 #[.agg #[.int .i64 Kn, .int .i64 sd, v]] w fun e w' => e = .returned (.int .i64 D) ∧ St N w' (Row k52 52 v l :: L) ∧ Below N w w' := by
  have := state_distinct Kn hK1 hK sd l hl0 hin v HS0
  rwa [hD] at this

end Go.Proofs.Ytddhpkobingmhaa.PB
end
