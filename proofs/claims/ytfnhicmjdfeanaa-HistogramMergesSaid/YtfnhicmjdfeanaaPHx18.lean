-- Written by a program of this session (gprint.py) out of Lean's own print of the program. Lean checks it.
import Derived.Test.YtfnhicmjdfeanaaPHx0
namespace Go.Proofs.Ytfnhicmjdfeanaa.PH
open Go.RowKit Go.Proofs.YtfnhicmjdfeanaaW.PrintWords Go.Proofs.YtfnhicmjdfeanaaW.PrintLast Go.Proofs.YtfnhicmjdfeanaaW.PrintMore
attribute [local go_sem] max2_int min2_int max_two min_two max_three min_three max_four min_four   -- for this text's walks alone
set_option linter.unusedVariables false
set_option linter.unusedSimpArgs false

/-! ### sleuthlaw21_index: function 15 -/
def sleuthlaw21_index.l0 : Nat → Int → Int → Option (Int)
  | 0, _, _ => none
  | k + 1, x0, x3 => if 0 ≤ x3 then (if (shr .i64 x0 x3) ≥ 16 then (sleuthlaw21_index.l0 k x0 (wrap64 (x3 + 1))) else (some (wrap64 ((wrap64 (8 * x3)) + (shr .i64 x0 x3))))) else (none)
def sleuthlaw21_index.f (k : Nat) (a0 : Int) : Option (Int) := sleuthlaw21_index.l0 k a0 0
theorem sleuthlaw21_index.mono_l : ∀ k, (∀ y0 y1, LeO (sleuthlaw21_index.l0 k y0 y1) (sleuthlaw21_index.l0 (k + 1) y0 y1))
  | 0 => fun _ _ r h => by simp [sleuthlaw21_index.l0] at h
  | k + 1 => by
    have ih0 := sleuthlaw21_index.mono_l k
    · intro y0 y1
      unfold sleuthlaw21_index.l0
      repeat' first
      | (with_reducible exact ih0 _ _)
      | (with_reducible exact LeO.refl _)
      | (with_reducible exact LeO.none _)
      | (with_reducible refine LeO.ite ?_ ?_)
      | (with_reducible refine LeO.bind ?_ (fun _ => ?_))
      | exact ih0 _ _
      | exact LeO.none _
      | refine LeO.ite ?_ ?_
      | refine LeO.bind ?_ (fun _ => ?_)
theorem sleuthlaw21_index.mono : ∀ a0 k, LeO (sleuthlaw21_index.f k a0) (sleuthlaw21_index.f (k + 1) a0) := by
  intro a0 k
  have ih0 := sleuthlaw21_index.mono_l k
  unfold sleuthlaw21_index.f
  repeat' first
      | (with_reducible exact ih0 _ _)
      | (with_reducible exact LeO.refl _)
      | (with_reducible exact LeO.none _)
      | (with_reducible refine LeO.ite ?_ ?_)
      | (with_reducible refine LeO.bind ?_ (fun _ => ?_))
      | exact ih0 _ _
      | exact LeO.none _
      | refine LeO.ite ?_ ?_
      | refine LeO.bind ?_ (fun _ => ?_)
set_option maxHeartbeats 8000000 in
set_option maxRecDepth 100000 in
theorem sleuthlaw21_index.calls (k : Nat) (a0 : Int) (r : Int) (w : World) (h : sleuthlaw21_index.f k a0 = some r) :
    Calls Try.prog 15 #[.int .i64 a0] w fun e w' => e = .returned (.int .i64 r) ∧ Drawn0 w w' := by
  have H : (sleuthlaw21_index.l0 k a0 0) = some r := h
  clear h
  have H' := Aside0.mk H
  clear H
  go_enter Try.func15, Try.ntmps15
  go_wp2
  go_loopg [3] k (fun kq v3 w' => ∃ (x3_1 : Int), v3 = .int .i64 x3_1 ∧ Aside0 (sleuthlaw21_index.l0 kq a0 x3_1 = some r) ∧ Aside0 (kq ≤ k) ∧ Drawn0 w w')
  case atStart => exact ⟨(0), (by first | rfl | (simp; done) | (simp [*]; done)), H', ⟨Nat.le_refl _⟩, by repeat (first | exact Drawn0.refl _ | apply Drawn0.step)⟩
  case round =>
    clear H'
    try clear c1
    obtain ⟨x3_1, rfl, HA, HK1, ⟨m1, rfl⟩⟩ := hrel
    cases gk with
    | zero => exact absurd HA.out (by simp [sleuthlaw21_index.l0])
    | succ k1 =>
      have H := HA.out
      clear HA
      simp only [sleuthlaw21_index.l0] at H
      by_cases c2 : 0 ≤ x3_1
      · rw [if_pos c2] at H
        have c2b0 := eq_true c2
        have c2b1 : decide (0 ≤ x3_1) = true := decide_eq_true c2
        clear c2
        obtain ⟨ji3, hji3⟩ : ∃ j_ : Int, (shr .i64 a0 x3_1) = j_ := ⟨_, rfl⟩
        replace H : (if (ji3) ≥ 16 then (sleuthlaw21_index.l0 k1 a0 (wrap64 (x3_1 + 1))) else (some (wrap64 ((wrap64 (8 * x3_1)) + (ji3))))) = some r := by first | (rw [hji3] at H; exact H) | (simp only [hji3] at H ⊢; exact H)
        have hji3_ : (a0 / 2 ^ min x3_1.toNat 64) = ji3 := hji3
        have hji3z : x3_1 ≤ 64 → (a0 / 2 ^ x3_1.toNat) = ji3 := shr_small hji3
        by_cases c4 : (ji3) ≥ 16
        · rw [if_pos c4] at H
          have c4b0 : decide (16 ≤ (ji3)) = true := decide_eq_true c4
          clear c4
          have H' := Aside0.mk H
          clear H
          go_wp2
          go_roundg k1
          case measure => have := HK1.out; omega
          case rel => exact ⟨(wrap64 (x3_1 + 1)), (by first | rfl | (simp; done) | (simp [*]; done)), H', ⟨by have := HK1.out; omega⟩, by repeat (first | exact Drawn0.refl _ | apply Drawn0.step)⟩
        · rw [if_neg c4] at H
          have c4b0 : decide (16 ≤ (ji3)) = false := decide_eq_false c4
          clear c4
          have c5b0 := eq_true (of_decide_eq_true (by first | (with_reducible assumption) | assumption) : 0 ≤ x3_1)
          obtain rfl := Option.some.inj H
          go_wp2
          go_ret
          exact ⟨by first | rfl | (simp; done) | (simp only [← hji3] <;> (first | rfl | simp)) | (simp [*]; done), by repeat (first | exact Drawn0.refl _ | apply Drawn0.step)⟩
      · rw [if_neg c2] at H
        exact absurd H (by simp)

end Go.Proofs.Ytfnhicmjdfeanaa.PH
