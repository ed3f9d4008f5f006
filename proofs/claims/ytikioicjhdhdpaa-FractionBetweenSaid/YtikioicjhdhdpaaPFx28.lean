-- Written by a program of this session (gprint.py) out of Lean's own print of the program. Lean checks it.
import Derived.Test.YtikioicjhdhdpaaPFx0
namespace Go.Proofs.Ytikioicjhdhdpaa.PF
open Go.RowKit Go.Proofs.YtikioicjhdhdpaaW.PrintWords Go.Proofs.YtikioicjhdhdpaaW.PrintLast Go.Proofs.YtikioicjhdhdpaaW.PrintMore
attribute [local go_sem] max2_int min2_int max_two min_two max_three min_three max_four min_four   -- for this text's walks alone
set_option linter.unusedVariables false
set_option linter.unusedSimpArgs false

/-! ### fraction_simplest: function 59 -/
def fraction_simplest.f : Nat → Int → Int → Int → Int → Option (Int × Int)
  | 0, _, _, _, _ => none
  | k + 1, a0, a1, a2, a3 => if a1 = 0 then (none) else (if a3 = 0 then (some (wrap64 ((wrap64 (Int.tdiv a0 a1)) + 1), 1)) else (if (wrap64 ((wrap64 ((wrap64 (Int.tdiv a0 a1)) + 1)) * a3)) < a2 then (some (wrap64 ((wrap64 (Int.tdiv a0 a1)) + 1), 1)) else ((fraction_simplest.f k a3 (wrap64 (a2 - (wrap64 ((wrap64 (Int.tdiv a0 a1)) * a3)))) a1 (wrap64 (a0 - (wrap64 ((wrap64 (Int.tdiv a0 a1)) * a1))))).bind fun bt419 => (some (wrap64 ((wrap64 ((wrap64 (Int.tdiv a0 a1)) * bt419.1)) + bt419.2), bt419.1)))))
theorem fraction_simplest.mono_l : ∀ k, (∀ y0 y1 y2 y3, LeO (fraction_simplest.f k y0 y1 y2 y3) (fraction_simplest.f (k + 1) y0 y1 y2 y3))
  | 0 => fun _ _ _ _ r h => by simp [fraction_simplest.f] at h
  | k + 1 => by
    have ih0 := fraction_simplest.mono_l k
    · intro y0 y1 y2 y3
      unfold fraction_simplest.f
      repeat' first
      | (with_reducible exact ih0 _ _ _ _)
      | (with_reducible exact LeO.refl _)
      | (with_reducible exact LeO.none _)
      | (with_reducible refine LeO.ite ?_ ?_)
      | (with_reducible refine LeO.bind ?_ (fun _ => ?_))
      | exact ih0 _ _ _ _
      | exact LeO.none _
      | refine LeO.ite ?_ ?_
      | refine LeO.bind ?_ (fun _ => ?_)
theorem fraction_simplest.mono : ∀ a0 a1 a2 a3 k, LeO (fraction_simplest.f k a0 a1 a2 a3) (fraction_simplest.f (k + 1) a0 a1 a2 a3) := by
  intro a0 a1 a2 a3 k
  have ih0 := fraction_simplest.mono_l k
  exact ih0 a0 a1 a2 a3
set_option maxHeartbeats 8000000 in
set_option maxRecDepth 100000 in
theorem fraction_simplest.calls (k : Nat) : ∀ (a0 : Int) (a1 : Int) (a2 : Int) (a3 : Int) (r1 : Int) (r2 : Int) (w : World) (h : fraction_simplest.f k a0 a1 a2 a3 = some (r1, r2)),
    Calls Try.prog 59 #[.int .i64 a0, .int .i64 a1, .int .i64 a2, .int .i64 a3] w fun e w' => e = .returned (.tuple #[.int .i64 r1, .int .i64 r2]) ∧ Drawn0 w w' := by
  induction k using Nat.strongRecOn with
  | _ k ih =>
  intro a0 a1 a2 a3 r1 r2 w h
  cases k with
  | zero => exact absurd h (by simp [fraction_simplest.f])
  | succ k =>
  simp only [fraction_simplest.f] at h
  have H : (if a1 = 0 then (none) else (if a3 = 0 then (some (wrap64 ((wrap64 (Int.tdiv a0 a1)) + 1), 1)) else (if (wrap64 ((wrap64 ((wrap64 (Int.tdiv a0 a1)) + 1)) * a3)) < a2 then (some (wrap64 ((wrap64 (Int.tdiv a0 a1)) + 1), 1)) else ((fraction_simplest.f k a3 (wrap64 (a2 - (wrap64 ((wrap64 (Int.tdiv a0 a1)) * a3)))) a1 (wrap64 (a0 - (wrap64 ((wrap64 (Int.tdiv a0 a1)) * a1))))).bind fun bt419 => (some (wrap64 ((wrap64 ((wrap64 (Int.tdiv a0 a1)) * bt419.1)) + bt419.2), bt419.1)))))) = some (r1, r2) := h
  clear h
  by_cases c5 : a1 = 0
  · rw [if_pos c5] at H
    exact absurd H (by simp)
  · rw [if_neg c5] at H
    have c5b0 : (a1 == 0) = false := beq_eq_false_iff_ne.mpr c5
    have c5b1 : (a1 != 0) = true := bne_iff_ne.mpr c5
    by_cases c6 : a3 = 0
    · rw [if_pos c6] at H
      have c6b0 : (a3 == 0) = true := beq_iff_eq.mpr c6
      have c6b1 : (a3 != 0) = false := bne_eq_false_iff_eq.mpr c6
      clear c6
      simp only [Option.some.injEq, Prod.mk.injEq] at H
      obtain ⟨rfl, rfl⟩ := H
      go_enter Try.func59, Try.ntmps59
      go_wp2
      go_ret2
      exact ⟨by first | rfl | (simp; done) | (simp [*]; done), by repeat (first | exact Drawn0.refl _ | apply Drawn0.step)⟩
    · rw [if_neg c6] at H
      have c6b0 : (a3 == 0) = false := beq_eq_false_iff_ne.mpr c6
      have c6b1 : (a3 != 0) = true := bne_iff_ne.mpr c6
      by_cases c7 : (wrap64 ((wrap64 ((wrap64 (Int.tdiv a0 a1)) + 1)) * a3)) < a2
      · rw [if_pos c7] at H
        have c7b0 : decide ((wrap64 ((wrap64 ((wrap64 (Int.tdiv a0 a1)) + 1)) * a3)) < a2) = true := decide_eq_true c7
        clear c7
        simp only [Option.some.injEq, Prod.mk.injEq] at H
        obtain ⟨rfl, rfl⟩ := H
        go_enter Try.func59, Try.ntmps59
        go_wp2
        go_ret2
        exact ⟨by first | rfl | (simp; done) | (simp [*]; done), by repeat (first | exact Drawn0.refl _ | apply Drawn0.step)⟩
      · rw [if_neg c7] at H
        have c7b0 : decide ((wrap64 ((wrap64 ((wrap64 (Int.tdiv a0 a1)) + 1)) * a3)) < a2) = false := decide_eq_false c7
        clear c7
        replace H := Option.bind_eq_some_iff.mp H
        obtain ⟨⟨t419, t420⟩, A80, H⟩ := H
        replace H : (some (wrap64 ((wrap64 ((wrap64 (Int.tdiv a0 a1)) * t419)) + t420), t419)) = some (r1, r2) := H
        have A8 := Aside0.mk A80
        clear A80
        simp only [Option.some.injEq, Prod.mk.injEq] at H
        obtain ⟨rfl, rfl⟩ := H
        go_enter Try.func59, Try.ntmps59
        go_wp2_with (first | ((with_reducible refine gate_callee (f := 59) rfl ?_); refine goesL_ (some 39) rfl rfl Try.func59 (by kernel_rfl) rfl #[.int .i64 a3, .int .i64 (wrap64 (a2 - (wrap64 ((wrap64 (Int.tdiv a0 a1)) * a3)))), .int .i64 a1, .int .i64 (wrap64 (a0 - (wrap64 ((wrap64 (Int.tdiv a0 a1)) * a1))))] rfl (by (try simp only [List.map_toArray, List.map_cons, List.map_nil]); first | done | rfl | (simp only [List.length_drop, List.length_take]; rfl)) ?_; (with_reducible refine (ih k (by omega) a3 (wrap64 (a2 - (wrap64 ((wrap64 (Int.tdiv a0 a1)) * a3)))) a1 (wrap64 (a0 - (wrap64 ((wrap64 (Int.tdiv a0 a1)) * a1)))) t419 t420 _ A8.out).mono ?_); rintro e w' ⟨rfl, ⟨nd, rfl⟩⟩; refine ⟨_, rfl, ?_⟩))
        go_ret2
        exact ⟨by first | rfl | (simp; done) | (simp [*]; done), by repeat (first | exact Drawn0.refl _ | apply Drawn0.step)⟩

end Go.Proofs.Ytikioicjhdhdpaa.PF
