-- Written by a program of this session (gprint.py) out of Lean's own print of the program. Lean checks it.
import Derived.Test.YtfnhicmjdfeanaaPHx0
namespace Go.Proofs.Ytfnhicmjdfeanaa.PH
open Go.RowKit Go.Proofs.YtfnhicmjdfeanaaW.PrintWords Go.Proofs.YtfnhicmjdfeanaaW.PrintLast Go.Proofs.YtfnhicmjdfeanaaW.PrintMore
attribute [local go_sem] max2_int min2_int max_two min_two max_three min_three max_four min_four   -- for this text's walks alone
set_option linter.unusedVariables false
set_option linter.unusedSimpArgs false

/-! ### sleuthlaw21_low: function 16 -/
def sleuthlaw21_low.f (a0 : Int) : Option (Int) := if a0 < 16 then (some a0) else (if 0 ≤ (wrap64 ((wrap64 (Int.tdiv a0 8)) - 1)) then (some (shl .i64 (wrap64 (a0 - (wrap64 (8 * (wrap64 ((wrap64 (Int.tdiv a0 8)) - 1)))))) (wrap64 ((wrap64 (Int.tdiv a0 8)) - 1)))) else (none))
set_option maxHeartbeats 8000000 in
set_option maxRecDepth 100000 in
theorem sleuthlaw21_low.calls (a0 : Int) (r : Int) (w : World) (h : sleuthlaw21_low.f a0 = some r) :
    Calls Try.prog 16 #[.int .i64 a0] w fun e w' => e = .returned (.int .i64 r) ∧ Drawn0 w w' := by
  have H : (if a0 < 16 then (some a0) else (if 0 ≤ (wrap64 ((wrap64 (Int.tdiv a0 8)) - 1)) then (some (shl .i64 (wrap64 (a0 - (wrap64 (8 * (wrap64 ((wrap64 (Int.tdiv a0 8)) - 1)))))) (wrap64 ((wrap64 (Int.tdiv a0 8)) - 1)))) else (none))) = some r := h
  clear h
  by_cases c2 : a0 < 16
  · rw [if_pos c2] at H
    have c2b0 : decide (a0 < 16) = true := decide_eq_true c2
    clear c2
    obtain rfl := Option.some.inj H
    go_enter Try.func16, Try.ntmps16
    go_wp2
    go_ret
    exact ⟨by first | rfl | (simp; done) | (simp [*]; done), by repeat (first | exact Drawn0.refl _ | apply Drawn0.step)⟩
  · rw [if_neg c2] at H
    have c2b0 : decide (a0 < 16) = false := decide_eq_false c2
    clear c2
    obtain ⟨ji3, hji3⟩ : ∃ j_ : Int, (wrap64 ((wrap64 (Int.tdiv a0 8)) - 1)) = j_ := ⟨_, rfl⟩
    replace H : (if 0 ≤ (ji3) then (some (shl .i64 (wrap64 (a0 - (wrap64 (8 * (ji3))))) (ji3))) else (none)) = some r := by first | (rw [hji3] at H; exact H) | (simp only [hji3] at H ⊢; exact H)
    have hji3w : (IntKind.i64.wrap ((wrap64 (Int.tdiv a0 8)) - 1)) = ji3 := (i64_w _).trans hji3
    by_cases c4 : 0 ≤ (ji3)
    · rw [if_pos c4] at H
      have c4b0 := eq_true c4
      have c4b1 : decide (0 ≤ (ji3)) = true := decide_eq_true c4
      clear c4
      obtain ⟨ji5, hji5⟩ : ∃ j_ : Int, (shl .i64 (wrap64 (a0 - (wrap64 (8 * (ji3))))) (ji3)) = j_ := ⟨_, rfl⟩
      replace H : (some ji5) = some r := by first | (rw [hji5] at H; exact H) | (simp only [hji5] at H ⊢; exact H)
      have hji5_ : (IntKind.i64.wrap ((wrap64 (a0 - (wrap64 (8 * (ji3))))) * 2 ^ min (ji3).toNat 64)) = ji5 := hji5
      have hji5z : (ji3) ≤ 64 → (IntKind.i64.wrap ((wrap64 (a0 - (wrap64 (8 * (ji3))))) * 2 ^ (ji3).toNat)) = ji5 := shl_small hji5
      have hji5y : (wrap64 ((wrap64 (a0 - (wrap64 (8 * (ji3))))) * 2 ^ min (ji3).toNat 64)) = ji5 := (i64_w _).symm.trans hji5_
      have hji5x : (ji3) ≤ 64 → (wrap64 ((wrap64 (a0 - (wrap64 (8 * (ji3))))) * 2 ^ (ji3).toNat)) = ji5 := fun h_ => (i64_w _).symm.trans (hji5z h_)
      obtain rfl := Option.some.inj H
      go_enter Try.func16, Try.ntmps16
      go_wp2
      go_ret
      exact ⟨by first | rfl | (simp; done) | (simp only [← hji3, ← hji5] <;> (first | rfl | simp)) | (simp [*]; done), by repeat (first | exact Drawn0.refl _ | apply Drawn0.step)⟩
    · rw [if_neg c4] at H
      exact absurd H (by simp)

/-! ### sleuthlaw21_high: function 17 -/
def sleuthlaw21_high.f (a0 : Int) : Option (Int) := if a0 < 16 then (some a0) else (if 0 ≤ (wrap64 ((wrap64 (Int.tdiv a0 8)) - 1)) then (some (mn (wrap64 ((shl .i64 (wrap64 ((wrap64 (a0 - (wrap64 (8 * (wrap64 ((wrap64 (Int.tdiv a0 8)) - 1)))))) + 1)) (wrap64 ((wrap64 (Int.tdiv a0 8)) - 1))) - 1)) 1099511627776)) else (none))
set_option maxHeartbeats 8000000 in
set_option maxRecDepth 100000 in
theorem sleuthlaw21_high.calls (a0 : Int) (r : Int) (w : World) (h : sleuthlaw21_high.f a0 = some r) :
    Calls Try.prog 17 #[.int .i64 a0] w fun e w' => e = .returned (.int .i64 r) ∧ Below w.heap.size w w' := by
  have HB := Aside0.mk (Below.refl w.heap.size w)
  have H : (if a0 < 16 then (some a0) else (if 0 ≤ (wrap64 ((wrap64 (Int.tdiv a0 8)) - 1)) then (some (mn (wrap64 ((shl .i64 (wrap64 ((wrap64 (a0 - (wrap64 (8 * (wrap64 ((wrap64 (Int.tdiv a0 8)) - 1)))))) + 1)) (wrap64 ((wrap64 (Int.tdiv a0 8)) - 1))) - 1)) 1099511627776)) else (none))) = some r := h
  clear h
  by_cases c2 : a0 < 16
  · rw [if_pos c2] at H
    have c2b0 : decide (a0 < 16) = true := decide_eq_true c2
    clear c2
    obtain rfl := Option.some.inj H
    go_enter Try.func17, Try.ntmps17
    go_wp2
    go_ret
    exact ⟨by first | rfl | (simp [errW_none, errW_some] <;> rfl) | (simp [*, errW_none, errW_some] <;> rfl), by repeat (first | (with_reducible first | exact HB.out | apply below_alloc | apply pw_below_drewN | apply below_drew1) | exact HB.out)⟩
  · rw [if_neg c2] at H
    have c2b0 : decide (a0 < 16) = false := decide_eq_false c2
    clear c2
    obtain ⟨ji3, hji3⟩ : ∃ j_ : Int, (wrap64 ((wrap64 (Int.tdiv a0 8)) - 1)) = j_ := ⟨_, rfl⟩
    replace H : (if 0 ≤ (ji3) then (some (mn (wrap64 ((shl .i64 (wrap64 ((wrap64 (a0 - (wrap64 (8 * (ji3))))) + 1)) (ji3)) - 1)) 1099511627776)) else (none)) = some r := by first | (rw [hji3] at H; exact H) | (simp only [hji3] at H ⊢; exact H)
    have hji3w : (IntKind.i64.wrap ((wrap64 (Int.tdiv a0 8)) - 1)) = ji3 := (i64_w _).trans hji3
    by_cases c4 : 0 ≤ (ji3)
    · rw [if_pos c4] at H
      have c4b0 := eq_true c4
      have c4b1 : decide (0 ≤ (ji3)) = true := decide_eq_true c4
      clear c4
      obtain ⟨ji5, hji5⟩ : ∃ j_ : Int, (shl .i64 (wrap64 ((wrap64 (a0 - (wrap64 (8 * (ji3))))) + 1)) (ji3)) = j_ := ⟨_, rfl⟩
      replace H : (some (mn (wrap64 ((ji5) - 1)) 1099511627776)) = some r := by first | (rw [hji5] at H; exact H) | (simp only [hji5] at H ⊢; exact H)
      have hji5_ : (IntKind.i64.wrap ((wrap64 ((wrap64 (a0 - (wrap64 (8 * (ji3))))) + 1)) * 2 ^ min (ji3).toNat 64)) = ji5 := hji5
      have hji5z : (ji3) ≤ 64 → (IntKind.i64.wrap ((wrap64 ((wrap64 (a0 - (wrap64 (8 * (ji3))))) + 1)) * 2 ^ (ji3).toNat)) = ji5 := shl_small hji5
      have hji5y : (wrap64 ((wrap64 ((wrap64 (a0 - (wrap64 (8 * (ji3))))) + 1)) * 2 ^ min (ji3).toNat 64)) = ji5 := (i64_w _).symm.trans hji5_
      have hji5x : (ji3) ≤ 64 → (wrap64 ((wrap64 ((wrap64 (a0 - (wrap64 (8 * (ji3))))) + 1)) * 2 ^ (ji3).toNat)) = ji5 := fun h_ => (i64_w _).symm.trans (hji5z h_)
      obtain ⟨ji6, hji6⟩ : ∃ j_ : Int, (mn (wrap64 ((ji5) - 1)) 1099511627776) = j_ := ⟨_, rfl⟩
      replace H : (some ji6) = some r := by first | (rw [hji6] at H; exact H) | (simp only [hji6] at H ⊢; exact H)
      have hji6_ : (if 1099511627776 < (wrap64 ((ji5) - 1)) then 1099511627776 else (wrap64 ((ji5) - 1))) = ji6 := hji6
      obtain rfl := Option.some.inj H
      go_enter Try.func17, Try.ntmps17
      go_wp2
      go_ret
      exact ⟨by first | rfl | (simp [errW_none, errW_some] <;> rfl) | (simp only [← hji3, ← hji5, ← hji6]; first | rfl | (simp [errW_none, errW_some] <;> rfl)) | (simp [*, errW_none, errW_some] <;> rfl), by repeat (first | (with_reducible first | exact HB.out | apply below_alloc | apply pw_below_drewN | apply below_drew1) | exact HB.out)⟩
    · rw [if_neg c4] at H
      exact absurd H (by simp)

end Go.Proofs.Ytfnhicmjdfeanaa.PH
