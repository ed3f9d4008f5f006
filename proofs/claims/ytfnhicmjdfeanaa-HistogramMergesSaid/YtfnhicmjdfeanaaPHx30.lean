-- Written by a program of this session (gprint.py) out of Lean's own print of the program. Lean checks it.
import Derived.Test.YtfnhicmjdfeanaaPHx0
namespace Go.Proofs.Ytfnhicmjdfeanaa.PH
open Go.RowKit Go.Proofs.YtfnhicmjdfeanaaW.PrintWords Go.Proofs.YtfnhicmjdfeanaaW.PrintLast Go.Proofs.YtfnhicmjdfeanaaW.PrintMore
attribute [local go_sem] max2_int min2_int max_two min_two max_three min_three max_four min_four   -- for this text's walks alone
set_option linter.unusedVariables false
set_option linter.unusedSimpArgs false

/-! ### sleuthlaw21_right: function 27 -/
def sleuthlaw21_right.l0 : Nat → List Int → Int → Option (Bool)
  | 0, _, _ => none
  | k + 1, x0, x3 => if x3 < (x0.length : Int) then (if 0 ≤ x3 then (if (rd x0 x3) < 0 then (some false) else (if (rd x0 x3) > 1099511627776 then (some false) else (sleuthlaw21_right.l0 k x0 (wrap64 (x3 + 1))))) else (none)) else (some (decide ((x0.length : Int) ≤ 40)))
def sleuthlaw21_right.f (k : Nat) (l0 : List Int) : Option (Bool) := sleuthlaw21_right.l0 k l0 0
theorem sleuthlaw21_right.mono_l : ∀ k, (∀ y0 y1, LeO (sleuthlaw21_right.l0 k y0 y1) (sleuthlaw21_right.l0 (k + 1) y0 y1))
  | 0 => fun _ _ r h => by simp [sleuthlaw21_right.l0] at h
  | k + 1 => by
    have ih0 := sleuthlaw21_right.mono_l k
    · intro y0 y1
      unfold sleuthlaw21_right.l0
      repeat' first
      | (with_reducible exact ih0 _ _)
      | (with_reducible exact LeO.refl _)
      | (with_reducible exact LeO.none _)
      | (with_reducible refine LeO.ite ?_ ?_)
      | (with_reducible refine LeO.bind ?_ (fun _ => ?_))
      | exact ih0 _ _
      | exact LeO.none _
      | refine LeO.ite ?_ ?_
      | refine LeO.bind ?_ (fun _ => ?_)
theorem sleuthlaw21_right.mono : ∀ a0 k, LeO (sleuthlaw21_right.f k a0) (sleuthlaw21_right.f (k + 1) a0) := by
  intro a0 k
  have ih0 := sleuthlaw21_right.mono_l k
  unfold sleuthlaw21_right.f
  repeat' first
      | (with_reducible exact ih0 _ _)
      | (with_reducible exact LeO.refl _)
      | (with_reducible exact LeO.none _)
      | (with_reducible refine LeO.ite ?_ ?_)
      | (with_reducible refine LeO.bind ?_ (fun _ => ?_))
      | exact ih0 _ _
      | exact LeO.none _
      | refine LeO.ite ?_ ?_
      | refine LeO.bind ?_ (fun _ => ?_)
set_option maxHeartbeats 8000000 in
set_option maxRecDepth 100000 in
theorem sleuthlaw21_right.calls (k : Nat) (A0 : Option Addr) (c0 : Nat) (l0 : List Int) (r : Bool) (w : World) (hr0 : Kd.C (Kd.int .i64) w A0 l0.length l0) (hc0 : l0.length ≤ c0) (h : sleuthlaw21_right.f k l0 = some r) :
    Calls Try.prog 27 #[.slice A0 l0.length c0] w fun e w' => e = .returned (.bool r) ∧ Drawn0 w w' := by
  have HR0 := Aside0.mk hr0
  have HC0 := Aside0.mk hc0
  clear hr0 hc0
  have H : (sleuthlaw21_right.l0 k l0 0) = some r := h
  clear h
  have H' := Aside0.mk H
  clear H
  go_enter Try.func27, Try.ntmps27
  go_wp2
  go_loopg [3] k (fun kq v3 w' => ∃ (x3_1 : Int), v3 = .int .i64 x3_1 ∧ Aside0 (sleuthlaw21_right.l0 kq l0 x3_1 = some r) ∧ Aside0 (kq ≤ k) ∧ Drawn0 w w')
  case atStart => exact ⟨(0), (by first | rfl | (simp; done) | (simp [*]; done)), H', ⟨Nat.le_refl _⟩, by repeat (first | exact Drawn0.refl _ | apply Drawn0.step)⟩
  case round =>
    clear H'
    obtain ⟨x3_1, rfl, HA, HK1, ⟨m1, rfl⟩⟩ := hrel
    cases gk with
    | zero => exact absurd HA.out (by simp [sleuthlaw21_right.l0])
    | succ k1 =>
      have H := HA.out
      clear HA
      simp only [sleuthlaw21_right.l0] at H
      by_cases c2 : x3_1 < (l0.length : Int)
      · rw [if_pos c2] at H
        have c2b0 : decide (x3_1 < (l0.length : Int)) = true := decide_eq_true c2
        clear c2
        by_cases c3 : 0 ≤ x3_1
        · rw [if_pos c3] at H
          have c3b0 : decide (0 ≤ x3_1) = true := decide_eq_true c3
          clear c3
          by_cases c4 : (rd l0 x3_1) < 0
          · rw [if_pos c4] at H
            have c4b0 : decide ((rd l0 x3_1) < 0) = true := decide_eq_true c4
            clear c4
            obtain rfl := Option.some.inj H
            have p267 : 0 ≤ (x3_1 : Int) := of_decide_eq_true (by first | (with_reducible assumption) | assumption)
            have q267 : x3_1 < (l0.length : Int) := of_decide_eq_true (by first | (with_reducible assumption) | assumption)
            obtain ⟨ad267, e267, hx267_0⟩ := Kd.at_int HR0.out x3_1 p267 q267
            cases e267
            replace p267 := eq_true p267
            replace q267 := eq_true q267
            go_wp2
            go_ret
            exact ⟨by first | rfl | (simp; done) | (simp [*]; done), by repeat (first | exact Drawn0.refl _ | apply Drawn0.step)⟩
          · rw [if_neg c4] at H
            have c4b0 : decide ((rd l0 x3_1) < 0) = false := decide_eq_false c4
            clear c4
            by_cases c5 : (rd l0 x3_1) > 1099511627776
            · rw [if_pos c5] at H
              have c5b0 : decide (1099511627776 < (rd l0 x3_1)) = true := decide_eq_true c5
              clear c5
              obtain rfl := Option.some.inj H
              have p267 : 0 ≤ (x3_1 : Int) := of_decide_eq_true (by first | (with_reducible assumption) | assumption)
              have q267 : x3_1 < (l0.length : Int) := of_decide_eq_true (by first | (with_reducible assumption) | assumption)
              obtain ⟨ad267, e267, hx267_0⟩ := Kd.at_int HR0.out x3_1 p267 q267
              cases e267
              replace p267 := eq_true p267
              replace q267 := eq_true q267
              have p268 : 0 ≤ (x3_1 : Int) := of_decide_eq_true (by first | (with_reducible assumption) | assumption)
              have q268 : x3_1 < (l0.length : Int) := of_decide_eq_true (by first | (with_reducible assumption) | assumption)
              obtain ⟨ad268, e268, hx268_0⟩ := Kd.at_int HR0.out x3_1 p268 q268
              obtain rfl : ad267 = ad268 := (by injection e268)
              replace p268 := eq_true p268
              replace q268 := eq_true q268
              go_wp2
              go_ret
              exact ⟨by first | rfl | (simp; done) | (simp [*]; done), by repeat (first | exact Drawn0.refl _ | apply Drawn0.step)⟩
            · rw [if_neg c5] at H
              have c5b0 : decide (1099511627776 < (rd l0 x3_1)) = false := decide_eq_false c5
              clear c5
              have H' := Aside0.mk H
              clear H
              have p267 : 0 ≤ (x3_1 : Int) := of_decide_eq_true (by first | (with_reducible assumption) | assumption)
              have q267 : x3_1 < (l0.length : Int) := of_decide_eq_true (by first | (with_reducible assumption) | assumption)
              obtain ⟨ad267, e267, hx267_0⟩ := Kd.at_int HR0.out x3_1 p267 q267
              cases e267
              replace p267 := eq_true p267
              replace q267 := eq_true q267
              have p268 : 0 ≤ (x3_1 : Int) := of_decide_eq_true (by first | (with_reducible assumption) | assumption)
              have q268 : x3_1 < (l0.length : Int) := of_decide_eq_true (by first | (with_reducible assumption) | assumption)
              obtain ⟨ad268, e268, hx268_0⟩ := Kd.at_int HR0.out x3_1 p268 q268
              obtain rfl : ad267 = ad268 := (by injection e268)
              replace p268 := eq_true p268
              replace q268 := eq_true q268
              go_wp2
              go_roundg k1
              case measure => have := HK1.out; omega
              case rel => exact ⟨(wrap64 (x3_1 + 1)), (by first | rfl | (simp; done) | (simp [*]; done)), H', ⟨by have := HK1.out; omega⟩, by repeat (first | exact Drawn0.refl _ | apply Drawn0.step)⟩
        · rw [if_neg c3] at H
          exact absurd H (by simp)
      · rw [if_neg c2] at H
        have c2b0 : decide (x3_1 < (l0.length : Int)) = false := decide_eq_false c2
        clear c2
        obtain rfl := Option.some.inj H
        go_wp2
        go_ret
        exact ⟨by first | rfl | (simp; done) | (simp [*]; done), by repeat (first | exact Drawn0.refl _ | apply Drawn0.step)⟩

end Go.Proofs.Ytfnhicmjdfeanaa.PH
