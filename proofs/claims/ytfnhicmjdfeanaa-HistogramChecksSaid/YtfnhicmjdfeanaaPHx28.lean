-- Written by a program of this session (gprint.py) out of Lean's own print of the program. Lean checks it.
import Derived.Test.YtfnhicmjdfeanaaPHx0
namespace Go.Proofs.Ytfnhicmjdfeanaa.PH
open Go.RowKit Go.Proofs.YtfnhicmjdfeanaaW.PrintWords Go.Proofs.YtfnhicmjdfeanaaW.PrintLast Go.Proofs.YtfnhicmjdfeanaaW.PrintMore
attribute [local go_sem] max2_int min2_int max_two min_two max_three min_three max_four min_four   -- for this text's walks alone
set_option linter.unusedVariables false
set_option linter.unusedSimpArgs false

/-! ### sleuthlaw21_check: function 25 -/
mutual
def sleuthlaw21_check.l0 : Nat → List (S67) → Int → Int → Option (Int)
  | 0, _, _, _ => none
  | k + 1, x0, x3, x4 => if x4 < (x0.length : Int) then (if 0 ≤ x4 then (if ((rd_T67 x0 x4).f0) < 0 then (sleuthlaw21_check.j1 k x0 x3 x4 true) else (sleuthlaw21_check.j1 k x0 x3 x4 (decide (((rd_T67 x0 x4).f0) ≥ 305)))) else (none)) else (if x3 > 1048576 then (some 20) else (some 0))
def sleuthlaw21_check.j1 : Nat → List (S67) → Int → Int → Bool → Option (Int)
  | 0, _, _, _, _ => none
  | k + 1, x0, x3, x4, x24 => if x24 = true then (some 2) else (if x4 > 0 then (if 0 ≤ x4 then (if x4 < (x0.length : Int) then (if 0 ≤ (wrap64 (x4 - 1)) then (if (wrap64 (x4 - 1)) < (x0.length : Int) then (sleuthlaw21_check.j2 k x0 x3 x4 (decide (((rd_T67 x0 x4).f0) ≤ ((rd_T67 x0 (wrap64 (x4 - 1))).f0)))) else (none)) else (none)) else (none)) else (none)) else (sleuthlaw21_check.j2 k x0 x3 x4 false))
def sleuthlaw21_check.j2 : Nat → List (S67) → Int → Int → Bool → Option (Int)
  | 0, _, _, _, _ => none
  | k + 1, x0, x3, x4, x40 => if x40 = true then (some 8) else (if 0 ≤ x4 then (if x4 < (x0.length : Int) then (if ((rd_T67 x0 x4).f1) < 1 then (some 2) else (if ((rd_T67 x0 x4).f1) > 1048576 then (some 2) else (sleuthlaw21_check.l0 k x0 (wrap64 (x3 + ((rd_T67 x0 x4).f1))) (wrap64 (x4 + 1))))) else (none)) else (none))
end
def sleuthlaw21_check.f (k : Nat) (l0 : List (S67)) : Option (Int) := sleuthlaw21_check.l0 k l0 0 0
theorem sleuthlaw21_check.mono_l : ∀ k, (∀ y0 y1 y2, LeO (sleuthlaw21_check.l0 k y0 y1 y2) (sleuthlaw21_check.l0 (k + 1) y0 y1 y2)) ∧ (∀ y0 y1 y2 y3, LeO (sleuthlaw21_check.j1 k y0 y1 y2 y3) (sleuthlaw21_check.j1 (k + 1) y0 y1 y2 y3)) ∧ (∀ y0 y1 y2 y3, LeO (sleuthlaw21_check.j2 k y0 y1 y2 y3) (sleuthlaw21_check.j2 (k + 1) y0 y1 y2 y3))
  | 0 => ⟨fun _ _ _ r h => by simp [sleuthlaw21_check.l0] at h, fun _ _ _ _ r h => by simp [sleuthlaw21_check.j1] at h, fun _ _ _ _ r h => by simp [sleuthlaw21_check.j2] at h⟩
  | k + 1 => by
    obtain ⟨ih0, ih1, ih2⟩ := sleuthlaw21_check.mono_l k
    refine ⟨?_, ?_, ?_⟩
    · intro y0 y1 y2
      unfold sleuthlaw21_check.l0
      repeat' first
      | (with_reducible exact ih0 _ _ _)
      | (with_reducible exact ih1 _ _ _ _)
      | (with_reducible exact ih2 _ _ _ _)
      | (with_reducible exact LeO.refl _)
      | (with_reducible exact LeO.none _)
      | (with_reducible refine LeO.ite ?_ ?_)
      | (with_reducible refine LeO.bind ?_ (fun _ => ?_))
      | exact ih0 _ _ _
      | exact ih1 _ _ _ _
      | exact ih2 _ _ _ _
      | exact LeO.none _
      | refine LeO.ite ?_ ?_
      | refine LeO.bind ?_ (fun _ => ?_)
    · intro y0 y1 y2 y3
      unfold sleuthlaw21_check.j1
      repeat' first
      | (with_reducible exact ih0 _ _ _)
      | (with_reducible exact ih1 _ _ _ _)
      | (with_reducible exact ih2 _ _ _ _)
      | (with_reducible exact LeO.refl _)
      | (with_reducible exact LeO.none _)
      | (with_reducible refine LeO.ite ?_ ?_)
      | (with_reducible refine LeO.bind ?_ (fun _ => ?_))
      | exact ih0 _ _ _
      | exact ih1 _ _ _ _
      | exact ih2 _ _ _ _
      | exact LeO.none _
      | refine LeO.ite ?_ ?_
      | refine LeO.bind ?_ (fun _ => ?_)
    · intro y0 y1 y2 y3
      unfold sleuthlaw21_check.j2
      repeat' first
      | (with_reducible exact ih0 _ _ _)
      | (with_reducible exact ih1 _ _ _ _)
      | (with_reducible exact ih2 _ _ _ _)
      | (with_reducible exact LeO.refl _)
      | (with_reducible exact LeO.none _)
      | (with_reducible refine LeO.ite ?_ ?_)
      | (with_reducible refine LeO.bind ?_ (fun _ => ?_))
      | exact ih0 _ _ _
      | exact ih1 _ _ _ _
      | exact ih2 _ _ _ _
      | exact LeO.none _
      | refine LeO.ite ?_ ?_
      | refine LeO.bind ?_ (fun _ => ?_)
theorem sleuthlaw21_check.mono : ∀ a0 k, LeO (sleuthlaw21_check.f k a0) (sleuthlaw21_check.f (k + 1) a0) := by
  intro a0 k
  obtain ⟨ih0, ih1, ih2⟩ := sleuthlaw21_check.mono_l k
  unfold sleuthlaw21_check.f
  repeat' first
      | (with_reducible exact ih0 _ _ _)
      | (with_reducible exact ih1 _ _ _ _)
      | (with_reducible exact ih2 _ _ _ _)
      | (with_reducible exact LeO.refl _)
      | (with_reducible exact LeO.none _)
      | (with_reducible refine LeO.ite ?_ ?_)
      | (with_reducible refine LeO.bind ?_ (fun _ => ?_))
      | exact ih0 _ _ _
      | exact ih1 _ _ _ _
      | exact ih2 _ _ _ _
      | exact LeO.none _
      | refine LeO.ite ?_ ?_
      | refine LeO.bind ?_ (fun _ => ?_)
set_option maxHeartbeats 8000000 in
set_option maxRecDepth 100000 in
theorem sleuthlaw21_check.calls (k : Nat) (A0 : Option Addr) (c0 : Nat) (l0 : List (S67)) (r : Int) (w : World) (hr0 : Kd.C k67 w A0 l0.length l0) (hc0 : l0.length ≤ c0) (h : sleuthlaw21_check.f k l0 = some r) :
    Calls Try.prog 25 #[.slice A0 l0.length c0] w fun e w' => e = .returned (.int .i64 r) ∧ Drawn0 w w' := by
  have HR0 := Aside0.mk hr0
  have HC0 := Aside0.mk hc0
  clear hr0 hc0
  have H : (sleuthlaw21_check.l0 k l0 0 0) = some r := h
  clear h
  have H' := Aside0.mk H
  clear H
  go_enter Try.func25, Try.ntmps25
  go_wp2
  repeat (go_quiet (fail); try go_wp2)
  go_loopg [3, 4] k (fun kq v3 v4 w' => ∃ (x3_1 : Int) (x4_1 : Int), v3 = .int .i64 x3_1 ∧ v4 = .int .i64 x4_1 ∧ Aside0 (sleuthlaw21_check.l0 kq l0 x3_1 x4_1 = some r) ∧ Aside0 (kq ≤ k) ∧ Drawn0 w w')
  case atStart => exact ⟨(0), (0), (by first | rfl | (simp; done) | (simp [*]; done)), (by first | rfl | (simp; done) | (simp [*]; done)), H', ⟨Nat.le_refl _⟩, by repeat (first | exact Drawn0.refl _ | apply Drawn0.step)⟩
  case round =>
    clear H'
    obtain ⟨x3_1, x4_1, rfl, rfl, HA, HK1, ⟨m1, rfl⟩⟩ := hrel
    cases gk with
    | zero => exact absurd HA.out (by simp [sleuthlaw21_check.l0])
    | succ k1 =>
      have H := HA.out
      clear HA
      simp only [sleuthlaw21_check.l0] at H
      by_cases c2 : x4_1 < (l0.length : Int)
      · rw [if_pos c2] at H
        have c2b0 : decide (x4_1 < (l0.length : Int)) = true := decide_eq_true c2
        clear c2
        have HC3 := Aside0.mk H
        clear H
        go_upto_region 5 with (fail)
        repeat (go_quiet (fail); go_upto_region 5 with (fail))
        go_cut [24] (fun v24 wc => ∃ (kq : Nat) (x24_2 : Bool), v24 = .bool x24_2 ∧ Aside0 (sleuthlaw21_check.j1 kq l0 x3_1 x4_1 x24_2 = some r) ∧ Aside0 (kq ≤ k1) ∧ Drawn0 w wc)
        case first =>
          have H := HC3.out
          clear HC3
          by_cases c4 : 0 ≤ x4_1
          · rw [if_pos c4] at H
            have c4b0 : decide (0 ≤ x4_1) = true := decide_eq_true c4
            clear c4
            (first | rw [c4b0] | (simp only [i64_w, i32_w]; rw [c4b0]) | skip)
            by_cases c5 : ((rd_T67 l0 x4_1).f0) < 0
            · rw [if_pos c5] at H
              have c5b0 : decide (((rd_T67 l0 x4_1).f0) < 0) = true := decide_eq_true c5
              clear c5
              have H' := Aside0.mk H
              clear H
              have p256 : 0 ≤ (x4_1 : Int) := of_decide_eq_true (by first | (with_reducible assumption) | assumption)
              have q256 : x4_1 < (l0.length : Int) := of_decide_eq_true (by first | (with_reducible assumption) | assumption)
              obtain ⟨ad256, e256, hx256_0, hx256_1⟩ := at_T67 HR0.out x4_1 p256 q256
              cases e256
              replace p256 := eq_true p256
              replace q256 := eq_true q256
              go_wp2
              repeat (go_quiet (fail); try go_wp2)
              go_meet
              case rel => exact ⟨_, (true), (by first | rfl | (simp; done) | (simp [*]; done)), H', ⟨by have := HK1.out; first | omega | exact Nat.le_refl _⟩, by repeat (first | exact Drawn0.refl _ | apply Drawn0.step)⟩
            · rw [if_neg c5] at H
              have c5b0 : decide (((rd_T67 l0 x4_1).f0) < 0) = false := decide_eq_false c5
              clear c5
              have H' := Aside0.mk H
              clear H
              have p256 : 0 ≤ (x4_1 : Int) := of_decide_eq_true (by first | (with_reducible assumption) | assumption)
              have q256 : x4_1 < (l0.length : Int) := of_decide_eq_true (by first | (with_reducible assumption) | assumption)
              obtain ⟨ad256, e256, hx256_0, hx256_1⟩ := at_T67 HR0.out x4_1 p256 q256
              cases e256
              replace p256 := eq_true p256
              replace q256 := eq_true q256
              have p257 : 0 ≤ (x4_1 : Int) := of_decide_eq_true (by first | (with_reducible assumption) | assumption)
              have q257 : x4_1 < (l0.length : Int) := of_decide_eq_true (by first | (with_reducible assumption) | assumption)
              obtain ⟨ad257, e257, hx257_0, hx257_1⟩ := at_T67 HR0.out x4_1 p257 q257
              obtain rfl : ad256 = ad257 := (by injection e257)
              replace p257 := eq_true p257
              replace q257 := eq_true q257
              go_wp2
              repeat (go_quiet (fail); try go_wp2)
              go_meet
              case rel => exact ⟨_, (decide (((rd_T67 l0 x4_1).f0) ≥ 305)), (by first | rfl | (simp; done) | (simp [*]; done)), H', ⟨by have := HK1.out; first | omega | exact Nat.le_refl _⟩, by repeat (first | exact Drawn0.refl _ | apply Drawn0.step)⟩
          · rw [if_neg c4] at H
            exact absurd H (by simp)
        case rest =>
          clear HC3
          try clear c2
          try clear c2b0
          try clear p2
          try clear q2
          try clear hx2
          try clear c4
          try clear c4b0
          try clear c5
          try clear c5b0
          try clear hx256_0
          try clear hx256_1
          try clear hx257_0
          try clear hx257_1
          try clear p256
          try clear p257
          try clear q256
          try clear q257
          obtain ⟨kq, x24_2, rfl, HA, HJ2, ⟨mc2, rfl⟩⟩ := hcut
          cases kq with
          | zero => exact absurd HA.out (by simp [sleuthlaw21_check.j1])
          | succ kj2 =>
            have H := HA.out
            clear HA
            simp only [sleuthlaw21_check.j1] at H
            by_cases c6 : x24_2 = true
            · subst c6
              have H1 : (some 2) = some r := by rw [if_pos rfl] at H; exact H
              clear H
              have H := H1
              clear H1
              obtain rfl := Option.some.inj H
              go_wp2
              repeat (go_quiet (fail); try go_wp2)
              go_ret
              exact ⟨by first | rfl | (simp; done) | (simp [*]; done), by repeat (first | exact Drawn0.refl _ | apply Drawn0.step)⟩
            · replace c6 := Bool.eq_false_iff.mpr c6
              subst c6
              have H1 : (if x4_1 > 0 then (if 0 ≤ x4_1 then (if x4_1 < (l0.length : Int) then (if 0 ≤ (wrap64 (x4_1 - 1)) then (if (wrap64 (x4_1 - 1)) < (l0.length : Int) then (sleuthlaw21_check.j2 kj2 l0 x3_1 x4_1 (decide (((rd_T67 l0 x4_1).f0) ≤ ((rd_T67 l0 (wrap64 (x4_1 - 1))).f0)))) else (none)) else (none)) else (none)) else (none)) else (sleuthlaw21_check.j2 kj2 l0 x3_1 x4_1 false)) = some r := by rw [if_neg (show ¬ (false = true) by decide)] at H; exact H
              clear H
              have H := H1
              clear H1
              have HC7 := Aside0.mk H
              clear H
              go_upto_region 7 with (fail)
              repeat (go_quiet (fail); go_upto_region 7 with (fail))
              go_cut [40] (fun v40 wc => ∃ (kq : Nat) (x40_6 : Bool), v40 = .bool x40_6 ∧ Aside0 (sleuthlaw21_check.j2 kq l0 x3_1 x4_1 x40_6 = some r) ∧ Aside0 (kq ≤ kj2) ∧ Drawn0 w wc)
              case first =>
                have H := HC7.out
                clear HC7
                by_cases c8 : x4_1 > 0
                · rw [if_pos c8] at H
                  have c8b0 : decide (0 < x4_1) = true := decide_eq_true c8
                  clear c8
                  (first | rw [c8b0] | (simp only [i64_w, i32_w]; rw [c8b0]) | skip)
                  by_cases c9 : 0 ≤ x4_1
                  · rw [if_pos c9] at H
                    have c9b0 : decide (0 ≤ x4_1) = true := decide_eq_true c9
                    clear c9
                    by_cases c10 : x4_1 < (l0.length : Int)
                    · rw [if_pos c10] at H
                      have c10b0 : decide (x4_1 < (l0.length : Int)) = true := decide_eq_true c10
                      clear c10
                      obtain ⟨ji11, hji11⟩ : ∃ j_ : Int, (wrap64 (x4_1 - 1)) = j_ := ⟨_, rfl⟩
                      replace H : (if 0 ≤ (ji11) then (if (ji11) < (l0.length : Int) then (sleuthlaw21_check.j2 kj2 l0 x3_1 x4_1 (decide (((rd_T67 l0 x4_1).f0) ≤ ((rd_T67 l0 (ji11)).f0)))) else (none)) else (none)) = some r := by first | (rw [hji11] at H; exact H) | (simp only [hji11] at H ⊢; exact H)
                      have hji11w : (IntKind.i64.wrap (x4_1 - 1)) = ji11 := (i64_w _).trans hji11
                      by_cases c12 : 0 ≤ (ji11)
                      · rw [if_pos c12] at H
                        have c12b0 : decide (0 ≤ (ji11)) = true := decide_eq_true c12
                        clear c12
                        by_cases c13 : (ji11) < (l0.length : Int)
                        · rw [if_pos c13] at H
                          have c13b0 : decide ((ji11) < (l0.length : Int)) = true := decide_eq_true c13
                          clear c13
                          have H' := Aside0.mk H
                          clear H
                          have p258 : 0 ≤ (x4_1 : Int) := of_decide_eq_true (by first | (with_reducible assumption) | assumption)
                          have q258 : x4_1 < (l0.length : Int) := of_decide_eq_true (by first | (with_reducible assumption) | assumption)
                          obtain ⟨ad258, e258, hx258_0, hx258_1⟩ := at_T67 HR0.out x4_1 p258 q258
                          cases e258
                          replace p258 := eq_true p258
                          replace q258 := eq_true q258
                          have p259 : 0 ≤ ((ji11) : Int) := of_decide_eq_true (by first | (with_reducible assumption) | assumption)
                          have q259 : (ji11) < (l0.length : Int) := of_decide_eq_true (by first | (with_reducible assumption) | assumption)
                          obtain ⟨ad259, e259, hx259_0, hx259_1⟩ := at_T67 HR0.out (ji11) p259 q259
                          obtain rfl : ad258 = ad259 := (by injection e259)
                          replace p259 := eq_true p259
                          replace q259 := eq_true q259
                          go_wp2
                          repeat (go_quiet (fail); try go_wp2)
                          go_meet
                          case rel => exact ⟨_, (decide (((rd_T67 l0 x4_1).f0) ≤ ((rd_T67 l0 (ji11)).f0))), (by first | rfl | (simp; done) | (simp only [← hji11] <;> (first | rfl | simp)) | (simp [*]; done)), H', ⟨by have := HK1.out; have := HJ2.out; first | omega | exact Nat.le_refl _⟩, by repeat (first | exact Drawn0.refl _ | apply Drawn0.step)⟩
                        · rw [if_neg c13] at H
                          exact absurd H (by simp)
                      · rw [if_neg c12] at H
                        exact absurd H (by simp)
                    · rw [if_neg c10] at H
                      exact absurd H (by simp)
                  · rw [if_neg c9] at H
                    exact absurd H (by simp)
                · rw [if_neg c8] at H
                  have c8b0 : decide (0 < x4_1) = false := decide_eq_false c8
                  clear c8
                  (first | rw [c8b0] | (simp only [i64_w, i32_w]; rw [c8b0]) | skip)
                  have H' := Aside0.mk H
                  clear H
                  go_wp2
                  repeat (go_quiet (fail); try go_wp2)
                  go_meet
                  case rel => exact ⟨_, (false), (by first | rfl | (simp; done) | (simp [*]; done)), H', ⟨by have := HK1.out; have := HJ2.out; first | omega | exact Nat.le_refl _⟩, by repeat (first | exact Drawn0.refl _ | apply Drawn0.step)⟩
              case rest =>
                clear HC7
                try clear c1
                try clear c2
                try clear c2b0
                try clear p2
                try clear q2
                try clear hx2
                try clear c4
                try clear c4b0
                try clear c5
                try clear c5b0
                try clear c6
                try clear p6
                try clear c8
                try clear c8b0
                try clear c9
                try clear c9b0
                try clear c10
                try clear c10b0
                try clear c12
                try clear c12b0
                try clear c13
                try clear c13b0
                try clear hx256_0
                try clear hx256_1
                try clear hx257_0
                try clear hx257_1
                try clear hx258_0
                try clear hx258_1
                try clear hx259_0
                try clear hx259_1
                try clear p2
                try clear p256
                try clear p257
                try clear p258
                try clear p259
                try clear q2
                try clear q256
                try clear q257
                try clear q258
                try clear q259
                obtain ⟨kq, x40_6, rfl, HA, HJ6, ⟨mc6, rfl⟩⟩ := hcut
                cases kq with
                | zero => exact absurd HA.out (by simp [sleuthlaw21_check.j2])
                | succ kj6 =>
                  have H := HA.out
                  clear HA
                  simp only [sleuthlaw21_check.j2] at H
                  by_cases c14 : x40_6 = true
                  · subst c14
                    have H1 : (some 8) = some r := by rw [if_pos rfl] at H; exact H
                    clear H
                    have H := H1
                    clear H1
                    obtain rfl := Option.some.inj H
                    go_wp2
                    repeat (go_quiet (fail); try go_wp2)
                    go_ret
                    exact ⟨by first | rfl | (simp; done) | (simp [*]; done), by repeat (first | exact Drawn0.refl _ | apply Drawn0.step)⟩
                  · replace c14 := Bool.eq_false_iff.mpr c14
                    subst c14
                    have H1 : (if 0 ≤ x4_1 then (if x4_1 < (l0.length : Int) then (if ((rd_T67 l0 x4_1).f1) < 1 then (some 2) else (if ((rd_T67 l0 x4_1).f1) > 1048576 then (some 2) else (sleuthlaw21_check.l0 kj6 l0 (wrap64 (x3_1 + ((rd_T67 l0 x4_1).f1))) (wrap64 (x4_1 + 1))))) else (none)) else (none)) = some r := by rw [if_neg (show ¬ (false = true) by decide)] at H; exact H
                    clear H
                    have H := H1
                    clear H1
                    by_cases c15 : 0 ≤ x4_1
                    · rw [if_pos c15] at H
                      have c15b0 : decide (0 ≤ x4_1) = true := decide_eq_true c15
                      clear c15
                      by_cases c16 : x4_1 < (l0.length : Int)
                      · rw [if_pos c16] at H
                        have c16b0 : decide (x4_1 < (l0.length : Int)) = true := decide_eq_true c16
                        clear c16
                        by_cases c17 : ((rd_T67 l0 x4_1).f1) < 1
                        · rw [if_pos c17] at H
                          have c17b0 : decide (((rd_T67 l0 x4_1).f1) < 1) = true := decide_eq_true c17
                          clear c17
                          obtain rfl := Option.some.inj H
                          have p260 : 0 ≤ (x4_1 : Int) := of_decide_eq_true (by first | (with_reducible assumption) | assumption)
                          have q260 : x4_1 < (l0.length : Int) := of_decide_eq_true (by first | (with_reducible assumption) | assumption)
                          obtain ⟨ad260, e260, hx260_0, hx260_1⟩ := at_T67 HR0.out x4_1 p260 q260
                          cases e260
                          replace p260 := eq_true p260
                          replace q260 := eq_true q260
                          go_wp2
                          repeat (go_quiet (fail); try go_wp2)
                          go_ret
                          exact ⟨by first | rfl | (simp; done) | (simp [*]; done), by repeat (first | exact Drawn0.refl _ | apply Drawn0.step)⟩
                        · rw [if_neg c17] at H
                          have c17b0 : decide (((rd_T67 l0 x4_1).f1) < 1) = false := decide_eq_false c17
                          clear c17
                          by_cases c18 : ((rd_T67 l0 x4_1).f1) > 1048576
                          · rw [if_pos c18] at H
                            have c18b0 : decide (1048576 < ((rd_T67 l0 x4_1).f1)) = true := decide_eq_true c18
                            clear c18
                            obtain rfl := Option.some.inj H
                            have p260 : 0 ≤ (x4_1 : Int) := of_decide_eq_true (by first | (with_reducible assumption) | assumption)
                            have q260 : x4_1 < (l0.length : Int) := of_decide_eq_true (by first | (with_reducible assumption) | assumption)
                            obtain ⟨ad260, e260, hx260_0, hx260_1⟩ := at_T67 HR0.out x4_1 p260 q260
                            cases e260
                            replace p260 := eq_true p260
                            replace q260 := eq_true q260
                            have p261 : 0 ≤ (x4_1 : Int) := of_decide_eq_true (by first | (with_reducible assumption) | assumption)
                            have q261 : x4_1 < (l0.length : Int) := of_decide_eq_true (by first | (with_reducible assumption) | assumption)
                            obtain ⟨ad261, e261, hx261_0, hx261_1⟩ := at_T67 HR0.out x4_1 p261 q261
                            obtain rfl : ad260 = ad261 := (by injection e261)
                            replace p261 := eq_true p261
                            replace q261 := eq_true q261
                            go_wp2
                            repeat (go_quiet (fail); try go_wp2)
                            go_ret
                            exact ⟨by first | rfl | (simp; done) | (simp [*]; done), by repeat (first | exact Drawn0.refl _ | apply Drawn0.step)⟩
                          · rw [if_neg c18] at H
                            have c18b0 : decide (1048576 < ((rd_T67 l0 x4_1).f1)) = false := decide_eq_false c18
                            clear c18
                            have H' := Aside0.mk H
                            clear H
                            have p260 : 0 ≤ (x4_1 : Int) := of_decide_eq_true (by first | (with_reducible assumption) | assumption)
                            have q260 : x4_1 < (l0.length : Int) := of_decide_eq_true (by first | (with_reducible assumption) | assumption)
                            obtain ⟨ad260, e260, hx260_0, hx260_1⟩ := at_T67 HR0.out x4_1 p260 q260
                            cases e260
                            replace p260 := eq_true p260
                            replace q260 := eq_true q260
                            have p261 : 0 ≤ (x4_1 : Int) := of_decide_eq_true (by first | (with_reducible assumption) | assumption)
                            have q261 : x4_1 < (l0.length : Int) := of_decide_eq_true (by first | (with_reducible assumption) | assumption)
                            obtain ⟨ad261, e261, hx261_0, hx261_1⟩ := at_T67 HR0.out x4_1 p261 q261
                            obtain rfl : ad260 = ad261 := (by injection e261)
                            replace p261 := eq_true p261
                            replace q261 := eq_true q261
                            have p262 : 0 ≤ (x4_1 : Int) := of_decide_eq_true (by first | (with_reducible assumption) | assumption)
                            have q262 : x4_1 < (l0.length : Int) := of_decide_eq_true (by first | (with_reducible assumption) | assumption)
                            obtain ⟨ad262, e262, hx262_0, hx262_1⟩ := at_T67 HR0.out x4_1 p262 q262
                            obtain rfl : ad260 = ad262 := (by injection e262)
                            replace p262 := eq_true p262
                            replace q262 := eq_true q262
                            go_wp2
                            repeat (go_quiet (fail); try go_wp2)
                            go_roundg kj6
                            case measure => have := HK1.out; have := HJ2.out; have := HJ6.out; omega
                            case rel => exact ⟨(wrap64 (x3_1 + ((rd_T67 l0 x4_1).f1))), (wrap64 (x4_1 + 1)), (by first | rfl | (simp; done) | (simp [*]; done)), (by first | rfl | (simp; done) | (simp [*]; done)), H', ⟨by have := HK1.out; have := HJ2.out; have := HJ6.out; omega⟩, by repeat (first | exact Drawn0.refl _ | apply Drawn0.step)⟩
                      · rw [if_neg c16] at H
                        exact absurd H (by simp)
                    · rw [if_neg c15] at H
                      exact absurd H (by simp)
      · rw [if_neg c2] at H
        have c2b0 : decide (x4_1 < (l0.length : Int)) = false := decide_eq_false c2
        clear c2
        by_cases c19 : x3_1 > 1048576
        · rw [if_pos c19] at H
          have c19b0 : decide (1048576 < x3_1) = true := decide_eq_true c19
          clear c19
          obtain rfl := Option.some.inj H
          go_wp2
          repeat (go_quiet (fail); try go_wp2)
          go_ret
          exact ⟨by first | rfl | (simp; done) | (simp [*]; done), by repeat (first | exact Drawn0.refl _ | apply Drawn0.step)⟩
        · rw [if_neg c19] at H
          have c19b0 : decide (1048576 < x3_1) = false := decide_eq_false c19
          clear c19
          obtain rfl := Option.some.inj H
          go_wp2
          repeat (go_quiet (fail); try go_wp2)
          go_ret
          exact ⟨by first | rfl | (simp; done) | (simp [*]; done), by repeat (first | exact Drawn0.refl _ | apply Drawn0.step)⟩

end Go.Proofs.Ytfnhicmjdfeanaa.PH
