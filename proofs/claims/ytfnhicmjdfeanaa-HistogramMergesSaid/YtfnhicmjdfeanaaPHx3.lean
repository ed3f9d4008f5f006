-- Written by a program of this session (gprint.py) out of Lean's own print of the program. Lean checks it.
import Derived.Test.YtfnhicmjdfeanaaPHx0
namespace Go.Proofs.Ytfnhicmjdfeanaa.PH
open Go.RowKit Go.Proofs.YtfnhicmjdfeanaaW.PrintWords Go.Proofs.YtfnhicmjdfeanaaW.PrintLast Go.Proofs.YtfnhicmjdfeanaaW.PrintMore
attribute [local go_sem] max2_int min2_int max_two min_two max_three min_three max_four min_four   -- for this text's walks alone
set_option linter.unusedVariables false
set_option linter.unusedSimpArgs false

/-! ### histogram_Bounds: function 14 -/
def histogram_Bounds.j0 : Nat → Int → Bool → Option (Int × Int × Int)
  | 0, _, _ => none
  | k + 1, x0, x7 => if x7 = true then (some (0, 0, 2)) else (if x0 < 16 then (some (x0, x0, 0)) else (if 0 ≤ (wrap64 ((wrap64 (Int.tdiv x0 8)) - 1)) then (some (shl .i64 (wrap64 ((Int.tmod x0 8) + 8)) (wrap64 ((wrap64 (Int.tdiv x0 8)) - 1)), mn (wrap64 ((shl .i64 (wrap64 ((wrap64 ((Int.tmod x0 8) + 8)) + 1)) (wrap64 ((wrap64 (Int.tdiv x0 8)) - 1))) - 1)) 1099511627776, 0)) else (none)))
def histogram_Bounds.f (k : Nat) (a0 : Int) : Option (Int × Int × Int) := if a0 < 0 then (histogram_Bounds.j0 k a0 true) else (histogram_Bounds.j0 k a0 (decide (a0 ≥ 305)))
theorem histogram_Bounds.mono_l : ∀ k, (∀ y0 y1, LeO (histogram_Bounds.j0 k y0 y1) (histogram_Bounds.j0 (k + 1) y0 y1))
  | 0 => fun _ _ r h => by simp [histogram_Bounds.j0] at h
  | k + 1 => by
    have ih0 := histogram_Bounds.mono_l k
    · intro y0 y1
      unfold histogram_Bounds.j0
      repeat' first
      | (with_reducible exact ih0 _ _)
      | (with_reducible exact LeO.refl _)
      | (with_reducible exact LeO.none _)
      | (with_reducible refine LeO.ite ?_ ?_)
      | (with_reducible refine LeO.bind ?_ (fun _ => ?_))
      | exact ih0 _ _
      | exact LeO.none _
      | refine LeO.ite ?_ ?_
      | refine LeO.bind ?_ (fun _ => ?_)
theorem histogram_Bounds.mono : ∀ a0 k, LeO (histogram_Bounds.f k a0) (histogram_Bounds.f (k + 1) a0) := by
  intro a0 k
  have ih0 := histogram_Bounds.mono_l k
  unfold histogram_Bounds.f
  repeat' first
      | (with_reducible exact ih0 _ _)
      | (with_reducible exact LeO.refl _)
      | (with_reducible exact LeO.none _)
      | (with_reducible refine LeO.ite ?_ ?_)
      | (with_reducible refine LeO.bind ?_ (fun _ => ?_))
      | exact ih0 _ _
      | exact LeO.none _
      | refine LeO.ite ?_ ?_
      | refine LeO.bind ?_ (fun _ => ?_)
set_option maxHeartbeats 8000000 in
set_option maxRecDepth 100000 in
theorem histogram_Bounds.calls (k : Nat) (a0 : Int) (r1 : Int) (r2 : Int) (r3 : Int) (w : World) (h : histogram_Bounds.f k a0 = some (r1, r2, r3)) :
    Calls Try.prog 14 #[.int .i64 a0] w fun e w' => e = .returned (.tuple #[.int .i64 r1, .int .i64 r2, .int .i64 r3]) ∧ Below w.heap.size w w' := by
  have HB := Aside0.mk (Below.refl w.heap.size w)
  have H : (if a0 < 0 then (histogram_Bounds.j0 k a0 true) else (histogram_Bounds.j0 k a0 (decide (a0 ≥ 305)))) = some (r1, r2, r3) := h
  clear h
  have HC2 := Aside0.mk H
  clear H
  go_enter Try.func14, Try.ntmps14
  go_upto_region 1 with (fail)
  repeat (go_quiet (fail); go_upto_region 1 with (fail))
  go_cut [7] (fun v7 wc => ∃ (kq : Nat) (x7_1 : Bool), v7 = .bool x7_1 ∧ Aside0 (histogram_Bounds.j0 kq a0 x7_1 = some (r1, r2, r3)) ∧ Aside0 (kq ≤ k) ∧ Aside0 (Below w.heap.size w wc))
  case first =>
    have H := HC2.out
    clear HC2
    by_cases c3 : a0 < 0
    · rw [if_pos c3] at H
      have c3b0 : decide (a0 < 0) = true := decide_eq_true c3
      clear c3
      (first | rw [c3b0] | (simp only [i64_w, i32_w]; rw [c3b0]) | skip)
      have H' := Aside0.mk H
      clear H
      go_wp2
      repeat (go_quiet (fail); try go_wp2)
      go_meet
      case rel => exact ⟨_, (true), (by first | rfl | (simp; done) | (simp [*]; done)), H', ⟨by first | omega | exact Nat.le_refl _⟩, ⟨by repeat (first | (with_reducible first | exact HB.out | apply below_alloc | apply pw_below_drewN | apply below_drew1) | exact HB.out)⟩⟩
    · rw [if_neg c3] at H
      have c3b0 : decide (a0 < 0) = false := decide_eq_false c3
      clear c3
      (first | rw [c3b0] | (simp only [i64_w, i32_w]; rw [c3b0]) | skip)
      have H' := Aside0.mk H
      clear H
      go_wp2
      repeat (go_quiet (fail); try go_wp2)
      go_meet
      case rel => exact ⟨_, (decide (a0 ≥ 305)), (by first | rfl | (simp; done) | (simp [*]; done)), H', ⟨by first | omega | exact Nat.le_refl _⟩, ⟨by repeat (first | (with_reducible first | exact HB.out | apply below_alloc | apply pw_below_drewN | apply below_drew1) | exact HB.out)⟩⟩
  case rest =>
    clear HC2
    try clear c1
    try clear p2
    try clear c3
    try clear c3b0
    obtain ⟨kq, x7_1, rfl, HA, HJ1, HB⟩ := hcut
    cases kq with
    | zero => exact absurd HA.out (by simp [histogram_Bounds.j0])
    | succ kj1 =>
      have H := HA.out
      clear HA
      simp only [histogram_Bounds.j0] at H
      by_cases c4 : x7_1 = true
      · subst c4
        have H1 : (some (0, 0, 2)) = some (r1, r2, r3) := by rw [if_pos rfl] at H; exact H
        clear H
        have H := H1
        clear H1
        simp only [Option.some.injEq, Prod.mk.injEq] at H
        obtain ⟨rfl, rfl, rfl⟩ := H
        go_wp2
        repeat (go_quiet (fail); try go_wp2)
        go_ret3
        exact ⟨by first | rfl | (simp [errW_none, errW_some] <;> rfl) | (simp [*, errW_none, errW_some] <;> rfl), by repeat (first | (with_reducible first | exact HB.out | apply below_alloc | apply pw_below_drewN | apply below_drew1) | exact HB.out)⟩
      · replace c4 := Bool.eq_false_iff.mpr c4
        subst c4
        have H1 : (if a0 < 16 then (some (a0, a0, 0)) else (if 0 ≤ (wrap64 ((wrap64 (Int.tdiv a0 8)) - 1)) then (some (shl .i64 (wrap64 ((Int.tmod a0 8) + 8)) (wrap64 ((wrap64 (Int.tdiv a0 8)) - 1)), mn (wrap64 ((shl .i64 (wrap64 ((wrap64 ((Int.tmod a0 8) + 8)) + 1)) (wrap64 ((wrap64 (Int.tdiv a0 8)) - 1))) - 1)) 1099511627776, 0)) else (none))) = some (r1, r2, r3) := by rw [if_neg (show ¬ (false = true) by decide)] at H; exact H
        clear H
        have H := H1
        clear H1
        by_cases c5 : a0 < 16
        · rw [if_pos c5] at H
          have c5b0 : decide (a0 < 16) = true := decide_eq_true c5
          clear c5
          simp only [Option.some.injEq, Prod.mk.injEq] at H
          obtain ⟨rfl, rfl, rfl⟩ := H
          go_wp2
          repeat (go_quiet (fail); try go_wp2)
          go_ret3
          exact ⟨by first | rfl | (simp [errW_none, errW_some] <;> rfl) | (simp [*, errW_none, errW_some] <;> rfl), by repeat (first | (with_reducible first | exact HB.out | apply below_alloc | apply pw_below_drewN | apply below_drew1) | exact HB.out)⟩
        · rw [if_neg c5] at H
          have c5b0 : decide (a0 < 16) = false := decide_eq_false c5
          clear c5
          obtain ⟨ji6, hji6⟩ : ∃ j_ : Int, (wrap64 ((wrap64 (Int.tdiv a0 8)) - 1)) = j_ := ⟨_, rfl⟩
          replace H : (if 0 ≤ (ji6) then (some (shl .i64 (wrap64 ((Int.tmod a0 8) + 8)) (ji6), mn (wrap64 ((shl .i64 (wrap64 ((wrap64 ((Int.tmod a0 8) + 8)) + 1)) (ji6)) - 1)) 1099511627776, 0)) else (none)) = some (r1, r2, r3) := by first | (rw [hji6] at H; exact H) | (simp only [hji6] at H ⊢; exact H)
          have hji6w : (IntKind.i64.wrap ((wrap64 (Int.tdiv a0 8)) - 1)) = ji6 := (i64_w _).trans hji6
          by_cases c7 : 0 ≤ (ji6)
          · rw [if_pos c7] at H
            have c7b0 := eq_true c7
            have c7b1 : decide (0 ≤ (ji6)) = true := decide_eq_true c7
            clear c7
            obtain ⟨ji8, hji8⟩ : ∃ j_ : Int, (shl .i64 (wrap64 ((Int.tmod a0 8) + 8)) (ji6)) = j_ := ⟨_, rfl⟩
            replace H : (some (ji8, mn (wrap64 ((shl .i64 (wrap64 ((wrap64 ((Int.tmod a0 8) + 8)) + 1)) (ji6)) - 1)) 1099511627776, 0)) = some (r1, r2, r3) := by first | (rw [hji8] at H; exact H) | (simp only [hji8] at H ⊢; exact H)
            have hji8_ : (IntKind.i64.wrap ((wrap64 ((Int.tmod a0 8) + 8)) * 2 ^ min (ji6).toNat 64)) = ji8 := hji8
            have hji8z : (ji6) ≤ 64 → (IntKind.i64.wrap ((wrap64 ((Int.tmod a0 8) + 8)) * 2 ^ (ji6).toNat)) = ji8 := shl_small hji8
            have hji8y : (wrap64 ((wrap64 ((Int.tmod a0 8) + 8)) * 2 ^ min (ji6).toNat 64)) = ji8 := (i64_w _).symm.trans hji8_
            have hji8x : (ji6) ≤ 64 → (wrap64 ((wrap64 ((Int.tmod a0 8) + 8)) * 2 ^ (ji6).toNat)) = ji8 := fun h_ => (i64_w _).symm.trans (hji8z h_)
            have c9b0 := eq_true (of_decide_eq_true (by first | (with_reducible assumption) | assumption) : 0 ≤ (ji6))
            obtain ⟨ji10, hji10⟩ : ∃ j_ : Int, (shl .i64 (wrap64 ((wrap64 ((Int.tmod a0 8) + 8)) + 1)) (ji6)) = j_ := ⟨_, rfl⟩
            replace H : (some (ji8, mn (wrap64 ((ji10) - 1)) 1099511627776, 0)) = some (r1, r2, r3) := by first | (rw [hji10] at H; exact H) | (simp only [hji10] at H ⊢; exact H)
            have hji10_ : (IntKind.i64.wrap ((wrap64 ((wrap64 ((Int.tmod a0 8) + 8)) + 1)) * 2 ^ min (ji6).toNat 64)) = ji10 := hji10
            have hji10z : (ji6) ≤ 64 → (IntKind.i64.wrap ((wrap64 ((wrap64 ((Int.tmod a0 8) + 8)) + 1)) * 2 ^ (ji6).toNat)) = ji10 := shl_small hji10
            have hji10y : (wrap64 ((wrap64 ((wrap64 ((Int.tmod a0 8) + 8)) + 1)) * 2 ^ min (ji6).toNat 64)) = ji10 := (i64_w _).symm.trans hji10_
            have hji10x : (ji6) ≤ 64 → (wrap64 ((wrap64 ((wrap64 ((Int.tmod a0 8) + 8)) + 1)) * 2 ^ (ji6).toNat)) = ji10 := fun h_ => (i64_w _).symm.trans (hji10z h_)
            obtain ⟨ji11, hji11⟩ : ∃ j_ : Int, (mn (wrap64 ((ji10) - 1)) 1099511627776) = j_ := ⟨_, rfl⟩
            replace H : (some (ji8, ji11, 0)) = some (r1, r2, r3) := by first | (rw [hji11] at H; exact H) | (simp only [hji11] at H ⊢; exact H)
            have hji11_ : (if 1099511627776 < (wrap64 ((ji10) - 1)) then 1099511627776 else (wrap64 ((ji10) - 1))) = ji11 := hji11
            simp only [Option.some.injEq, Prod.mk.injEq] at H
            obtain ⟨rfl, rfl, rfl⟩ := H
            go_wp2
            repeat (go_quiet (fail); try go_wp2)
            go_ret3
            exact ⟨by first | rfl | (simp [errW_none, errW_some] <;> rfl) | (simp only [← hji6, ← hji8, ← hji10, ← hji11]; first | rfl | (simp [errW_none, errW_some] <;> rfl)) | (simp [*, errW_none, errW_some] <;> rfl), by repeat (first | (with_reducible first | exact HB.out | apply below_alloc | apply pw_below_drewN | apply below_drew1) | exact HB.out)⟩
          · rw [if_neg c7] at H
            exact absurd H (by simp)

end Go.Proofs.Ytfnhicmjdfeanaa.PH
