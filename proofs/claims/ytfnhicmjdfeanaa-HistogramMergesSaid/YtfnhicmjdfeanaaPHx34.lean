-- Written by a program of this session (gprint.py) out of Lean's own print of the program. Lean checks it.
import Derived.Test.YtfnhicmjdfeanaaPHx0
namespace Go.Proofs.Ytfnhicmjdfeanaa.PH
open Go.RowKit Go.Proofs.YtfnhicmjdfeanaaW.PrintWords Go.Proofs.YtfnhicmjdfeanaaW.PrintLast Go.Proofs.YtfnhicmjdfeanaaW.PrintMore
attribute [local go_sem] max2_int min2_int max_two min_two max_three min_three max_four min_four   -- for this text's walks alone
set_option linter.unusedVariables false
set_option linter.unusedSimpArgs false

/-! ### sleuthlaw21_at: function 32 -/
def sleuthlaw21_at.l0 : Nat → Int → Int → List (S67) → Option (Int)
  | 0, _, _, _ => none
  | k + 1, x1, x5, x292000 => if x5 < (x292000.length : Int) then (if 0 ≤ x5 then (if ((rd_T67 x292000 x5).f0) = x1 then (some ((rd_T67 x292000 x5).f1)) else (sleuthlaw21_at.l0 k x1 (wrap64 (x5 + 1)) x292000)) else (none)) else (some 0)
def sleuthlaw21_at.f (k : Nat) (l0_0 : List (S67)) (a1 : Int) : Option (Int) := sleuthlaw21_at.l0 k a1 0 l0_0
theorem sleuthlaw21_at.mono_l : ∀ k, (∀ y0 y1 y2, LeO (sleuthlaw21_at.l0 k y0 y1 y2) (sleuthlaw21_at.l0 (k + 1) y0 y1 y2))
  | 0 => fun _ _ _ r h => by simp [sleuthlaw21_at.l0] at h
  | k + 1 => by
    have ih0 := sleuthlaw21_at.mono_l k
    · intro y0 y1 y2
      unfold sleuthlaw21_at.l0
      repeat' first
      | (with_reducible exact ih0 _ _ _)
      | (with_reducible exact LeO.refl _)
      | (with_reducible exact LeO.none _)
      | (with_reducible refine LeO.ite ?_ ?_)
      | (with_reducible refine LeO.bind ?_ (fun _ => ?_))
      | exact ih0 _ _ _
      | exact LeO.none _
      | refine LeO.ite ?_ ?_
      | refine LeO.bind ?_ (fun _ => ?_)
theorem sleuthlaw21_at.mono : ∀ a0 a1 k, LeO (sleuthlaw21_at.f k a0 a1) (sleuthlaw21_at.f (k + 1) a0 a1) := by
  intro a0 a1 k
  have ih0 := sleuthlaw21_at.mono_l k
  unfold sleuthlaw21_at.f
  repeat' first
      | (with_reducible exact ih0 _ _ _)
      | (with_reducible exact LeO.refl _)
      | (with_reducible exact LeO.none _)
      | (with_reducible refine LeO.ite ?_ ?_)
      | (with_reducible refine LeO.bind ?_ (fun _ => ?_))
      | exact ih0 _ _ _
      | exact LeO.none _
      | refine LeO.ite ?_ ?_
      | refine LeO.bind ?_ (fun _ => ?_)
set_option maxHeartbeats 8000000 in
set_option maxRecDepth 100000 in
theorem sleuthlaw21_at.calls (k : Nat) (A0_0 : Option Addr) (c0_0 : Nat) (l0_0 : List (S67)) (a1 : Int) (r : Int) (w : World) (hr0_0 : Kd.C k67 w A0_0 l0_0.length l0_0) (hc0_0 : l0_0.length ≤ c0_0) (h : sleuthlaw21_at.f k l0_0 a1 = some r) :
    Calls Try.prog 32 #[.agg #[.slice A0_0 l0_0.length c0_0], .int .i64 a1] w fun e w' => e = .returned (.int .i64 r) ∧ Below w.heap.size w w' := by
  have hu33 := Try.underlying33
  have HR0_0 := Aside0.mk hr0_0
  have HC0_0 := Aside0.mk hc0_0
  clear hr0_0 hc0_0
  have HB := Aside0.mk (Below.refl w.heap.size w)
  have H : (sleuthlaw21_at.l0 k a1 0 l0_0) = some r := h
  clear h
  have H' := Aside0.mk H
  clear H
  go_enter Try.func32, Try.ntmps32
  go_wp2_with (first | ((with_reducible refine gate_dst (N := 2) rfl ?_); refine box_event ?hg (N := 2) ?hd (cs := #[.slice A0_0 l0_0.length c0_0]) (t := 33) ?hr ?_; (case hd => rfl); (case hg => rfl); (case hr => first | (go_simp; done) | (go_simp; rfl)); intro gb291 hg w3 hbox hb; have n0_ := Aside0.mk (below_step (by repeat (first | (with_reducible first | exact HB.out | apply below_alloc | apply pw_below_drewN | apply below_drew1) | exact HB.out)) hb); have n1_ := Aside0.mk (hbox); have n2_ := Aside0.mk ((by rw [hg]; exact (below_size (by repeat (first | (with_reducible first | exact HB.out | apply below_alloc | apply pw_below_drewN | apply below_drew1) | exact HB.out))) : w.heap.size ≤ gb291)); have n3_ := Aside0.mk ((by rw [hg]; exact (below_size (by repeat (first | (with_reducible first | exact HB.out | apply below_alloc | apply pw_below_drewN | apply below_drew1) | exact HB.out))) : w.heap.size ≤ gb291)); clear HB; have HB := n0_; have BK291 := n1_; have GW291 := n2_; have GE291 := n3_; clear n0_ n1_ n2_ n3_; clear hb hbox hg))
  go_loopg [5] k (fun kq v5 w' => ∃ (x5_1 : Int), v5 = .int .i64 x5_1 ∧ Aside0 (sleuthlaw21_at.l0 kq a1 x5_1 l0_0 = some r) ∧ Aside0 (kq ≤ k) ∧ Aside0 (w'.heap[gb291]? = some (.cells #[(.slice A0_0 l0_0.length c0_0)] 33 (0, 0))) ∧ Aside0 (Below w.heap.size w w'))
  case atStart => exact ⟨(0), (by first | rfl | (simp; done) | (simp [*]; done)), H', ⟨Nat.le_refl _⟩, ⟨by (with_reducible repeat (first | refine blk_drewN ?_ _ | refine blk_drew ?_ | refine blk_alloc ?_ _)); exact BK291.out⟩, ⟨by repeat (first | (with_reducible first | exact HB.out | apply below_alloc | apply pw_below_drewN | apply below_drew1 | refine below_set ?_ GE291.out) | exact HB.out)⟩⟩
  case round =>
    clear H'
    try clear p2
    try clear c3
    obtain ⟨x5_1, rfl, HA, HK1, BK291, HB⟩ := hrel
    cases gk with
    | zero => exact absurd HA.out (by simp [sleuthlaw21_at.l0])
    | succ k1 =>
      have H := HA.out
      clear HA
      simp only [sleuthlaw21_at.l0] at H
      by_cases c4 : x5_1 < (l0_0.length : Int)
      · rw [if_pos c4] at H
        have c4b0 : decide (x5_1 < (l0_0.length : Int)) = true := decide_eq_true c4
        clear c4
        by_cases c5 : 0 ≤ x5_1
        · rw [if_pos c5] at H
          have c5b0 : decide (0 ≤ x5_1) = true := decide_eq_true c5
          clear c5
          by_cases c6 : ((rd_T67 l0_0 x5_1).f0) = a1
          · rw [if_pos c6] at H
            have c6b0 : (((rd_T67 l0_0 x5_1).f0) == a1) = true := beq_iff_eq.mpr c6
            have c6b1 : (((rd_T67 l0_0 x5_1).f0) != a1) = false := bne_eq_false_iff_eq.mpr c6
            clear c6
            obtain rfl := Option.some.inj H
            have hcz7_0 : wr.cell? ⟨gb291, 0, none⟩ = some (.slice A0_0 l0_0.length c0_0) := (blk_cell BK291.out 0).trans rfl
            have hfz7_0 := blk_frozen BK291.out 0
            have p292 : 0 ≤ (x5_1 : Int) := of_decide_eq_true (by first | (with_reducible assumption) | assumption)
            have q292 : x5_1 < (l0_0.length : Int) := of_decide_eq_true (by first | (with_reducible assumption) | assumption)
            obtain ⟨ad292, e292, hx292_0, hx292_1⟩ := at_T67 HR0_0.out x5_1 p292 q292
            cases e292
            replace hx292_0 := (HB.out.cell (World.block_lt_of_cell? w _ hx292_0)).trans hx292_0
            replace hx292_1 := (HB.out.cell (World.block_lt_of_cell? w _ hx292_1)).trans hx292_1
            replace p292 := eq_true p292
            replace q292 := eq_true q292
            have p293 : 0 ≤ (x5_1 : Int) := of_decide_eq_true (by first | (with_reducible assumption) | assumption)
            have q293 : x5_1 < (l0_0.length : Int) := of_decide_eq_true (by first | (with_reducible assumption) | assumption)
            obtain ⟨ad293, e293, hx293_0, hx293_1⟩ := at_T67 HR0_0.out x5_1 p293 q293
            obtain rfl : ad292 = ad293 := (by injection e293)
            replace hx293_0 := (HB.out.cell (World.block_lt_of_cell? w _ hx293_0)).trans hx293_0
            replace hx293_1 := (HB.out.cell (World.block_lt_of_cell? w _ hx293_1)).trans hx293_1
            replace p293 := eq_true p293
            replace q293 := eq_true q293
            go_wp2
            go_ret
            exact ⟨by first | rfl | (simp [errW_none, errW_some] <;> rfl) | (simp [*, errW_none, errW_some] <;> rfl), by repeat (first | (with_reducible first | exact HB.out | apply below_alloc | apply pw_below_drewN | apply below_drew1 | refine below_set ?_ GE291.out) | exact HB.out)⟩
          · rw [if_neg c6] at H
            have c6b0 : (((rd_T67 l0_0 x5_1).f0) == a1) = false := beq_eq_false_iff_ne.mpr c6
            have c6b1 : (((rd_T67 l0_0 x5_1).f0) != a1) = true := bne_iff_ne.mpr c6
            have H' := Aside0.mk H
            clear H
            have hcz8_0 : wr.cell? ⟨gb291, 0, none⟩ = some (.slice A0_0 l0_0.length c0_0) := (blk_cell BK291.out 0).trans rfl
            have hfz8_0 := blk_frozen BK291.out 0
            have p292 : 0 ≤ (x5_1 : Int) := of_decide_eq_true (by first | (with_reducible assumption) | assumption)
            have q292 : x5_1 < (l0_0.length : Int) := of_decide_eq_true (by first | (with_reducible assumption) | assumption)
            obtain ⟨ad292, e292, hx292_0, hx292_1⟩ := at_T67 HR0_0.out x5_1 p292 q292
            cases e292
            replace hx292_0 := (HB.out.cell (World.block_lt_of_cell? w _ hx292_0)).trans hx292_0
            replace hx292_1 := (HB.out.cell (World.block_lt_of_cell? w _ hx292_1)).trans hx292_1
            replace p292 := eq_true p292
            replace q292 := eq_true q292
            go_wp2
            go_roundg k1
            case measure => have := HK1.out; omega
            case rel => exact ⟨(wrap64 (x5_1 + 1)), (by first | rfl | (simp; done) | (simp [*]; done)), H', ⟨by have := HK1.out; omega⟩, ⟨by (with_reducible repeat (first | refine blk_drewN ?_ _ | refine blk_drew ?_ | refine blk_alloc ?_ _)); exact BK291.out⟩, ⟨by repeat (first | (with_reducible first | exact HB.out | apply below_alloc | apply pw_below_drewN | apply below_drew1 | refine below_set ?_ GE291.out) | exact HB.out)⟩⟩
        · rw [if_neg c5] at H
          exact absurd H (by simp)
      · rw [if_neg c4] at H
        have c4b0 : decide (x5_1 < (l0_0.length : Int)) = false := decide_eq_false c4
        clear c4
        obtain rfl := Option.some.inj H
        have hcz9_0 : wr.cell? ⟨gb291, 0, none⟩ = some (.slice A0_0 l0_0.length c0_0) := (blk_cell BK291.out 0).trans rfl
        have hfz9_0 := blk_frozen BK291.out 0
        go_wp2
        go_ret
        exact ⟨by first | rfl | (simp [errW_none, errW_some] <;> rfl) | (simp [*, errW_none, errW_some] <;> rfl), by repeat (first | (with_reducible first | exact HB.out | apply below_alloc | apply pw_below_drewN | apply below_drew1 | refine below_set ?_ GE291.out) | exact HB.out)⟩

end Go.Proofs.Ytfnhicmjdfeanaa.PH
