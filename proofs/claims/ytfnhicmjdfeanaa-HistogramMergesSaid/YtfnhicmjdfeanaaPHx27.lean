-- Written by a program of this session (gprint.py) out of Lean's own print of the program. Lean checks it.
import Derived.Test.YtfnhicmjdfeanaaPHx0
namespace Go.Proofs.Ytfnhicmjdfeanaa.PH
open Go.RowKit Go.Proofs.YtfnhicmjdfeanaaW.PrintWords Go.Proofs.YtfnhicmjdfeanaaW.PrintLast Go.Proofs.YtfnhicmjdfeanaaW.PrintMore
attribute [local go_sem] max2_int min2_int max_two min_two max_three min_three max_four min_four   -- for this text's walks alone
set_option linter.unusedVariables false
set_option linter.unusedSimpArgs false

/-! ### histogram_Check: function 24 -/
mutual
def histogram_Check.l0 : Nat → Int → List (S67) → Int → Int → List (S67) → Option (Int)
  | 0, _, _, _, _, _ => none
  | k + 1, x3, x7, x8, x9, x253000 => if x9 < x8 then (if 0 ≤ x9 then (if x9 < (x7.length : Int) then (if ((rd_T67 x7 x9).f0) < 0 then (histogram_Check.j1 k x3 x9 x7 x8 x9 true x253000 ((rd_T67 x7 x9).f0) ((rd_T67 x7 x9).f1)) else (histogram_Check.j1 k x3 x9 x7 x8 x9 (decide (((rd_T67 x7 x9).f0) ≥ 305)) x253000 ((rd_T67 x7 x9).f0) ((rd_T67 x7 x9).f1))) else (none)) else (none)) else (if x3 > 1048576 then (some 20) else (some 0))
def histogram_Check.j1 : Nat → Int → Int → List (S67) → Int → Int → Bool → List (S67) → Int → Int → Option (Int)
  | 0, _, _, _, _, _, _, _, _, _ => none
  | k + 1, x3, x4, x7, x8, x9, x14, x253000, x255000, x255001 => if x14 = true then (some 2) else (if x4 > 0 then (if 0 ≤ (wrap64 (x4 - 1)) then (if (wrap64 (x4 - 1)) < (x253000.length : Int) then (histogram_Check.j2 k x3 x7 x8 x9 (decide (x255000 ≤ ((rd_T67 x253000 (wrap64 (x4 - 1))).f0))) x253000 x255000 x255001) else (none)) else (none)) else (histogram_Check.j2 k x3 x7 x8 x9 false x253000 x255000 x255001))
def histogram_Check.j2 : Nat → Int → List (S67) → Int → Int → Bool → List (S67) → Int → Int → Option (Int)
  | 0, _, _, _, _, _, _, _, _ => none
  | k + 1, x3, x7, x8, x9, x23, x253000, x255000, x255001 => if x23 = true then (some 8) else (if x255001 < 1 then (some 2) else (if x255001 > 1048576 then (some 2) else (histogram_Check.l0 k (wrap64 (x3 + x255001)) x7 x8 (wrap64 (x9 + 1)) x253000)))
end
def histogram_Check.f (k : Nat) (l0_0 : List (S67)) : Option (Int) := histogram_Check.l0 k 0 l0_0 (l0_0.length : Int) 0 l0_0
theorem histogram_Check.mono_l : ∀ k, (∀ y0 y1 y2 y3 y4, LeO (histogram_Check.l0 k y0 y1 y2 y3 y4) (histogram_Check.l0 (k + 1) y0 y1 y2 y3 y4)) ∧ (∀ y0 y1 y2 y3 y4 y5 y6 y7 y8, LeO (histogram_Check.j1 k y0 y1 y2 y3 y4 y5 y6 y7 y8) (histogram_Check.j1 (k + 1) y0 y1 y2 y3 y4 y5 y6 y7 y8)) ∧ (∀ y0 y1 y2 y3 y4 y5 y6 y7, LeO (histogram_Check.j2 k y0 y1 y2 y3 y4 y5 y6 y7) (histogram_Check.j2 (k + 1) y0 y1 y2 y3 y4 y5 y6 y7))
  | 0 => ⟨fun _ _ _ _ _ r h => by simp [histogram_Check.l0] at h, fun _ _ _ _ _ _ _ _ _ r h => by simp [histogram_Check.j1] at h, fun _ _ _ _ _ _ _ _ r h => by simp [histogram_Check.j2] at h⟩
  | k + 1 => by
    obtain ⟨ih0, ih1, ih2⟩ := histogram_Check.mono_l k
    refine ⟨?_, ?_, ?_⟩
    · intro y0 y1 y2 y3 y4
      unfold histogram_Check.l0
      repeat' first
      | (with_reducible exact ih0 _ _ _ _ _)
      | (with_reducible exact ih1 _ _ _ _ _ _ _ _ _)
      | (with_reducible exact ih2 _ _ _ _ _ _ _ _)
      | (with_reducible exact LeO.refl _)
      | (with_reducible exact LeO.none _)
      | (with_reducible refine LeO.ite ?_ ?_)
      | (with_reducible refine LeO.bind ?_ (fun _ => ?_))
      | exact ih0 _ _ _ _ _
      | exact ih1 _ _ _ _ _ _ _ _ _
      | exact ih2 _ _ _ _ _ _ _ _
      | exact LeO.none _
      | refine LeO.ite ?_ ?_
      | refine LeO.bind ?_ (fun _ => ?_)
    · intro y0 y1 y2 y3 y4 y5 y6 y7 y8
      unfold histogram_Check.j1
      repeat' first
      | (with_reducible exact ih0 _ _ _ _ _)
      | (with_reducible exact ih1 _ _ _ _ _ _ _ _ _)
      | (with_reducible exact ih2 _ _ _ _ _ _ _ _)
      | (with_reducible exact LeO.refl _)
      | (with_reducible exact LeO.none _)
      | (with_reducible refine LeO.ite ?_ ?_)
      | (with_reducible refine LeO.bind ?_ (fun _ => ?_))
      | exact ih0 _ _ _ _ _
      | exact ih1 _ _ _ _ _ _ _ _ _
      | exact ih2 _ _ _ _ _ _ _ _
      | exact LeO.none _
      | refine LeO.ite ?_ ?_
      | refine LeO.bind ?_ (fun _ => ?_)
    · intro y0 y1 y2 y3 y4 y5 y6 y7
      unfold histogram_Check.j2
      repeat' first
      | (with_reducible exact ih0 _ _ _ _ _)
      | (with_reducible exact ih1 _ _ _ _ _ _ _ _ _)
      | (with_reducible exact ih2 _ _ _ _ _ _ _ _)
      | (with_reducible exact LeO.refl _)
      | (with_reducible exact LeO.none _)
      | (with_reducible refine LeO.ite ?_ ?_)
      | (with_reducible refine LeO.bind ?_ (fun _ => ?_))
      | exact ih0 _ _ _ _ _
      | exact ih1 _ _ _ _ _ _ _ _ _
      | exact ih2 _ _ _ _ _ _ _ _
      | exact LeO.none _
      | refine LeO.ite ?_ ?_
      | refine LeO.bind ?_ (fun _ => ?_)
theorem histogram_Check.mono : ∀ a0 k, LeO (histogram_Check.f k a0) (histogram_Check.f (k + 1) a0) := by
  intro a0 k
  obtain ⟨ih0, ih1, ih2⟩ := histogram_Check.mono_l k
  unfold histogram_Check.f
  repeat' first
      | (with_reducible exact ih0 _ _ _ _ _)
      | (with_reducible exact ih1 _ _ _ _ _ _ _ _ _)
      | (with_reducible exact ih2 _ _ _ _ _ _ _ _)
      | (with_reducible exact LeO.refl _)
      | (with_reducible exact LeO.none _)
      | (with_reducible refine LeO.ite ?_ ?_)
      | (with_reducible refine LeO.bind ?_ (fun _ => ?_))
      | exact ih0 _ _ _ _ _
      | exact ih1 _ _ _ _ _ _ _ _ _
      | exact ih2 _ _ _ _ _ _ _ _
      | exact LeO.none _
      | refine LeO.ite ?_ ?_
      | refine LeO.bind ?_ (fun _ => ?_)
set_option maxHeartbeats 8000000 in
set_option maxRecDepth 100000 in
theorem histogram_Check.calls (k : Nat) (A0_0 : Option Addr) (c0_0 : Nat) (l0_0 : List (S67)) (r : Int) (w : World) (hr0_0 : Kd.C k67 w A0_0 l0_0.length l0_0) (hc0_0 : l0_0.length ≤ c0_0) (h : histogram_Check.f k l0_0 = some r) :
    Calls Try.prog 24 #[.agg #[.slice A0_0 l0_0.length c0_0]] w fun e w' => e = .returned (.int .i64 r) ∧ Below w.heap.size w w' := by
  have hu33 := Try.underlying33
  have hu67 := Try.underlying67
  have HR0_0 := Aside0.mk hr0_0
  have HC0_0 := Aside0.mk hc0_0
  clear hr0_0 hc0_0
  have HB := Aside0.mk (Below.refl w.heap.size w)
  have H : (histogram_Check.l0 k 0 l0_0 (l0_0.length : Int) 0 l0_0) = some r := h
  clear h
  have H' := Aside0.mk H
  clear H
  go_enter Try.func24, Try.ntmps24
  go_wp2_with (first | ((with_reducible refine gate_dst (N := 1) rfl ?_); refine box_event ?hg (N := 1) ?hd (cs := #[.slice A0_0 l0_0.length c0_0]) (t := 33) ?hr ?_; (case hd => rfl); (case hg => rfl); (case hr => first | (go_simp; done) | (go_simp; rfl)); intro gb252 hg w2 hbox hb; have n0_ := Aside0.mk (below_step (by repeat (first | (with_reducible first | exact HB.out | apply below_alloc | apply pw_below_drewN | apply below_drew1) | exact HB.out)) hb); have n1_ := Aside0.mk (hbox); have n2_ := Aside0.mk ((by rw [hg]; exact (below_size (by repeat (first | (with_reducible first | exact HB.out | apply below_alloc | apply pw_below_drewN | apply below_drew1) | exact HB.out))) : w.heap.size ≤ gb252)); have n3_ := Aside0.mk ((by rw [hg]; exact (below_size (by repeat (first | (with_reducible first | exact HB.out | apply below_alloc | apply pw_below_drewN | apply below_drew1) | exact HB.out))) : w.heap.size ≤ gb252)); clear HB; have HB := n0_; have BK252 := n1_; have GW252 := n2_; have GE252 := n3_; clear n0_ n1_ n2_ n3_; clear hb hbox hg; have hcz3_0 : w2.cell? ⟨gb252, 0, none⟩ = some (.slice A0_0 l0_0.length c0_0) := (blk_cell BK252.out 0).trans rfl; have hfz3_0 := blk_frozen BK252.out 0))
  repeat (go_quiet (first | ((with_reducible refine gate_dst (N := 1) rfl ?_); refine box_event ?hg (N := 1) ?hd (cs := #[.slice A0_0 l0_0.length c0_0]) (t := 33) ?hr ?_; (case hd => rfl); (case hg => rfl); (case hr => first | (go_simp; done) | (go_simp; rfl)); intro gb252 hg w2 hbox hb; have n0_ := Aside0.mk (below_step (by repeat (first | (with_reducible first | exact HB.out | apply below_alloc | apply pw_below_drewN | apply below_drew1) | exact HB.out)) hb); have n1_ := Aside0.mk (hbox); have n2_ := Aside0.mk ((by rw [hg]; exact (below_size (by repeat (first | (with_reducible first | exact HB.out | apply below_alloc | apply pw_below_drewN | apply below_drew1) | exact HB.out))) : w.heap.size ≤ gb252)); have n3_ := Aside0.mk ((by rw [hg]; exact (below_size (by repeat (first | (with_reducible first | exact HB.out | apply below_alloc | apply pw_below_drewN | apply below_drew1) | exact HB.out))) : w.heap.size ≤ gb252)); clear HB; have HB := n0_; have BK252 := n1_; have GW252 := n2_; have GE252 := n3_; clear n0_ n1_ n2_ n3_; clear hb hbox hg; have hcz3_0 : w2.cell? ⟨gb252, 0, none⟩ = some (.slice A0_0 l0_0.length c0_0) := (blk_cell BK252.out 0).trans rfl; have hfz3_0 := blk_frozen BK252.out 0)); try go_wp2_with (first | ((with_reducible refine gate_dst (N := 1) rfl ?_); refine box_event ?hg (N := 1) ?hd (cs := #[.slice A0_0 l0_0.length c0_0]) (t := 33) ?hr ?_; (case hd => rfl); (case hg => rfl); (case hr => first | (go_simp; done) | (go_simp; rfl)); intro gb252 hg w2 hbox hb; have n0_ := Aside0.mk (below_step (by repeat (first | (with_reducible first | exact HB.out | apply below_alloc | apply pw_below_drewN | apply below_drew1) | exact HB.out)) hb); have n1_ := Aside0.mk (hbox); have n2_ := Aside0.mk ((by rw [hg]; exact (below_size (by repeat (first | (with_reducible first | exact HB.out | apply below_alloc | apply pw_below_drewN | apply below_drew1) | exact HB.out))) : w.heap.size ≤ gb252)); have n3_ := Aside0.mk ((by rw [hg]; exact (below_size (by repeat (first | (with_reducible first | exact HB.out | apply below_alloc | apply pw_below_drewN | apply below_drew1) | exact HB.out))) : w.heap.size ≤ gb252)); clear HB; have HB := n0_; have BK252 := n1_; have GW252 := n2_; have GE252 := n3_; clear n0_ n1_ n2_ n3_; clear hb hbox hg; have hcz3_0 : w2.cell? ⟨gb252, 0, none⟩ = some (.slice A0_0 l0_0.length c0_0) := (blk_cell BK252.out 0).trans rfl; have hfz3_0 := blk_frozen BK252.out 0)))
  go_loopg [3, 9] k (fun kq v3 v9 w' => ∃ (x3_1 : Int) (x9_1 : Int), v3 = .int .i64 x3_1 ∧ v9 = .int .i64 x9_1 ∧ Aside0 (histogram_Check.l0 kq x3_1 l0_0 (l0_0.length : Int) x9_1 l0_0 = some r) ∧ Aside0 (kq ≤ k) ∧ Aside0 (w'.heap[gb252]? = some (.cells #[(.slice A0_0 l0_0.length c0_0)] 33 (0, 0))) ∧ Aside0 (Below w.heap.size w w'))
  case atStart => exact ⟨(0), (0), (by first | rfl | (simp; done) | (simp [*]; done)), (by first | rfl | (simp; done) | (simp [*]; done)), H', ⟨Nat.le_refl _⟩, ⟨by (with_reducible repeat (first | refine blk_drewN ?_ _ | refine blk_drew ?_ | refine blk_alloc ?_ _)); exact BK252.out⟩, ⟨by repeat (first | (with_reducible first | exact HB.out | apply below_alloc | apply pw_below_drewN | apply below_drew1 | refine below_set ?_ GE252.out) | exact HB.out)⟩⟩
  case round =>
    clear H'
    try clear c2
    try clear p2
    try clear hcz3_0
    try clear hfz3_0
    obtain ⟨x3_1, x9_1, rfl, rfl, HA, HK1, BK252, HB⟩ := hrel
    cases gk with
    | zero => exact absurd HA.out (by simp [histogram_Check.l0])
    | succ k1 =>
      have H := HA.out
      clear HA
      simp only [histogram_Check.l0] at H
      by_cases c4 : x9_1 < (l0_0.length : Int)
      · rw [if_pos c4] at H
        have c4b0 : decide (x9_1 < (l0_0.length : Int)) = true := decide_eq_true c4
        clear c4
        by_cases c5 : 0 ≤ x9_1
        · rw [if_pos c5] at H
          have c5b0 : decide (0 ≤ x9_1) = true := decide_eq_true c5
          clear c5
          by_cases c6 : x9_1 < (l0_0.length : Int)
          · rw [if_pos c6] at H
            have c6b0 : decide (x9_1 < (l0_0.length : Int)) = true := decide_eq_true c6
            clear c6
            have HC7 := Aside0.mk H
            clear H
            have p253 : 0 ≤ (x9_1 : Int) := of_decide_eq_true (by first | (with_reducible assumption) | assumption)
            have q253 : x9_1 < (l0_0.length : Int) := of_decide_eq_true (by first | (with_reducible assumption) | assumption)
            obtain ⟨ad253, e253, hx253_0, hx253_1⟩ := at_T67 HR0_0.out x9_1 p253 q253
            cases e253
            replace hx253_0 := (HB.out.cell (World.block_lt_of_cell? w _ hx253_0)).trans hx253_0
            replace hx253_1 := (HB.out.cell (World.block_lt_of_cell? w _ hx253_1)).trans hx253_1
            replace p253 := eq_true p253
            replace q253 := eq_true q253
            go_upto_region 5 with (first | ((with_reducible refine gate_dst (N := 5) rfl ?_); refine box_event ?hg (N := 5) ?hd (cs := #[.int .i64 0, .int .i64 0]) (t := 67) ?hr ?_; (case hd => rfl); (case hg => rfl); (case hr => first | (go_simp; done) | (go_simp; rfl)); intro gb254 hg w8 hbox hb; have n0_ := Aside0.mk (blk_below (g := gb252) (o := .cells #[.slice (some ad253) l0_0.length c0_0] 33 (0, 0)) (by (with_reducible repeat (first | refine blk_drewN ?_ _ | refine blk_drew ?_ | refine blk_alloc ?_ _)); exact BK252.out) hb); have n1_ := Aside0.mk (below_step (by repeat (first | (with_reducible first | exact HB.out | apply below_alloc | apply pw_below_drewN | apply below_drew1 | refine below_set ?_ GE252.out) | exact HB.out)) hb); have n2_ := Aside0.mk (hbox); have n3_ := Aside0.mk ((by rw [hg]; exact (below_size (by repeat (first | (with_reducible first | exact HB.out | apply below_alloc | apply pw_below_drewN | apply below_drew1 | refine below_set ?_ GE252.out) | exact HB.out))) : w.heap.size ≤ gb254)); have n4_ := Aside0.mk ((by rw [hg]; exact (below_size (by repeat (first | (with_reducible first | exact HB.out | apply below_alloc | apply pw_below_drewN | apply below_drew1 | refine below_set ?_ GE252.out) | exact HB.out))) : w.heap.size ≤ gb254)); have n5_ := Aside0.mk ((by rw [hg]; exact Nat.ne_of_lt (blk_lt (g := gb252) (o := .cells #[.slice (some ad253) l0_0.length c0_0] 33 (0, 0)) (by (with_reducible repeat (first | refine blk_drewN ?_ _ | refine blk_drew ?_ | refine blk_alloc ?_ _)); exact BK252.out)) : gb252 ≠ gb254)); have n6_ := Aside0.mk ((by rw [hg]; exact Nat.ne_of_gt (blk_lt (g := gb252) (o := .cells #[.slice (some ad253) l0_0.length c0_0] 33 (0, 0)) (by (with_reducible repeat (first | refine blk_drewN ?_ _ | refine blk_drew ?_ | refine blk_alloc ?_ _)); exact BK252.out)) : gb254 ≠ gb252)); clear BK252; clear HB; have BK252 := n0_; have HB := n1_; have BK254 := n2_; have GW254 := n3_; have GE254 := n4_; have NB252_254 := n5_; have NB254_252 := n6_; clear n0_ n1_ n2_ n3_ n4_ n5_ n6_; clear hb hbox hg; have hnb9 := NB254_252.out; have hnc9 := NB252_254.out; have hcz10_0 : w8.cell? ⟨gb254, 0, none⟩ = some (.int .i64 0) := (blk_cell BK254.out 0).trans rfl; have hcz10_1 : w8.cell? ⟨gb254, 1, none⟩ = some (.int .i64 0) := (blk_cell BK254.out 1).trans rfl; have hfz10_0 := blk_frozen BK254.out 0; have hfz10_1 := blk_frozen BK254.out 1))
            repeat (go_quiet (first | ((with_reducible refine gate_dst (N := 5) rfl ?_); refine box_event ?hg (N := 5) ?hd (cs := #[.int .i64 0, .int .i64 0]) (t := 67) ?hr ?_; (case hd => rfl); (case hg => rfl); (case hr => first | (go_simp; done) | (go_simp; rfl)); intro gb254 hg w8 hbox hb; have n0_ := Aside0.mk (blk_below (g := gb252) (o := .cells #[.slice (some ad253) l0_0.length c0_0] 33 (0, 0)) (by (with_reducible repeat (first | refine blk_drewN ?_ _ | refine blk_drew ?_ | refine blk_alloc ?_ _)); exact BK252.out) hb); have n1_ := Aside0.mk (below_step (by repeat (first | (with_reducible first | exact HB.out | apply below_alloc | apply pw_below_drewN | apply below_drew1 | refine below_set ?_ GE252.out) | exact HB.out)) hb); have n2_ := Aside0.mk (hbox); have n3_ := Aside0.mk ((by rw [hg]; exact (below_size (by repeat (first | (with_reducible first | exact HB.out | apply below_alloc | apply pw_below_drewN | apply below_drew1 | refine below_set ?_ GE252.out) | exact HB.out))) : w.heap.size ≤ gb254)); have n4_ := Aside0.mk ((by rw [hg]; exact (below_size (by repeat (first | (with_reducible first | exact HB.out | apply below_alloc | apply pw_below_drewN | apply below_drew1 | refine below_set ?_ GE252.out) | exact HB.out))) : w.heap.size ≤ gb254)); have n5_ := Aside0.mk ((by rw [hg]; exact Nat.ne_of_lt (blk_lt (g := gb252) (o := .cells #[.slice (some ad253) l0_0.length c0_0] 33 (0, 0)) (by (with_reducible repeat (first | refine blk_drewN ?_ _ | refine blk_drew ?_ | refine blk_alloc ?_ _)); exact BK252.out)) : gb252 ≠ gb254)); have n6_ := Aside0.mk ((by rw [hg]; exact Nat.ne_of_gt (blk_lt (g := gb252) (o := .cells #[.slice (some ad253) l0_0.length c0_0] 33 (0, 0)) (by (with_reducible repeat (first | refine blk_drewN ?_ _ | refine blk_drew ?_ | refine blk_alloc ?_ _)); exact BK252.out)) : gb254 ≠ gb252)); clear BK252; clear HB; have BK252 := n0_; have HB := n1_; have BK254 := n2_; have GW254 := n3_; have GE254 := n4_; have NB252_254 := n5_; have NB254_252 := n6_; clear n0_ n1_ n2_ n3_ n4_ n5_ n6_; clear hb hbox hg; have hnb9 := NB254_252.out; have hnc9 := NB252_254.out; have hcz10_0 : w8.cell? ⟨gb254, 0, none⟩ = some (.int .i64 0) := (blk_cell BK254.out 0).trans rfl; have hcz10_1 : w8.cell? ⟨gb254, 1, none⟩ = some (.int .i64 0) := (blk_cell BK254.out 1).trans rfl; have hfz10_0 := blk_frozen BK254.out 0; have hfz10_1 := blk_frozen BK254.out 1)); go_upto_region 5 with (first | ((with_reducible refine gate_dst (N := 5) rfl ?_); refine box_event ?hg (N := 5) ?hd (cs := #[.int .i64 0, .int .i64 0]) (t := 67) ?hr ?_; (case hd => rfl); (case hg => rfl); (case hr => first | (go_simp; done) | (go_simp; rfl)); intro gb254 hg w8 hbox hb; have n0_ := Aside0.mk (blk_below (g := gb252) (o := .cells #[.slice (some ad253) l0_0.length c0_0] 33 (0, 0)) (by (with_reducible repeat (first | refine blk_drewN ?_ _ | refine blk_drew ?_ | refine blk_alloc ?_ _)); exact BK252.out) hb); have n1_ := Aside0.mk (below_step (by repeat (first | (with_reducible first | exact HB.out | apply below_alloc | apply pw_below_drewN | apply below_drew1 | refine below_set ?_ GE252.out) | exact HB.out)) hb); have n2_ := Aside0.mk (hbox); have n3_ := Aside0.mk ((by rw [hg]; exact (below_size (by repeat (first | (with_reducible first | exact HB.out | apply below_alloc | apply pw_below_drewN | apply below_drew1 | refine below_set ?_ GE252.out) | exact HB.out))) : w.heap.size ≤ gb254)); have n4_ := Aside0.mk ((by rw [hg]; exact (below_size (by repeat (first | (with_reducible first | exact HB.out | apply below_alloc | apply pw_below_drewN | apply below_drew1 | refine below_set ?_ GE252.out) | exact HB.out))) : w.heap.size ≤ gb254)); have n5_ := Aside0.mk ((by rw [hg]; exact Nat.ne_of_lt (blk_lt (g := gb252) (o := .cells #[.slice (some ad253) l0_0.length c0_0] 33 (0, 0)) (by (with_reducible repeat (first | refine blk_drewN ?_ _ | refine blk_drew ?_ | refine blk_alloc ?_ _)); exact BK252.out)) : gb252 ≠ gb254)); have n6_ := Aside0.mk ((by rw [hg]; exact Nat.ne_of_gt (blk_lt (g := gb252) (o := .cells #[.slice (some ad253) l0_0.length c0_0] 33 (0, 0)) (by (with_reducible repeat (first | refine blk_drewN ?_ _ | refine blk_drew ?_ | refine blk_alloc ?_ _)); exact BK252.out)) : gb254 ≠ gb252)); clear BK252; clear HB; have BK252 := n0_; have HB := n1_; have BK254 := n2_; have GW254 := n3_; have GE254 := n4_; have NB252_254 := n5_; have NB254_252 := n6_; clear n0_ n1_ n2_ n3_ n4_ n5_ n6_; clear hb hbox hg; have hnb9 := NB254_252.out; have hnc9 := NB252_254.out; have hcz10_0 : w8.cell? ⟨gb254, 0, none⟩ = some (.int .i64 0) := (blk_cell BK254.out 0).trans rfl; have hcz10_1 : w8.cell? ⟨gb254, 1, none⟩ = some (.int .i64 0) := (blk_cell BK254.out 1).trans rfl; have hfz10_0 := blk_frozen BK254.out 0; have hfz10_1 := blk_frozen BK254.out 1)))
            (try simp only [Act.put, List.setIfInBounds_toArray, List.set_cons_zero, List.set_cons_succ])
            go_cut [14] (fun v14 wc => ∃ (kq : Nat) (x14_6 : Bool), v14 = .bool x14_6 ∧ Aside0 (histogram_Check.j1 kq x3_1 x9_1 l0_0 (l0_0.length : Int) x9_1 x14_6 l0_0 ((rd_T67 l0_0 x9_1).f0) ((rd_T67 l0_0 x9_1).f1) = some r) ∧ Aside0 (kq ≤ k1) ∧ Aside0 (wc.heap[gb252]? = some (.cells #[(.slice (some ad253) l0_0.length c0_0)] 33 (0, 0))) ∧ Aside0 (wc.heap[gb254]? = some (.cells #[.int .i64 ((rd_T67 l0_0 x9_1).f0), .int .i64 ((rd_T67 l0_0 x9_1).f1)] 67 (0, 0))) ∧ Aside0 (Below w.heap.size w wc))
            case first =>
              have H := HC7.out
              clear HC7
              by_cases c11 : ((rd_T67 l0_0 x9_1).f0) < 0
              · rw [if_pos c11] at H
                have c11b0 : decide (((rd_T67 l0_0 x9_1).f0) < 0) = true := decide_eq_true c11
                clear c11
                (first | rw [c11b0] | (simp only [i64_w, i32_w]; rw [c11b0]) | skip)
                have H' := Aside0.mk H
                clear H
                have hnb12 := NB254_252.out
                have hnc12 := NB252_254.out
                have hcz13_0 : w8.cell? ⟨gb254, 0, none⟩ = some (.int .i64 0) := (blk_cell BK254.out 0).trans rfl
                have hcz13_1 : w8.cell? ⟨gb254, 1, none⟩ = some (.int .i64 0) := (blk_cell BK254.out 1).trans rfl
                have hfz13_0 := blk_frozen BK254.out 0
                have hfz13_1 := blk_frozen BK254.out 1
                go_wp2
                repeat (go_quiet (fail); try go_wp2)
                go_meet
                case rel => exact ⟨_, (true), (by first | rfl | (simp; done) | (simp [*]; done)), H', ⟨by have := HK1.out; first | omega | exact Nat.le_refl _⟩, ⟨by (with_reducible repeat (first | refine blk_drewN ?_ _ | refine blk_drew ?_ | refine blk_alloc ?_ _)); refine blk_far ?_ NB252_254.out _; (with_reducible repeat (first | refine blk_drewN ?_ _ | refine blk_drew ?_ | refine blk_alloc ?_ _)); refine blk_far ?_ NB252_254.out _; (with_reducible repeat (first | refine blk_drewN ?_ _ | refine blk_drew ?_ | refine blk_alloc ?_ _)); exact BK252.out⟩, ⟨by (with_reducible repeat (first | refine blk_drewN ?_ _ | refine blk_drew ?_ | refine blk_alloc ?_ _)); refine blk_put (cs := #[.int .i64 ((rd_T67 l0_0 x9_1).f0), .int .i64 0]) ?_ 1 _ rfl; (with_reducible repeat (first | refine blk_drewN ?_ _ | refine blk_drew ?_ | refine blk_alloc ?_ _)); refine blk_put (cs := #[.int .i64 0, .int .i64 0]) ?_ 0 _ rfl; (with_reducible repeat (first | refine blk_drewN ?_ _ | refine blk_drew ?_ | refine blk_alloc ?_ _)); exact BK254.out⟩, ⟨by repeat (first | (with_reducible first | exact HB.out | apply below_alloc | apply pw_below_drewN | apply below_drew1 | refine below_set ?_ GE252.out | refine below_set ?_ GE254.out) | exact HB.out)⟩⟩
              · rw [if_neg c11] at H
                have c11b0 : decide (((rd_T67 l0_0 x9_1).f0) < 0) = false := decide_eq_false c11
                clear c11
                (first | rw [c11b0] | (simp only [i64_w, i32_w]; rw [c11b0]) | skip)
                have H' := Aside0.mk H
                clear H
                have hnb14 := NB254_252.out
                have hnc14 := NB252_254.out
                have hcz15_0 : w8.cell? ⟨gb254, 0, none⟩ = some (.int .i64 0) := (blk_cell BK254.out 0).trans rfl
                have hcz15_1 : w8.cell? ⟨gb254, 1, none⟩ = some (.int .i64 0) := (blk_cell BK254.out 1).trans rfl
                have hfz15_0 := blk_frozen BK254.out 0
                have hfz15_1 := blk_frozen BK254.out 1
                go_wp2
                repeat (go_quiet (fail); try go_wp2)
                go_meet
                case rel => exact ⟨_, (decide (((rd_T67 l0_0 x9_1).f0) ≥ 305)), (by first | rfl | (simp; done) | (simp [*]; done)), H', ⟨by have := HK1.out; first | omega | exact Nat.le_refl _⟩, ⟨by (with_reducible repeat (first | refine blk_drewN ?_ _ | refine blk_drew ?_ | refine blk_alloc ?_ _)); refine blk_far ?_ NB252_254.out _; (with_reducible repeat (first | refine blk_drewN ?_ _ | refine blk_drew ?_ | refine blk_alloc ?_ _)); refine blk_far ?_ NB252_254.out _; (with_reducible repeat (first | refine blk_drewN ?_ _ | refine blk_drew ?_ | refine blk_alloc ?_ _)); exact BK252.out⟩, ⟨by (with_reducible repeat (first | refine blk_drewN ?_ _ | refine blk_drew ?_ | refine blk_alloc ?_ _)); refine blk_put (cs := #[.int .i64 ((rd_T67 l0_0 x9_1).f0), .int .i64 0]) ?_ 1 _ rfl; (with_reducible repeat (first | refine blk_drewN ?_ _ | refine blk_drew ?_ | refine blk_alloc ?_ _)); refine blk_put (cs := #[.int .i64 0, .int .i64 0]) ?_ 0 _ rfl; (with_reducible repeat (first | refine blk_drewN ?_ _ | refine blk_drew ?_ | refine blk_alloc ?_ _)); exact BK254.out⟩, ⟨by repeat (first | (with_reducible first | exact HB.out | apply below_alloc | apply pw_below_drewN | apply below_drew1 | refine below_set ?_ GE252.out | refine below_set ?_ GE254.out) | exact HB.out)⟩⟩
            case rest =>
              clear HC7
              try clear c1
              try clear c2
              try clear p2
              try clear q2
              try clear hx2
              try clear c4
              try clear c4b0
              try clear c5
              try clear c5b0
              try clear c6
              try clear c6b0
              try clear c9
              try clear c11
              try clear c11b0
              try clear c12
              try clear c14
              try clear hcz10_0
              try clear hcz10_1
              try clear hcz13_0
              try clear hcz13_1
              try clear hcz15_0
              try clear hcz15_1
              try clear hcz3_0
              try clear hfz10_0
              try clear hfz10_1
              try clear hfz13_0
              try clear hfz13_1
              try clear hfz15_0
              try clear hfz15_1
              try clear hfz3_0
              try clear hx253_0
              try clear hx253_1
              try clear p2
              try clear p253
              try clear q253
              obtain ⟨kq, x14_6, rfl, HA, HJ6, BK252, BK254, HB⟩ := hcut
              cases kq with
              | zero => exact absurd HA.out (by simp [histogram_Check.j1])
              | succ kj6 =>
                have H := HA.out
                clear HA
                simp only [histogram_Check.j1] at H
                by_cases c16 : x14_6 = true
                · subst c16
                  have H1 : (some 2) = some r := by rw [if_pos rfl] at H; exact H
                  clear H
                  have H := H1
                  clear H1
                  obtain rfl := Option.some.inj H
                  go_wp2
                  repeat (go_quiet (fail); try go_wp2)
                  go_ret
                  exact ⟨by first | rfl | (simp [errW_none, errW_some] <;> rfl) | (simp [*, errW_none, errW_some] <;> rfl), by repeat (first | (with_reducible first | exact HB.out | apply below_alloc | apply pw_below_drewN | apply below_drew1 | refine below_set ?_ GE252.out | refine below_set ?_ GE254.out) | exact HB.out)⟩
                · replace c16 := Bool.eq_false_iff.mpr c16
                  subst c16
                  have H1 : (if x9_1 > 0 then (if 0 ≤ (wrap64 (x9_1 - 1)) then (if (wrap64 (x9_1 - 1)) < (l0_0.length : Int) then (histogram_Check.j2 kj6 x3_1 l0_0 (l0_0.length : Int) x9_1 (decide (((rd_T67 l0_0 x9_1).f0) ≤ ((rd_T67 l0_0 (wrap64 (x9_1 - 1))).f0))) l0_0 ((rd_T67 l0_0 x9_1).f0) ((rd_T67 l0_0 x9_1).f1)) else (none)) else (none)) else (histogram_Check.j2 kj6 x3_1 l0_0 (l0_0.length : Int) x9_1 false l0_0 ((rd_T67 l0_0 x9_1).f0) ((rd_T67 l0_0 x9_1).f1))) = some r := by rw [if_neg (show ¬ (false = true) by decide)] at H; exact H
                  clear H
                  have H := H1
                  clear H1
                  have HC17 := Aside0.mk H
                  clear H
                  go_upto_region 7 with (fail)
                  repeat (go_quiet (fail); go_upto_region 7 with (fail))
                  go_cut [23] (fun v23 wc => ∃ (kq : Nat) (x23_16 : Bool), v23 = .bool x23_16 ∧ Aside0 (histogram_Check.j2 kq x3_1 l0_0 (l0_0.length : Int) x9_1 x23_16 l0_0 ((rd_T67 l0_0 x9_1).f0) ((rd_T67 l0_0 x9_1).f1) = some r) ∧ Aside0 (kq ≤ kj6) ∧ Aside0 (wc.heap[gb252]? = some (.cells #[(.slice (some ad253) l0_0.length c0_0)] 33 (0, 0))) ∧ Aside0 (wc.heap[gb254]? = some (.cells #[.int .i64 ((rd_T67 l0_0 x9_1).f0), .int .i64 ((rd_T67 l0_0 x9_1).f1)] 67 (0, 0))) ∧ Aside0 (Below w.heap.size w wc))
                  case first =>
                    have H := HC17.out
                    clear HC17
                    by_cases c18 : x9_1 > 0
                    · rw [if_pos c18] at H
                      have c18b0 : decide (0 < x9_1) = true := decide_eq_true c18
                      clear c18
                      (first | rw [c18b0] | (simp only [i64_w, i32_w]; rw [c18b0]) | skip)
                      obtain ⟨ji19, hji19⟩ : ∃ j_ : Int, (wrap64 (x9_1 - 1)) = j_ := ⟨_, rfl⟩
                      replace H : (if 0 ≤ (ji19) then (if (ji19) < (l0_0.length : Int) then (histogram_Check.j2 kj6 x3_1 l0_0 (l0_0.length : Int) x9_1 (decide (((rd_T67 l0_0 x9_1).f0) ≤ ((rd_T67 l0_0 (ji19)).f0))) l0_0 ((rd_T67 l0_0 x9_1).f0) ((rd_T67 l0_0 x9_1).f1)) else (none)) else (none)) = some r := by first | (rw [hji19] at H; exact H) | (simp only [hji19] at H ⊢; exact H)
                      have hji19w : (IntKind.i64.wrap (x9_1 - 1)) = ji19 := (i64_w _).trans hji19
                      by_cases c20 : 0 ≤ (ji19)
                      · rw [if_pos c20] at H
                        have c20b0 : decide (0 ≤ (ji19)) = true := decide_eq_true c20
                        clear c20
                        by_cases c21 : (ji19) < (l0_0.length : Int)
                        · rw [if_pos c21] at H
                          have c21b0 : decide ((ji19) < (l0_0.length : Int)) = true := decide_eq_true c21
                          clear c21
                          have H' := Aside0.mk H
                          clear H
                          have hnb22 := NB254_252.out
                          have hnc22 := NB252_254.out
                          have hcz23_0 : wc.cell? ⟨gb254, 0, none⟩ = some (.int .i64 ((rd_T67 l0_0 x9_1).f0)) := (blk_cell BK254.out 0).trans rfl
                          have hcz23_1 : wc.cell? ⟨gb254, 1, none⟩ = some (.int .i64 ((rd_T67 l0_0 x9_1).f1)) := (blk_cell BK254.out 1).trans rfl
                          have hfz23_0 := blk_frozen BK254.out 0
                          have hfz23_1 := blk_frozen BK254.out 1
                          have hcz24_0 : wc.cell? ⟨gb252, 0, none⟩ = some (.slice (some ad253) l0_0.length c0_0) := (blk_cell BK252.out 0).trans rfl
                          have hfz24_0 := blk_frozen BK252.out 0
                          have p255 : 0 ≤ ((ji19) : Int) := of_decide_eq_true (by first | (with_reducible assumption) | assumption)
                          have q255 : (ji19) < (l0_0.length : Int) := of_decide_eq_true (by first | (with_reducible assumption) | assumption)
                          obtain ⟨ad255, e255, hx255_0, hx255_1⟩ := at_T67 HR0_0.out (ji19) p255 q255
                          obtain rfl : ad253 = ad255 := (by injection e255)
                          replace hx255_0 := (HB.out.cell (World.block_lt_of_cell? w _ hx255_0)).trans hx255_0
                          replace hx255_1 := (HB.out.cell (World.block_lt_of_cell? w _ hx255_1)).trans hx255_1
                          replace p255 := eq_true p255
                          replace q255 := eq_true q255
                          go_wp2
                          repeat (go_quiet (fail); try go_wp2)
                          go_meet
                          case rel => exact ⟨_, (decide (((rd_T67 l0_0 x9_1).f0) ≤ ((rd_T67 l0_0 (ji19)).f0))), (by first | rfl | (simp; done) | (simp only [← hji19] <;> (first | rfl | simp)) | (simp [*]; done)), H', ⟨by have := HK1.out; have := HJ6.out; first | omega | exact Nat.le_refl _⟩, ⟨by (with_reducible repeat (first | refine blk_drewN ?_ _ | refine blk_drew ?_ | refine blk_alloc ?_ _)); exact BK252.out⟩, ⟨by (with_reducible repeat (first | refine blk_drewN ?_ _ | refine blk_drew ?_ | refine blk_alloc ?_ _)); exact BK254.out⟩, ⟨by repeat (first | (with_reducible first | exact HB.out | apply below_alloc | apply pw_below_drewN | apply below_drew1 | refine below_set ?_ GE252.out | refine below_set ?_ GE254.out) | exact HB.out)⟩⟩
                        · rw [if_neg c21] at H
                          exact absurd H (by simp)
                      · rw [if_neg c20] at H
                        exact absurd H (by simp)
                    · rw [if_neg c18] at H
                      have c18b0 : decide (0 < x9_1) = false := decide_eq_false c18
                      clear c18
                      (first | rw [c18b0] | (simp only [i64_w, i32_w]; rw [c18b0]) | skip)
                      have H' := Aside0.mk H
                      clear H
                      go_wp2
                      repeat (go_quiet (fail); try go_wp2)
                      go_meet
                      case rel => exact ⟨_, (false), (by first | rfl | (simp; done) | (simp [*]; done)), H', ⟨by have := HK1.out; have := HJ6.out; first | omega | exact Nat.le_refl _⟩, ⟨by (with_reducible repeat (first | refine blk_drewN ?_ _ | refine blk_drew ?_ | refine blk_alloc ?_ _)); exact BK252.out⟩, ⟨by (with_reducible repeat (first | refine blk_drewN ?_ _ | refine blk_drew ?_ | refine blk_alloc ?_ _)); exact BK254.out⟩, ⟨by repeat (first | (with_reducible first | exact HB.out | apply below_alloc | apply pw_below_drewN | apply below_drew1 | refine below_set ?_ GE252.out | refine below_set ?_ GE254.out) | exact HB.out)⟩⟩
                  case rest =>
                    clear HC17
                    try clear c1
                    try clear c2
                    try clear p2
                    try clear q2
                    try clear hx2
                    try clear c4
                    try clear c4b0
                    try clear c5
                    try clear c5b0
                    try clear c6
                    try clear c6b0
                    try clear p6
                    try clear c9
                    try clear c11
                    try clear c11b0
                    try clear c12
                    try clear c14
                    try clear c16
                    try clear c18
                    try clear c18b0
                    try clear c20
                    try clear c20b0
                    try clear c21
                    try clear c21b0
                    try clear c22
                    try clear c24
                    try clear hcz10_0
                    try clear hcz10_1
                    try clear hcz13_0
                    try clear hcz13_1
                    try clear hcz15_0
                    try clear hcz15_1
                    try clear hcz23_0
                    try clear hcz23_1
                    try clear hcz24_0
                    try clear hcz3_0
                    try clear hfz10_0
                    try clear hfz10_1
                    try clear hfz13_0
                    try clear hfz13_1
                    try clear hfz15_0
                    try clear hfz15_1
                    try clear hfz23_0
                    try clear hfz23_1
                    try clear hfz24_0
                    try clear hfz3_0
                    try clear hx253_0
                    try clear hx253_1
                    try clear hx255_0
                    try clear hx255_1
                    try clear p2
                    try clear p253
                    try clear p255
                    try clear q2
                    try clear q253
                    try clear q255
                    obtain ⟨kq, x23_16, rfl, HA, HJ16, BK252, BK254, HB⟩ := hcut
                    cases kq with
                    | zero => exact absurd HA.out (by simp [histogram_Check.j2])
                    | succ kj16 =>
                      have H := HA.out
                      clear HA
                      simp only [histogram_Check.j2] at H
                      by_cases c25 : x23_16 = true
                      · subst c25
                        have H1 : (some 8) = some r := by rw [if_pos rfl] at H; exact H
                        clear H
                        have H := H1
                        clear H1
                        obtain rfl := Option.some.inj H
                        go_wp2
                        repeat (go_quiet (fail); try go_wp2)
                        go_ret
                        exact ⟨by first | rfl | (simp [errW_none, errW_some] <;> rfl) | (simp [*, errW_none, errW_some] <;> rfl), by repeat (first | (with_reducible first | exact HB.out | apply below_alloc | apply pw_below_drewN | apply below_drew1 | refine below_set ?_ GE252.out | refine below_set ?_ GE254.out) | exact HB.out)⟩
                      · replace c25 := Bool.eq_false_iff.mpr c25
                        subst c25
                        have H1 : (if ((rd_T67 l0_0 x9_1).f1) < 1 then (some 2) else (if ((rd_T67 l0_0 x9_1).f1) > 1048576 then (some 2) else (histogram_Check.l0 kj16 (wrap64 (x3_1 + ((rd_T67 l0_0 x9_1).f1))) l0_0 (l0_0.length : Int) (wrap64 (x9_1 + 1)) l0_0))) = some r := by rw [if_neg (show ¬ (false = true) by decide)] at H; exact H
                        clear H
                        have H := H1
                        clear H1
                        by_cases c26 : ((rd_T67 l0_0 x9_1).f1) < 1
                        · rw [if_pos c26] at H
                          have c26b0 : decide (((rd_T67 l0_0 x9_1).f1) < 1) = true := decide_eq_true c26
                          clear c26
                          obtain rfl := Option.some.inj H
                          have hnb27 := NB254_252.out
                          have hnc27 := NB252_254.out
                          have hcz28_0 : wc.cell? ⟨gb254, 0, none⟩ = some (.int .i64 ((rd_T67 l0_0 x9_1).f0)) := (blk_cell BK254.out 0).trans rfl
                          have hcz28_1 : wc.cell? ⟨gb254, 1, none⟩ = some (.int .i64 ((rd_T67 l0_0 x9_1).f1)) := (blk_cell BK254.out 1).trans rfl
                          have hfz28_0 := blk_frozen BK254.out 0
                          have hfz28_1 := blk_frozen BK254.out 1
                          go_wp2
                          repeat (go_quiet (fail); try go_wp2)
                          go_ret
                          exact ⟨by first | rfl | (simp [errW_none, errW_some] <;> rfl) | (simp [*, errW_none, errW_some] <;> rfl), by repeat (first | (with_reducible first | exact HB.out | apply below_alloc | apply pw_below_drewN | apply below_drew1 | refine below_set ?_ GE252.out | refine below_set ?_ GE254.out) | exact HB.out)⟩
                        · rw [if_neg c26] at H
                          have c26b0 : decide (((rd_T67 l0_0 x9_1).f1) < 1) = false := decide_eq_false c26
                          clear c26
                          by_cases c29 : ((rd_T67 l0_0 x9_1).f1) > 1048576
                          · rw [if_pos c29] at H
                            have c29b0 : decide (1048576 < ((rd_T67 l0_0 x9_1).f1)) = true := decide_eq_true c29
                            clear c29
                            obtain rfl := Option.some.inj H
                            have hnb30 := NB254_252.out
                            have hnc30 := NB252_254.out
                            have hcz31_0 : wc.cell? ⟨gb254, 0, none⟩ = some (.int .i64 ((rd_T67 l0_0 x9_1).f0)) := (blk_cell BK254.out 0).trans rfl
                            have hcz31_1 : wc.cell? ⟨gb254, 1, none⟩ = some (.int .i64 ((rd_T67 l0_0 x9_1).f1)) := (blk_cell BK254.out 1).trans rfl
                            have hfz31_0 := blk_frozen BK254.out 0
                            have hfz31_1 := blk_frozen BK254.out 1
                            go_wp2
                            repeat (go_quiet (fail); try go_wp2)
                            go_ret
                            exact ⟨by first | rfl | (simp [errW_none, errW_some] <;> rfl) | (simp [*, errW_none, errW_some] <;> rfl), by repeat (first | (with_reducible first | exact HB.out | apply below_alloc | apply pw_below_drewN | apply below_drew1 | refine below_set ?_ GE252.out | refine below_set ?_ GE254.out) | exact HB.out)⟩
                          · rw [if_neg c29] at H
                            have c29b0 : decide (1048576 < ((rd_T67 l0_0 x9_1).f1)) = false := decide_eq_false c29
                            clear c29
                            have H' := Aside0.mk H
                            clear H
                            have hnb32 := NB254_252.out
                            have hnc32 := NB252_254.out
                            have hcz33_0 : wc.cell? ⟨gb254, 0, none⟩ = some (.int .i64 ((rd_T67 l0_0 x9_1).f0)) := (blk_cell BK254.out 0).trans rfl
                            have hcz33_1 : wc.cell? ⟨gb254, 1, none⟩ = some (.int .i64 ((rd_T67 l0_0 x9_1).f1)) := (blk_cell BK254.out 1).trans rfl
                            have hfz33_0 := blk_frozen BK254.out 0
                            have hfz33_1 := blk_frozen BK254.out 1
                            go_wp2
                            repeat (go_quiet (fail); try go_wp2)
                            go_roundg kj16
                            case measure => have := HK1.out; have := HJ6.out; have := HJ16.out; omega
                            case rel => exact ⟨(wrap64 (x3_1 + ((rd_T67 l0_0 x9_1).f1))), (wrap64 (x9_1 + 1)), (by first | rfl | (simp; done) | (simp [*]; done)), (by first | rfl | (simp; done) | (simp [*]; done)), H', ⟨by have := HK1.out; have := HJ6.out; have := HJ16.out; omega⟩, ⟨by (with_reducible repeat (first | refine blk_drewN ?_ _ | refine blk_drew ?_ | refine blk_alloc ?_ _)); exact BK252.out⟩, ⟨by repeat (first | (with_reducible first | exact HB.out | apply below_alloc | apply pw_below_drewN | apply below_drew1 | refine below_set ?_ GE252.out | refine below_set ?_ GE254.out) | exact HB.out)⟩⟩
          · rw [if_neg c6] at H
            exact absurd H (by simp)
        · rw [if_neg c5] at H
          exact absurd H (by simp)
      · rw [if_neg c4] at H
        have c4b0 : decide (x9_1 < (l0_0.length : Int)) = false := decide_eq_false c4
        clear c4
        by_cases c34 : x3_1 > 1048576
        · rw [if_pos c34] at H
          have c34b0 : decide (1048576 < x3_1) = true := decide_eq_true c34
          clear c34
          obtain rfl := Option.some.inj H
          go_wp2
          repeat (go_quiet (fail); try go_wp2)
          go_ret
          exact ⟨by first | rfl | (simp [errW_none, errW_some] <;> rfl) | (simp [*, errW_none, errW_some] <;> rfl), by repeat (first | (with_reducible first | exact HB.out | apply below_alloc | apply pw_below_drewN | apply below_drew1 | refine below_set ?_ GE252.out) | exact HB.out)⟩
        · rw [if_neg c34] at H
          have c34b0 : decide (1048576 < x3_1) = false := decide_eq_false c34
          clear c34
          obtain rfl := Option.some.inj H
          go_wp2
          repeat (go_quiet (fail); try go_wp2)
          go_ret
          exact ⟨by first | rfl | (simp [errW_none, errW_some] <;> rfl) | (simp [*, errW_none, errW_some] <;> rfl), by repeat (first | (with_reducible first | exact HB.out | apply below_alloc | apply pw_below_drewN | apply below_drew1 | refine below_set ?_ GE252.out) | exact HB.out)⟩

end Go.Proofs.Ytfnhicmjdfeanaa.PH
