-- Written by a program of this session (gprint.py) out of Lean's own print of the program. Lean checks it.
import Derived.Test.YtikioicjhdhdpaaPFx0
import Derived.Test.YtikioicjhdhdpaaPFx1
import Derived.Test.YtikioicjhdhdpaaPFx7
import Derived.Test.YtikioicjhdhdpaaPFx9
import Derived.Test.YtikioicjhdhdpaaPFx13
import Derived.Test.YtikioicjhdhdpaaPFx15
import Derived.Test.YtikioicjhdhdpaaPFx16
namespace Go.Proofs.Ytikioicjhdhdpaa.PF
open Go.RowKit Go.Proofs.YtikioicjhdhdpaaW.PrintWords Go.Proofs.YtikioicjhdhdpaaW.PrintLast Go.Proofs.YtikioicjhdhdpaaW.PrintMore
attribute [local go_sem] max2_int min2_int max_two min_two max_three min_three max_four min_four   -- for this text's walks alone
set_option linter.unusedVariables false
set_option linter.unusedSimpArgs false

attribute [local go_sem high] eqA24
/-! ### sleuthlaw02_FractionAdds: function 6 -/
mutual
def sleuthlaw02_FractionAdds.j0 : Nat → Bool → Int → Int → Int → Int → Option (Bool)
  | 0, _, _, _, _, _ => none
  | k + 1, x28, x283000, x283001, x284000, x284001 => if x28 = true then ((sleuthlaw02_known.f k).bind fun t287 => (some t287)) else ((fraction_Add.f k x283000 x283001 x284000 x284001).bind fun bt288 => ((sleuthref02_Add.f k x283000 x283001 x284000 x284001).bind fun bt292 => ((fraction_Sub.f k x283000 x283001 x284000 x284001).bind fun bt296 => ((sleuthref02_Sub.f k x283000 x283001 x284000 x284001).bind fun bt300 => ((fraction_Add.f k x284000 x284001 x283000 x283001).bind fun bt304 => ((sleuthlaw02_is.f bt288.1 bt288.2.1 bt288.2.2 bt292.1 bt292.2.1 bt292.2.2).bind fun t308 => (if t308 = true then ((sleuthlaw02_is.f bt296.1 bt296.2.1 bt296.2.2 bt300.1 bt300.2.1 bt300.2.2).bind fun t309 => (if t309 = true then (if (!(bt304.1 == bt288.1) || (!(bt304.2.1 == bt288.2.1))) = true then (sleuthlaw02_FractionAdds.j1 k bt288.2.2 true x283000 x283001 x284000 x284001 bt288.1 bt288.2.1) else (sleuthlaw02_FractionAdds.j1 k bt288.2.2 (bt304.2.2 != bt288.2.2) x283000 x283001 x284000 x284001 bt288.1 bt288.2.1)) else (sleuthlaw02_FractionAdds.j1 k bt288.2.2 true x283000 x283001 x284000 x284001 bt288.1 bt288.2.1))) else (sleuthlaw02_FractionAdds.j1 k bt288.2.2 true x283000 x283001 x284000 x284001 bt288.1 bt288.2.1))))))))
def sleuthlaw02_FractionAdds.j1 : Nat → Int → Bool → Int → Int → Int → Int → Int → Int → Option (Bool)
  | 0, _, _, _, _, _, _, _, _ => none
  | k + 1, x6, x83, x283000, x283001, x284000, x284001, x292000, x292001 => if x83 = true then (some false) else (if x6 = 0 then ((fraction_Sub.f k x292000 x292001 x284000 x284001).bind fun bt310 => (if (bt310.1 == x283000 && (bt310.2.1 == x283001)) = true then (some (bt310.2.2 == 0)) else (some false))) else (some true))
end
def sleuthlaw02_FractionAdds.f (k : Nat) (a0_0 : Int) (a0_1 : Int) (a1_0 : Int) (a1_1 : Int) : Option (Bool) := (sleuthlaw02_known.f k).bind fun t284 => (if t284 = true then ((sleuthref02_Check.f k a0_0 a0_1).bind fun t285 => (if t285 = true then ((sleuthref02_Check.f k a1_0 a1_1).bind fun t286 => (sleuthlaw02_FractionAdds.j0 k (!t286) a0_0 a0_1 a1_0 a1_1)) else (sleuthlaw02_FractionAdds.j0 k true a0_0 a0_1 a1_0 a1_1))) else (sleuthlaw02_FractionAdds.j0 k true a0_0 a0_1 a1_0 a1_1))
theorem sleuthlaw02_FractionAdds.mono_l : ∀ k, (∀ y0 y1 y2 y3 y4, LeO (sleuthlaw02_FractionAdds.j0 k y0 y1 y2 y3 y4) (sleuthlaw02_FractionAdds.j0 (k + 1) y0 y1 y2 y3 y4)) ∧ (∀ y0 y1 y2 y3 y4 y5 y6 y7, LeO (sleuthlaw02_FractionAdds.j1 k y0 y1 y2 y3 y4 y5 y6 y7) (sleuthlaw02_FractionAdds.j1 (k + 1) y0 y1 y2 y3 y4 y5 y6 y7))
  | 0 => ⟨fun _ _ _ _ _ r h => by simp [sleuthlaw02_FractionAdds.j0] at h, fun _ _ _ _ _ _ _ _ r h => by simp [sleuthlaw02_FractionAdds.j1] at h⟩
  | k + 1 => by
    obtain ⟨ih0, ih1⟩ := sleuthlaw02_FractionAdds.mono_l k
    refine ⟨?_, ?_⟩
    · intro y0 y1 y2 y3 y4
      unfold sleuthlaw02_FractionAdds.j0
      repeat' first
      | (with_reducible exact ih0 _ _ _ _ _)
      | (with_reducible exact ih1 _ _ _ _ _ _ _ _)
      | (with_reducible exact fraction_Add.mono _ _ _ _ _)
      | (with_reducible exact fraction_Sub.mono _ _ _ _ _)
      | (with_reducible exact sleuthlaw02_known.mono _)
      | (with_reducible exact sleuthref02_Add.mono _ _ _ _ _)
      | (with_reducible exact sleuthref02_Check.mono _ _ _)
      | (with_reducible exact sleuthref02_Sub.mono _ _ _ _ _)
      | (with_reducible exact LeO.refl _)
      | (with_reducible exact LeO.none _)
      | (with_reducible refine LeO.ite ?_ ?_)
      | (with_reducible refine LeO.bind ?_ (fun _ => ?_))
      | exact ih0 _ _ _ _ _
      | exact ih1 _ _ _ _ _ _ _ _
      | exact fraction_Add.mono _ _ _ _ _
      | exact fraction_Sub.mono _ _ _ _ _
      | exact sleuthlaw02_known.mono _
      | exact sleuthref02_Add.mono _ _ _ _ _
      | exact sleuthref02_Check.mono _ _ _
      | exact sleuthref02_Sub.mono _ _ _ _ _
      | exact LeO.none _
      | refine LeO.ite ?_ ?_
      | refine LeO.bind ?_ (fun _ => ?_)
    · intro y0 y1 y2 y3 y4 y5 y6 y7
      unfold sleuthlaw02_FractionAdds.j1
      repeat' first
      | (with_reducible exact ih0 _ _ _ _ _)
      | (with_reducible exact ih1 _ _ _ _ _ _ _ _)
      | (with_reducible exact fraction_Add.mono _ _ _ _ _)
      | (with_reducible exact fraction_Sub.mono _ _ _ _ _)
      | (with_reducible exact sleuthlaw02_known.mono _)
      | (with_reducible exact sleuthref02_Add.mono _ _ _ _ _)
      | (with_reducible exact sleuthref02_Check.mono _ _ _)
      | (with_reducible exact sleuthref02_Sub.mono _ _ _ _ _)
      | (with_reducible exact LeO.refl _)
      | (with_reducible exact LeO.none _)
      | (with_reducible refine LeO.ite ?_ ?_)
      | (with_reducible refine LeO.bind ?_ (fun _ => ?_))
      | exact ih0 _ _ _ _ _
      | exact ih1 _ _ _ _ _ _ _ _
      | exact fraction_Add.mono _ _ _ _ _
      | exact fraction_Sub.mono _ _ _ _ _
      | exact sleuthlaw02_known.mono _
      | exact sleuthref02_Add.mono _ _ _ _ _
      | exact sleuthref02_Check.mono _ _ _
      | exact sleuthref02_Sub.mono _ _ _ _ _
      | exact LeO.none _
      | refine LeO.ite ?_ ?_
      | refine LeO.bind ?_ (fun _ => ?_)
theorem sleuthlaw02_FractionAdds.mono : ∀ a0 a1 a2 a3 k, LeO (sleuthlaw02_FractionAdds.f k a0 a1 a2 a3) (sleuthlaw02_FractionAdds.f (k + 1) a0 a1 a2 a3) := by
  intro a0 a1 a2 a3 k
  obtain ⟨ih0, ih1⟩ := sleuthlaw02_FractionAdds.mono_l k
  unfold sleuthlaw02_FractionAdds.f
  repeat' first
      | (with_reducible exact ih0 _ _ _ _ _)
      | (with_reducible exact ih1 _ _ _ _ _ _ _ _)
      | (with_reducible exact fraction_Add.mono _ _ _ _ _)
      | (with_reducible exact fraction_Sub.mono _ _ _ _ _)
      | (with_reducible exact sleuthlaw02_known.mono _)
      | (with_reducible exact sleuthref02_Add.mono _ _ _ _ _)
      | (with_reducible exact sleuthref02_Check.mono _ _ _)
      | (with_reducible exact sleuthref02_Sub.mono _ _ _ _ _)
      | (with_reducible exact LeO.refl _)
      | (with_reducible exact LeO.none _)
      | (with_reducible refine LeO.ite ?_ ?_)
      | (with_reducible refine LeO.bind ?_ (fun _ => ?_))
      | exact ih0 _ _ _ _ _
      | exact ih1 _ _ _ _ _ _ _ _
      | exact fraction_Add.mono _ _ _ _ _
      | exact fraction_Sub.mono _ _ _ _ _
      | exact sleuthlaw02_known.mono _
      | exact sleuthref02_Add.mono _ _ _ _ _
      | exact sleuthref02_Check.mono _ _ _
      | exact sleuthref02_Sub.mono _ _ _ _ _
      | exact LeO.none _
      | refine LeO.ite ?_ ?_
      | refine LeO.bind ?_ (fun _ => ?_)
set_option maxHeartbeats 8000000 in
set_option maxRecDepth 100000 in
theorem sleuthlaw02_FractionAdds.calls (k : Nat) (a0_0 : Int) (a0_1 : Int) (a1_0 : Int) (a1_1 : Int) (r : Bool) (w : World) (h : sleuthlaw02_FractionAdds.f k a0_0 a0_1 a1_0 a1_1 = some r) :
    Calls Try.prog 6 #[.agg #[.int .i64 a0_0, .int .i64 a0_1], .agg #[.int .i64 a1_0, .int .i64 a1_1]] w fun e w' => e = .returned (.bool r) ∧ Below w.heap.size w w' := by
  have hu24 := Try.underlying24
  have HB := Aside0.mk (Below.refl w.heap.size w)
  have H : ((sleuthlaw02_known.f k).bind fun t284 => (if t284 = true then ((sleuthref02_Check.f k a0_0 a0_1).bind fun t285 => (if t285 = true then ((sleuthref02_Check.f k a1_0 a1_1).bind fun t286 => (sleuthlaw02_FractionAdds.j0 k (!t286) a0_0 a0_1 a1_0 a1_1)) else (sleuthlaw02_FractionAdds.j0 k true a0_0 a0_1 a1_0 a1_1))) else (sleuthlaw02_FractionAdds.j0 k true a0_0 a0_1 a1_0 a1_1))) = some r := h
  clear h
  have HC3 := Aside0.mk H
  clear H
  go_enter Try.func6, Try.ntmps6
  go_upto_region 1 with (first | ((with_reducible refine gate_dst (N := 2) rfl ?_); refine box_event ?hg (N := 2) ?hd (cs := #[.int .i64 a0_0, .int .i64 a0_1]) (t := 24) ?hr ?_; (case hd => rfl); (case hg => rfl); (case hr => first | (go_simp; done) | (go_simp; rfl)); intro gb282 hg w4 hbox hb; have n0_ := Aside0.mk (below_step (by repeat (first | (with_reducible first | exact HB.out | apply below_alloc | apply pw_below_drewN | apply below_drew1) | exact HB.out)) hb); have n1_ := Aside0.mk (hbox); have n2_ := Aside0.mk ((by rw [hg]; exact (below_size (by repeat (first | (with_reducible first | exact HB.out | apply below_alloc | apply pw_below_drewN | apply below_drew1) | exact HB.out))) : w.heap.size ≤ gb282)); have n3_ := Aside0.mk ((by rw [hg]; exact (below_size (by repeat (first | (with_reducible first | exact HB.out | apply below_alloc | apply pw_below_drewN | apply below_drew1) | exact HB.out))) : w.heap.size ≤ gb282)); clear HB; have HB := n0_; have BK282 := n1_; have GW282 := n2_; have GE282 := n3_; clear n0_ n1_ n2_ n3_; clear hb hbox hg) | ((with_reducible refine gate_dst (N := 3) rfl ?_); refine box_event ?hg (N := 3) ?hd (cs := #[.int .i64 a1_0, .int .i64 a1_1]) (t := 24) ?hr ?_; (case hd => rfl); (case hg => rfl); (case hr => first | (go_simp; done) | (go_simp; rfl)); intro gb283 hg w5 hbox hb; have n0_ := Aside0.mk (blk_below (g := gb282) (o := .cells #[.int .i64 a0_0, .int .i64 a0_1] 24 (0, 0)) (by (with_reducible repeat (first | refine blk_drewN ?_ _ | refine blk_drew ?_ | refine blk_alloc ?_ _)); exact BK282.out) hb); have n1_ := Aside0.mk (below_step (by repeat (first | (with_reducible first | exact HB.out | apply below_alloc | apply pw_below_drewN | apply below_drew1 | refine below_set ?_ GE282.out) | exact HB.out)) hb); have n2_ := Aside0.mk (hbox); have n3_ := Aside0.mk ((by rw [hg]; exact (below_size (by repeat (first | (with_reducible first | exact HB.out | apply below_alloc | apply pw_below_drewN | apply below_drew1 | refine below_set ?_ GE282.out) | exact HB.out))) : w.heap.size ≤ gb283)); have n4_ := Aside0.mk ((by rw [hg]; exact (below_size (by repeat (first | (with_reducible first | exact HB.out | apply below_alloc | apply pw_below_drewN | apply below_drew1 | refine below_set ?_ GE282.out) | exact HB.out))) : w.heap.size ≤ gb283)); have n5_ := Aside0.mk ((by rw [hg]; exact Nat.ne_of_lt (blk_lt (g := gb282) (o := .cells #[.int .i64 a0_0, .int .i64 a0_1] 24 (0, 0)) (by (with_reducible repeat (first | refine blk_drewN ?_ _ | refine blk_drew ?_ | refine blk_alloc ?_ _)); exact BK282.out)) : gb282 ≠ gb283)); have n6_ := Aside0.mk ((by rw [hg]; exact Nat.ne_of_gt (blk_lt (g := gb282) (o := .cells #[.int .i64 a0_0, .int .i64 a0_1] 24 (0, 0)) (by (with_reducible repeat (first | refine blk_drewN ?_ _ | refine blk_drew ?_ | refine blk_alloc ?_ _)); exact BK282.out)) : gb283 ≠ gb282)); clear BK282; clear HB; have BK282 := n0_; have HB := n1_; have BK283 := n2_; have GW283 := n3_; have GE283 := n4_; have NB282_283 := n5_; have NB283_282 := n6_; clear n0_ n1_ n2_ n3_ n4_ n5_ n6_; clear hb hbox hg))
  (try simp only [Act.put, List.setIfInBounds_toArray, List.set_cons_zero, List.set_cons_succ])
  go_cut [28] (fun v28 wc => ∃ (kq : Nat) (x28_2 : Bool), v28 = .bool x28_2 ∧ Aside0 (sleuthlaw02_FractionAdds.j0 kq x28_2 a0_0 a0_1 a1_0 a1_1 = some r) ∧ Aside0 (kq ≤ k) ∧ Aside0 (wc.heap[gb282]? = some (.cells #[.int .i64 a0_0, .int .i64 a0_1] 24 (0, 0))) ∧ Aside0 (wc.heap[gb283]? = some (.cells #[.int .i64 a1_0, .int .i64 a1_1] 24 (0, 0))) ∧ Aside0 (Below w.heap.size w wc))
  case first =>
    have H := HC3.out
    clear HC3
    replace H := Option.bind_eq_some_iff.mp H
    obtain ⟨t284, A60, H⟩ := H
    replace H : (if t284 = true then ((sleuthref02_Check.f k a0_0 a0_1).bind fun t285 => (if t285 = true then ((sleuthref02_Check.f k a1_0 a1_1).bind fun t286 => (sleuthlaw02_FractionAdds.j0 k (!t286) a0_0 a0_1 a1_0 a1_1)) else (sleuthlaw02_FractionAdds.j0 k true a0_0 a0_1 a1_0 a1_1))) else (sleuthlaw02_FractionAdds.j0 k true a0_0 a0_1 a1_0 a1_1)) = some r := H
    have A6 := Aside0.mk A60
    clear A60
    by_cases c7 : t284 = true
    · subst c7
      have H1 : ((sleuthref02_Check.f k a0_0 a0_1).bind fun t285 => (if t285 = true then ((sleuthref02_Check.f k a1_0 a1_1).bind fun t286 => (sleuthlaw02_FractionAdds.j0 k (!t286) a0_0 a0_1 a1_0 a1_1)) else (sleuthlaw02_FractionAdds.j0 k true a0_0 a0_1 a1_0 a1_1))) = some r := by rw [if_pos rfl] at H; exact H
      clear H
      have H := H1
      clear H1
      replace H := Option.bind_eq_some_iff.mp H
      obtain ⟨t285, A80, H⟩ := H
      replace H : (if t285 = true then ((sleuthref02_Check.f k a1_0 a1_1).bind fun t286 => (sleuthlaw02_FractionAdds.j0 k (!t286) a0_0 a0_1 a1_0 a1_1)) else (sleuthlaw02_FractionAdds.j0 k true a0_0 a0_1 a1_0 a1_1)) = some r := H
      have A8 := Aside0.mk A80
      clear A80
      by_cases c9 : t285 = true
      · subst c9
        have H1 : ((sleuthref02_Check.f k a1_0 a1_1).bind fun t286 => (sleuthlaw02_FractionAdds.j0 k (!t286) a0_0 a0_1 a1_0 a1_1)) = some r := by rw [if_pos rfl] at H; exact H
        clear H
        have H := H1
        clear H1
        replace H := Option.bind_eq_some_iff.mp H
        obtain ⟨t286, A100, H⟩ := H
        replace H : (sleuthlaw02_FractionAdds.j0 k (!t286) a0_0 a0_1 a1_0 a1_1) = some r := H
        have A10 := Aside0.mk A100
        clear A100
        have H' := Aside0.mk H
        clear H
        go_wp2_with (first | ((with_reducible refine gate_callee (f := 12) rfl ?_); refine goesL_ (some 17) rfl rfl Try.func12 (by kernel_rfl) rfl #[] rfl (by (try simp only [List.map_toArray, List.map_cons, List.map_nil]); first | done | rfl | (simp only [List.length_drop, List.length_take]; rfl)) ?_; (with_reducible refine (sleuthlaw02_known.calls k  true _ A6.out).mono ?_); rintro e w11 ⟨rfl, hb⟩; refine ⟨_, rfl, ?_⟩; have n0_ := Aside0.mk (blk_below (g := gb282) (o := .cells #[.int .i64 a0_0, .int .i64 a0_1] 24 (0, 0)) (by (with_reducible repeat (first | refine blk_drewN ?_ _ | refine blk_drew ?_ | refine blk_alloc ?_ _)); exact BK282.out) hb); have n1_ := Aside0.mk (blk_below (g := gb283) (o := .cells #[.int .i64 a1_0, .int .i64 a1_1] 24 (0, 0)) (by (with_reducible repeat (first | refine blk_drewN ?_ _ | refine blk_drew ?_ | refine blk_alloc ?_ _)); exact BK283.out) hb); have n2_ := Aside0.mk (below_step (by repeat (first | (with_reducible first | exact HB.out | apply below_alloc | apply pw_below_drewN | apply below_drew1 | refine below_set ?_ GE282.out | refine below_set ?_ GE283.out) | exact HB.out)) hb); clear BK282; clear BK283; clear HB; have BK282 := n0_; have BK283 := n1_; have HB := n2_; clear n0_ n1_ n2_; (try clear hb); (try clear hb2); (try clear hk); (try clear hi); have hnb12 := NB282_283.out; have hnc12 := NB283_282.out; have hcz13_0 : w11.cell? ⟨gb282, 0, none⟩ = some (.int .i64 a0_0) := (blk_cell BK282.out 0).trans rfl; have hcz13_1 : w11.cell? ⟨gb282, 1, none⟩ = some (.int .i64 a0_1) := (blk_cell BK282.out 1).trans rfl; have hfz13_0 := blk_frozen BK282.out 0; have hfz13_1 := blk_frozen BK282.out 1) | (go_at_call 19; (with_reducible refine (sleuthref02_Check.calls k a0_0 a0_1 true _ A8.out).mono ?_); rintro e w14 ⟨rfl, hb⟩; have n0_ := Aside0.mk (blk_below (g := gb282) (o := .cells #[.int .i64 a0_0, .int .i64 a0_1] 24 (0, 0)) (by (with_reducible repeat (first | refine blk_drewN ?_ _ | refine blk_drew ?_ | refine blk_alloc ?_ _)); exact BK282.out) hb); have n1_ := Aside0.mk (blk_below (g := gb283) (o := .cells #[.int .i64 a1_0, .int .i64 a1_1] 24 (0, 0)) (by (with_reducible repeat (first | refine blk_drewN ?_ _ | refine blk_drew ?_ | refine blk_alloc ?_ _)); exact BK283.out) hb); have n2_ := Aside0.mk (below_step (by repeat (first | (with_reducible first | exact HB.out | apply below_alloc | apply pw_below_drewN | apply below_drew1 | refine below_set ?_ GE282.out | refine below_set ?_ GE283.out) | exact HB.out)) hb); clear BK282; clear BK283; clear HB; have BK282 := n0_; have BK283 := n1_; have HB := n2_; clear n0_ n1_ n2_; (try clear hb); (try clear hb2); (try clear hk); (try clear hi); have hcz15_0 : w14.cell? ⟨gb283, 0, none⟩ = some (.int .i64 a1_0) := (blk_cell BK283.out 0).trans rfl; have hcz15_1 : w14.cell? ⟨gb283, 1, none⟩ = some (.int .i64 a1_1) := (blk_cell BK283.out 1).trans rfl; have hfz15_0 := blk_frozen BK283.out 0; have hfz15_1 := blk_frozen BK283.out 1) | (go_at_call 19; (with_reducible refine (sleuthref02_Check.calls k a1_0 a1_1 t286 _ A10.out).mono ?_); rintro e w16 ⟨rfl, hb⟩; have n0_ := Aside0.mk (blk_below (g := gb282) (o := .cells #[.int .i64 a0_0, .int .i64 a0_1] 24 (0, 0)) (by (with_reducible repeat (first | refine blk_drewN ?_ _ | refine blk_drew ?_ | refine blk_alloc ?_ _)); exact BK282.out) hb); have n1_ := Aside0.mk (blk_below (g := gb283) (o := .cells #[.int .i64 a1_0, .int .i64 a1_1] 24 (0, 0)) (by (with_reducible repeat (first | refine blk_drewN ?_ _ | refine blk_drew ?_ | refine blk_alloc ?_ _)); exact BK283.out) hb); have n2_ := Aside0.mk (below_step (by repeat (first | (with_reducible first | exact HB.out | apply below_alloc | apply pw_below_drewN | apply below_drew1 | refine below_set ?_ GE282.out | refine below_set ?_ GE283.out) | exact HB.out)) hb); clear BK282; clear BK283; clear HB; have BK282 := n0_; have BK283 := n1_; have HB := n2_; clear n0_ n1_ n2_; (try clear hb); (try clear hb2); (try clear hk); (try clear hi)))
        go_meet
        case rel => exact ⟨_, (!t286), (by first | rfl | (simp; done) | (simp [*]; done)), H', ⟨by first | omega | exact Nat.le_refl _⟩, ⟨by (with_reducible repeat (first | refine blk_drewN ?_ _ | refine blk_drew ?_ | refine blk_alloc ?_ _)); exact BK282.out⟩, ⟨by (with_reducible repeat (first | refine blk_drewN ?_ _ | refine blk_drew ?_ | refine blk_alloc ?_ _)); exact BK283.out⟩, ⟨by repeat (first | (with_reducible first | exact HB.out | apply below_alloc | apply pw_below_drewN | apply below_drew1 | refine below_set ?_ GE282.out | refine below_set ?_ GE283.out) | exact HB.out)⟩⟩
      · replace c9 := Bool.eq_false_iff.mpr c9
        subst c9
        have H1 : (sleuthlaw02_FractionAdds.j0 k true a0_0 a0_1 a1_0 a1_1) = some r := by rw [if_neg (show ¬ (false = true) by decide)] at H; exact H
        clear H
        have H := H1
        clear H1
        have H' := Aside0.mk H
        clear H
        go_wp2_with (first | ((with_reducible refine gate_callee (f := 12) rfl ?_); refine goesL_ (some 17) rfl rfl Try.func12 (by kernel_rfl) rfl #[] rfl (by (try simp only [List.map_toArray, List.map_cons, List.map_nil]); first | done | rfl | (simp only [List.length_drop, List.length_take]; rfl)) ?_; (with_reducible refine (sleuthlaw02_known.calls k  true _ A6.out).mono ?_); rintro e w17 ⟨rfl, hb⟩; refine ⟨_, rfl, ?_⟩; have n0_ := Aside0.mk (blk_below (g := gb282) (o := .cells #[.int .i64 a0_0, .int .i64 a0_1] 24 (0, 0)) (by (with_reducible repeat (first | refine blk_drewN ?_ _ | refine blk_drew ?_ | refine blk_alloc ?_ _)); exact BK282.out) hb); have n1_ := Aside0.mk (blk_below (g := gb283) (o := .cells #[.int .i64 a1_0, .int .i64 a1_1] 24 (0, 0)) (by (with_reducible repeat (first | refine blk_drewN ?_ _ | refine blk_drew ?_ | refine blk_alloc ?_ _)); exact BK283.out) hb); have n2_ := Aside0.mk (below_step (by repeat (first | (with_reducible first | exact HB.out | apply below_alloc | apply pw_below_drewN | apply below_drew1 | refine below_set ?_ GE282.out | refine below_set ?_ GE283.out) | exact HB.out)) hb); clear BK282; clear BK283; clear HB; have BK282 := n0_; have BK283 := n1_; have HB := n2_; clear n0_ n1_ n2_; (try clear hb); (try clear hb2); (try clear hk); (try clear hi); have hnb18 := NB282_283.out; have hnc18 := NB283_282.out; have hcz19_0 : w17.cell? ⟨gb282, 0, none⟩ = some (.int .i64 a0_0) := (blk_cell BK282.out 0).trans rfl; have hcz19_1 : w17.cell? ⟨gb282, 1, none⟩ = some (.int .i64 a0_1) := (blk_cell BK282.out 1).trans rfl; have hfz19_0 := blk_frozen BK282.out 0; have hfz19_1 := blk_frozen BK282.out 1) | (go_at_call 19; (with_reducible refine (sleuthref02_Check.calls k a0_0 a0_1 false _ A8.out).mono ?_); rintro e w20 ⟨rfl, hb⟩; have n0_ := Aside0.mk (blk_below (g := gb282) (o := .cells #[.int .i64 a0_0, .int .i64 a0_1] 24 (0, 0)) (by (with_reducible repeat (first | refine blk_drewN ?_ _ | refine blk_drew ?_ | refine blk_alloc ?_ _)); exact BK282.out) hb); have n1_ := Aside0.mk (blk_below (g := gb283) (o := .cells #[.int .i64 a1_0, .int .i64 a1_1] 24 (0, 0)) (by (with_reducible repeat (first | refine blk_drewN ?_ _ | refine blk_drew ?_ | refine blk_alloc ?_ _)); exact BK283.out) hb); have n2_ := Aside0.mk (below_step (by repeat (first | (with_reducible first | exact HB.out | apply below_alloc | apply pw_below_drewN | apply below_drew1 | refine below_set ?_ GE282.out | refine below_set ?_ GE283.out) | exact HB.out)) hb); clear BK282; clear BK283; clear HB; have BK282 := n0_; have BK283 := n1_; have HB := n2_; clear n0_ n1_ n2_; (try clear hb); (try clear hb2); (try clear hk); (try clear hi)))
        go_meet
        case rel => exact ⟨_, (true), (by first | rfl | (simp; done) | (simp [*]; done)), H', ⟨by first | omega | exact Nat.le_refl _⟩, ⟨by (with_reducible repeat (first | refine blk_drewN ?_ _ | refine blk_drew ?_ | refine blk_alloc ?_ _)); exact BK282.out⟩, ⟨by (with_reducible repeat (first | refine blk_drewN ?_ _ | refine blk_drew ?_ | refine blk_alloc ?_ _)); exact BK283.out⟩, ⟨by repeat (first | (with_reducible first | exact HB.out | apply below_alloc | apply pw_below_drewN | apply below_drew1 | refine below_set ?_ GE282.out | refine below_set ?_ GE283.out) | exact HB.out)⟩⟩
    · replace c7 := Bool.eq_false_iff.mpr c7
      subst c7
      have H1 : (sleuthlaw02_FractionAdds.j0 k true a0_0 a0_1 a1_0 a1_1) = some r := by rw [if_neg (show ¬ (false = true) by decide)] at H; exact H
      clear H
      have H := H1
      clear H1
      have H' := Aside0.mk H
      clear H
      go_wp2_with (first | ((with_reducible refine gate_callee (f := 12) rfl ?_); refine goesL_ (some 17) rfl rfl Try.func12 (by kernel_rfl) rfl #[] rfl (by (try simp only [List.map_toArray, List.map_cons, List.map_nil]); first | done | rfl | (simp only [List.length_drop, List.length_take]; rfl)) ?_; (with_reducible refine (sleuthlaw02_known.calls k  false _ A6.out).mono ?_); rintro e w21 ⟨rfl, hb⟩; refine ⟨_, rfl, ?_⟩; have n0_ := Aside0.mk (blk_below (g := gb282) (o := .cells #[.int .i64 a0_0, .int .i64 a0_1] 24 (0, 0)) (by (with_reducible repeat (first | refine blk_drewN ?_ _ | refine blk_drew ?_ | refine blk_alloc ?_ _)); exact BK282.out) hb); have n1_ := Aside0.mk (blk_below (g := gb283) (o := .cells #[.int .i64 a1_0, .int .i64 a1_1] 24 (0, 0)) (by (with_reducible repeat (first | refine blk_drewN ?_ _ | refine blk_drew ?_ | refine blk_alloc ?_ _)); exact BK283.out) hb); have n2_ := Aside0.mk (below_step (by repeat (first | (with_reducible first | exact HB.out | apply below_alloc | apply pw_below_drewN | apply below_drew1 | refine below_set ?_ GE282.out | refine below_set ?_ GE283.out) | exact HB.out)) hb); clear BK282; clear BK283; clear HB; have BK282 := n0_; have BK283 := n1_; have HB := n2_; clear n0_ n1_ n2_; (try clear hb); (try clear hb2); (try clear hk); (try clear hi)))
      go_meet
      case rel => exact ⟨_, (true), (by first | rfl | (simp; done) | (simp [*]; done)), H', ⟨by first | omega | exact Nat.le_refl _⟩, ⟨by (with_reducible repeat (first | refine blk_drewN ?_ _ | refine blk_drew ?_ | refine blk_alloc ?_ _)); exact BK282.out⟩, ⟨by (with_reducible repeat (first | refine blk_drewN ?_ _ | refine blk_drew ?_ | refine blk_alloc ?_ _)); exact BK283.out⟩, ⟨by repeat (first | (with_reducible first | exact HB.out | apply below_alloc | apply pw_below_drewN | apply below_drew1 | refine below_set ?_ GE282.out | refine below_set ?_ GE283.out) | exact HB.out)⟩⟩
  case rest =>
    clear HC3
    try clear c1
    try clear p2
    try clear c6
    try clear c7
    try clear c9
    try clear c12
    try clear c18
    try clear hcz13_0
    try clear hcz13_1
    try clear hcz15_0
    try clear hcz15_1
    try clear hcz19_0
    try clear hcz19_1
    try clear hfz13_0
    try clear hfz13_1
    try clear hfz15_0
    try clear hfz15_1
    try clear hfz19_0
    try clear hfz19_1
    obtain ⟨kq, x28_2, rfl, HA, HJ2, BK282, BK283, HB⟩ := hcut
    cases kq with
    | zero => exact absurd HA.out (by simp [sleuthlaw02_FractionAdds.j0])
    | succ kj2 =>
      have H := HA.out
      clear HA
      simp only [sleuthlaw02_FractionAdds.j0] at H
      by_cases c22 : x28_2 = true
      · subst c22
        have H1 : ((sleuthlaw02_known.f kj2).bind fun t287 => (some t287)) = some r := by rw [if_pos rfl] at H; exact H
        clear H
        have H := H1
        clear H1
        replace H := Option.bind_eq_some_iff.mp H
        obtain ⟨t287, A230, H⟩ := H
        replace H : (some t287) = some r := H
        have A23 := Aside0.mk A230
        clear A230
        obtain rfl := Option.some.inj H
        go_wp2_with (first | ((with_reducible refine gate_callee (f := 12) rfl ?_); refine goesL_ (some 29) rfl rfl Try.func12 (by kernel_rfl) rfl #[] rfl (by (try simp only [List.map_toArray, List.map_cons, List.map_nil]); first | done | rfl | (simp only [List.length_drop, List.length_take]; rfl)) ?_; (with_reducible refine (sleuthlaw02_known.calls kj2  t287 _ A23.out).mono ?_); rintro e w24 ⟨rfl, hb⟩; refine ⟨_, rfl, ?_⟩; have n0_ := Aside0.mk (blk_below (g := gb282) (o := .cells #[.int .i64 a0_0, .int .i64 a0_1] 24 (0, 0)) (by (with_reducible repeat (first | refine blk_drewN ?_ _ | refine blk_drew ?_ | refine blk_alloc ?_ _)); exact BK282.out) hb); have n1_ := Aside0.mk (blk_below (g := gb283) (o := .cells #[.int .i64 a1_0, .int .i64 a1_1] 24 (0, 0)) (by (with_reducible repeat (first | refine blk_drewN ?_ _ | refine blk_drew ?_ | refine blk_alloc ?_ _)); exact BK283.out) hb); have n2_ := Aside0.mk (below_step (by repeat (first | (with_reducible first | exact HB.out | apply below_alloc | apply pw_below_drewN | apply below_drew1 | refine below_set ?_ GE282.out | refine below_set ?_ GE283.out) | exact HB.out)) hb); clear BK282; clear BK283; clear HB; have BK282 := n0_; have BK283 := n1_; have HB := n2_; clear n0_ n1_ n2_; (try clear hb); (try clear hb2); (try clear hk); (try clear hi)))
        go_ret
        exact ⟨by first | rfl | (simp [errW_none, errW_some] <;> rfl) | (simp [*, errW_none, errW_some] <;> rfl), by repeat (first | (with_reducible first | exact HB.out | apply below_alloc | apply pw_below_drewN | apply below_drew1 | refine below_set ?_ GE282.out | refine below_set ?_ GE283.out) | exact HB.out)⟩
      · replace c22 := Bool.eq_false_iff.mpr c22
        subst c22
        have H1 : ((fraction_Add.f kj2 a0_0 a0_1 a1_0 a1_1).bind fun bt288 => ((sleuthref02_Add.f kj2 a0_0 a0_1 a1_0 a1_1).bind fun bt292 => ((fraction_Sub.f kj2 a0_0 a0_1 a1_0 a1_1).bind fun bt296 => ((sleuthref02_Sub.f kj2 a0_0 a0_1 a1_0 a1_1).bind fun bt300 => ((fraction_Add.f kj2 a1_0 a1_1 a0_0 a0_1).bind fun bt304 => ((sleuthlaw02_is.f bt288.1 bt288.2.1 bt288.2.2 bt292.1 bt292.2.1 bt292.2.2).bind fun t308 => (if t308 = true then ((sleuthlaw02_is.f bt296.1 bt296.2.1 bt296.2.2 bt300.1 bt300.2.1 bt300.2.2).bind fun t309 => (if t309 = true then (if (!(bt304.1 == bt288.1) || (!(bt304.2.1 == bt288.2.1))) = true then (sleuthlaw02_FractionAdds.j1 kj2 bt288.2.2 true a0_0 a0_1 a1_0 a1_1 bt288.1 bt288.2.1) else (sleuthlaw02_FractionAdds.j1 kj2 bt288.2.2 (bt304.2.2 != bt288.2.2) a0_0 a0_1 a1_0 a1_1 bt288.1 bt288.2.1)) else (sleuthlaw02_FractionAdds.j1 kj2 bt288.2.2 true a0_0 a0_1 a1_0 a1_1 bt288.1 bt288.2.1))) else (sleuthlaw02_FractionAdds.j1 kj2 bt288.2.2 true a0_0 a0_1 a1_0 a1_1 bt288.1 bt288.2.1)))))))) = some r := by rw [if_neg (show ¬ (false = true) by decide)] at H; exact H
        clear H
        have H := H1
        clear H1
        replace H := Option.bind_eq_some_iff.mp H
        obtain ⟨⟨t288, t289, t290⟩, A250, H⟩ := H
        replace H : ((sleuthref02_Add.f kj2 a0_0 a0_1 a1_0 a1_1).bind fun bt292 => ((fraction_Sub.f kj2 a0_0 a0_1 a1_0 a1_1).bind fun bt296 => ((sleuthref02_Sub.f kj2 a0_0 a0_1 a1_0 a1_1).bind fun bt300 => ((fraction_Add.f kj2 a1_0 a1_1 a0_0 a0_1).bind fun bt304 => ((sleuthlaw02_is.f t288 t289 t290 bt292.1 bt292.2.1 bt292.2.2).bind fun t308 => (if t308 = true then ((sleuthlaw02_is.f bt296.1 bt296.2.1 bt296.2.2 bt300.1 bt300.2.1 bt300.2.2).bind fun t309 => (if t309 = true then (if (!(bt304.1 == t288) || (!(bt304.2.1 == t289))) = true then (sleuthlaw02_FractionAdds.j1 kj2 t290 true a0_0 a0_1 a1_0 a1_1 t288 t289) else (sleuthlaw02_FractionAdds.j1 kj2 t290 (bt304.2.2 != t290) a0_0 a0_1 a1_0 a1_1 t288 t289)) else (sleuthlaw02_FractionAdds.j1 kj2 t290 true a0_0 a0_1 a1_0 a1_1 t288 t289))) else (sleuthlaw02_FractionAdds.j1 kj2 t290 true a0_0 a0_1 a1_0 a1_1 t288 t289))))))) = some r := H
        have A25 := Aside0.mk A250
        clear A250
        replace H := Option.bind_eq_some_iff.mp H
        obtain ⟨⟨t292, t293, t294⟩, A260, H⟩ := H
        replace H : ((fraction_Sub.f kj2 a0_0 a0_1 a1_0 a1_1).bind fun bt296 => ((sleuthref02_Sub.f kj2 a0_0 a0_1 a1_0 a1_1).bind fun bt300 => ((fraction_Add.f kj2 a1_0 a1_1 a0_0 a0_1).bind fun bt304 => ((sleuthlaw02_is.f t288 t289 t290 t292 t293 t294).bind fun t308 => (if t308 = true then ((sleuthlaw02_is.f bt296.1 bt296.2.1 bt296.2.2 bt300.1 bt300.2.1 bt300.2.2).bind fun t309 => (if t309 = true then (if (!(bt304.1 == t288) || (!(bt304.2.1 == t289))) = true then (sleuthlaw02_FractionAdds.j1 kj2 t290 true a0_0 a0_1 a1_0 a1_1 t288 t289) else (sleuthlaw02_FractionAdds.j1 kj2 t290 (bt304.2.2 != t290) a0_0 a0_1 a1_0 a1_1 t288 t289)) else (sleuthlaw02_FractionAdds.j1 kj2 t290 true a0_0 a0_1 a1_0 a1_1 t288 t289))) else (sleuthlaw02_FractionAdds.j1 kj2 t290 true a0_0 a0_1 a1_0 a1_1 t288 t289)))))) = some r := H
        have A26 := Aside0.mk A260
        clear A260
        replace H := Option.bind_eq_some_iff.mp H
        obtain ⟨⟨t296, t297, t298⟩, A270, H⟩ := H
        replace H : ((sleuthref02_Sub.f kj2 a0_0 a0_1 a1_0 a1_1).bind fun bt300 => ((fraction_Add.f kj2 a1_0 a1_1 a0_0 a0_1).bind fun bt304 => ((sleuthlaw02_is.f t288 t289 t290 t292 t293 t294).bind fun t308 => (if t308 = true then ((sleuthlaw02_is.f t296 t297 t298 bt300.1 bt300.2.1 bt300.2.2).bind fun t309 => (if t309 = true then (if (!(bt304.1 == t288) || (!(bt304.2.1 == t289))) = true then (sleuthlaw02_FractionAdds.j1 kj2 t290 true a0_0 a0_1 a1_0 a1_1 t288 t289) else (sleuthlaw02_FractionAdds.j1 kj2 t290 (bt304.2.2 != t290) a0_0 a0_1 a1_0 a1_1 t288 t289)) else (sleuthlaw02_FractionAdds.j1 kj2 t290 true a0_0 a0_1 a1_0 a1_1 t288 t289))) else (sleuthlaw02_FractionAdds.j1 kj2 t290 true a0_0 a0_1 a1_0 a1_1 t288 t289))))) = some r := H
        have A27 := Aside0.mk A270
        clear A270
        replace H := Option.bind_eq_some_iff.mp H
        obtain ⟨⟨t300, t301, t302⟩, A280, H⟩ := H
        replace H : ((fraction_Add.f kj2 a1_0 a1_1 a0_0 a0_1).bind fun bt304 => ((sleuthlaw02_is.f t288 t289 t290 t292 t293 t294).bind fun t308 => (if t308 = true then ((sleuthlaw02_is.f t296 t297 t298 t300 t301 t302).bind fun t309 => (if t309 = true then (if (!(bt304.1 == t288) || (!(bt304.2.1 == t289))) = true then (sleuthlaw02_FractionAdds.j1 kj2 t290 true a0_0 a0_1 a1_0 a1_1 t288 t289) else (sleuthlaw02_FractionAdds.j1 kj2 t290 (bt304.2.2 != t290) a0_0 a0_1 a1_0 a1_1 t288 t289)) else (sleuthlaw02_FractionAdds.j1 kj2 t290 true a0_0 a0_1 a1_0 a1_1 t288 t289))) else (sleuthlaw02_FractionAdds.j1 kj2 t290 true a0_0 a0_1 a1_0 a1_1 t288 t289)))) = some r := H
        have A28 := Aside0.mk A280
        clear A280
        replace H := Option.bind_eq_some_iff.mp H
        obtain ⟨⟨t304, t305, t306⟩, A290, H⟩ := H
        replace H : ((sleuthlaw02_is.f t288 t289 t290 t292 t293 t294).bind fun t308 => (if t308 = true then ((sleuthlaw02_is.f t296 t297 t298 t300 t301 t302).bind fun t309 => (if t309 = true then (if (!(t304 == t288) || (!(t305 == t289))) = true then (sleuthlaw02_FractionAdds.j1 kj2 t290 true a0_0 a0_1 a1_0 a1_1 t288 t289) else (sleuthlaw02_FractionAdds.j1 kj2 t290 (t306 != t290) a0_0 a0_1 a1_0 a1_1 t288 t289)) else (sleuthlaw02_FractionAdds.j1 kj2 t290 true a0_0 a0_1 a1_0 a1_1 t288 t289))) else (sleuthlaw02_FractionAdds.j1 kj2 t290 true a0_0 a0_1 a1_0 a1_1 t288 t289))) = some r := H
        have A29 := Aside0.mk A290
        clear A290
        have HC30 := Aside0.mk H
        clear H
        have hnb31 := NB282_283.out
        have hnc31 := NB283_282.out
        have hcz32_0 : wc.cell? ⟨gb282, 0, none⟩ = some (.int .i64 a0_0) := (blk_cell BK282.out 0).trans rfl
        have hcz32_1 : wc.cell? ⟨gb282, 1, none⟩ = some (.int .i64 a0_1) := (blk_cell BK282.out 1).trans rfl
        have hfz32_0 := blk_frozen BK282.out 0
        have hfz32_1 := blk_frozen BK282.out 1
        have hcz33_0 : wc.cell? ⟨gb283, 0, none⟩ = some (.int .i64 a1_0) := (blk_cell BK283.out 0).trans rfl
        have hcz33_1 : wc.cell? ⟨gb283, 1, none⟩ = some (.int .i64 a1_1) := (blk_cell BK283.out 1).trans rfl
        have hfz33_0 := blk_frozen BK283.out 0
        have hfz33_1 := blk_frozen BK283.out 1
        go_upto_region 8 with (first | ((with_reducible refine gate_callee (f := 20) rfl ?_); refine goesL_ (some 33) rfl rfl Try.func20 (by kernel_rfl) rfl #[.agg #[.int .i64 a0_0, .int .i64 a0_1], .agg #[.int .i64 a1_0, .int .i64 a1_1]] rfl (by (try simp only [List.map_toArray, List.map_cons, List.map_nil]); first | done | rfl | (simp only [List.length_drop, List.length_take]; rfl)) ?_; (with_reducible refine (fraction_Add.calls kj2 a0_0 a0_1 a1_0 a1_1 t288 t289 t290 _ A25.out).mono ?_); rintro e w34 ⟨rfl, hb⟩; refine ⟨_, rfl, ?_⟩; have n0_ := Aside0.mk (blk_below (g := gb282) (o := .cells #[.int .i64 a0_0, .int .i64 a0_1] 24 (0, 0)) (by (with_reducible repeat (first | refine blk_drewN ?_ _ | refine blk_drew ?_ | refine blk_alloc ?_ _)); exact BK282.out) hb); have n1_ := Aside0.mk (blk_below (g := gb283) (o := .cells #[.int .i64 a1_0, .int .i64 a1_1] 24 (0, 0)) (by (with_reducible repeat (first | refine blk_drewN ?_ _ | refine blk_drew ?_ | refine blk_alloc ?_ _)); exact BK283.out) hb); have n2_ := Aside0.mk (below_step (by repeat (first | (with_reducible first | exact HB.out | apply below_alloc | apply pw_below_drewN | apply below_drew1 | refine below_set ?_ GE282.out | refine below_set ?_ GE283.out) | exact HB.out)) hb); clear BK282; clear BK283; clear HB; have BK282 := n0_; have BK283 := n1_; have HB := n2_; clear n0_ n1_ n2_; (try clear hb); (try clear hb2); (try clear hk); (try clear hi)) | ((with_reducible refine gate_dst (N := 5) rfl ?_); refine box_event ?hg (N := 5) ?hd (cs := #[.int .i64 0, .int .i64 0]) (t := 24) ?hr ?_; (case hd => rfl); (case hg => rfl); (case hr => first | (go_simp; done) | (go_simp; rfl)); intro gb291 hg w35 hbox hb; have n0_ := Aside0.mk (blk_below (g := gb282) (o := .cells #[.int .i64 a0_0, .int .i64 a0_1] 24 (0, 0)) (by (with_reducible repeat (first | refine blk_drewN ?_ _ | refine blk_drew ?_ | refine blk_alloc ?_ _)); exact BK282.out) hb); have n1_ := Aside0.mk (blk_below (g := gb283) (o := .cells #[.int .i64 a1_0, .int .i64 a1_1] 24 (0, 0)) (by (with_reducible repeat (first | refine blk_drewN ?_ _ | refine blk_drew ?_ | refine blk_alloc ?_ _)); exact BK283.out) hb); have n2_ := Aside0.mk (below_step (by repeat (first | (with_reducible first | exact HB.out | apply below_alloc | apply pw_below_drewN | apply below_drew1 | refine below_set ?_ GE282.out | refine below_set ?_ GE283.out) | exact HB.out)) hb); have n3_ := Aside0.mk (hbox); have n4_ := Aside0.mk ((by rw [hg]; exact (below_size (by repeat (first | (with_reducible first | exact HB.out | apply below_alloc | apply pw_below_drewN | apply below_drew1 | refine below_set ?_ GE282.out | refine below_set ?_ GE283.out) | exact HB.out))) : w.heap.size ≤ gb291)); have n5_ := Aside0.mk ((by rw [hg]; exact (below_size (by repeat (first | (with_reducible first | exact HB.out | apply below_alloc | apply pw_below_drewN | apply below_drew1 | refine below_set ?_ GE282.out | refine below_set ?_ GE283.out) | exact HB.out))) : w.heap.size ≤ gb291)); have n6_ := Aside0.mk ((by rw [hg]; exact Nat.ne_of_lt (blk_lt (g := gb282) (o := .cells #[.int .i64 a0_0, .int .i64 a0_1] 24 (0, 0)) (by (with_reducible repeat (first | refine blk_drewN ?_ _ | refine blk_drew ?_ | refine blk_alloc ?_ _)); exact BK282.out)) : gb282 ≠ gb291)); have n7_ := Aside0.mk ((by rw [hg]; exact Nat.ne_of_gt (blk_lt (g := gb282) (o := .cells #[.int .i64 a0_0, .int .i64 a0_1] 24 (0, 0)) (by (with_reducible repeat (first | refine blk_drewN ?_ _ | refine blk_drew ?_ | refine blk_alloc ?_ _)); exact BK282.out)) : gb291 ≠ gb282)); have n8_ := Aside0.mk ((by rw [hg]; exact Nat.ne_of_lt (blk_lt (g := gb283) (o := .cells #[.int .i64 a1_0, .int .i64 a1_1] 24 (0, 0)) (by (with_reducible repeat (first | refine blk_drewN ?_ _ | refine blk_drew ?_ | refine blk_alloc ?_ _)); exact BK283.out)) : gb283 ≠ gb291)); have n9_ := Aside0.mk ((by rw [hg]; exact Nat.ne_of_gt (blk_lt (g := gb283) (o := .cells #[.int .i64 a1_0, .int .i64 a1_1] 24 (0, 0)) (by (with_reducible repeat (first | refine blk_drewN ?_ _ | refine blk_drew ?_ | refine blk_alloc ?_ _)); exact BK283.out)) : gb291 ≠ gb283)); clear BK282; clear BK283; clear HB; have BK282 := n0_; have BK283 := n1_; have HB := n2_; have BK291 := n3_; have GW291 := n4_; have GE291 := n5_; have NB282_291 := n6_; have NB291_282 := n7_; have NB283_291 := n8_; have NB291_283 := n9_; clear n0_ n1_ n2_ n3_ n4_ n5_ n6_ n7_ n8_ n9_; clear hb hbox hg; have hnb36 := NB291_282.out; have hnc36 := NB282_291.out; have hnb37 := NB291_283.out; have hnc37 := NB283_291.out; have hcz38_0 : w35.cell? ⟨gb291, 0, none⟩ = some (.int .i64 0) := (blk_cell BK291.out 0).trans rfl; have hcz38_1 : w35.cell? ⟨gb291, 1, none⟩ = some (.int .i64 0) := (blk_cell BK291.out 1).trans rfl; have hfz38_0 := blk_frozen BK291.out 0; have hfz38_1 := blk_frozen BK291.out 1; have hcz39_0 : w35.cell? ⟨gb282, 0, none⟩ = some (.int .i64 a0_0) := (blk_cell BK282.out 0).trans rfl; have hcz39_1 : w35.cell? ⟨gb282, 1, none⟩ = some (.int .i64 a0_1) := (blk_cell BK282.out 1).trans rfl; have hfz39_0 := blk_frozen BK282.out 0; have hfz39_1 := blk_frozen BK282.out 1; have hcz40_0 : w35.cell? ⟨gb283, 0, none⟩ = some (.int .i64 a1_0) := (blk_cell BK283.out 0).trans rfl; have hcz40_1 : w35.cell? ⟨gb283, 1, none⟩ = some (.int .i64 a1_1) := (blk_cell BK283.out 1).trans rfl; have hfz40_0 := blk_frozen BK283.out 0; have hfz40_1 := blk_frozen BK283.out 1) | ((with_reducible refine gate_callee (f := 22) rfl ?_); refine goesL_ (some 39) rfl rfl Try.func22 (by kernel_rfl) rfl #[.agg #[.int .i64 a0_0, .int .i64 a0_1], .agg #[.int .i64 a1_0, .int .i64 a1_1]] rfl (by (try simp only [List.map_toArray, List.map_cons, List.map_nil]); first | done | rfl | (simp only [List.length_drop, List.length_take]; rfl)) ?_; (with_reducible refine (sleuthref02_Add.calls kj2 a0_0 a0_1 a1_0 a1_1 t292 t293 t294 _ A26.out).mono ?_); rintro e w41 ⟨rfl, hb⟩; refine ⟨_, rfl, ?_⟩; have n0_ := Aside0.mk (blk_below (g := gb282) (o := .cells #[.int .i64 a0_0, .int .i64 a0_1] 24 (0, 0)) (by (with_reducible repeat (first | refine blk_drewN ?_ _ | refine blk_drew ?_ | refine blk_alloc ?_ _)); refine blk_far ?_ NB282_291.out _; (with_reducible repeat (first | refine blk_drewN ?_ _ | refine blk_drew ?_ | refine blk_alloc ?_ _)); refine blk_far ?_ NB282_291.out _; (with_reducible repeat (first | refine blk_drewN ?_ _ | refine blk_drew ?_ | refine blk_alloc ?_ _)); exact BK282.out) hb); have n1_ := Aside0.mk (blk_below (g := gb283) (o := .cells #[.int .i64 a1_0, .int .i64 a1_1] 24 (0, 0)) (by (with_reducible repeat (first | refine blk_drewN ?_ _ | refine blk_drew ?_ | refine blk_alloc ?_ _)); refine blk_far ?_ NB283_291.out _; (with_reducible repeat (first | refine blk_drewN ?_ _ | refine blk_drew ?_ | refine blk_alloc ?_ _)); refine blk_far ?_ NB283_291.out _; (with_reducible repeat (first | refine blk_drewN ?_ _ | refine blk_drew ?_ | refine blk_alloc ?_ _)); exact BK283.out) hb); have n2_ := Aside0.mk (blk_below (g := gb291) (o := .cells #[.int .i64 t288, .int .i64 t289] 24 (0, 0)) (by (with_reducible repeat (first | refine blk_drewN ?_ _ | refine blk_drew ?_ | refine blk_alloc ?_ _)); refine blk_put (cs := #[.int .i64 t288, .int .i64 0]) ?_ 1 _ rfl; (with_reducible repeat (first | refine blk_drewN ?_ _ | refine blk_drew ?_ | refine blk_alloc ?_ _)); refine blk_put (cs := #[.int .i64 0, .int .i64 0]) ?_ 0 _ rfl; (with_reducible repeat (first | refine blk_drewN ?_ _ | refine blk_drew ?_ | refine blk_alloc ?_ _)); exact BK291.out) hb); have n3_ := Aside0.mk (below_step (by repeat (first | (with_reducible first | exact HB.out | apply below_alloc | apply pw_below_drewN | apply below_drew1 | refine below_set ?_ GE282.out | refine below_set ?_ GE283.out | refine below_set ?_ GE291.out) | exact HB.out)) hb); clear BK282; clear BK283; clear BK291; clear HB; have BK282 := n0_; have BK283 := n1_; have BK291 := n2_; have HB := n3_; clear n0_ n1_ n2_ n3_; (try clear hb); (try clear hb2); (try clear hk); (try clear hi)) | ((with_reducible refine gate_dst (N := 7) rfl ?_); refine box_event ?hg (N := 7) ?hd (cs := #[.int .i64 0, .int .i64 0]) (t := 24) ?hr ?_; (case hd => rfl); (case hg => rfl); (case hr => first | (go_simp; done) | (go_simp; rfl)); intro gb295 hg w42 hbox hb; have n0_ := Aside0.mk (blk_below (g := gb282) (o := .cells #[.int .i64 a0_0, .int .i64 a0_1] 24 (0, 0)) (by (with_reducible repeat (first | refine blk_drewN ?_ _ | refine blk_drew ?_ | refine blk_alloc ?_ _)); exact BK282.out) hb); have n1_ := Aside0.mk (blk_below (g := gb283) (o := .cells #[.int .i64 a1_0, .int .i64 a1_1] 24 (0, 0)) (by (with_reducible repeat (first | refine blk_drewN ?_ _ | refine blk_drew ?_ | refine blk_alloc ?_ _)); exact BK283.out) hb); have n2_ := Aside0.mk (blk_below (g := gb291) (o := .cells #[.int .i64 t288, .int .i64 t289] 24 (0, 0)) (by (with_reducible repeat (first | refine blk_drewN ?_ _ | refine blk_drew ?_ | refine blk_alloc ?_ _)); exact BK291.out) hb); have n3_ := Aside0.mk (below_step (by repeat (first | (with_reducible first | exact HB.out | apply below_alloc | apply pw_below_drewN | apply below_drew1 | refine below_set ?_ GE282.out | refine below_set ?_ GE283.out | refine below_set ?_ GE291.out) | exact HB.out)) hb); have n4_ := Aside0.mk (hbox); have n5_ := Aside0.mk ((by rw [hg]; exact (below_size (by repeat (first | (with_reducible first | exact HB.out | apply below_alloc | apply pw_below_drewN | apply below_drew1 | refine below_set ?_ GE282.out | refine below_set ?_ GE283.out | refine below_set ?_ GE291.out) | exact HB.out))) : w.heap.size ≤ gb295)); have n6_ := Aside0.mk ((by rw [hg]; exact (below_size (by repeat (first | (with_reducible first | exact HB.out | apply below_alloc | apply pw_below_drewN | apply below_drew1 | refine below_set ?_ GE282.out | refine below_set ?_ GE283.out | refine below_set ?_ GE291.out) | exact HB.out))) : w.heap.size ≤ gb295)); have n7_ := Aside0.mk ((by rw [hg]; exact Nat.ne_of_lt (blk_lt (g := gb282) (o := .cells #[.int .i64 a0_0, .int .i64 a0_1] 24 (0, 0)) (by (with_reducible repeat (first | refine blk_drewN ?_ _ | refine blk_drew ?_ | refine blk_alloc ?_ _)); exact BK282.out)) : gb282 ≠ gb295)); have n8_ := Aside0.mk ((by rw [hg]; exact Nat.ne_of_gt (blk_lt (g := gb282) (o := .cells #[.int .i64 a0_0, .int .i64 a0_1] 24 (0, 0)) (by (with_reducible repeat (first | refine blk_drewN ?_ _ | refine blk_drew ?_ | refine blk_alloc ?_ _)); exact BK282.out)) : gb295 ≠ gb282)); have n9_ := Aside0.mk ((by rw [hg]; exact Nat.ne_of_lt (blk_lt (g := gb283) (o := .cells #[.int .i64 a1_0, .int .i64 a1_1] 24 (0, 0)) (by (with_reducible repeat (first | refine blk_drewN ?_ _ | refine blk_drew ?_ | refine blk_alloc ?_ _)); exact BK283.out)) : gb283 ≠ gb295)); have n10_ := Aside0.mk ((by rw [hg]; exact Nat.ne_of_gt (blk_lt (g := gb283) (o := .cells #[.int .i64 a1_0, .int .i64 a1_1] 24 (0, 0)) (by (with_reducible repeat (first | refine blk_drewN ?_ _ | refine blk_drew ?_ | refine blk_alloc ?_ _)); exact BK283.out)) : gb295 ≠ gb283)); have n11_ := Aside0.mk ((by rw [hg]; exact Nat.ne_of_lt (blk_lt (g := gb291) (o := .cells #[.int .i64 t288, .int .i64 t289] 24 (0, 0)) (by (with_reducible repeat (first | refine blk_drewN ?_ _ | refine blk_drew ?_ | refine blk_alloc ?_ _)); exact BK291.out)) : gb291 ≠ gb295)); have n12_ := Aside0.mk ((by rw [hg]; exact Nat.ne_of_gt (blk_lt (g := gb291) (o := .cells #[.int .i64 t288, .int .i64 t289] 24 (0, 0)) (by (with_reducible repeat (first | refine blk_drewN ?_ _ | refine blk_drew ?_ | refine blk_alloc ?_ _)); exact BK291.out)) : gb295 ≠ gb291)); clear BK282; clear BK283; clear BK291; clear HB; have BK282 := n0_; have BK283 := n1_; have BK291 := n2_; have HB := n3_; have BK295 := n4_; have GW295 := n5_; have GE295 := n6_; have NB282_295 := n7_; have NB295_282 := n8_; have NB283_295 := n9_; have NB295_283 := n10_; have NB291_295 := n11_; have NB295_291 := n12_; clear n0_ n1_ n2_ n3_ n4_ n5_ n6_ n7_ n8_ n9_ n10_ n11_ n12_; clear hb hbox hg; have hnb43 := NB295_282.out; have hnc43 := NB282_295.out; have hnb44 := NB295_283.out; have hnc44 := NB283_295.out; have hnb45 := NB295_291.out; have hnc45 := NB291_295.out; have hcz46_0 : w42.cell? ⟨gb295, 0, none⟩ = some (.int .i64 0) := (blk_cell BK295.out 0).trans rfl; have hcz46_1 : w42.cell? ⟨gb295, 1, none⟩ = some (.int .i64 0) := (blk_cell BK295.out 1).trans rfl; have hfz46_0 := blk_frozen BK295.out 0; have hfz46_1 := blk_frozen BK295.out 1; have hcz47_0 : w42.cell? ⟨gb282, 0, none⟩ = some (.int .i64 a0_0) := (blk_cell BK282.out 0).trans rfl; have hcz47_1 : w42.cell? ⟨gb282, 1, none⟩ = some (.int .i64 a0_1) := (blk_cell BK282.out 1).trans rfl; have hfz47_0 := blk_frozen BK282.out 0; have hfz47_1 := blk_frozen BK282.out 1; have hcz48_0 : w42.cell? ⟨gb283, 0, none⟩ = some (.int .i64 a1_0) := (blk_cell BK283.out 0).trans rfl; have hcz48_1 : w42.cell? ⟨gb283, 1, none⟩ = some (.int .i64 a1_1) := (blk_cell BK283.out 1).trans rfl; have hfz48_0 := blk_frozen BK283.out 0; have hfz48_1 := blk_frozen BK283.out 1) | ((with_reducible refine gate_callee (f := 23) rfl ?_); refine goesL_ (some 45) rfl rfl Try.func23 (by kernel_rfl) rfl #[.agg #[.int .i64 a0_0, .int .i64 a0_1], .agg #[.int .i64 a1_0, .int .i64 a1_1]] rfl (by (try simp only [List.map_toArray, List.map_cons, List.map_nil]); first | done | rfl | (simp only [List.length_drop, List.length_take]; rfl)) ?_; (with_reducible refine (fraction_Sub.calls kj2 a0_0 a0_1 a1_0 a1_1 t296 t297 t298 _ A27.out).mono ?_); rintro e w49 ⟨rfl, hb⟩; refine ⟨_, rfl, ?_⟩; have n0_ := Aside0.mk (blk_below (g := gb282) (o := .cells #[.int .i64 a0_0, .int .i64 a0_1] 24 (0, 0)) (by (with_reducible repeat (first | refine blk_drewN ?_ _ | refine blk_drew ?_ | refine blk_alloc ?_ _)); refine blk_far ?_ NB282_295.out _; (with_reducible repeat (first | refine blk_drewN ?_ _ | refine blk_drew ?_ | refine blk_alloc ?_ _)); refine blk_far ?_ NB282_295.out _; (with_reducible repeat (first | refine blk_drewN ?_ _ | refine blk_drew ?_ | refine blk_alloc ?_ _)); exact BK282.out) hb); have n1_ := Aside0.mk (blk_below (g := gb283) (o := .cells #[.int .i64 a1_0, .int .i64 a1_1] 24 (0, 0)) (by (with_reducible repeat (first | refine blk_drewN ?_ _ | refine blk_drew ?_ | refine blk_alloc ?_ _)); refine blk_far ?_ NB283_295.out _; (with_reducible repeat (first | refine blk_drewN ?_ _ | refine blk_drew ?_ | refine blk_alloc ?_ _)); refine blk_far ?_ NB283_295.out _; (with_reducible repeat (first | refine blk_drewN ?_ _ | refine blk_drew ?_ | refine blk_alloc ?_ _)); exact BK283.out) hb); have n2_ := Aside0.mk (blk_below (g := gb291) (o := .cells #[.int .i64 t288, .int .i64 t289] 24 (0, 0)) (by (with_reducible repeat (first | refine blk_drewN ?_ _ | refine blk_drew ?_ | refine blk_alloc ?_ _)); refine blk_far ?_ NB291_295.out _; (with_reducible repeat (first | refine blk_drewN ?_ _ | refine blk_drew ?_ | refine blk_alloc ?_ _)); refine blk_far ?_ NB291_295.out _; (with_reducible repeat (first | refine blk_drewN ?_ _ | refine blk_drew ?_ | refine blk_alloc ?_ _)); exact BK291.out) hb); have n3_ := Aside0.mk (blk_below (g := gb295) (o := .cells #[.int .i64 t292, .int .i64 t293] 24 (0, 0)) (by (with_reducible repeat (first | refine blk_drewN ?_ _ | refine blk_drew ?_ | refine blk_alloc ?_ _)); refine blk_put (cs := #[.int .i64 t292, .int .i64 0]) ?_ 1 _ rfl; (with_reducible repeat (first | refine blk_drewN ?_ _ | refine blk_drew ?_ | refine blk_alloc ?_ _)); refine blk_put (cs := #[.int .i64 0, .int .i64 0]) ?_ 0 _ rfl; (with_reducible repeat (first | refine blk_drewN ?_ _ | refine blk_drew ?_ | refine blk_alloc ?_ _)); exact BK295.out) hb); have n4_ := Aside0.mk (below_step (by repeat (first | (with_reducible first | exact HB.out | apply below_alloc | apply pw_below_drewN | apply below_drew1 | refine below_set ?_ GE282.out | refine below_set ?_ GE283.out | refine below_set ?_ GE291.out | refine below_set ?_ GE295.out) | exact HB.out)) hb); clear BK282; clear BK283; clear BK291; clear BK295; clear HB; have BK282 := n0_; have BK283 := n1_; have BK291 := n2_; have BK295 := n3_; have HB := n4_; clear n0_ n1_ n2_ n3_ n4_; (try clear hb); (try clear hb2); (try clear hk); (try clear hi)) | ((with_reducible refine gate_dst (N := 9) rfl ?_); refine box_event ?hg (N := 9) ?hd (cs := #[.int .i64 0, .int .i64 0]) (t := 24) ?hr ?_; (case hd => rfl); (case hg => rfl); (case hr => first | (go_simp; done) | (go_simp; rfl)); intro gb299 hg w50 hbox hb; have n0_ := Aside0.mk (blk_below (g := gb282) (o := .cells #[.int .i64 a0_0, .int .i64 a0_1] 24 (0, 0)) (by (with_reducible repeat (first | refine blk_drewN ?_ _ | refine blk_drew ?_ | refine blk_alloc ?_ _)); exact BK282.out) hb); have n1_ := Aside0.mk (blk_below (g := gb283) (o := .cells #[.int .i64 a1_0, .int .i64 a1_1] 24 (0, 0)) (by (with_reducible repeat (first | refine blk_drewN ?_ _ | refine blk_drew ?_ | refine blk_alloc ?_ _)); exact BK283.out) hb); have n2_ := Aside0.mk (blk_below (g := gb291) (o := .cells #[.int .i64 t288, .int .i64 t289] 24 (0, 0)) (by (with_reducible repeat (first | refine blk_drewN ?_ _ | refine blk_drew ?_ | refine blk_alloc ?_ _)); exact BK291.out) hb); have n3_ := Aside0.mk (blk_below (g := gb295) (o := .cells #[.int .i64 t292, .int .i64 t293] 24 (0, 0)) (by (with_reducible repeat (first | refine blk_drewN ?_ _ | refine blk_drew ?_ | refine blk_alloc ?_ _)); exact BK295.out) hb); have n4_ := Aside0.mk (below_step (by repeat (first | (with_reducible first | exact HB.out | apply below_alloc | apply pw_below_drewN | apply below_drew1 | refine below_set ?_ GE282.out | refine below_set ?_ GE283.out | refine below_set ?_ GE291.out | refine below_set ?_ GE295.out) | exact HB.out)) hb); have n5_ := Aside0.mk (hbox); have n6_ := Aside0.mk ((by rw [hg]; exact (below_size (by repeat (first | (with_reducible first | exact HB.out | apply below_alloc | apply pw_below_drewN | apply below_drew1 | refine below_set ?_ GE282.out | refine below_set ?_ GE283.out | refine below_set ?_ GE291.out | refine below_set ?_ GE295.out) | exact HB.out))) : w.heap.size ≤ gb299)); have n7_ := Aside0.mk ((by rw [hg]; exact (below_size (by repeat (first | (with_reducible first | exact HB.out | apply below_alloc | apply pw_below_drewN | apply below_drew1 | refine below_set ?_ GE282.out | refine below_set ?_ GE283.out | refine below_set ?_ GE291.out | refine below_set ?_ GE295.out) | exact HB.out))) : w.heap.size ≤ gb299)); have n8_ := Aside0.mk ((by rw [hg]; exact Nat.ne_of_lt (blk_lt (g := gb282) (o := .cells #[.int .i64 a0_0, .int .i64 a0_1] 24 (0, 0)) (by (with_reducible repeat (first | refine blk_drewN ?_ _ | refine blk_drew ?_ | refine blk_alloc ?_ _)); exact BK282.out)) : gb282 ≠ gb299)); have n9_ := Aside0.mk ((by rw [hg]; exact Nat.ne_of_gt (blk_lt (g := gb282) (o := .cells #[.int .i64 a0_0, .int .i64 a0_1] 24 (0, 0)) (by (with_reducible repeat (first | refine blk_drewN ?_ _ | refine blk_drew ?_ | refine blk_alloc ?_ _)); exact BK282.out)) : gb299 ≠ gb282)); have n10_ := Aside0.mk ((by rw [hg]; exact Nat.ne_of_lt (blk_lt (g := gb283) (o := .cells #[.int .i64 a1_0, .int .i64 a1_1] 24 (0, 0)) (by (with_reducible repeat (first | refine blk_drewN ?_ _ | refine blk_drew ?_ | refine blk_alloc ?_ _)); exact BK283.out)) : gb283 ≠ gb299)); have n11_ := Aside0.mk ((by rw [hg]; exact Nat.ne_of_gt (blk_lt (g := gb283) (o := .cells #[.int .i64 a1_0, .int .i64 a1_1] 24 (0, 0)) (by (with_reducible repeat (first | refine blk_drewN ?_ _ | refine blk_drew ?_ | refine blk_alloc ?_ _)); exact BK283.out)) : gb299 ≠ gb283)); have n12_ := Aside0.mk ((by rw [hg]; exact Nat.ne_of_lt (blk_lt (g := gb291) (o := .cells #[.int .i64 t288, .int .i64 t289] 24 (0, 0)) (by (with_reducible repeat (first | refine blk_drewN ?_ _ | refine blk_drew ?_ | refine blk_alloc ?_ _)); exact BK291.out)) : gb291 ≠ gb299)); have n13_ := Aside0.mk ((by rw [hg]; exact Nat.ne_of_gt (blk_lt (g := gb291) (o := .cells #[.int .i64 t288, .int .i64 t289] 24 (0, 0)) (by (with_reducible repeat (first | refine blk_drewN ?_ _ | refine blk_drew ?_ | refine blk_alloc ?_ _)); exact BK291.out)) : gb299 ≠ gb291)); have n14_ := Aside0.mk ((by rw [hg]; exact Nat.ne_of_lt (blk_lt (g := gb295) (o := .cells #[.int .i64 t292, .int .i64 t293] 24 (0, 0)) (by (with_reducible repeat (first | refine blk_drewN ?_ _ | refine blk_drew ?_ | refine blk_alloc ?_ _)); exact BK295.out)) : gb295 ≠ gb299)); have n15_ := Aside0.mk ((by rw [hg]; exact Nat.ne_of_gt (blk_lt (g := gb295) (o := .cells #[.int .i64 t292, .int .i64 t293] 24 (0, 0)) (by (with_reducible repeat (first | refine blk_drewN ?_ _ | refine blk_drew ?_ | refine blk_alloc ?_ _)); exact BK295.out)) : gb299 ≠ gb295)); clear BK282; clear BK283; clear BK291; clear BK295; clear HB; have BK282 := n0_; have BK283 := n1_; have BK291 := n2_; have BK295 := n3_; have HB := n4_; have BK299 := n5_; have GW299 := n6_; have GE299 := n7_; have NB282_299 := n8_; have NB299_282 := n9_; have NB283_299 := n10_; have NB299_283 := n11_; have NB291_299 := n12_; have NB299_291 := n13_; have NB295_299 := n14_; have NB299_295 := n15_; clear n0_ n1_ n2_ n3_ n4_ n5_ n6_ n7_ n8_ n9_ n10_ n11_ n12_ n13_ n14_ n15_; clear hb hbox hg; have hnb51 := NB299_282.out; have hnc51 := NB282_299.out; have hnb52 := NB299_283.out; have hnc52 := NB283_299.out; have hnb53 := NB299_291.out; have hnc53 := NB291_299.out; have hnb54 := NB299_295.out; have hnc54 := NB295_299.out; have hcz55_0 : w50.cell? ⟨gb299, 0, none⟩ = some (.int .i64 0) := (blk_cell BK299.out 0).trans rfl; have hcz55_1 : w50.cell? ⟨gb299, 1, none⟩ = some (.int .i64 0) := (blk_cell BK299.out 1).trans rfl; have hfz55_0 := blk_frozen BK299.out 0; have hfz55_1 := blk_frozen BK299.out 1; have hcz56_0 : w50.cell? ⟨gb282, 0, none⟩ = some (.int .i64 a0_0) := (blk_cell BK282.out 0).trans rfl; have hcz56_1 : w50.cell? ⟨gb282, 1, none⟩ = some (.int .i64 a0_1) := (blk_cell BK282.out 1).trans rfl; have hfz56_0 := blk_frozen BK282.out 0; have hfz56_1 := blk_frozen BK282.out 1; have hcz57_0 : w50.cell? ⟨gb283, 0, none⟩ = some (.int .i64 a1_0) := (blk_cell BK283.out 0).trans rfl; have hcz57_1 : w50.cell? ⟨gb283, 1, none⟩ = some (.int .i64 a1_1) := (blk_cell BK283.out 1).trans rfl; have hfz57_0 := blk_frozen BK283.out 0; have hfz57_1 := blk_frozen BK283.out 1) | ((with_reducible refine gate_callee (f := 24) rfl ?_); refine goesL_ (some 51) rfl rfl Try.func24 (by kernel_rfl) rfl #[.agg #[.int .i64 a0_0, .int .i64 a0_1], .agg #[.int .i64 a1_0, .int .i64 a1_1]] rfl (by (try simp only [List.map_toArray, List.map_cons, List.map_nil]); first | done | rfl | (simp only [List.length_drop, List.length_take]; rfl)) ?_; (with_reducible refine (sleuthref02_Sub.calls kj2 a0_0 a0_1 a1_0 a1_1 t300 t301 t302 _ A28.out).mono ?_); rintro e w58 ⟨rfl, hb⟩; refine ⟨_, rfl, ?_⟩; have n0_ := Aside0.mk (blk_below (g := gb282) (o := .cells #[.int .i64 a0_0, .int .i64 a0_1] 24 (0, 0)) (by (with_reducible repeat (first | refine blk_drewN ?_ _ | refine blk_drew ?_ | refine blk_alloc ?_ _)); refine blk_far ?_ NB282_299.out _; (with_reducible repeat (first | refine blk_drewN ?_ _ | refine blk_drew ?_ | refine blk_alloc ?_ _)); refine blk_far ?_ NB282_299.out _; (with_reducible repeat (first | refine blk_drewN ?_ _ | refine blk_drew ?_ | refine blk_alloc ?_ _)); exact BK282.out) hb); have n1_ := Aside0.mk (blk_below (g := gb283) (o := .cells #[.int .i64 a1_0, .int .i64 a1_1] 24 (0, 0)) (by (with_reducible repeat (first | refine blk_drewN ?_ _ | refine blk_drew ?_ | refine blk_alloc ?_ _)); refine blk_far ?_ NB283_299.out _; (with_reducible repeat (first | refine blk_drewN ?_ _ | refine blk_drew ?_ | refine blk_alloc ?_ _)); refine blk_far ?_ NB283_299.out _; (with_reducible repeat (first | refine blk_drewN ?_ _ | refine blk_drew ?_ | refine blk_alloc ?_ _)); exact BK283.out) hb); have n2_ := Aside0.mk (blk_below (g := gb291) (o := .cells #[.int .i64 t288, .int .i64 t289] 24 (0, 0)) (by (with_reducible repeat (first | refine blk_drewN ?_ _ | refine blk_drew ?_ | refine blk_alloc ?_ _)); refine blk_far ?_ NB291_299.out _; (with_reducible repeat (first | refine blk_drewN ?_ _ | refine blk_drew ?_ | refine blk_alloc ?_ _)); refine blk_far ?_ NB291_299.out _; (with_reducible repeat (first | refine blk_drewN ?_ _ | refine blk_drew ?_ | refine blk_alloc ?_ _)); exact BK291.out) hb); have n3_ := Aside0.mk (blk_below (g := gb295) (o := .cells #[.int .i64 t292, .int .i64 t293] 24 (0, 0)) (by (with_reducible repeat (first | refine blk_drewN ?_ _ | refine blk_drew ?_ | refine blk_alloc ?_ _)); refine blk_far ?_ NB295_299.out _; (with_reducible repeat (first | refine blk_drewN ?_ _ | refine blk_drew ?_ | refine blk_alloc ?_ _)); refine blk_far ?_ NB295_299.out _; (with_reducible repeat (first | refine blk_drewN ?_ _ | refine blk_drew ?_ | refine blk_alloc ?_ _)); exact BK295.out) hb); have n4_ := Aside0.mk (blk_below (g := gb299) (o := .cells #[.int .i64 t296, .int .i64 t297] 24 (0, 0)) (by (with_reducible repeat (first | refine blk_drewN ?_ _ | refine blk_drew ?_ | refine blk_alloc ?_ _)); refine blk_put (cs := #[.int .i64 t296, .int .i64 0]) ?_ 1 _ rfl; (with_reducible repeat (first | refine blk_drewN ?_ _ | refine blk_drew ?_ | refine blk_alloc ?_ _)); refine blk_put (cs := #[.int .i64 0, .int .i64 0]) ?_ 0 _ rfl; (with_reducible repeat (first | refine blk_drewN ?_ _ | refine blk_drew ?_ | refine blk_alloc ?_ _)); exact BK299.out) hb); have n5_ := Aside0.mk (below_step (by repeat (first | (with_reducible first | exact HB.out | apply below_alloc | apply pw_below_drewN | apply below_drew1 | refine below_set ?_ GE282.out | refine below_set ?_ GE283.out | refine below_set ?_ GE291.out | refine below_set ?_ GE295.out | refine below_set ?_ GE299.out) | exact HB.out)) hb); clear BK282; clear BK283; clear BK291; clear BK295; clear BK299; clear HB; have BK282 := n0_; have BK283 := n1_; have BK291 := n2_; have BK295 := n3_; have BK299 := n4_; have HB := n5_; clear n0_ n1_ n2_ n3_ n4_ n5_; (try clear hb); (try clear hb2); (try clear hk); (try clear hi)) | ((with_reducible refine gate_dst (N := 11) rfl ?_); refine box_event ?hg (N := 11) ?hd (cs := #[.int .i64 0, .int .i64 0]) (t := 24) ?hr ?_; (case hd => rfl); (case hg => rfl); (case hr => first | (go_simp; done) | (go_simp; rfl)); intro gb303 hg w59 hbox hb; have n0_ := Aside0.mk (blk_below (g := gb282) (o := .cells #[.int .i64 a0_0, .int .i64 a0_1] 24 (0, 0)) (by (with_reducible repeat (first | refine blk_drewN ?_ _ | refine blk_drew ?_ | refine blk_alloc ?_ _)); exact BK282.out) hb); have n1_ := Aside0.mk (blk_below (g := gb283) (o := .cells #[.int .i64 a1_0, .int .i64 a1_1] 24 (0, 0)) (by (with_reducible repeat (first | refine blk_drewN ?_ _ | refine blk_drew ?_ | refine blk_alloc ?_ _)); exact BK283.out) hb); have n2_ := Aside0.mk (blk_below (g := gb291) (o := .cells #[.int .i64 t288, .int .i64 t289] 24 (0, 0)) (by (with_reducible repeat (first | refine blk_drewN ?_ _ | refine blk_drew ?_ | refine blk_alloc ?_ _)); exact BK291.out) hb); have n3_ := Aside0.mk (blk_below (g := gb295) (o := .cells #[.int .i64 t292, .int .i64 t293] 24 (0, 0)) (by (with_reducible repeat (first | refine blk_drewN ?_ _ | refine blk_drew ?_ | refine blk_alloc ?_ _)); exact BK295.out) hb); have n4_ := Aside0.mk (blk_below (g := gb299) (o := .cells #[.int .i64 t296, .int .i64 t297] 24 (0, 0)) (by (with_reducible repeat (first | refine blk_drewN ?_ _ | refine blk_drew ?_ | refine blk_alloc ?_ _)); exact BK299.out) hb); have n5_ := Aside0.mk (below_step (by repeat (first | (with_reducible first | exact HB.out | apply below_alloc | apply pw_below_drewN | apply below_drew1 | refine below_set ?_ GE282.out | refine below_set ?_ GE283.out | refine below_set ?_ GE291.out | refine below_set ?_ GE295.out | refine below_set ?_ GE299.out) | exact HB.out)) hb); have n6_ := Aside0.mk (hbox); have n7_ := Aside0.mk ((by rw [hg]; exact (below_size (by repeat (first | (with_reducible first | exact HB.out | apply below_alloc | apply pw_below_drewN | apply below_drew1 | refine below_set ?_ GE282.out | refine below_set ?_ GE283.out | refine below_set ?_ GE291.out | refine below_set ?_ GE295.out | refine below_set ?_ GE299.out) | exact HB.out))) : w.heap.size ≤ gb303)); have n8_ := Aside0.mk ((by rw [hg]; exact (below_size (by repeat (first | (with_reducible first | exact HB.out | apply below_alloc | apply pw_below_drewN | apply below_drew1 | refine below_set ?_ GE282.out | refine below_set ?_ GE283.out | refine below_set ?_ GE291.out | refine below_set ?_ GE295.out | refine below_set ?_ GE299.out) | exact HB.out))) : w.heap.size ≤ gb303)); have n9_ := Aside0.mk ((by rw [hg]; exact Nat.ne_of_lt (blk_lt (g := gb282) (o := .cells #[.int .i64 a0_0, .int .i64 a0_1] 24 (0, 0)) (by (with_reducible repeat (first | refine blk_drewN ?_ _ | refine blk_drew ?_ | refine blk_alloc ?_ _)); exact BK282.out)) : gb282 ≠ gb303)); have n10_ := Aside0.mk ((by rw [hg]; exact Nat.ne_of_gt (blk_lt (g := gb282) (o := .cells #[.int .i64 a0_0, .int .i64 a0_1] 24 (0, 0)) (by (with_reducible repeat (first | refine blk_drewN ?_ _ | refine blk_drew ?_ | refine blk_alloc ?_ _)); exact BK282.out)) : gb303 ≠ gb282)); have n11_ := Aside0.mk ((by rw [hg]; exact Nat.ne_of_lt (blk_lt (g := gb283) (o := .cells #[.int .i64 a1_0, .int .i64 a1_1] 24 (0, 0)) (by (with_reducible repeat (first | refine blk_drewN ?_ _ | refine blk_drew ?_ | refine blk_alloc ?_ _)); exact BK283.out)) : gb283 ≠ gb303)); have n12_ := Aside0.mk ((by rw [hg]; exact Nat.ne_of_gt (blk_lt (g := gb283) (o := .cells #[.int .i64 a1_0, .int .i64 a1_1] 24 (0, 0)) (by (with_reducible repeat (first | refine blk_drewN ?_ _ | refine blk_drew ?_ | refine blk_alloc ?_ _)); exact BK283.out)) : gb303 ≠ gb283)); have n13_ := Aside0.mk ((by rw [hg]; exact Nat.ne_of_lt (blk_lt (g := gb291) (o := .cells #[.int .i64 t288, .int .i64 t289] 24 (0, 0)) (by (with_reducible repeat (first | refine blk_drewN ?_ _ | refine blk_drew ?_ | refine blk_alloc ?_ _)); exact BK291.out)) : gb291 ≠ gb303)); have n14_ := Aside0.mk ((by rw [hg]; exact Nat.ne_of_gt (blk_lt (g := gb291) (o := .cells #[.int .i64 t288, .int .i64 t289] 24 (0, 0)) (by (with_reducible repeat (first | refine blk_drewN ?_ _ | refine blk_drew ?_ | refine blk_alloc ?_ _)); exact BK291.out)) : gb303 ≠ gb291)); have n15_ := Aside0.mk ((by rw [hg]; exact Nat.ne_of_lt (blk_lt (g := gb295) (o := .cells #[.int .i64 t292, .int .i64 t293] 24 (0, 0)) (by (with_reducible repeat (first | refine blk_drewN ?_ _ | refine blk_drew ?_ | refine blk_alloc ?_ _)); exact BK295.out)) : gb295 ≠ gb303)); have n16_ := Aside0.mk ((by rw [hg]; exact Nat.ne_of_gt (blk_lt (g := gb295) (o := .cells #[.int .i64 t292, .int .i64 t293] 24 (0, 0)) (by (with_reducible repeat (first | refine blk_drewN ?_ _ | refine blk_drew ?_ | refine blk_alloc ?_ _)); exact BK295.out)) : gb303 ≠ gb295)); have n17_ := Aside0.mk ((by rw [hg]; exact Nat.ne_of_lt (blk_lt (g := gb299) (o := .cells #[.int .i64 t296, .int .i64 t297] 24 (0, 0)) (by (with_reducible repeat (first | refine blk_drewN ?_ _ | refine blk_drew ?_ | refine blk_alloc ?_ _)); exact BK299.out)) : gb299 ≠ gb303)); have n18_ := Aside0.mk ((by rw [hg]; exact Nat.ne_of_gt (blk_lt (g := gb299) (o := .cells #[.int .i64 t296, .int .i64 t297] 24 (0, 0)) (by (with_reducible repeat (first | refine blk_drewN ?_ _ | refine blk_drew ?_ | refine blk_alloc ?_ _)); exact BK299.out)) : gb303 ≠ gb299)); clear BK282; clear BK283; clear BK291; clear BK295; clear BK299; clear HB; have BK282 := n0_; have BK283 := n1_; have BK291 := n2_; have BK295 := n3_; have BK299 := n4_; have HB := n5_; have BK303 := n6_; have GW303 := n7_; have GE303 := n8_; have NB282_303 := n9_; have NB303_282 := n10_; have NB283_303 := n11_; have NB303_283 := n12_; have NB291_303 := n13_; have NB303_291 := n14_; have NB295_303 := n15_; have NB303_295 := n16_; have NB299_303 := n17_; have NB303_299 := n18_; clear n0_ n1_ n2_ n3_ n4_ n5_ n6_ n7_ n8_ n9_ n10_ n11_ n12_ n13_ n14_ n15_ n16_ n17_ n18_; clear hb hbox hg; have hnb60 := NB303_282.out; have hnc60 := NB282_303.out; have hnb61 := NB303_283.out; have hnc61 := NB283_303.out; have hnb62 := NB303_291.out; have hnc62 := NB291_303.out; have hnb63 := NB303_295.out; have hnc63 := NB295_303.out; have hnb64 := NB303_299.out; have hnc64 := NB299_303.out; have hcz65_0 : w59.cell? ⟨gb303, 0, none⟩ = some (.int .i64 0) := (blk_cell BK303.out 0).trans rfl; have hcz65_1 : w59.cell? ⟨gb303, 1, none⟩ = some (.int .i64 0) := (blk_cell BK303.out 1).trans rfl; have hfz65_0 := blk_frozen BK303.out 0; have hfz65_1 := blk_frozen BK303.out 1; have hcz66_0 : w59.cell? ⟨gb283, 0, none⟩ = some (.int .i64 a1_0) := (blk_cell BK283.out 0).trans rfl; have hcz66_1 : w59.cell? ⟨gb283, 1, none⟩ = some (.int .i64 a1_1) := (blk_cell BK283.out 1).trans rfl; have hfz66_0 := blk_frozen BK283.out 0; have hfz66_1 := blk_frozen BK283.out 1; have hcz67_0 : w59.cell? ⟨gb282, 0, none⟩ = some (.int .i64 a0_0) := (blk_cell BK282.out 0).trans rfl; have hcz67_1 : w59.cell? ⟨gb282, 1, none⟩ = some (.int .i64 a0_1) := (blk_cell BK282.out 1).trans rfl; have hfz67_0 := blk_frozen BK282.out 0; have hfz67_1 := blk_frozen BK282.out 1) | ((with_reducible refine gate_callee (f := 20) rfl ?_); refine goesL_ (some 57) rfl rfl Try.func20 (by kernel_rfl) rfl #[.agg #[.int .i64 a1_0, .int .i64 a1_1], .agg #[.int .i64 a0_0, .int .i64 a0_1]] rfl (by (try simp only [List.map_toArray, List.map_cons, List.map_nil]); first | done | rfl | (simp only [List.length_drop, List.length_take]; rfl)) ?_; (with_reducible refine (fraction_Add.calls kj2 a1_0 a1_1 a0_0 a0_1 t304 t305 t306 _ A29.out).mono ?_); rintro e w68 ⟨rfl, hb⟩; refine ⟨_, rfl, ?_⟩; have n0_ := Aside0.mk (blk_below (g := gb282) (o := .cells #[.int .i64 a0_0, .int .i64 a0_1] 24 (0, 0)) (by (with_reducible repeat (first | refine blk_drewN ?_ _ | refine blk_drew ?_ | refine blk_alloc ?_ _)); refine blk_far ?_ NB282_303.out _; (with_reducible repeat (first | refine blk_drewN ?_ _ | refine blk_drew ?_ | refine blk_alloc ?_ _)); refine blk_far ?_ NB282_303.out _; (with_reducible repeat (first | refine blk_drewN ?_ _ | refine blk_drew ?_ | refine blk_alloc ?_ _)); exact BK282.out) hb); have n1_ := Aside0.mk (blk_below (g := gb283) (o := .cells #[.int .i64 a1_0, .int .i64 a1_1] 24 (0, 0)) (by (with_reducible repeat (first | refine blk_drewN ?_ _ | refine blk_drew ?_ | refine blk_alloc ?_ _)); refine blk_far ?_ NB283_303.out _; (with_reducible repeat (first | refine blk_drewN ?_ _ | refine blk_drew ?_ | refine blk_alloc ?_ _)); refine blk_far ?_ NB283_303.out _; (with_reducible repeat (first | refine blk_drewN ?_ _ | refine blk_drew ?_ | refine blk_alloc ?_ _)); exact BK283.out) hb); have n2_ := Aside0.mk (blk_below (g := gb291) (o := .cells #[.int .i64 t288, .int .i64 t289] 24 (0, 0)) (by (with_reducible repeat (first | refine blk_drewN ?_ _ | refine blk_drew ?_ | refine blk_alloc ?_ _)); refine blk_far ?_ NB291_303.out _; (with_reducible repeat (first | refine blk_drewN ?_ _ | refine blk_drew ?_ | refine blk_alloc ?_ _)); refine blk_far ?_ NB291_303.out _; (with_reducible repeat (first | refine blk_drewN ?_ _ | refine blk_drew ?_ | refine blk_alloc ?_ _)); exact BK291.out) hb); have n3_ := Aside0.mk (blk_below (g := gb295) (o := .cells #[.int .i64 t292, .int .i64 t293] 24 (0, 0)) (by (with_reducible repeat (first | refine blk_drewN ?_ _ | refine blk_drew ?_ | refine blk_alloc ?_ _)); refine blk_far ?_ NB295_303.out _; (with_reducible repeat (first | refine blk_drewN ?_ _ | refine blk_drew ?_ | refine blk_alloc ?_ _)); refine blk_far ?_ NB295_303.out _; (with_reducible repeat (first | refine blk_drewN ?_ _ | refine blk_drew ?_ | refine blk_alloc ?_ _)); exact BK295.out) hb); have n4_ := Aside0.mk (blk_below (g := gb299) (o := .cells #[.int .i64 t296, .int .i64 t297] 24 (0, 0)) (by (with_reducible repeat (first | refine blk_drewN ?_ _ | refine blk_drew ?_ | refine blk_alloc ?_ _)); refine blk_far ?_ NB299_303.out _; (with_reducible repeat (first | refine blk_drewN ?_ _ | refine blk_drew ?_ | refine blk_alloc ?_ _)); refine blk_far ?_ NB299_303.out _; (with_reducible repeat (first | refine blk_drewN ?_ _ | refine blk_drew ?_ | refine blk_alloc ?_ _)); exact BK299.out) hb); have n5_ := Aside0.mk (blk_below (g := gb303) (o := .cells #[.int .i64 t300, .int .i64 t301] 24 (0, 0)) (by (with_reducible repeat (first | refine blk_drewN ?_ _ | refine blk_drew ?_ | refine blk_alloc ?_ _)); refine blk_put (cs := #[.int .i64 t300, .int .i64 0]) ?_ 1 _ rfl; (with_reducible repeat (first | refine blk_drewN ?_ _ | refine blk_drew ?_ | refine blk_alloc ?_ _)); refine blk_put (cs := #[.int .i64 0, .int .i64 0]) ?_ 0 _ rfl; (with_reducible repeat (first | refine blk_drewN ?_ _ | refine blk_drew ?_ | refine blk_alloc ?_ _)); exact BK303.out) hb); have n6_ := Aside0.mk (below_step (by repeat (first | (with_reducible first | exact HB.out | apply below_alloc | apply pw_below_drewN | apply below_drew1 | refine below_set ?_ GE282.out | refine below_set ?_ GE283.out | refine below_set ?_ GE291.out | refine below_set ?_ GE295.out | refine below_set ?_ GE299.out | refine below_set ?_ GE303.out) | exact HB.out)) hb); clear BK282; clear BK283; clear BK291; clear BK295; clear BK299; clear BK303; clear HB; have BK282 := n0_; have BK283 := n1_; have BK291 := n2_; have BK295 := n3_; have BK299 := n4_; have BK303 := n5_; have HB := n6_; clear n0_ n1_ n2_ n3_ n4_ n5_ n6_; (try clear hb); (try clear hb2); (try clear hk); (try clear hi)) | ((with_reducible refine gate_dst (N := 13) rfl ?_); refine box_event ?hg (N := 13) ?hd (cs := #[.int .i64 0, .int .i64 0]) (t := 24) ?hr ?_; (case hd => rfl); (case hg => rfl); (case hr => first | (go_simp; done) | (go_simp; rfl)); intro gb307 hg w69 hbox hb; have n0_ := Aside0.mk (blk_below (g := gb282) (o := .cells #[.int .i64 a0_0, .int .i64 a0_1] 24 (0, 0)) (by (with_reducible repeat (first | refine blk_drewN ?_ _ | refine blk_drew ?_ | refine blk_alloc ?_ _)); exact BK282.out) hb); have n1_ := Aside0.mk (blk_below (g := gb283) (o := .cells #[.int .i64 a1_0, .int .i64 a1_1] 24 (0, 0)) (by (with_reducible repeat (first | refine blk_drewN ?_ _ | refine blk_drew ?_ | refine blk_alloc ?_ _)); exact BK283.out) hb); have n2_ := Aside0.mk (blk_below (g := gb291) (o := .cells #[.int .i64 t288, .int .i64 t289] 24 (0, 0)) (by (with_reducible repeat (first | refine blk_drewN ?_ _ | refine blk_drew ?_ | refine blk_alloc ?_ _)); exact BK291.out) hb); have n3_ := Aside0.mk (blk_below (g := gb295) (o := .cells #[.int .i64 t292, .int .i64 t293] 24 (0, 0)) (by (with_reducible repeat (first | refine blk_drewN ?_ _ | refine blk_drew ?_ | refine blk_alloc ?_ _)); exact BK295.out) hb); have n4_ := Aside0.mk (blk_below (g := gb299) (o := .cells #[.int .i64 t296, .int .i64 t297] 24 (0, 0)) (by (with_reducible repeat (first | refine blk_drewN ?_ _ | refine blk_drew ?_ | refine blk_alloc ?_ _)); exact BK299.out) hb); have n5_ := Aside0.mk (blk_below (g := gb303) (o := .cells #[.int .i64 t300, .int .i64 t301] 24 (0, 0)) (by (with_reducible repeat (first | refine blk_drewN ?_ _ | refine blk_drew ?_ | refine blk_alloc ?_ _)); exact BK303.out) hb); have n6_ := Aside0.mk (below_step (by repeat (first | (with_reducible first | exact HB.out | apply below_alloc | apply pw_below_drewN | apply below_drew1 | refine below_set ?_ GE282.out | refine below_set ?_ GE283.out | refine below_set ?_ GE291.out | refine below_set ?_ GE295.out | refine below_set ?_ GE299.out | refine below_set ?_ GE303.out) | exact HB.out)) hb); have n7_ := Aside0.mk (hbox); have n8_ := Aside0.mk ((by rw [hg]; exact (below_size (by repeat (first | (with_reducible first | exact HB.out | apply below_alloc | apply pw_below_drewN | apply below_drew1 | refine below_set ?_ GE282.out | refine below_set ?_ GE283.out | refine below_set ?_ GE291.out | refine below_set ?_ GE295.out | refine below_set ?_ GE299.out | refine below_set ?_ GE303.out) | exact HB.out))) : w.heap.size ≤ gb307)); have n9_ := Aside0.mk ((by rw [hg]; exact (below_size (by repeat (first | (with_reducible first | exact HB.out | apply below_alloc | apply pw_below_drewN | apply below_drew1 | refine below_set ?_ GE282.out | refine below_set ?_ GE283.out | refine below_set ?_ GE291.out | refine below_set ?_ GE295.out | refine below_set ?_ GE299.out | refine below_set ?_ GE303.out) | exact HB.out))) : w.heap.size ≤ gb307)); have n10_ := Aside0.mk ((by rw [hg]; exact Nat.ne_of_lt (blk_lt (g := gb282) (o := .cells #[.int .i64 a0_0, .int .i64 a0_1] 24 (0, 0)) (by (with_reducible repeat (first | refine blk_drewN ?_ _ | refine blk_drew ?_ | refine blk_alloc ?_ _)); exact BK282.out)) : gb282 ≠ gb307)); have n11_ := Aside0.mk ((by rw [hg]; exact Nat.ne_of_gt (blk_lt (g := gb282) (o := .cells #[.int .i64 a0_0, .int .i64 a0_1] 24 (0, 0)) (by (with_reducible repeat (first | refine blk_drewN ?_ _ | refine blk_drew ?_ | refine blk_alloc ?_ _)); exact BK282.out)) : gb307 ≠ gb282)); have n12_ := Aside0.mk ((by rw [hg]; exact Nat.ne_of_lt (blk_lt (g := gb283) (o := .cells #[.int .i64 a1_0, .int .i64 a1_1] 24 (0, 0)) (by (with_reducible repeat (first | refine blk_drewN ?_ _ | refine blk_drew ?_ | refine blk_alloc ?_ _)); exact BK283.out)) : gb283 ≠ gb307)); have n13_ := Aside0.mk ((by rw [hg]; exact Nat.ne_of_gt (blk_lt (g := gb283) (o := .cells #[.int .i64 a1_0, .int .i64 a1_1] 24 (0, 0)) (by (with_reducible repeat (first | refine blk_drewN ?_ _ | refine blk_drew ?_ | refine blk_alloc ?_ _)); exact BK283.out)) : gb307 ≠ gb283)); have n14_ := Aside0.mk ((by rw [hg]; exact Nat.ne_of_lt (blk_lt (g := gb291) (o := .cells #[.int .i64 t288, .int .i64 t289] 24 (0, 0)) (by (with_reducible repeat (first | refine blk_drewN ?_ _ | refine blk_drew ?_ | refine blk_alloc ?_ _)); exact BK291.out)) : gb291 ≠ gb307)); have n15_ := Aside0.mk ((by rw [hg]; exact Nat.ne_of_gt (blk_lt (g := gb291) (o := .cells #[.int .i64 t288, .int .i64 t289] 24 (0, 0)) (by (with_reducible repeat (first | refine blk_drewN ?_ _ | refine blk_drew ?_ | refine blk_alloc ?_ _)); exact BK291.out)) : gb307 ≠ gb291)); have n16_ := Aside0.mk ((by rw [hg]; exact Nat.ne_of_lt (blk_lt (g := gb295) (o := .cells #[.int .i64 t292, .int .i64 t293] 24 (0, 0)) (by (with_reducible repeat (first | refine blk_drewN ?_ _ | refine blk_drew ?_ | refine blk_alloc ?_ _)); exact BK295.out)) : gb295 ≠ gb307)); have n17_ := Aside0.mk ((by rw [hg]; exact Nat.ne_of_gt (blk_lt (g := gb295) (o := .cells #[.int .i64 t292, .int .i64 t293] 24 (0, 0)) (by (with_reducible repeat (first | refine blk_drewN ?_ _ | refine blk_drew ?_ | refine blk_alloc ?_ _)); exact BK295.out)) : gb307 ≠ gb295)); have n18_ := Aside0.mk ((by rw [hg]; exact Nat.ne_of_lt (blk_lt (g := gb299) (o := .cells #[.int .i64 t296, .int .i64 t297] 24 (0, 0)) (by (with_reducible repeat (first | refine blk_drewN ?_ _ | refine blk_drew ?_ | refine blk_alloc ?_ _)); exact BK299.out)) : gb299 ≠ gb307)); have n19_ := Aside0.mk ((by rw [hg]; exact Nat.ne_of_gt (blk_lt (g := gb299) (o := .cells #[.int .i64 t296, .int .i64 t297] 24 (0, 0)) (by (with_reducible repeat (first | refine blk_drewN ?_ _ | refine blk_drew ?_ | refine blk_alloc ?_ _)); exact BK299.out)) : gb307 ≠ gb299)); have n20_ := Aside0.mk ((by rw [hg]; exact Nat.ne_of_lt (blk_lt (g := gb303) (o := .cells #[.int .i64 t300, .int .i64 t301] 24 (0, 0)) (by (with_reducible repeat (first | refine blk_drewN ?_ _ | refine blk_drew ?_ | refine blk_alloc ?_ _)); exact BK303.out)) : gb303 ≠ gb307)); have n21_ := Aside0.mk ((by rw [hg]; exact Nat.ne_of_gt (blk_lt (g := gb303) (o := .cells #[.int .i64 t300, .int .i64 t301] 24 (0, 0)) (by (with_reducible repeat (first | refine blk_drewN ?_ _ | refine blk_drew ?_ | refine blk_alloc ?_ _)); exact BK303.out)) : gb307 ≠ gb303)); clear BK282; clear BK283; clear BK291; clear BK295; clear BK299; clear BK303; clear HB; have BK282 := n0_; have BK283 := n1_; have BK291 := n2_; have BK295 := n3_; have BK299 := n4_; have BK303 := n5_; have HB := n6_; have BK307 := n7_; have GW307 := n8_; have GE307 := n9_; have NB282_307 := n10_; have NB307_282 := n11_; have NB283_307 := n12_; have NB307_283 := n13_; have NB291_307 := n14_; have NB307_291 := n15_; have NB295_307 := n16_; have NB307_295 := n17_; have NB299_307 := n18_; have NB307_299 := n19_; have NB303_307 := n20_; have NB307_303 := n21_; clear n0_ n1_ n2_ n3_ n4_ n5_ n6_ n7_ n8_ n9_ n10_ n11_ n12_ n13_ n14_ n15_ n16_ n17_ n18_ n19_ n20_ n21_; clear hb hbox hg; have hnb70 := NB307_282.out; have hnc70 := NB282_307.out; have hnb71 := NB307_283.out; have hnc71 := NB283_307.out; have hnb72 := NB307_291.out; have hnc72 := NB291_307.out; have hnb73 := NB307_295.out; have hnc73 := NB295_307.out; have hnb74 := NB307_299.out; have hnc74 := NB299_307.out; have hnb75 := NB307_303.out; have hnc75 := NB303_307.out; have hcz76_0 : w69.cell? ⟨gb307, 0, none⟩ = some (.int .i64 0) := (blk_cell BK307.out 0).trans rfl; have hcz76_1 : w69.cell? ⟨gb307, 1, none⟩ = some (.int .i64 0) := (blk_cell BK307.out 1).trans rfl; have hfz76_0 := blk_frozen BK307.out 0; have hfz76_1 := blk_frozen BK307.out 1))
        (try simp only [Act.put, List.setIfInBounds_toArray, List.set_cons_zero, List.set_cons_succ])
        go_cut [83] (fun v83 wc => ∃ (kq : Nat) (x83_29 : Bool), v83 = .bool x83_29 ∧ Aside0 (sleuthlaw02_FractionAdds.j1 kq t290 x83_29 a0_0 a0_1 a1_0 a1_1 t288 t289 = some r) ∧ Aside0 (kq ≤ kj2) ∧ Aside0 (wc.heap[gb282]? = some (.cells #[.int .i64 a0_0, .int .i64 a0_1] 24 (0, 0))) ∧ Aside0 (wc.heap[gb283]? = some (.cells #[.int .i64 a1_0, .int .i64 a1_1] 24 (0, 0))) ∧ Aside0 (wc.heap[gb291]? = some (.cells #[.int .i64 t288, .int .i64 t289] 24 (0, 0))) ∧ Aside0 (wc.heap[gb295]? = some (.cells #[.int .i64 t292, .int .i64 t293] 24 (0, 0))) ∧ Aside0 (wc.heap[gb299]? = some (.cells #[.int .i64 t296, .int .i64 t297] 24 (0, 0))) ∧ Aside0 (wc.heap[gb303]? = some (.cells #[.int .i64 t300, .int .i64 t301] 24 (0, 0))) ∧ Aside0 (wc.heap[gb307]? = some (.cells #[.int .i64 t304, .int .i64 t305] 24 (0, 0))) ∧ Aside0 (Below w.heap.size w wc))
        case first =>
          have H := HC30.out
          clear HC30
          replace H := Option.bind_eq_some_iff.mp H
          obtain ⟨t308, A770, H⟩ := H
          replace H : (if t308 = true then ((sleuthlaw02_is.f t296 t297 t298 t300 t301 t302).bind fun t309 => (if t309 = true then (if (!(t304 == t288) || (!(t305 == t289))) = true then (sleuthlaw02_FractionAdds.j1 kj2 t290 true a0_0 a0_1 a1_0 a1_1 t288 t289) else (sleuthlaw02_FractionAdds.j1 kj2 t290 (t306 != t290) a0_0 a0_1 a1_0 a1_1 t288 t289)) else (sleuthlaw02_FractionAdds.j1 kj2 t290 true a0_0 a0_1 a1_0 a1_1 t288 t289))) else (sleuthlaw02_FractionAdds.j1 kj2 t290 true a0_0 a0_1 a1_0 a1_1 t288 t289)) = some r := H
          have A77 := Aside0.mk A770
          clear A770
          by_cases c78 : t308 = true
          · subst c78
            have H1 : ((sleuthlaw02_is.f t296 t297 t298 t300 t301 t302).bind fun t309 => (if t309 = true then (if (!(t304 == t288) || (!(t305 == t289))) = true then (sleuthlaw02_FractionAdds.j1 kj2 t290 true a0_0 a0_1 a1_0 a1_1 t288 t289) else (sleuthlaw02_FractionAdds.j1 kj2 t290 (t306 != t290) a0_0 a0_1 a1_0 a1_1 t288 t289)) else (sleuthlaw02_FractionAdds.j1 kj2 t290 true a0_0 a0_1 a1_0 a1_1 t288 t289))) = some r := by rw [if_pos rfl] at H; exact H
            clear H
            have H := H1
            clear H1
            replace H := Option.bind_eq_some_iff.mp H
            obtain ⟨t309, A790, H⟩ := H
            replace H : (if t309 = true then (if (!(t304 == t288) || (!(t305 == t289))) = true then (sleuthlaw02_FractionAdds.j1 kj2 t290 true a0_0 a0_1 a1_0 a1_1 t288 t289) else (sleuthlaw02_FractionAdds.j1 kj2 t290 (t306 != t290) a0_0 a0_1 a1_0 a1_1 t288 t289)) else (sleuthlaw02_FractionAdds.j1 kj2 t290 true a0_0 a0_1 a1_0 a1_1 t288 t289)) = some r := H
            have A79 := Aside0.mk A790
            clear A790
            by_cases c80 : t309 = true
            · subst c80
              have H1 : (if (!(t304 == t288) || (!(t305 == t289))) = true then (sleuthlaw02_FractionAdds.j1 kj2 t290 true a0_0 a0_1 a1_0 a1_1 t288 t289) else (sleuthlaw02_FractionAdds.j1 kj2 t290 (t306 != t290) a0_0 a0_1 a1_0 a1_1 t288 t289)) = some r := by rw [if_pos rfl] at H; exact H
              clear H
              have H := H1
              clear H1
              by_cases c81 : (!(t304 == t288) || (!(t305 == t289))) = true
              · rw [if_pos c81] at H
                have c81b0 : (!(t304 == t288) || (!(t305 == t289))) = true := c81
                clear c81
                (first | rw [c81b0] | (simp only [i64_w, i32_w]; rw [c81b0]) | skip)
                have H' := Aside0.mk H
                clear H
                have hnb82 := NB291_282.out
                have hnc82 := NB282_291.out
                have hnb83 := NB291_283.out
                have hnc83 := NB283_291.out
                have hnb84 := NB291_295.out
                have hnc84 := NB295_291.out
                have hnb85 := NB291_299.out
                have hnc85 := NB299_291.out
                have hnb86 := NB291_303.out
                have hnc86 := NB303_291.out
                have hnb87 := NB291_307.out
                have hnc87 := NB307_291.out
                have hcz88_0 : w69.cell? ⟨gb291, 0, none⟩ = some (.int .i64 t288) := (blk_cell BK291.out 0).trans rfl
                have hcz88_1 : w69.cell? ⟨gb291, 1, none⟩ = some (.int .i64 t289) := (blk_cell BK291.out 1).trans rfl
                have hfz88_0 := blk_frozen BK291.out 0
                have hfz88_1 := blk_frozen BK291.out 1
                have hnb89 := NB295_282.out
                have hnc89 := NB282_295.out
                have hnb90 := NB295_283.out
                have hnc90 := NB283_295.out
                have hnb91 := NB295_299.out
                have hnc91 := NB299_295.out
                have hnb92 := NB295_303.out
                have hnc92 := NB303_295.out
                have hnb93 := NB295_307.out
                have hnc93 := NB307_295.out
                have hcz94_0 : w69.cell? ⟨gb295, 0, none⟩ = some (.int .i64 t292) := (blk_cell BK295.out 0).trans rfl
                have hcz94_1 : w69.cell? ⟨gb295, 1, none⟩ = some (.int .i64 t293) := (blk_cell BK295.out 1).trans rfl
                have hfz94_0 := blk_frozen BK295.out 0
                have hfz94_1 := blk_frozen BK295.out 1
                go_wp2_with (first | ((with_reducible refine gate_callee (f := 17) rfl ?_); refine goesL_ (some 64) rfl rfl Try.func17 (by kernel_rfl) rfl #[.agg #[.int .i64 t288, .int .i64 t289], .int .i64 t290, .agg #[.int .i64 t292, .int .i64 t293], .bool t294] rfl (by (try simp only [List.map_toArray, List.map_cons, List.map_nil]); first | done | rfl | (simp only [List.length_drop, List.length_take]; rfl)) ?_; (with_reducible refine (sleuthlaw02_is.calls t288 t289 t290 t292 t293 t294 true _ A77.out).mono ?_); rintro e w95 ⟨rfl, hb⟩; refine ⟨_, rfl, ?_⟩; have n0_ := Aside0.mk (blk_below (g := gb282) (o := .cells #[.int .i64 a0_0, .int .i64 a0_1] 24 (0, 0)) (by (with_reducible repeat (first | refine blk_drewN ?_ _ | refine blk_drew ?_ | refine blk_alloc ?_ _)); refine blk_far ?_ NB282_307.out _; (with_reducible repeat (first | refine blk_drewN ?_ _ | refine blk_drew ?_ | refine blk_alloc ?_ _)); refine blk_far ?_ NB282_307.out _; (with_reducible repeat (first | refine blk_drewN ?_ _ | refine blk_drew ?_ | refine blk_alloc ?_ _)); exact BK282.out) hb); have n1_ := Aside0.mk (blk_below (g := gb283) (o := .cells #[.int .i64 a1_0, .int .i64 a1_1] 24 (0, 0)) (by (with_reducible repeat (first | refine blk_drewN ?_ _ | refine blk_drew ?_ | refine blk_alloc ?_ _)); refine blk_far ?_ NB283_307.out _; (with_reducible repeat (first | refine blk_drewN ?_ _ | refine blk_drew ?_ | refine blk_alloc ?_ _)); refine blk_far ?_ NB283_307.out _; (with_reducible repeat (first | refine blk_drewN ?_ _ | refine blk_drew ?_ | refine blk_alloc ?_ _)); exact BK283.out) hb); have n2_ := Aside0.mk (blk_below (g := gb291) (o := .cells #[.int .i64 t288, .int .i64 t289] 24 (0, 0)) (by (with_reducible repeat (first | refine blk_drewN ?_ _ | refine blk_drew ?_ | refine blk_alloc ?_ _)); refine blk_far ?_ NB291_307.out _; (with_reducible repeat (first | refine blk_drewN ?_ _ | refine blk_drew ?_ | refine blk_alloc ?_ _)); refine blk_far ?_ NB291_307.out _; (with_reducible repeat (first | refine blk_drewN ?_ _ | refine blk_drew ?_ | refine blk_alloc ?_ _)); exact BK291.out) hb); have n3_ := Aside0.mk (blk_below (g := gb295) (o := .cells #[.int .i64 t292, .int .i64 t293] 24 (0, 0)) (by (with_reducible repeat (first | refine blk_drewN ?_ _ | refine blk_drew ?_ | refine blk_alloc ?_ _)); refine blk_far ?_ NB295_307.out _; (with_reducible repeat (first | refine blk_drewN ?_ _ | refine blk_drew ?_ | refine blk_alloc ?_ _)); refine blk_far ?_ NB295_307.out _; (with_reducible repeat (first | refine blk_drewN ?_ _ | refine blk_drew ?_ | refine blk_alloc ?_ _)); exact BK295.out) hb); have n4_ := Aside0.mk (blk_below (g := gb299) (o := .cells #[.int .i64 t296, .int .i64 t297] 24 (0, 0)) (by (with_reducible repeat (first | refine blk_drewN ?_ _ | refine blk_drew ?_ | refine blk_alloc ?_ _)); refine blk_far ?_ NB299_307.out _; (with_reducible repeat (first | refine blk_drewN ?_ _ | refine blk_drew ?_ | refine blk_alloc ?_ _)); refine blk_far ?_ NB299_307.out _; (with_reducible repeat (first | refine blk_drewN ?_ _ | refine blk_drew ?_ | refine blk_alloc ?_ _)); exact BK299.out) hb); have n5_ := Aside0.mk (blk_below (g := gb303) (o := .cells #[.int .i64 t300, .int .i64 t301] 24 (0, 0)) (by (with_reducible repeat (first | refine blk_drewN ?_ _ | refine blk_drew ?_ | refine blk_alloc ?_ _)); refine blk_far ?_ NB303_307.out _; (with_reducible repeat (first | refine blk_drewN ?_ _ | refine blk_drew ?_ | refine blk_alloc ?_ _)); refine blk_far ?_ NB303_307.out _; (with_reducible repeat (first | refine blk_drewN ?_ _ | refine blk_drew ?_ | refine blk_alloc ?_ _)); exact BK303.out) hb); have n6_ := Aside0.mk (blk_below (g := gb307) (o := .cells #[.int .i64 t304, .int .i64 t305] 24 (0, 0)) (by (with_reducible repeat (first | refine blk_drewN ?_ _ | refine blk_drew ?_ | refine blk_alloc ?_ _)); refine blk_put (cs := #[.int .i64 t304, .int .i64 0]) ?_ 1 _ rfl; (with_reducible repeat (first | refine blk_drewN ?_ _ | refine blk_drew ?_ | refine blk_alloc ?_ _)); refine blk_put (cs := #[.int .i64 0, .int .i64 0]) ?_ 0 _ rfl; (with_reducible repeat (first | refine blk_drewN ?_ _ | refine blk_drew ?_ | refine blk_alloc ?_ _)); exact BK307.out) hb); have n7_ := Aside0.mk (below_step (by repeat (first | (with_reducible first | exact HB.out | apply below_alloc | apply pw_below_drewN | apply below_drew1 | refine below_set ?_ GE282.out | refine below_set ?_ GE283.out | refine below_set ?_ GE291.out | refine below_set ?_ GE295.out | refine below_set ?_ GE299.out | refine below_set ?_ GE303.out | refine below_set ?_ GE307.out) | exact HB.out)) hb); clear BK282; clear BK283; clear BK291; clear BK295; clear BK299; clear BK303; clear BK307; clear HB; have BK282 := n0_; have BK283 := n1_; have BK291 := n2_; have BK295 := n3_; have BK299 := n4_; have BK303 := n5_; have BK307 := n6_; have HB := n7_; clear n0_ n1_ n2_ n3_ n4_ n5_ n6_ n7_; (try clear hb); (try clear hb2); (try clear hk); (try clear hi); have hnb96 := NB299_282.out; have hnc96 := NB282_299.out; have hnb97 := NB299_283.out; have hnc97 := NB283_299.out; have hnb98 := NB299_303.out; have hnc98 := NB303_299.out; have hnb99 := NB299_307.out; have hnc99 := NB307_299.out; have hcz100_0 : w95.cell? ⟨gb299, 0, none⟩ = some (.int .i64 t296) := (blk_cell BK299.out 0).trans rfl; have hcz100_1 : w95.cell? ⟨gb299, 1, none⟩ = some (.int .i64 t297) := (blk_cell BK299.out 1).trans rfl; have hfz100_0 := blk_frozen BK299.out 0; have hfz100_1 := blk_frozen BK299.out 1; have hnb101 := NB303_282.out; have hnc101 := NB282_303.out; have hnb102 := NB303_283.out; have hnc102 := NB283_303.out; have hnb103 := NB303_307.out; have hnc103 := NB307_303.out; have hcz104_0 : w95.cell? ⟨gb303, 0, none⟩ = some (.int .i64 t300) := (blk_cell BK303.out 0).trans rfl; have hcz104_1 : w95.cell? ⟨gb303, 1, none⟩ = some (.int .i64 t301) := (blk_cell BK303.out 1).trans rfl; have hfz104_0 := blk_frozen BK303.out 0; have hfz104_1 := blk_frozen BK303.out 1) | (go_at_call 17; (with_reducible refine (sleuthlaw02_is.calls t296 t297 t298 t300 t301 t302 true _ A79.out).mono ?_); rintro e w105 ⟨rfl, hb⟩; have n0_ := Aside0.mk (blk_below (g := gb282) (o := .cells #[.int .i64 a0_0, .int .i64 a0_1] 24 (0, 0)) (by (with_reducible repeat (first | refine blk_drewN ?_ _ | refine blk_drew ?_ | refine blk_alloc ?_ _)); exact BK282.out) hb); have n1_ := Aside0.mk (blk_below (g := gb283) (o := .cells #[.int .i64 a1_0, .int .i64 a1_1] 24 (0, 0)) (by (with_reducible repeat (first | refine blk_drewN ?_ _ | refine blk_drew ?_ | refine blk_alloc ?_ _)); exact BK283.out) hb); have n2_ := Aside0.mk (blk_below (g := gb291) (o := .cells #[.int .i64 t288, .int .i64 t289] 24 (0, 0)) (by (with_reducible repeat (first | refine blk_drewN ?_ _ | refine blk_drew ?_ | refine blk_alloc ?_ _)); exact BK291.out) hb); have n3_ := Aside0.mk (blk_below (g := gb295) (o := .cells #[.int .i64 t292, .int .i64 t293] 24 (0, 0)) (by (with_reducible repeat (first | refine blk_drewN ?_ _ | refine blk_drew ?_ | refine blk_alloc ?_ _)); exact BK295.out) hb); have n4_ := Aside0.mk (blk_below (g := gb299) (o := .cells #[.int .i64 t296, .int .i64 t297] 24 (0, 0)) (by (with_reducible repeat (first | refine blk_drewN ?_ _ | refine blk_drew ?_ | refine blk_alloc ?_ _)); exact BK299.out) hb); have n5_ := Aside0.mk (blk_below (g := gb303) (o := .cells #[.int .i64 t300, .int .i64 t301] 24 (0, 0)) (by (with_reducible repeat (first | refine blk_drewN ?_ _ | refine blk_drew ?_ | refine blk_alloc ?_ _)); exact BK303.out) hb); have n6_ := Aside0.mk (blk_below (g := gb307) (o := .cells #[.int .i64 t304, .int .i64 t305] 24 (0, 0)) (by (with_reducible repeat (first | refine blk_drewN ?_ _ | refine blk_drew ?_ | refine blk_alloc ?_ _)); exact BK307.out) hb); have n7_ := Aside0.mk (below_step (by repeat (first | (with_reducible first | exact HB.out | apply below_alloc | apply pw_below_drewN | apply below_drew1 | refine below_set ?_ GE282.out | refine below_set ?_ GE283.out | refine below_set ?_ GE291.out | refine below_set ?_ GE295.out | refine below_set ?_ GE299.out | refine below_set ?_ GE303.out | refine below_set ?_ GE307.out) | exact HB.out)) hb); clear BK282; clear BK283; clear BK291; clear BK295; clear BK299; clear BK303; clear BK307; clear HB; have BK282 := n0_; have BK283 := n1_; have BK291 := n2_; have BK295 := n3_; have BK299 := n4_; have BK303 := n5_; have BK307 := n6_; have HB := n7_; clear n0_ n1_ n2_ n3_ n4_ n5_ n6_ n7_; (try clear hb); (try clear hb2); (try clear hk); (try clear hi); have hnb106 := NB307_282.out; have hnc106 := NB282_307.out; have hnb107 := NB307_283.out; have hnc107 := NB283_307.out; have hcz108_0 : w105.cell? ⟨gb307, 0, none⟩ = some (.int .i64 t304) := (blk_cell BK307.out 0).trans rfl; have hcz108_1 : w105.cell? ⟨gb307, 1, none⟩ = some (.int .i64 t305) := (blk_cell BK307.out 1).trans rfl; have hfz108_0 := blk_frozen BK307.out 0; have hfz108_1 := blk_frozen BK307.out 1; have hcz109_0 : w105.cell? ⟨gb291, 0, none⟩ = some (.int .i64 t288) := (blk_cell BK291.out 0).trans rfl; have hcz109_1 : w105.cell? ⟨gb291, 1, none⟩ = some (.int .i64 t289) := (blk_cell BK291.out 1).trans rfl; have hfz109_0 := blk_frozen BK291.out 0; have hfz109_1 := blk_frozen BK291.out 1))
                go_meet
                case rel => exact ⟨_, (true), (by first | rfl | (simp; done) | (simp [*]; done)), H', ⟨by have := HJ2.out; first | omega | exact Nat.le_refl _⟩, ⟨by (with_reducible repeat (first | refine blk_drewN ?_ _ | refine blk_drew ?_ | refine blk_alloc ?_ _)); exact BK282.out⟩, ⟨by (with_reducible repeat (first | refine blk_drewN ?_ _ | refine blk_drew ?_ | refine blk_alloc ?_ _)); exact BK283.out⟩, ⟨by (with_reducible repeat (first | refine blk_drewN ?_ _ | refine blk_drew ?_ | refine blk_alloc ?_ _)); exact BK291.out⟩, ⟨by (with_reducible repeat (first | refine blk_drewN ?_ _ | refine blk_drew ?_ | refine blk_alloc ?_ _)); exact BK295.out⟩, ⟨by (with_reducible repeat (first | refine blk_drewN ?_ _ | refine blk_drew ?_ | refine blk_alloc ?_ _)); exact BK299.out⟩, ⟨by (with_reducible repeat (first | refine blk_drewN ?_ _ | refine blk_drew ?_ | refine blk_alloc ?_ _)); exact BK303.out⟩, ⟨by (with_reducible repeat (first | refine blk_drewN ?_ _ | refine blk_drew ?_ | refine blk_alloc ?_ _)); exact BK307.out⟩, ⟨by repeat (first | (with_reducible first | exact HB.out | apply below_alloc | apply pw_below_drewN | apply below_drew1 | refine below_set ?_ GE282.out | refine below_set ?_ GE283.out | refine below_set ?_ GE291.out | refine below_set ?_ GE295.out | refine below_set ?_ GE299.out | refine below_set ?_ GE303.out | refine below_set ?_ GE307.out) | exact HB.out)⟩⟩
              · rw [if_neg c81] at H
                have c81b0 : (!(t304 == t288) || (!(t305 == t289))) = false := by simpa using c81
                clear c81
                (first | rw [c81b0] | (simp only [i64_w, i32_w]; rw [c81b0]) | skip)
                have H' := Aside0.mk H
                clear H
                have hnb110 := NB291_282.out
                have hnc110 := NB282_291.out
                have hnb111 := NB291_283.out
                have hnc111 := NB283_291.out
                have hnb112 := NB291_295.out
                have hnc112 := NB295_291.out
                have hnb113 := NB291_299.out
                have hnc113 := NB299_291.out
                have hnb114 := NB291_303.out
                have hnc114 := NB303_291.out
                have hnb115 := NB291_307.out
                have hnc115 := NB307_291.out
                have hcz116_0 : w69.cell? ⟨gb291, 0, none⟩ = some (.int .i64 t288) := (blk_cell BK291.out 0).trans rfl
                have hcz116_1 : w69.cell? ⟨gb291, 1, none⟩ = some (.int .i64 t289) := (blk_cell BK291.out 1).trans rfl
                have hfz116_0 := blk_frozen BK291.out 0
                have hfz116_1 := blk_frozen BK291.out 1
                have hnb117 := NB295_282.out
                have hnc117 := NB282_295.out
                have hnb118 := NB295_283.out
                have hnc118 := NB283_295.out
                have hnb119 := NB295_299.out
                have hnc119 := NB299_295.out
                have hnb120 := NB295_303.out
                have hnc120 := NB303_295.out
                have hnb121 := NB295_307.out
                have hnc121 := NB307_295.out
                have hcz122_0 : w69.cell? ⟨gb295, 0, none⟩ = some (.int .i64 t292) := (blk_cell BK295.out 0).trans rfl
                have hcz122_1 : w69.cell? ⟨gb295, 1, none⟩ = some (.int .i64 t293) := (blk_cell BK295.out 1).trans rfl
                have hfz122_0 := blk_frozen BK295.out 0
                have hfz122_1 := blk_frozen BK295.out 1
                go_wp2_with (first | ((with_reducible refine gate_callee (f := 17) rfl ?_); refine goesL_ (some 64) rfl rfl Try.func17 (by kernel_rfl) rfl #[.agg #[.int .i64 t288, .int .i64 t289], .int .i64 t290, .agg #[.int .i64 t292, .int .i64 t293], .bool t294] rfl (by (try simp only [List.map_toArray, List.map_cons, List.map_nil]); first | done | rfl | (simp only [List.length_drop, List.length_take]; rfl)) ?_; (with_reducible refine (sleuthlaw02_is.calls t288 t289 t290 t292 t293 t294 true _ A77.out).mono ?_); rintro e w123 ⟨rfl, hb⟩; refine ⟨_, rfl, ?_⟩; have n0_ := Aside0.mk (blk_below (g := gb282) (o := .cells #[.int .i64 a0_0, .int .i64 a0_1] 24 (0, 0)) (by (with_reducible repeat (first | refine blk_drewN ?_ _ | refine blk_drew ?_ | refine blk_alloc ?_ _)); refine blk_far ?_ NB282_307.out _; (with_reducible repeat (first | refine blk_drewN ?_ _ | refine blk_drew ?_ | refine blk_alloc ?_ _)); refine blk_far ?_ NB282_307.out _; (with_reducible repeat (first | refine blk_drewN ?_ _ | refine blk_drew ?_ | refine blk_alloc ?_ _)); exact BK282.out) hb); have n1_ := Aside0.mk (blk_below (g := gb283) (o := .cells #[.int .i64 a1_0, .int .i64 a1_1] 24 (0, 0)) (by (with_reducible repeat (first | refine blk_drewN ?_ _ | refine blk_drew ?_ | refine blk_alloc ?_ _)); refine blk_far ?_ NB283_307.out _; (with_reducible repeat (first | refine blk_drewN ?_ _ | refine blk_drew ?_ | refine blk_alloc ?_ _)); refine blk_far ?_ NB283_307.out _; (with_reducible repeat (first | refine blk_drewN ?_ _ | refine blk_drew ?_ | refine blk_alloc ?_ _)); exact BK283.out) hb); have n2_ := Aside0.mk (blk_below (g := gb291) (o := .cells #[.int .i64 t288, .int .i64 t289] 24 (0, 0)) (by (with_reducible repeat (first | refine blk_drewN ?_ _ | refine blk_drew ?_ | refine blk_alloc ?_ _)); refine blk_far ?_ NB291_307.out _; (with_reducible repeat (first | refine blk_drewN ?_ _ | refine blk_drew ?_ | refine blk_alloc ?_ _)); refine blk_far ?_ NB291_307.out _; (with_reducible repeat (first | refine blk_drewN ?_ _ | refine blk_drew ?_ | refine blk_alloc ?_ _)); exact BK291.out) hb); have n3_ := Aside0.mk (blk_below (g := gb295) (o := .cells #[.int .i64 t292, .int .i64 t293] 24 (0, 0)) (by (with_reducible repeat (first | refine blk_drewN ?_ _ | refine blk_drew ?_ | refine blk_alloc ?_ _)); refine blk_far ?_ NB295_307.out _; (with_reducible repeat (first | refine blk_drewN ?_ _ | refine blk_drew ?_ | refine blk_alloc ?_ _)); refine blk_far ?_ NB295_307.out _; (with_reducible repeat (first | refine blk_drewN ?_ _ | refine blk_drew ?_ | refine blk_alloc ?_ _)); exact BK295.out) hb); have n4_ := Aside0.mk (blk_below (g := gb299) (o := .cells #[.int .i64 t296, .int .i64 t297] 24 (0, 0)) (by (with_reducible repeat (first | refine blk_drewN ?_ _ | refine blk_drew ?_ | refine blk_alloc ?_ _)); refine blk_far ?_ NB299_307.out _; (with_reducible repeat (first | refine blk_drewN ?_ _ | refine blk_drew ?_ | refine blk_alloc ?_ _)); refine blk_far ?_ NB299_307.out _; (with_reducible repeat (first | refine blk_drewN ?_ _ | refine blk_drew ?_ | refine blk_alloc ?_ _)); exact BK299.out) hb); have n5_ := Aside0.mk (blk_below (g := gb303) (o := .cells #[.int .i64 t300, .int .i64 t301] 24 (0, 0)) (by (with_reducible repeat (first | refine blk_drewN ?_ _ | refine blk_drew ?_ | refine blk_alloc ?_ _)); refine blk_far ?_ NB303_307.out _; (with_reducible repeat (first | refine blk_drewN ?_ _ | refine blk_drew ?_ | refine blk_alloc ?_ _)); refine blk_far ?_ NB303_307.out _; (with_reducible repeat (first | refine blk_drewN ?_ _ | refine blk_drew ?_ | refine blk_alloc ?_ _)); exact BK303.out) hb); have n6_ := Aside0.mk (blk_below (g := gb307) (o := .cells #[.int .i64 t304, .int .i64 t305] 24 (0, 0)) (by (with_reducible repeat (first | refine blk_drewN ?_ _ | refine blk_drew ?_ | refine blk_alloc ?_ _)); refine blk_put (cs := #[.int .i64 t304, .int .i64 0]) ?_ 1 _ rfl; (with_reducible repeat (first | refine blk_drewN ?_ _ | refine blk_drew ?_ | refine blk_alloc ?_ _)); refine blk_put (cs := #[.int .i64 0, .int .i64 0]) ?_ 0 _ rfl; (with_reducible repeat (first | refine blk_drewN ?_ _ | refine blk_drew ?_ | refine blk_alloc ?_ _)); exact BK307.out) hb); have n7_ := Aside0.mk (below_step (by repeat (first | (with_reducible first | exact HB.out | apply below_alloc | apply pw_below_drewN | apply below_drew1 | refine below_set ?_ GE282.out | refine below_set ?_ GE283.out | refine below_set ?_ GE291.out | refine below_set ?_ GE295.out | refine below_set ?_ GE299.out | refine below_set ?_ GE303.out | refine below_set ?_ GE307.out) | exact HB.out)) hb); clear BK282; clear BK283; clear BK291; clear BK295; clear BK299; clear BK303; clear BK307; clear HB; have BK282 := n0_; have BK283 := n1_; have BK291 := n2_; have BK295 := n3_; have BK299 := n4_; have BK303 := n5_; have BK307 := n6_; have HB := n7_; clear n0_ n1_ n2_ n3_ n4_ n5_ n6_ n7_; (try clear hb); (try clear hb2); (try clear hk); (try clear hi); have hnb124 := NB299_282.out; have hnc124 := NB282_299.out; have hnb125 := NB299_283.out; have hnc125 := NB283_299.out; have hnb126 := NB299_303.out; have hnc126 := NB303_299.out; have hnb127 := NB299_307.out; have hnc127 := NB307_299.out; have hcz128_0 : w123.cell? ⟨gb299, 0, none⟩ = some (.int .i64 t296) := (blk_cell BK299.out 0).trans rfl; have hcz128_1 : w123.cell? ⟨gb299, 1, none⟩ = some (.int .i64 t297) := (blk_cell BK299.out 1).trans rfl; have hfz128_0 := blk_frozen BK299.out 0; have hfz128_1 := blk_frozen BK299.out 1; have hnb129 := NB303_282.out; have hnc129 := NB282_303.out; have hnb130 := NB303_283.out; have hnc130 := NB283_303.out; have hnb131 := NB303_307.out; have hnc131 := NB307_303.out; have hcz132_0 : w123.cell? ⟨gb303, 0, none⟩ = some (.int .i64 t300) := (blk_cell BK303.out 0).trans rfl; have hcz132_1 : w123.cell? ⟨gb303, 1, none⟩ = some (.int .i64 t301) := (blk_cell BK303.out 1).trans rfl; have hfz132_0 := blk_frozen BK303.out 0; have hfz132_1 := blk_frozen BK303.out 1) | (go_at_call 17; (with_reducible refine (sleuthlaw02_is.calls t296 t297 t298 t300 t301 t302 true _ A79.out).mono ?_); rintro e w133 ⟨rfl, hb⟩; have n0_ := Aside0.mk (blk_below (g := gb282) (o := .cells #[.int .i64 a0_0, .int .i64 a0_1] 24 (0, 0)) (by (with_reducible repeat (first | refine blk_drewN ?_ _ | refine blk_drew ?_ | refine blk_alloc ?_ _)); exact BK282.out) hb); have n1_ := Aside0.mk (blk_below (g := gb283) (o := .cells #[.int .i64 a1_0, .int .i64 a1_1] 24 (0, 0)) (by (with_reducible repeat (first | refine blk_drewN ?_ _ | refine blk_drew ?_ | refine blk_alloc ?_ _)); exact BK283.out) hb); have n2_ := Aside0.mk (blk_below (g := gb291) (o := .cells #[.int .i64 t288, .int .i64 t289] 24 (0, 0)) (by (with_reducible repeat (first | refine blk_drewN ?_ _ | refine blk_drew ?_ | refine blk_alloc ?_ _)); exact BK291.out) hb); have n3_ := Aside0.mk (blk_below (g := gb295) (o := .cells #[.int .i64 t292, .int .i64 t293] 24 (0, 0)) (by (with_reducible repeat (first | refine blk_drewN ?_ _ | refine blk_drew ?_ | refine blk_alloc ?_ _)); exact BK295.out) hb); have n4_ := Aside0.mk (blk_below (g := gb299) (o := .cells #[.int .i64 t296, .int .i64 t297] 24 (0, 0)) (by (with_reducible repeat (first | refine blk_drewN ?_ _ | refine blk_drew ?_ | refine blk_alloc ?_ _)); exact BK299.out) hb); have n5_ := Aside0.mk (blk_below (g := gb303) (o := .cells #[.int .i64 t300, .int .i64 t301] 24 (0, 0)) (by (with_reducible repeat (first | refine blk_drewN ?_ _ | refine blk_drew ?_ | refine blk_alloc ?_ _)); exact BK303.out) hb); have n6_ := Aside0.mk (blk_below (g := gb307) (o := .cells #[.int .i64 t304, .int .i64 t305] 24 (0, 0)) (by (with_reducible repeat (first | refine blk_drewN ?_ _ | refine blk_drew ?_ | refine blk_alloc ?_ _)); exact BK307.out) hb); have n7_ := Aside0.mk (below_step (by repeat (first | (with_reducible first | exact HB.out | apply below_alloc | apply pw_below_drewN | apply below_drew1 | refine below_set ?_ GE282.out | refine below_set ?_ GE283.out | refine below_set ?_ GE291.out | refine below_set ?_ GE295.out | refine below_set ?_ GE299.out | refine below_set ?_ GE303.out | refine below_set ?_ GE307.out) | exact HB.out)) hb); clear BK282; clear BK283; clear BK291; clear BK295; clear BK299; clear BK303; clear BK307; clear HB; have BK282 := n0_; have BK283 := n1_; have BK291 := n2_; have BK295 := n3_; have BK299 := n4_; have BK303 := n5_; have BK307 := n6_; have HB := n7_; clear n0_ n1_ n2_ n3_ n4_ n5_ n6_ n7_; (try clear hb); (try clear hb2); (try clear hk); (try clear hi); have hnb134 := NB307_282.out; have hnc134 := NB282_307.out; have hnb135 := NB307_283.out; have hnc135 := NB283_307.out; have hcz136_0 : w133.cell? ⟨gb307, 0, none⟩ = some (.int .i64 t304) := (blk_cell BK307.out 0).trans rfl; have hcz136_1 : w133.cell? ⟨gb307, 1, none⟩ = some (.int .i64 t305) := (blk_cell BK307.out 1).trans rfl; have hfz136_0 := blk_frozen BK307.out 0; have hfz136_1 := blk_frozen BK307.out 1; have hcz137_0 : w133.cell? ⟨gb291, 0, none⟩ = some (.int .i64 t288) := (blk_cell BK291.out 0).trans rfl; have hcz137_1 : w133.cell? ⟨gb291, 1, none⟩ = some (.int .i64 t289) := (blk_cell BK291.out 1).trans rfl; have hfz137_0 := blk_frozen BK291.out 0; have hfz137_1 := blk_frozen BK291.out 1))
                go_meet
                case rel => exact ⟨_, ((t306 != t290)), (by first | rfl | (simp; done) | (simp [*]; done)), H', ⟨by have := HJ2.out; first | omega | exact Nat.le_refl _⟩, ⟨by (with_reducible repeat (first | refine blk_drewN ?_ _ | refine blk_drew ?_ | refine blk_alloc ?_ _)); exact BK282.out⟩, ⟨by (with_reducible repeat (first | refine blk_drewN ?_ _ | refine blk_drew ?_ | refine blk_alloc ?_ _)); exact BK283.out⟩, ⟨by (with_reducible repeat (first | refine blk_drewN ?_ _ | refine blk_drew ?_ | refine blk_alloc ?_ _)); exact BK291.out⟩, ⟨by (with_reducible repeat (first | refine blk_drewN ?_ _ | refine blk_drew ?_ | refine blk_alloc ?_ _)); exact BK295.out⟩, ⟨by (with_reducible repeat (first | refine blk_drewN ?_ _ | refine blk_drew ?_ | refine blk_alloc ?_ _)); exact BK299.out⟩, ⟨by (with_reducible repeat (first | refine blk_drewN ?_ _ | refine blk_drew ?_ | refine blk_alloc ?_ _)); exact BK303.out⟩, ⟨by (with_reducible repeat (first | refine blk_drewN ?_ _ | refine blk_drew ?_ | refine blk_alloc ?_ _)); exact BK307.out⟩, ⟨by repeat (first | (with_reducible first | exact HB.out | apply below_alloc | apply pw_below_drewN | apply below_drew1 | refine below_set ?_ GE282.out | refine below_set ?_ GE283.out | refine below_set ?_ GE291.out | refine below_set ?_ GE295.out | refine below_set ?_ GE299.out | refine below_set ?_ GE303.out | refine below_set ?_ GE307.out) | exact HB.out)⟩⟩
            · replace c80 := Bool.eq_false_iff.mpr c80
              subst c80
              have H1 : (sleuthlaw02_FractionAdds.j1 kj2 t290 true a0_0 a0_1 a1_0 a1_1 t288 t289) = some r := by rw [if_neg (show ¬ (false = true) by decide)] at H; exact H
              clear H
              have H := H1
              clear H1
              have H' := Aside0.mk H
              clear H
              have hnb138 := NB291_282.out
              have hnc138 := NB282_291.out
              have hnb139 := NB291_283.out
              have hnc139 := NB283_291.out
              have hnb140 := NB291_295.out
              have hnc140 := NB295_291.out
              have hnb141 := NB291_299.out
              have hnc141 := NB299_291.out
              have hnb142 := NB291_303.out
              have hnc142 := NB303_291.out
              have hnb143 := NB291_307.out
              have hnc143 := NB307_291.out
              have hcz144_0 : w69.cell? ⟨gb291, 0, none⟩ = some (.int .i64 t288) := (blk_cell BK291.out 0).trans rfl
              have hcz144_1 : w69.cell? ⟨gb291, 1, none⟩ = some (.int .i64 t289) := (blk_cell BK291.out 1).trans rfl
              have hfz144_0 := blk_frozen BK291.out 0
              have hfz144_1 := blk_frozen BK291.out 1
              have hnb145 := NB295_282.out
              have hnc145 := NB282_295.out
              have hnb146 := NB295_283.out
              have hnc146 := NB283_295.out
              have hnb147 := NB295_299.out
              have hnc147 := NB299_295.out
              have hnb148 := NB295_303.out
              have hnc148 := NB303_295.out
              have hnb149 := NB295_307.out
              have hnc149 := NB307_295.out
              have hcz150_0 : w69.cell? ⟨gb295, 0, none⟩ = some (.int .i64 t292) := (blk_cell BK295.out 0).trans rfl
              have hcz150_1 : w69.cell? ⟨gb295, 1, none⟩ = some (.int .i64 t293) := (blk_cell BK295.out 1).trans rfl
              have hfz150_0 := blk_frozen BK295.out 0
              have hfz150_1 := blk_frozen BK295.out 1
              go_wp2_with (first | ((with_reducible refine gate_callee (f := 17) rfl ?_); refine goesL_ (some 64) rfl rfl Try.func17 (by kernel_rfl) rfl #[.agg #[.int .i64 t288, .int .i64 t289], .int .i64 t290, .agg #[.int .i64 t292, .int .i64 t293], .bool t294] rfl (by (try simp only [List.map_toArray, List.map_cons, List.map_nil]); first | done | rfl | (simp only [List.length_drop, List.length_take]; rfl)) ?_; (with_reducible refine (sleuthlaw02_is.calls t288 t289 t290 t292 t293 t294 true _ A77.out).mono ?_); rintro e w151 ⟨rfl, hb⟩; refine ⟨_, rfl, ?_⟩; have n0_ := Aside0.mk (blk_below (g := gb282) (o := .cells #[.int .i64 a0_0, .int .i64 a0_1] 24 (0, 0)) (by (with_reducible repeat (first | refine blk_drewN ?_ _ | refine blk_drew ?_ | refine blk_alloc ?_ _)); refine blk_far ?_ NB282_307.out _; (with_reducible repeat (first | refine blk_drewN ?_ _ | refine blk_drew ?_ | refine blk_alloc ?_ _)); refine blk_far ?_ NB282_307.out _; (with_reducible repeat (first | refine blk_drewN ?_ _ | refine blk_drew ?_ | refine blk_alloc ?_ _)); exact BK282.out) hb); have n1_ := Aside0.mk (blk_below (g := gb283) (o := .cells #[.int .i64 a1_0, .int .i64 a1_1] 24 (0, 0)) (by (with_reducible repeat (first | refine blk_drewN ?_ _ | refine blk_drew ?_ | refine blk_alloc ?_ _)); refine blk_far ?_ NB283_307.out _; (with_reducible repeat (first | refine blk_drewN ?_ _ | refine blk_drew ?_ | refine blk_alloc ?_ _)); refine blk_far ?_ NB283_307.out _; (with_reducible repeat (first | refine blk_drewN ?_ _ | refine blk_drew ?_ | refine blk_alloc ?_ _)); exact BK283.out) hb); have n2_ := Aside0.mk (blk_below (g := gb291) (o := .cells #[.int .i64 t288, .int .i64 t289] 24 (0, 0)) (by (with_reducible repeat (first | refine blk_drewN ?_ _ | refine blk_drew ?_ | refine blk_alloc ?_ _)); refine blk_far ?_ NB291_307.out _; (with_reducible repeat (first | refine blk_drewN ?_ _ | refine blk_drew ?_ | refine blk_alloc ?_ _)); refine blk_far ?_ NB291_307.out _; (with_reducible repeat (first | refine blk_drewN ?_ _ | refine blk_drew ?_ | refine blk_alloc ?_ _)); exact BK291.out) hb); have n3_ := Aside0.mk (blk_below (g := gb295) (o := .cells #[.int .i64 t292, .int .i64 t293] 24 (0, 0)) (by (with_reducible repeat (first | refine blk_drewN ?_ _ | refine blk_drew ?_ | refine blk_alloc ?_ _)); refine blk_far ?_ NB295_307.out _; (with_reducible repeat (first | refine blk_drewN ?_ _ | refine blk_drew ?_ | refine blk_alloc ?_ _)); refine blk_far ?_ NB295_307.out _; (with_reducible repeat (first | refine blk_drewN ?_ _ | refine blk_drew ?_ | refine blk_alloc ?_ _)); exact BK295.out) hb); have n4_ := Aside0.mk (blk_below (g := gb299) (o := .cells #[.int .i64 t296, .int .i64 t297] 24 (0, 0)) (by (with_reducible repeat (first | refine blk_drewN ?_ _ | refine blk_drew ?_ | refine blk_alloc ?_ _)); refine blk_far ?_ NB299_307.out _; (with_reducible repeat (first | refine blk_drewN ?_ _ | refine blk_drew ?_ | refine blk_alloc ?_ _)); refine blk_far ?_ NB299_307.out _; (with_reducible repeat (first | refine blk_drewN ?_ _ | refine blk_drew ?_ | refine blk_alloc ?_ _)); exact BK299.out) hb); have n5_ := Aside0.mk (blk_below (g := gb303) (o := .cells #[.int .i64 t300, .int .i64 t301] 24 (0, 0)) (by (with_reducible repeat (first | refine blk_drewN ?_ _ | refine blk_drew ?_ | refine blk_alloc ?_ _)); refine blk_far ?_ NB303_307.out _; (with_reducible repeat (first | refine blk_drewN ?_ _ | refine blk_drew ?_ | refine blk_alloc ?_ _)); refine blk_far ?_ NB303_307.out _; (with_reducible repeat (first | refine blk_drewN ?_ _ | refine blk_drew ?_ | refine blk_alloc ?_ _)); exact BK303.out) hb); have n6_ := Aside0.mk (blk_below (g := gb307) (o := .cells #[.int .i64 t304, .int .i64 t305] 24 (0, 0)) (by (with_reducible repeat (first | refine blk_drewN ?_ _ | refine blk_drew ?_ | refine blk_alloc ?_ _)); refine blk_put (cs := #[.int .i64 t304, .int .i64 0]) ?_ 1 _ rfl; (with_reducible repeat (first | refine blk_drewN ?_ _ | refine blk_drew ?_ | refine blk_alloc ?_ _)); refine blk_put (cs := #[.int .i64 0, .int .i64 0]) ?_ 0 _ rfl; (with_reducible repeat (first | refine blk_drewN ?_ _ | refine blk_drew ?_ | refine blk_alloc ?_ _)); exact BK307.out) hb); have n7_ := Aside0.mk (below_step (by repeat (first | (with_reducible first | exact HB.out | apply below_alloc | apply pw_below_drewN | apply below_drew1 | refine below_set ?_ GE282.out | refine below_set ?_ GE283.out | refine below_set ?_ GE291.out | refine below_set ?_ GE295.out | refine below_set ?_ GE299.out | refine below_set ?_ GE303.out | refine below_set ?_ GE307.out) | exact HB.out)) hb); clear BK282; clear BK283; clear BK291; clear BK295; clear BK299; clear BK303; clear BK307; clear HB; have BK282 := n0_; have BK283 := n1_; have BK291 := n2_; have BK295 := n3_; have BK299 := n4_; have BK303 := n5_; have BK307 := n6_; have HB := n7_; clear n0_ n1_ n2_ n3_ n4_ n5_ n6_ n7_; (try clear hb); (try clear hb2); (try clear hk); (try clear hi); have hnb152 := NB299_282.out; have hnc152 := NB282_299.out; have hnb153 := NB299_283.out; have hnc153 := NB283_299.out; have hnb154 := NB299_303.out; have hnc154 := NB303_299.out; have hnb155 := NB299_307.out; have hnc155 := NB307_299.out; have hcz156_0 : w151.cell? ⟨gb299, 0, none⟩ = some (.int .i64 t296) := (blk_cell BK299.out 0).trans rfl; have hcz156_1 : w151.cell? ⟨gb299, 1, none⟩ = some (.int .i64 t297) := (blk_cell BK299.out 1).trans rfl; have hfz156_0 := blk_frozen BK299.out 0; have hfz156_1 := blk_frozen BK299.out 1; have hnb157 := NB303_282.out; have hnc157 := NB282_303.out; have hnb158 := NB303_283.out; have hnc158 := NB283_303.out; have hnb159 := NB303_307.out; have hnc159 := NB307_303.out; have hcz160_0 : w151.cell? ⟨gb303, 0, none⟩ = some (.int .i64 t300) := (blk_cell BK303.out 0).trans rfl; have hcz160_1 : w151.cell? ⟨gb303, 1, none⟩ = some (.int .i64 t301) := (blk_cell BK303.out 1).trans rfl; have hfz160_0 := blk_frozen BK303.out 0; have hfz160_1 := blk_frozen BK303.out 1) | (go_at_call 17; (with_reducible refine (sleuthlaw02_is.calls t296 t297 t298 t300 t301 t302 false _ A79.out).mono ?_); rintro e w161 ⟨rfl, hb⟩; have n0_ := Aside0.mk (blk_below (g := gb282) (o := .cells #[.int .i64 a0_0, .int .i64 a0_1] 24 (0, 0)) (by (with_reducible repeat (first | refine blk_drewN ?_ _ | refine blk_drew ?_ | refine blk_alloc ?_ _)); exact BK282.out) hb); have n1_ := Aside0.mk (blk_below (g := gb283) (o := .cells #[.int .i64 a1_0, .int .i64 a1_1] 24 (0, 0)) (by (with_reducible repeat (first | refine blk_drewN ?_ _ | refine blk_drew ?_ | refine blk_alloc ?_ _)); exact BK283.out) hb); have n2_ := Aside0.mk (blk_below (g := gb291) (o := .cells #[.int .i64 t288, .int .i64 t289] 24 (0, 0)) (by (with_reducible repeat (first | refine blk_drewN ?_ _ | refine blk_drew ?_ | refine blk_alloc ?_ _)); exact BK291.out) hb); have n3_ := Aside0.mk (blk_below (g := gb295) (o := .cells #[.int .i64 t292, .int .i64 t293] 24 (0, 0)) (by (with_reducible repeat (first | refine blk_drewN ?_ _ | refine blk_drew ?_ | refine blk_alloc ?_ _)); exact BK295.out) hb); have n4_ := Aside0.mk (blk_below (g := gb299) (o := .cells #[.int .i64 t296, .int .i64 t297] 24 (0, 0)) (by (with_reducible repeat (first | refine blk_drewN ?_ _ | refine blk_drew ?_ | refine blk_alloc ?_ _)); exact BK299.out) hb); have n5_ := Aside0.mk (blk_below (g := gb303) (o := .cells #[.int .i64 t300, .int .i64 t301] 24 (0, 0)) (by (with_reducible repeat (first | refine blk_drewN ?_ _ | refine blk_drew ?_ | refine blk_alloc ?_ _)); exact BK303.out) hb); have n6_ := Aside0.mk (blk_below (g := gb307) (o := .cells #[.int .i64 t304, .int .i64 t305] 24 (0, 0)) (by (with_reducible repeat (first | refine blk_drewN ?_ _ | refine blk_drew ?_ | refine blk_alloc ?_ _)); exact BK307.out) hb); have n7_ := Aside0.mk (below_step (by repeat (first | (with_reducible first | exact HB.out | apply below_alloc | apply pw_below_drewN | apply below_drew1 | refine below_set ?_ GE282.out | refine below_set ?_ GE283.out | refine below_set ?_ GE291.out | refine below_set ?_ GE295.out | refine below_set ?_ GE299.out | refine below_set ?_ GE303.out | refine below_set ?_ GE307.out) | exact HB.out)) hb); clear BK282; clear BK283; clear BK291; clear BK295; clear BK299; clear BK303; clear BK307; clear HB; have BK282 := n0_; have BK283 := n1_; have BK291 := n2_; have BK295 := n3_; have BK299 := n4_; have BK303 := n5_; have BK307 := n6_; have HB := n7_; clear n0_ n1_ n2_ n3_ n4_ n5_ n6_ n7_; (try clear hb); (try clear hb2); (try clear hk); (try clear hi)))
              go_meet
              case rel => exact ⟨_, (true), (by first | rfl | (simp; done) | (simp [*]; done)), H', ⟨by have := HJ2.out; first | omega | exact Nat.le_refl _⟩, ⟨by (with_reducible repeat (first | refine blk_drewN ?_ _ | refine blk_drew ?_ | refine blk_alloc ?_ _)); exact BK282.out⟩, ⟨by (with_reducible repeat (first | refine blk_drewN ?_ _ | refine blk_drew ?_ | refine blk_alloc ?_ _)); exact BK283.out⟩, ⟨by (with_reducible repeat (first | refine blk_drewN ?_ _ | refine blk_drew ?_ | refine blk_alloc ?_ _)); exact BK291.out⟩, ⟨by (with_reducible repeat (first | refine blk_drewN ?_ _ | refine blk_drew ?_ | refine blk_alloc ?_ _)); exact BK295.out⟩, ⟨by (with_reducible repeat (first | refine blk_drewN ?_ _ | refine blk_drew ?_ | refine blk_alloc ?_ _)); exact BK299.out⟩, ⟨by (with_reducible repeat (first | refine blk_drewN ?_ _ | refine blk_drew ?_ | refine blk_alloc ?_ _)); exact BK303.out⟩, ⟨by (with_reducible repeat (first | refine blk_drewN ?_ _ | refine blk_drew ?_ | refine blk_alloc ?_ _)); exact BK307.out⟩, ⟨by repeat (first | (with_reducible first | exact HB.out | apply below_alloc | apply pw_below_drewN | apply below_drew1 | refine below_set ?_ GE282.out | refine below_set ?_ GE283.out | refine below_set ?_ GE291.out | refine below_set ?_ GE295.out | refine below_set ?_ GE299.out | refine below_set ?_ GE303.out | refine below_set ?_ GE307.out) | exact HB.out)⟩⟩
          · replace c78 := Bool.eq_false_iff.mpr c78
            subst c78
            have H1 : (sleuthlaw02_FractionAdds.j1 kj2 t290 true a0_0 a0_1 a1_0 a1_1 t288 t289) = some r := by rw [if_neg (show ¬ (false = true) by decide)] at H; exact H
            clear H
            have H := H1
            clear H1
            have H' := Aside0.mk H
            clear H
            have hnb162 := NB291_282.out
            have hnc162 := NB282_291.out
            have hnb163 := NB291_283.out
            have hnc163 := NB283_291.out
            have hnb164 := NB291_295.out
            have hnc164 := NB295_291.out
            have hnb165 := NB291_299.out
            have hnc165 := NB299_291.out
            have hnb166 := NB291_303.out
            have hnc166 := NB303_291.out
            have hnb167 := NB291_307.out
            have hnc167 := NB307_291.out
            have hcz168_0 : w69.cell? ⟨gb291, 0, none⟩ = some (.int .i64 t288) := (blk_cell BK291.out 0).trans rfl
            have hcz168_1 : w69.cell? ⟨gb291, 1, none⟩ = some (.int .i64 t289) := (blk_cell BK291.out 1).trans rfl
            have hfz168_0 := blk_frozen BK291.out 0
            have hfz168_1 := blk_frozen BK291.out 1
            have hnb169 := NB295_282.out
            have hnc169 := NB282_295.out
            have hnb170 := NB295_283.out
            have hnc170 := NB283_295.out
            have hnb171 := NB295_299.out
            have hnc171 := NB299_295.out
            have hnb172 := NB295_303.out
            have hnc172 := NB303_295.out
            have hnb173 := NB295_307.out
            have hnc173 := NB307_295.out
            have hcz174_0 : w69.cell? ⟨gb295, 0, none⟩ = some (.int .i64 t292) := (blk_cell BK295.out 0).trans rfl
            have hcz174_1 : w69.cell? ⟨gb295, 1, none⟩ = some (.int .i64 t293) := (blk_cell BK295.out 1).trans rfl
            have hfz174_0 := blk_frozen BK295.out 0
            have hfz174_1 := blk_frozen BK295.out 1
            go_wp2_with (first | ((with_reducible refine gate_callee (f := 17) rfl ?_); refine goesL_ (some 64) rfl rfl Try.func17 (by kernel_rfl) rfl #[.agg #[.int .i64 t288, .int .i64 t289], .int .i64 t290, .agg #[.int .i64 t292, .int .i64 t293], .bool t294] rfl (by (try simp only [List.map_toArray, List.map_cons, List.map_nil]); first | done | rfl | (simp only [List.length_drop, List.length_take]; rfl)) ?_; (with_reducible refine (sleuthlaw02_is.calls t288 t289 t290 t292 t293 t294 false _ A77.out).mono ?_); rintro e w175 ⟨rfl, hb⟩; refine ⟨_, rfl, ?_⟩; have n0_ := Aside0.mk (blk_below (g := gb282) (o := .cells #[.int .i64 a0_0, .int .i64 a0_1] 24 (0, 0)) (by (with_reducible repeat (first | refine blk_drewN ?_ _ | refine blk_drew ?_ | refine blk_alloc ?_ _)); refine blk_far ?_ NB282_307.out _; (with_reducible repeat (first | refine blk_drewN ?_ _ | refine blk_drew ?_ | refine blk_alloc ?_ _)); refine blk_far ?_ NB282_307.out _; (with_reducible repeat (first | refine blk_drewN ?_ _ | refine blk_drew ?_ | refine blk_alloc ?_ _)); exact BK282.out) hb); have n1_ := Aside0.mk (blk_below (g := gb283) (o := .cells #[.int .i64 a1_0, .int .i64 a1_1] 24 (0, 0)) (by (with_reducible repeat (first | refine blk_drewN ?_ _ | refine blk_drew ?_ | refine blk_alloc ?_ _)); refine blk_far ?_ NB283_307.out _; (with_reducible repeat (first | refine blk_drewN ?_ _ | refine blk_drew ?_ | refine blk_alloc ?_ _)); refine blk_far ?_ NB283_307.out _; (with_reducible repeat (first | refine blk_drewN ?_ _ | refine blk_drew ?_ | refine blk_alloc ?_ _)); exact BK283.out) hb); have n2_ := Aside0.mk (blk_below (g := gb291) (o := .cells #[.int .i64 t288, .int .i64 t289] 24 (0, 0)) (by (with_reducible repeat (first | refine blk_drewN ?_ _ | refine blk_drew ?_ | refine blk_alloc ?_ _)); refine blk_far ?_ NB291_307.out _; (with_reducible repeat (first | refine blk_drewN ?_ _ | refine blk_drew ?_ | refine blk_alloc ?_ _)); refine blk_far ?_ NB291_307.out _; (with_reducible repeat (first | refine blk_drewN ?_ _ | refine blk_drew ?_ | refine blk_alloc ?_ _)); exact BK291.out) hb); have n3_ := Aside0.mk (blk_below (g := gb295) (o := .cells #[.int .i64 t292, .int .i64 t293] 24 (0, 0)) (by (with_reducible repeat (first | refine blk_drewN ?_ _ | refine blk_drew ?_ | refine blk_alloc ?_ _)); refine blk_far ?_ NB295_307.out _; (with_reducible repeat (first | refine blk_drewN ?_ _ | refine blk_drew ?_ | refine blk_alloc ?_ _)); refine blk_far ?_ NB295_307.out _; (with_reducible repeat (first | refine blk_drewN ?_ _ | refine blk_drew ?_ | refine blk_alloc ?_ _)); exact BK295.out) hb); have n4_ := Aside0.mk (blk_below (g := gb299) (o := .cells #[.int .i64 t296, .int .i64 t297] 24 (0, 0)) (by (with_reducible repeat (first | refine blk_drewN ?_ _ | refine blk_drew ?_ | refine blk_alloc ?_ _)); refine blk_far ?_ NB299_307.out _; (with_reducible repeat (first | refine blk_drewN ?_ _ | refine blk_drew ?_ | refine blk_alloc ?_ _)); refine blk_far ?_ NB299_307.out _; (with_reducible repeat (first | refine blk_drewN ?_ _ | refine blk_drew ?_ | refine blk_alloc ?_ _)); exact BK299.out) hb); have n5_ := Aside0.mk (blk_below (g := gb303) (o := .cells #[.int .i64 t300, .int .i64 t301] 24 (0, 0)) (by (with_reducible repeat (first | refine blk_drewN ?_ _ | refine blk_drew ?_ | refine blk_alloc ?_ _)); refine blk_far ?_ NB303_307.out _; (with_reducible repeat (first | refine blk_drewN ?_ _ | refine blk_drew ?_ | refine blk_alloc ?_ _)); refine blk_far ?_ NB303_307.out _; (with_reducible repeat (first | refine blk_drewN ?_ _ | refine blk_drew ?_ | refine blk_alloc ?_ _)); exact BK303.out) hb); have n6_ := Aside0.mk (blk_below (g := gb307) (o := .cells #[.int .i64 t304, .int .i64 t305] 24 (0, 0)) (by (with_reducible repeat (first | refine blk_drewN ?_ _ | refine blk_drew ?_ | refine blk_alloc ?_ _)); refine blk_put (cs := #[.int .i64 t304, .int .i64 0]) ?_ 1 _ rfl; (with_reducible repeat (first | refine blk_drewN ?_ _ | refine blk_drew ?_ | refine blk_alloc ?_ _)); refine blk_put (cs := #[.int .i64 0, .int .i64 0]) ?_ 0 _ rfl; (with_reducible repeat (first | refine blk_drewN ?_ _ | refine blk_drew ?_ | refine blk_alloc ?_ _)); exact BK307.out) hb); have n7_ := Aside0.mk (below_step (by repeat (first | (with_reducible first | exact HB.out | apply below_alloc | apply pw_below_drewN | apply below_drew1 | refine below_set ?_ GE282.out | refine below_set ?_ GE283.out | refine below_set ?_ GE291.out | refine below_set ?_ GE295.out | refine below_set ?_ GE299.out | refine below_set ?_ GE303.out | refine below_set ?_ GE307.out) | exact HB.out)) hb); clear BK282; clear BK283; clear BK291; clear BK295; clear BK299; clear BK303; clear BK307; clear HB; have BK282 := n0_; have BK283 := n1_; have BK291 := n2_; have BK295 := n3_; have BK299 := n4_; have BK303 := n5_; have BK307 := n6_; have HB := n7_; clear n0_ n1_ n2_ n3_ n4_ n5_ n6_ n7_; (try clear hb); (try clear hb2); (try clear hk); (try clear hi)))
            go_meet
            case rel => exact ⟨_, (true), (by first | rfl | (simp; done) | (simp [*]; done)), H', ⟨by have := HJ2.out; first | omega | exact Nat.le_refl _⟩, ⟨by (with_reducible repeat (first | refine blk_drewN ?_ _ | refine blk_drew ?_ | refine blk_alloc ?_ _)); exact BK282.out⟩, ⟨by (with_reducible repeat (first | refine blk_drewN ?_ _ | refine blk_drew ?_ | refine blk_alloc ?_ _)); exact BK283.out⟩, ⟨by (with_reducible repeat (first | refine blk_drewN ?_ _ | refine blk_drew ?_ | refine blk_alloc ?_ _)); exact BK291.out⟩, ⟨by (with_reducible repeat (first | refine blk_drewN ?_ _ | refine blk_drew ?_ | refine blk_alloc ?_ _)); exact BK295.out⟩, ⟨by (with_reducible repeat (first | refine blk_drewN ?_ _ | refine blk_drew ?_ | refine blk_alloc ?_ _)); exact BK299.out⟩, ⟨by (with_reducible repeat (first | refine blk_drewN ?_ _ | refine blk_drew ?_ | refine blk_alloc ?_ _)); exact BK303.out⟩, ⟨by (with_reducible repeat (first | refine blk_drewN ?_ _ | refine blk_drew ?_ | refine blk_alloc ?_ _)); exact BK307.out⟩, ⟨by repeat (first | (with_reducible first | exact HB.out | apply below_alloc | apply pw_below_drewN | apply below_drew1 | refine below_set ?_ GE282.out | refine below_set ?_ GE283.out | refine below_set ?_ GE291.out | refine below_set ?_ GE295.out | refine below_set ?_ GE299.out | refine below_set ?_ GE303.out | refine below_set ?_ GE307.out) | exact HB.out)⟩⟩
        case rest =>
          clear HC30
          try clear c1
          try clear c2
          try clear p2
          try clear c3
          try clear c4
          try clear c5
          try clear c6
          try clear c7
          try clear c8
          try clear c9
          try clear c10
          try clear c11
          try clear c12
          try clear c13
          try clear c14
          try clear c15
          try clear c16
          try clear c17
          try clear c18
          try clear c20
          try clear c22
          try clear c23
          try clear c24
          try clear c31
          try clear c36
          try clear c37
          try clear c43
          try clear c44
          try clear c45
          try clear c51
          try clear c52
          try clear c53
          try clear c54
          try clear c60
          try clear c61
          try clear c62
          try clear c63
          try clear c64
          try clear c70
          try clear c71
          try clear c72
          try clear c73
          try clear c74
          try clear c75
          try clear c78
          try clear c80
          try clear c81
          try clear c81b0
          try clear c82
          try clear c83
          try clear c84
          try clear c85
          try clear c86
          try clear c87
          try clear c89
          try clear c90
          try clear c91
          try clear c92
          try clear c93
          try clear c96
          try clear c97
          try clear c98
          try clear c99
          try clear c101
          try clear c102
          try clear c103
          try clear c106
          try clear c107
          try clear c110
          try clear c111
          try clear c112
          try clear c113
          try clear c114
          try clear c115
          try clear c117
          try clear c118
          try clear c119
          try clear c120
          try clear c121
          try clear c124
          try clear c125
          try clear c126
          try clear c127
          try clear c129
          try clear c130
          try clear c131
          try clear c134
          try clear c135
          try clear c138
          try clear c139
          try clear c140
          try clear c141
          try clear c142
          try clear c143
          try clear c145
          try clear c146
          try clear c147
          try clear c148
          try clear c149
          try clear c152
          try clear c153
          try clear c154
          try clear c155
          try clear c157
          try clear c158
          try clear c159
          try clear c162
          try clear c163
          try clear c164
          try clear c165
          try clear c166
          try clear c167
          try clear c169
          try clear c170
          try clear c171
          try clear c172
          try clear c173
          try clear hcz100_0
          try clear hcz100_1
          try clear hcz104_0
          try clear hcz104_1
          try clear hcz108_0
          try clear hcz108_1
          try clear hcz109_0
          try clear hcz109_1
          try clear hcz116_0
          try clear hcz116_1
          try clear hcz122_0
          try clear hcz122_1
          try clear hcz128_0
          try clear hcz128_1
          try clear hcz132_0
          try clear hcz132_1
          try clear hcz136_0
          try clear hcz136_1
          try clear hcz137_0
          try clear hcz137_1
          try clear hcz13_0
          try clear hcz13_1
          try clear hcz144_0
          try clear hcz144_1
          try clear hcz150_0
          try clear hcz150_1
          try clear hcz156_0
          try clear hcz156_1
          try clear hcz15_0
          try clear hcz15_1
          try clear hcz160_0
          try clear hcz160_1
          try clear hcz168_0
          try clear hcz168_1
          try clear hcz174_0
          try clear hcz174_1
          try clear hcz19_0
          try clear hcz19_1
          try clear hcz32_0
          try clear hcz32_1
          try clear hcz33_0
          try clear hcz33_1
          try clear hcz38_0
          try clear hcz38_1
          try clear hcz39_0
          try clear hcz39_1
          try clear hcz40_0
          try clear hcz40_1
          try clear hcz46_0
          try clear hcz46_1
          try clear hcz47_0
          try clear hcz47_1
          try clear hcz48_0
          try clear hcz48_1
          try clear hcz55_0
          try clear hcz55_1
          try clear hcz56_0
          try clear hcz56_1
          try clear hcz57_0
          try clear hcz57_1
          try clear hcz65_0
          try clear hcz65_1
          try clear hcz66_0
          try clear hcz66_1
          try clear hcz67_0
          try clear hcz67_1
          try clear hcz76_0
          try clear hcz76_1
          try clear hcz88_0
          try clear hcz88_1
          try clear hcz94_0
          try clear hcz94_1
          try clear hfz100_0
          try clear hfz100_1
          try clear hfz104_0
          try clear hfz104_1
          try clear hfz108_0
          try clear hfz108_1
          try clear hfz109_0
          try clear hfz109_1
          try clear hfz116_0
          try clear hfz116_1
          try clear hfz122_0
          try clear hfz122_1
          try clear hfz128_0
          try clear hfz128_1
          try clear hfz132_0
          try clear hfz132_1
          try clear hfz136_0
          try clear hfz136_1
          try clear hfz137_0
          try clear hfz137_1
          try clear hfz13_0
          try clear hfz13_1
          try clear hfz144_0
          try clear hfz144_1
          try clear hfz150_0
          try clear hfz150_1
          try clear hfz156_0
          try clear hfz156_1
          try clear hfz15_0
          try clear hfz15_1
          try clear hfz160_0
          try clear hfz160_1
          try clear hfz168_0
          try clear hfz168_1
          try clear hfz174_0
          try clear hfz174_1
          try clear hfz19_0
          try clear hfz19_1
          try clear hfz32_0
          try clear hfz32_1
          try clear hfz33_0
          try clear hfz33_1
          try clear hfz38_0
          try clear hfz38_1
          try clear hfz39_0
          try clear hfz39_1
          try clear hfz40_0
          try clear hfz40_1
          try clear hfz46_0
          try clear hfz46_1
          try clear hfz47_0
          try clear hfz47_1
          try clear hfz48_0
          try clear hfz48_1
          try clear hfz55_0
          try clear hfz55_1
          try clear hfz56_0
          try clear hfz56_1
          try clear hfz57_0
          try clear hfz57_1
          try clear hfz65_0
          try clear hfz65_1
          try clear hfz66_0
          try clear hfz66_1
          try clear hfz67_0
          try clear hfz67_1
          try clear hfz76_0
          try clear hfz76_1
          try clear hfz88_0
          try clear hfz88_1
          try clear hfz94_0
          try clear hfz94_1
          try clear p2
          obtain ⟨kq, x83_29, rfl, HA, HJ29, BK282, BK283, BK291, BK295, BK299, BK303, BK307, HB⟩ := hcut
          cases kq with
          | zero => exact absurd HA.out (by simp [sleuthlaw02_FractionAdds.j1])
          | succ kj29 =>
            have H := HA.out
            clear HA
            simp only [sleuthlaw02_FractionAdds.j1] at H
            by_cases c176 : x83_29 = true
            · subst c176
              have H1 : (some false) = some r := by rw [if_pos rfl] at H; exact H
              clear H
              have H := H1
              clear H1
              obtain rfl := Option.some.inj H
              go_wp2
              go_ret
              exact ⟨by first | rfl | (simp [errW_none, errW_some] <;> rfl) | (simp [*, errW_none, errW_some] <;> rfl), by repeat (first | (with_reducible first | exact HB.out | apply below_alloc | apply pw_below_drewN | apply below_drew1 | refine below_set ?_ GE282.out | refine below_set ?_ GE283.out | refine below_set ?_ GE291.out | refine below_set ?_ GE295.out | refine below_set ?_ GE299.out | refine below_set ?_ GE303.out | refine below_set ?_ GE307.out) | exact HB.out)⟩
            · replace c176 := Bool.eq_false_iff.mpr c176
              subst c176
              have H1 : (if t290 = 0 then ((fraction_Sub.f kj29 t288 t289 a1_0 a1_1).bind fun bt310 => (if (bt310.1 == a0_0 && (bt310.2.1 == a0_1)) = true then (some (bt310.2.2 == 0)) else (some false))) else (some true)) = some r := by rw [if_neg (show ¬ (false = true) by decide)] at H; exact H
              clear H
              have H := H1
              clear H1
              by_cases c177 : t290 = 0
              · rw [if_pos c177] at H
                have c177b0 : (t290 == 0) = true := beq_iff_eq.mpr c177
                have c177b1 : (t290 != 0) = false := bne_eq_false_iff_eq.mpr c177
                clear c177
                replace H := Option.bind_eq_some_iff.mp H
                obtain ⟨⟨t310, t311, t312⟩, A1780, H⟩ := H
                replace H : (if (t310 == a0_0 && (t311 == a0_1)) = true then (some (t312 == 0)) else (some false)) = some r := H
                have A178 := Aside0.mk A1780
                clear A1780
                by_cases c179 : (t310 == a0_0 && (t311 == a0_1)) = true
                · rw [if_pos c179] at H
                  have c179b0 : (t310 == a0_0 && (t311 == a0_1)) = true := c179
                  (try (have c179b1 : decide (t310 = a0_0 && (t311 == a0_1)) = true := by simpa using c179))
                  (try (have c179b2 : (t310 == a0_0 && (t311 == a0_1)) = true := by simpa using c179))
                  clear c179
                  obtain rfl := Option.some.inj H
                  have hnb180 := NB291_282.out
                  have hnc180 := NB282_291.out
                  have hnb181 := NB291_283.out
                  have hnc181 := NB283_291.out
                  have hnb182 := NB291_295.out
                  have hnc182 := NB295_291.out
                  have hnb183 := NB291_299.out
                  have hnc183 := NB299_291.out
                  have hnb184 := NB291_303.out
                  have hnc184 := NB303_291.out
                  have hnb185 := NB291_307.out
                  have hnc185 := NB307_291.out
                  have hcz186_0 : wc.cell? ⟨gb291, 0, none⟩ = some (.int .i64 t288) := (blk_cell BK291.out 0).trans rfl
                  have hcz186_1 : wc.cell? ⟨gb291, 1, none⟩ = some (.int .i64 t289) := (blk_cell BK291.out 1).trans rfl
                  have hfz186_0 := blk_frozen BK291.out 0
                  have hfz186_1 := blk_frozen BK291.out 1
                  have hnb187 := NB283_282.out
                  have hnc187 := NB282_283.out
                  have hnb188 := NB283_295.out
                  have hnc188 := NB295_283.out
                  have hnb189 := NB283_299.out
                  have hnc189 := NB299_283.out
                  have hnb190 := NB283_303.out
                  have hnc190 := NB303_283.out
                  have hnb191 := NB283_307.out
                  have hnc191 := NB307_283.out
                  have hcz192_0 : wc.cell? ⟨gb283, 0, none⟩ = some (.int .i64 a1_0) := (blk_cell BK283.out 0).trans rfl
                  have hcz192_1 : wc.cell? ⟨gb283, 1, none⟩ = some (.int .i64 a1_1) := (blk_cell BK283.out 1).trans rfl
                  have hfz192_0 := blk_frozen BK283.out 0
                  have hfz192_1 := blk_frozen BK283.out 1
                  go_wp2_with (first | ((with_reducible refine gate_callee (f := 23) rfl ?_); refine goesL_ (some 89) rfl rfl Try.func23 (by kernel_rfl) rfl #[.agg #[.int .i64 t288, .int .i64 t289], .agg #[.int .i64 a1_0, .int .i64 a1_1]] rfl (by (try simp only [List.map_toArray, List.map_cons, List.map_nil]); first | done | rfl | (simp only [List.length_drop, List.length_take]; rfl)) ?_; (with_reducible refine (fraction_Sub.calls kj29 t288 t289 a1_0 a1_1 t310 t311 t312 _ A178.out).mono ?_); rintro e w193 ⟨rfl, hb⟩; refine ⟨_, rfl, ?_⟩; have n0_ := Aside0.mk (blk_below (g := gb282) (o := .cells #[.int .i64 a0_0, .int .i64 a0_1] 24 (0, 0)) (by (with_reducible repeat (first | refine blk_drewN ?_ _ | refine blk_drew ?_ | refine blk_alloc ?_ _)); exact BK282.out) hb); have n1_ := Aside0.mk (blk_below (g := gb283) (o := .cells #[.int .i64 a1_0, .int .i64 a1_1] 24 (0, 0)) (by (with_reducible repeat (first | refine blk_drewN ?_ _ | refine blk_drew ?_ | refine blk_alloc ?_ _)); exact BK283.out) hb); have n2_ := Aside0.mk (blk_below (g := gb291) (o := .cells #[.int .i64 t288, .int .i64 t289] 24 (0, 0)) (by (with_reducible repeat (first | refine blk_drewN ?_ _ | refine blk_drew ?_ | refine blk_alloc ?_ _)); exact BK291.out) hb); have n3_ := Aside0.mk (blk_below (g := gb295) (o := .cells #[.int .i64 t292, .int .i64 t293] 24 (0, 0)) (by (with_reducible repeat (first | refine blk_drewN ?_ _ | refine blk_drew ?_ | refine blk_alloc ?_ _)); exact BK295.out) hb); have n4_ := Aside0.mk (blk_below (g := gb299) (o := .cells #[.int .i64 t296, .int .i64 t297] 24 (0, 0)) (by (with_reducible repeat (first | refine blk_drewN ?_ _ | refine blk_drew ?_ | refine blk_alloc ?_ _)); exact BK299.out) hb); have n5_ := Aside0.mk (blk_below (g := gb303) (o := .cells #[.int .i64 t300, .int .i64 t301] 24 (0, 0)) (by (with_reducible repeat (first | refine blk_drewN ?_ _ | refine blk_drew ?_ | refine blk_alloc ?_ _)); exact BK303.out) hb); have n6_ := Aside0.mk (blk_below (g := gb307) (o := .cells #[.int .i64 t304, .int .i64 t305] 24 (0, 0)) (by (with_reducible repeat (first | refine blk_drewN ?_ _ | refine blk_drew ?_ | refine blk_alloc ?_ _)); exact BK307.out) hb); have n7_ := Aside0.mk (below_step (by repeat (first | (with_reducible first | exact HB.out | apply below_alloc | apply pw_below_drewN | apply below_drew1 | refine below_set ?_ GE282.out | refine below_set ?_ GE283.out | refine below_set ?_ GE291.out | refine below_set ?_ GE295.out | refine below_set ?_ GE299.out | refine below_set ?_ GE303.out | refine below_set ?_ GE307.out) | exact HB.out)) hb); clear BK282; clear BK283; clear BK291; clear BK295; clear BK299; clear BK303; clear BK307; clear HB; have BK282 := n0_; have BK283 := n1_; have BK291 := n2_; have BK295 := n3_; have BK299 := n4_; have BK303 := n5_; have BK307 := n6_; have HB := n7_; clear n0_ n1_ n2_ n3_ n4_ n5_ n6_ n7_; (try clear hb); (try clear hb2); (try clear hk); (try clear hi)) | ((with_reducible refine gate_dst (N := 15) rfl ?_); refine box_event ?hg (N := 15) ?hd (cs := #[.int .i64 0, .int .i64 0]) (t := 24) ?hr ?_; (case hd => rfl); (case hg => rfl); (case hr => first | (go_simp; done) | (go_simp; rfl)); intro gb313 hg w194 hbox hb; have n0_ := Aside0.mk (blk_below (g := gb282) (o := .cells #[.int .i64 a0_0, .int .i64 a0_1] 24 (0, 0)) (by (with_reducible repeat (first | refine blk_drewN ?_ _ | refine blk_drew ?_ | refine blk_alloc ?_ _)); exact BK282.out) hb); have n1_ := Aside0.mk (blk_below (g := gb283) (o := .cells #[.int .i64 a1_0, .int .i64 a1_1] 24 (0, 0)) (by (with_reducible repeat (first | refine blk_drewN ?_ _ | refine blk_drew ?_ | refine blk_alloc ?_ _)); exact BK283.out) hb); have n2_ := Aside0.mk (blk_below (g := gb291) (o := .cells #[.int .i64 t288, .int .i64 t289] 24 (0, 0)) (by (with_reducible repeat (first | refine blk_drewN ?_ _ | refine blk_drew ?_ | refine blk_alloc ?_ _)); exact BK291.out) hb); have n3_ := Aside0.mk (blk_below (g := gb295) (o := .cells #[.int .i64 t292, .int .i64 t293] 24 (0, 0)) (by (with_reducible repeat (first | refine blk_drewN ?_ _ | refine blk_drew ?_ | refine blk_alloc ?_ _)); exact BK295.out) hb); have n4_ := Aside0.mk (blk_below (g := gb299) (o := .cells #[.int .i64 t296, .int .i64 t297] 24 (0, 0)) (by (with_reducible repeat (first | refine blk_drewN ?_ _ | refine blk_drew ?_ | refine blk_alloc ?_ _)); exact BK299.out) hb); have n5_ := Aside0.mk (blk_below (g := gb303) (o := .cells #[.int .i64 t300, .int .i64 t301] 24 (0, 0)) (by (with_reducible repeat (first | refine blk_drewN ?_ _ | refine blk_drew ?_ | refine blk_alloc ?_ _)); exact BK303.out) hb); have n6_ := Aside0.mk (blk_below (g := gb307) (o := .cells #[.int .i64 t304, .int .i64 t305] 24 (0, 0)) (by (with_reducible repeat (first | refine blk_drewN ?_ _ | refine blk_drew ?_ | refine blk_alloc ?_ _)); exact BK307.out) hb); have n7_ := Aside0.mk (below_step (by repeat (first | (with_reducible first | exact HB.out | apply below_alloc | apply pw_below_drewN | apply below_drew1 | refine below_set ?_ GE282.out | refine below_set ?_ GE283.out | refine below_set ?_ GE291.out | refine below_set ?_ GE295.out | refine below_set ?_ GE299.out | refine below_set ?_ GE303.out | refine below_set ?_ GE307.out) | exact HB.out)) hb); have n8_ := Aside0.mk (hbox); have n9_ := Aside0.mk ((by rw [hg]; exact (below_size (by repeat (first | (with_reducible first | exact HB.out | apply below_alloc | apply pw_below_drewN | apply below_drew1 | refine below_set ?_ GE282.out | refine below_set ?_ GE283.out | refine below_set ?_ GE291.out | refine below_set ?_ GE295.out | refine below_set ?_ GE299.out | refine below_set ?_ GE303.out | refine below_set ?_ GE307.out) | exact HB.out))) : w.heap.size ≤ gb313)); have n10_ := Aside0.mk ((by rw [hg]; exact (below_size (by repeat (first | (with_reducible first | exact HB.out | apply below_alloc | apply pw_below_drewN | apply below_drew1 | refine below_set ?_ GE282.out | refine below_set ?_ GE283.out | refine below_set ?_ GE291.out | refine below_set ?_ GE295.out | refine below_set ?_ GE299.out | refine below_set ?_ GE303.out | refine below_set ?_ GE307.out) | exact HB.out))) : w.heap.size ≤ gb313)); have n11_ := Aside0.mk ((by rw [hg]; exact Nat.ne_of_lt (blk_lt (g := gb282) (o := .cells #[.int .i64 a0_0, .int .i64 a0_1] 24 (0, 0)) (by (with_reducible repeat (first | refine blk_drewN ?_ _ | refine blk_drew ?_ | refine blk_alloc ?_ _)); exact BK282.out)) : gb282 ≠ gb313)); have n12_ := Aside0.mk ((by rw [hg]; exact Nat.ne_of_gt (blk_lt (g := gb282) (o := .cells #[.int .i64 a0_0, .int .i64 a0_1] 24 (0, 0)) (by (with_reducible repeat (first | refine blk_drewN ?_ _ | refine blk_drew ?_ | refine blk_alloc ?_ _)); exact BK282.out)) : gb313 ≠ gb282)); have n13_ := Aside0.mk ((by rw [hg]; exact Nat.ne_of_lt (blk_lt (g := gb283) (o := .cells #[.int .i64 a1_0, .int .i64 a1_1] 24 (0, 0)) (by (with_reducible repeat (first | refine blk_drewN ?_ _ | refine blk_drew ?_ | refine blk_alloc ?_ _)); exact BK283.out)) : gb283 ≠ gb313)); have n14_ := Aside0.mk ((by rw [hg]; exact Nat.ne_of_gt (blk_lt (g := gb283) (o := .cells #[.int .i64 a1_0, .int .i64 a1_1] 24 (0, 0)) (by (with_reducible repeat (first | refine blk_drewN ?_ _ | refine blk_drew ?_ | refine blk_alloc ?_ _)); exact BK283.out)) : gb313 ≠ gb283)); have n15_ := Aside0.mk ((by rw [hg]; exact Nat.ne_of_lt (blk_lt (g := gb291) (o := .cells #[.int .i64 t288, .int .i64 t289] 24 (0, 0)) (by (with_reducible repeat (first | refine blk_drewN ?_ _ | refine blk_drew ?_ | refine blk_alloc ?_ _)); exact BK291.out)) : gb291 ≠ gb313)); have n16_ := Aside0.mk ((by rw [hg]; exact Nat.ne_of_gt (blk_lt (g := gb291) (o := .cells #[.int .i64 t288, .int .i64 t289] 24 (0, 0)) (by (with_reducible repeat (first | refine blk_drewN ?_ _ | refine blk_drew ?_ | refine blk_alloc ?_ _)); exact BK291.out)) : gb313 ≠ gb291)); have n17_ := Aside0.mk ((by rw [hg]; exact Nat.ne_of_lt (blk_lt (g := gb295) (o := .cells #[.int .i64 t292, .int .i64 t293] 24 (0, 0)) (by (with_reducible repeat (first | refine blk_drewN ?_ _ | refine blk_drew ?_ | refine blk_alloc ?_ _)); exact BK295.out)) : gb295 ≠ gb313)); have n18_ := Aside0.mk ((by rw [hg]; exact Nat.ne_of_gt (blk_lt (g := gb295) (o := .cells #[.int .i64 t292, .int .i64 t293] 24 (0, 0)) (by (with_reducible repeat (first | refine blk_drewN ?_ _ | refine blk_drew ?_ | refine blk_alloc ?_ _)); exact BK295.out)) : gb313 ≠ gb295)); have n19_ := Aside0.mk ((by rw [hg]; exact Nat.ne_of_lt (blk_lt (g := gb299) (o := .cells #[.int .i64 t296, .int .i64 t297] 24 (0, 0)) (by (with_reducible repeat (first | refine blk_drewN ?_ _ | refine blk_drew ?_ | refine blk_alloc ?_ _)); exact BK299.out)) : gb299 ≠ gb313)); have n20_ := Aside0.mk ((by rw [hg]; exact Nat.ne_of_gt (blk_lt (g := gb299) (o := .cells #[.int .i64 t296, .int .i64 t297] 24 (0, 0)) (by (with_reducible repeat (first | refine blk_drewN ?_ _ | refine blk_drew ?_ | refine blk_alloc ?_ _)); exact BK299.out)) : gb313 ≠ gb299)); have n21_ := Aside0.mk ((by rw [hg]; exact Nat.ne_of_lt (blk_lt (g := gb303) (o := .cells #[.int .i64 t300, .int .i64 t301] 24 (0, 0)) (by (with_reducible repeat (first | refine blk_drewN ?_ _ | refine blk_drew ?_ | refine blk_alloc ?_ _)); exact BK303.out)) : gb303 ≠ gb313)); have n22_ := Aside0.mk ((by rw [hg]; exact Nat.ne_of_gt (blk_lt (g := gb303) (o := .cells #[.int .i64 t300, .int .i64 t301] 24 (0, 0)) (by (with_reducible repeat (first | refine blk_drewN ?_ _ | refine blk_drew ?_ | refine blk_alloc ?_ _)); exact BK303.out)) : gb313 ≠ gb303)); have n23_ := Aside0.mk ((by rw [hg]; exact Nat.ne_of_lt (blk_lt (g := gb307) (o := .cells #[.int .i64 t304, .int .i64 t305] 24 (0, 0)) (by (with_reducible repeat (first | refine blk_drewN ?_ _ | refine blk_drew ?_ | refine blk_alloc ?_ _)); exact BK307.out)) : gb307 ≠ gb313)); have n24_ := Aside0.mk ((by rw [hg]; exact Nat.ne_of_gt (blk_lt (g := gb307) (o := .cells #[.int .i64 t304, .int .i64 t305] 24 (0, 0)) (by (with_reducible repeat (first | refine blk_drewN ?_ _ | refine blk_drew ?_ | refine blk_alloc ?_ _)); exact BK307.out)) : gb313 ≠ gb307)); clear BK282; clear BK283; clear BK291; clear BK295; clear BK299; clear BK303; clear BK307; clear HB; have BK282 := n0_; have BK283 := n1_; have BK291 := n2_; have BK295 := n3_; have BK299 := n4_; have BK303 := n5_; have BK307 := n6_; have HB := n7_; have BK313 := n8_; have GW313 := n9_; have GE313 := n10_; have NB282_313 := n11_; have NB313_282 := n12_; have NB283_313 := n13_; have NB313_283 := n14_; have NB291_313 := n15_; have NB313_291 := n16_; have NB295_313 := n17_; have NB313_295 := n18_; have NB299_313 := n19_; have NB313_299 := n20_; have NB303_313 := n21_; have NB313_303 := n22_; have NB307_313 := n23_; have NB313_307 := n24_; clear n0_ n1_ n2_ n3_ n4_ n5_ n6_ n7_ n8_ n9_ n10_ n11_ n12_ n13_ n14_ n15_ n16_ n17_ n18_ n19_ n20_ n21_ n22_ n23_ n24_; clear hb hbox hg; have hnb195 := NB313_282.out; have hnc195 := NB282_313.out; have hnb196 := NB313_283.out; have hnc196 := NB283_313.out; have hnb197 := NB313_291.out; have hnc197 := NB291_313.out; have hnb198 := NB313_295.out; have hnc198 := NB295_313.out; have hnb199 := NB313_299.out; have hnc199 := NB299_313.out; have hnb200 := NB313_303.out; have hnc200 := NB303_313.out; have hnb201 := NB313_307.out; have hnc201 := NB307_313.out; have hcz202_0 : w194.cell? ⟨gb313, 0, none⟩ = some (.int .i64 0) := (blk_cell BK313.out 0).trans rfl; have hcz202_1 : w194.cell? ⟨gb313, 1, none⟩ = some (.int .i64 0) := (blk_cell BK313.out 1).trans rfl; have hfz202_0 := blk_frozen BK313.out 0; have hfz202_1 := blk_frozen BK313.out 1; have hnb203 := NB282_295.out; have hnc203 := NB295_282.out; have hnb204 := NB282_299.out; have hnc204 := NB299_282.out; have hnb205 := NB282_303.out; have hnc205 := NB303_282.out; have hnb206 := NB282_307.out; have hnc206 := NB307_282.out; have hcz207_0 : w194.cell? ⟨gb282, 0, none⟩ = some (.int .i64 a0_0) := (blk_cell BK282.out 0).trans rfl; have hcz207_1 : w194.cell? ⟨gb282, 1, none⟩ = some (.int .i64 a0_1) := (blk_cell BK282.out 1).trans rfl; have hfz207_0 := blk_frozen BK282.out 0; have hfz207_1 := blk_frozen BK282.out 1))
                  go_ret
                  exact ⟨by first | rfl | (simp [errW_none, errW_some] <;> rfl) | (simp [*, errW_none, errW_some] <;> rfl), by repeat (first | (with_reducible first | exact HB.out | apply below_alloc | apply pw_below_drewN | apply below_drew1 | refine below_set ?_ GE282.out | refine below_set ?_ GE283.out | refine below_set ?_ GE291.out | refine below_set ?_ GE295.out | refine below_set ?_ GE299.out | refine below_set ?_ GE303.out | refine below_set ?_ GE307.out | refine below_set ?_ GE313.out) | exact HB.out)⟩
                · rw [if_neg c179] at H
                  have c179b0 : (t310 == a0_0 && (t311 == a0_1)) = false := by simpa using c179
                  (try (have c179b1 : decide (t310 = a0_0 && (t311 == a0_1)) = false := by simpa using c179))
                  (try (have c179b2 : (t310 == a0_0 && (t311 == a0_1)) = false := by simpa using c179))
                  (try (have c179b3 : ¬ (t310 = a0_0 && (t311 == a0_1)) := by simpa using c179))
                  clear c179
                  obtain rfl := Option.some.inj H
                  have hnb208 := NB291_282.out
                  have hnc208 := NB282_291.out
                  have hnb209 := NB291_283.out
                  have hnc209 := NB283_291.out
                  have hnb210 := NB291_295.out
                  have hnc210 := NB295_291.out
                  have hnb211 := NB291_299.out
                  have hnc211 := NB299_291.out
                  have hnb212 := NB291_303.out
                  have hnc212 := NB303_291.out
                  have hnb213 := NB291_307.out
                  have hnc213 := NB307_291.out
                  have hcz214_0 : wc.cell? ⟨gb291, 0, none⟩ = some (.int .i64 t288) := (blk_cell BK291.out 0).trans rfl
                  have hcz214_1 : wc.cell? ⟨gb291, 1, none⟩ = some (.int .i64 t289) := (blk_cell BK291.out 1).trans rfl
                  have hfz214_0 := blk_frozen BK291.out 0
                  have hfz214_1 := blk_frozen BK291.out 1
                  have hnb215 := NB283_282.out
                  have hnc215 := NB282_283.out
                  have hnb216 := NB283_295.out
                  have hnc216 := NB295_283.out
                  have hnb217 := NB283_299.out
                  have hnc217 := NB299_283.out
                  have hnb218 := NB283_303.out
                  have hnc218 := NB303_283.out
                  have hnb219 := NB283_307.out
                  have hnc219 := NB307_283.out
                  have hcz220_0 : wc.cell? ⟨gb283, 0, none⟩ = some (.int .i64 a1_0) := (blk_cell BK283.out 0).trans rfl
                  have hcz220_1 : wc.cell? ⟨gb283, 1, none⟩ = some (.int .i64 a1_1) := (blk_cell BK283.out 1).trans rfl
                  have hfz220_0 := blk_frozen BK283.out 0
                  have hfz220_1 := blk_frozen BK283.out 1
                  go_wp2_with (first | ((with_reducible refine gate_callee (f := 23) rfl ?_); refine goesL_ (some 89) rfl rfl Try.func23 (by kernel_rfl) rfl #[.agg #[.int .i64 t288, .int .i64 t289], .agg #[.int .i64 a1_0, .int .i64 a1_1]] rfl (by (try simp only [List.map_toArray, List.map_cons, List.map_nil]); first | done | rfl | (simp only [List.length_drop, List.length_take]; rfl)) ?_; (with_reducible refine (fraction_Sub.calls kj29 t288 t289 a1_0 a1_1 t310 t311 t312 _ A178.out).mono ?_); rintro e w221 ⟨rfl, hb⟩; refine ⟨_, rfl, ?_⟩; have n0_ := Aside0.mk (blk_below (g := gb282) (o := .cells #[.int .i64 a0_0, .int .i64 a0_1] 24 (0, 0)) (by (with_reducible repeat (first | refine blk_drewN ?_ _ | refine blk_drew ?_ | refine blk_alloc ?_ _)); exact BK282.out) hb); have n1_ := Aside0.mk (blk_below (g := gb283) (o := .cells #[.int .i64 a1_0, .int .i64 a1_1] 24 (0, 0)) (by (with_reducible repeat (first | refine blk_drewN ?_ _ | refine blk_drew ?_ | refine blk_alloc ?_ _)); exact BK283.out) hb); have n2_ := Aside0.mk (blk_below (g := gb291) (o := .cells #[.int .i64 t288, .int .i64 t289] 24 (0, 0)) (by (with_reducible repeat (first | refine blk_drewN ?_ _ | refine blk_drew ?_ | refine blk_alloc ?_ _)); exact BK291.out) hb); have n3_ := Aside0.mk (blk_below (g := gb295) (o := .cells #[.int .i64 t292, .int .i64 t293] 24 (0, 0)) (by (with_reducible repeat (first | refine blk_drewN ?_ _ | refine blk_drew ?_ | refine blk_alloc ?_ _)); exact BK295.out) hb); have n4_ := Aside0.mk (blk_below (g := gb299) (o := .cells #[.int .i64 t296, .int .i64 t297] 24 (0, 0)) (by (with_reducible repeat (first | refine blk_drewN ?_ _ | refine blk_drew ?_ | refine blk_alloc ?_ _)); exact BK299.out) hb); have n5_ := Aside0.mk (blk_below (g := gb303) (o := .cells #[.int .i64 t300, .int .i64 t301] 24 (0, 0)) (by (with_reducible repeat (first | refine blk_drewN ?_ _ | refine blk_drew ?_ | refine blk_alloc ?_ _)); exact BK303.out) hb); have n6_ := Aside0.mk (blk_below (g := gb307) (o := .cells #[.int .i64 t304, .int .i64 t305] 24 (0, 0)) (by (with_reducible repeat (first | refine blk_drewN ?_ _ | refine blk_drew ?_ | refine blk_alloc ?_ _)); exact BK307.out) hb); have n7_ := Aside0.mk (below_step (by repeat (first | (with_reducible first | exact HB.out | apply below_alloc | apply pw_below_drewN | apply below_drew1 | refine below_set ?_ GE282.out | refine below_set ?_ GE283.out | refine below_set ?_ GE291.out | refine below_set ?_ GE295.out | refine below_set ?_ GE299.out | refine below_set ?_ GE303.out | refine below_set ?_ GE307.out) | exact HB.out)) hb); clear BK282; clear BK283; clear BK291; clear BK295; clear BK299; clear BK303; clear BK307; clear HB; have BK282 := n0_; have BK283 := n1_; have BK291 := n2_; have BK295 := n3_; have BK299 := n4_; have BK303 := n5_; have BK307 := n6_; have HB := n7_; clear n0_ n1_ n2_ n3_ n4_ n5_ n6_ n7_; (try clear hb); (try clear hb2); (try clear hk); (try clear hi)) | ((with_reducible refine gate_dst (N := 15) rfl ?_); refine box_event ?hg (N := 15) ?hd (cs := #[.int .i64 0, .int .i64 0]) (t := 24) ?hr ?_; (case hd => rfl); (case hg => rfl); (case hr => first | (go_simp; done) | (go_simp; rfl)); intro gb313 hg w222 hbox hb; have n0_ := Aside0.mk (blk_below (g := gb282) (o := .cells #[.int .i64 a0_0, .int .i64 a0_1] 24 (0, 0)) (by (with_reducible repeat (first | refine blk_drewN ?_ _ | refine blk_drew ?_ | refine blk_alloc ?_ _)); exact BK282.out) hb); have n1_ := Aside0.mk (blk_below (g := gb283) (o := .cells #[.int .i64 a1_0, .int .i64 a1_1] 24 (0, 0)) (by (with_reducible repeat (first | refine blk_drewN ?_ _ | refine blk_drew ?_ | refine blk_alloc ?_ _)); exact BK283.out) hb); have n2_ := Aside0.mk (blk_below (g := gb291) (o := .cells #[.int .i64 t288, .int .i64 t289] 24 (0, 0)) (by (with_reducible repeat (first | refine blk_drewN ?_ _ | refine blk_drew ?_ | refine blk_alloc ?_ _)); exact BK291.out) hb); have n3_ := Aside0.mk (blk_below (g := gb295) (o := .cells #[.int .i64 t292, .int .i64 t293] 24 (0, 0)) (by (with_reducible repeat (first | refine blk_drewN ?_ _ | refine blk_drew ?_ | refine blk_alloc ?_ _)); exact BK295.out) hb); have n4_ := Aside0.mk (blk_below (g := gb299) (o := .cells #[.int .i64 t296, .int .i64 t297] 24 (0, 0)) (by (with_reducible repeat (first | refine blk_drewN ?_ _ | refine blk_drew ?_ | refine blk_alloc ?_ _)); exact BK299.out) hb); have n5_ := Aside0.mk (blk_below (g := gb303) (o := .cells #[.int .i64 t300, .int .i64 t301] 24 (0, 0)) (by (with_reducible repeat (first | refine blk_drewN ?_ _ | refine blk_drew ?_ | refine blk_alloc ?_ _)); exact BK303.out) hb); have n6_ := Aside0.mk (blk_below (g := gb307) (o := .cells #[.int .i64 t304, .int .i64 t305] 24 (0, 0)) (by (with_reducible repeat (first | refine blk_drewN ?_ _ | refine blk_drew ?_ | refine blk_alloc ?_ _)); exact BK307.out) hb); have n7_ := Aside0.mk (below_step (by repeat (first | (with_reducible first | exact HB.out | apply below_alloc | apply pw_below_drewN | apply below_drew1 | refine below_set ?_ GE282.out | refine below_set ?_ GE283.out | refine below_set ?_ GE291.out | refine below_set ?_ GE295.out | refine below_set ?_ GE299.out | refine below_set ?_ GE303.out | refine below_set ?_ GE307.out) | exact HB.out)) hb); have n8_ := Aside0.mk (hbox); have n9_ := Aside0.mk ((by rw [hg]; exact (below_size (by repeat (first | (with_reducible first | exact HB.out | apply below_alloc | apply pw_below_drewN | apply below_drew1 | refine below_set ?_ GE282.out | refine below_set ?_ GE283.out | refine below_set ?_ GE291.out | refine below_set ?_ GE295.out | refine below_set ?_ GE299.out | refine below_set ?_ GE303.out | refine below_set ?_ GE307.out) | exact HB.out))) : w.heap.size ≤ gb313)); have n10_ := Aside0.mk ((by rw [hg]; exact (below_size (by repeat (first | (with_reducible first | exact HB.out | apply below_alloc | apply pw_below_drewN | apply below_drew1 | refine below_set ?_ GE282.out | refine below_set ?_ GE283.out | refine below_set ?_ GE291.out | refine below_set ?_ GE295.out | refine below_set ?_ GE299.out | refine below_set ?_ GE303.out | refine below_set ?_ GE307.out) | exact HB.out))) : w.heap.size ≤ gb313)); have n11_ := Aside0.mk ((by rw [hg]; exact Nat.ne_of_lt (blk_lt (g := gb282) (o := .cells #[.int .i64 a0_0, .int .i64 a0_1] 24 (0, 0)) (by (with_reducible repeat (first | refine blk_drewN ?_ _ | refine blk_drew ?_ | refine blk_alloc ?_ _)); exact BK282.out)) : gb282 ≠ gb313)); have n12_ := Aside0.mk ((by rw [hg]; exact Nat.ne_of_gt (blk_lt (g := gb282) (o := .cells #[.int .i64 a0_0, .int .i64 a0_1] 24 (0, 0)) (by (with_reducible repeat (first | refine blk_drewN ?_ _ | refine blk_drew ?_ | refine blk_alloc ?_ _)); exact BK282.out)) : gb313 ≠ gb282)); have n13_ := Aside0.mk ((by rw [hg]; exact Nat.ne_of_lt (blk_lt (g := gb283) (o := .cells #[.int .i64 a1_0, .int .i64 a1_1] 24 (0, 0)) (by (with_reducible repeat (first | refine blk_drewN ?_ _ | refine blk_drew ?_ | refine blk_alloc ?_ _)); exact BK283.out)) : gb283 ≠ gb313)); have n14_ := Aside0.mk ((by rw [hg]; exact Nat.ne_of_gt (blk_lt (g := gb283) (o := .cells #[.int .i64 a1_0, .int .i64 a1_1] 24 (0, 0)) (by (with_reducible repeat (first | refine blk_drewN ?_ _ | refine blk_drew ?_ | refine blk_alloc ?_ _)); exact BK283.out)) : gb313 ≠ gb283)); have n15_ := Aside0.mk ((by rw [hg]; exact Nat.ne_of_lt (blk_lt (g := gb291) (o := .cells #[.int .i64 t288, .int .i64 t289] 24 (0, 0)) (by (with_reducible repeat (first | refine blk_drewN ?_ _ | refine blk_drew ?_ | refine blk_alloc ?_ _)); exact BK291.out)) : gb291 ≠ gb313)); have n16_ := Aside0.mk ((by rw [hg]; exact Nat.ne_of_gt (blk_lt (g := gb291) (o := .cells #[.int .i64 t288, .int .i64 t289] 24 (0, 0)) (by (with_reducible repeat (first | refine blk_drewN ?_ _ | refine blk_drew ?_ | refine blk_alloc ?_ _)); exact BK291.out)) : gb313 ≠ gb291)); have n17_ := Aside0.mk ((by rw [hg]; exact Nat.ne_of_lt (blk_lt (g := gb295) (o := .cells #[.int .i64 t292, .int .i64 t293] 24 (0, 0)) (by (with_reducible repeat (first | refine blk_drewN ?_ _ | refine blk_drew ?_ | refine blk_alloc ?_ _)); exact BK295.out)) : gb295 ≠ gb313)); have n18_ := Aside0.mk ((by rw [hg]; exact Nat.ne_of_gt (blk_lt (g := gb295) (o := .cells #[.int .i64 t292, .int .i64 t293] 24 (0, 0)) (by (with_reducible repeat (first | refine blk_drewN ?_ _ | refine blk_drew ?_ | refine blk_alloc ?_ _)); exact BK295.out)) : gb313 ≠ gb295)); have n19_ := Aside0.mk ((by rw [hg]; exact Nat.ne_of_lt (blk_lt (g := gb299) (o := .cells #[.int .i64 t296, .int .i64 t297] 24 (0, 0)) (by (with_reducible repeat (first | refine blk_drewN ?_ _ | refine blk_drew ?_ | refine blk_alloc ?_ _)); exact BK299.out)) : gb299 ≠ gb313)); have n20_ := Aside0.mk ((by rw [hg]; exact Nat.ne_of_gt (blk_lt (g := gb299) (o := .cells #[.int .i64 t296, .int .i64 t297] 24 (0, 0)) (by (with_reducible repeat (first | refine blk_drewN ?_ _ | refine blk_drew ?_ | refine blk_alloc ?_ _)); exact BK299.out)) : gb313 ≠ gb299)); have n21_ := Aside0.mk ((by rw [hg]; exact Nat.ne_of_lt (blk_lt (g := gb303) (o := .cells #[.int .i64 t300, .int .i64 t301] 24 (0, 0)) (by (with_reducible repeat (first | refine blk_drewN ?_ _ | refine blk_drew ?_ | refine blk_alloc ?_ _)); exact BK303.out)) : gb303 ≠ gb313)); have n22_ := Aside0.mk ((by rw [hg]; exact Nat.ne_of_gt (blk_lt (g := gb303) (o := .cells #[.int .i64 t300, .int .i64 t301] 24 (0, 0)) (by (with_reducible repeat (first | refine blk_drewN ?_ _ | refine blk_drew ?_ | refine blk_alloc ?_ _)); exact BK303.out)) : gb313 ≠ gb303)); have n23_ := Aside0.mk ((by rw [hg]; exact Nat.ne_of_lt (blk_lt (g := gb307) (o := .cells #[.int .i64 t304, .int .i64 t305] 24 (0, 0)) (by (with_reducible repeat (first | refine blk_drewN ?_ _ | refine blk_drew ?_ | refine blk_alloc ?_ _)); exact BK307.out)) : gb307 ≠ gb313)); have n24_ := Aside0.mk ((by rw [hg]; exact Nat.ne_of_gt (blk_lt (g := gb307) (o := .cells #[.int .i64 t304, .int .i64 t305] 24 (0, 0)) (by (with_reducible repeat (first | refine blk_drewN ?_ _ | refine blk_drew ?_ | refine blk_alloc ?_ _)); exact BK307.out)) : gb313 ≠ gb307)); clear BK282; clear BK283; clear BK291; clear BK295; clear BK299; clear BK303; clear BK307; clear HB; have BK282 := n0_; have BK283 := n1_; have BK291 := n2_; have BK295 := n3_; have BK299 := n4_; have BK303 := n5_; have BK307 := n6_; have HB := n7_; have BK313 := n8_; have GW313 := n9_; have GE313 := n10_; have NB282_313 := n11_; have NB313_282 := n12_; have NB283_313 := n13_; have NB313_283 := n14_; have NB291_313 := n15_; have NB313_291 := n16_; have NB295_313 := n17_; have NB313_295 := n18_; have NB299_313 := n19_; have NB313_299 := n20_; have NB303_313 := n21_; have NB313_303 := n22_; have NB307_313 := n23_; have NB313_307 := n24_; clear n0_ n1_ n2_ n3_ n4_ n5_ n6_ n7_ n8_ n9_ n10_ n11_ n12_ n13_ n14_ n15_ n16_ n17_ n18_ n19_ n20_ n21_ n22_ n23_ n24_; clear hb hbox hg; have hnb223 := NB313_282.out; have hnc223 := NB282_313.out; have hnb224 := NB313_283.out; have hnc224 := NB283_313.out; have hnb225 := NB313_291.out; have hnc225 := NB291_313.out; have hnb226 := NB313_295.out; have hnc226 := NB295_313.out; have hnb227 := NB313_299.out; have hnc227 := NB299_313.out; have hnb228 := NB313_303.out; have hnc228 := NB303_313.out; have hnb229 := NB313_307.out; have hnc229 := NB307_313.out; have hcz230_0 : w222.cell? ⟨gb313, 0, none⟩ = some (.int .i64 0) := (blk_cell BK313.out 0).trans rfl; have hcz230_1 : w222.cell? ⟨gb313, 1, none⟩ = some (.int .i64 0) := (blk_cell BK313.out 1).trans rfl; have hfz230_0 := blk_frozen BK313.out 0; have hfz230_1 := blk_frozen BK313.out 1; have hnb231 := NB282_295.out; have hnc231 := NB295_282.out; have hnb232 := NB282_299.out; have hnc232 := NB299_282.out; have hnb233 := NB282_303.out; have hnc233 := NB303_282.out; have hnb234 := NB282_307.out; have hnc234 := NB307_282.out; have hcz235_0 : w222.cell? ⟨gb282, 0, none⟩ = some (.int .i64 a0_0) := (blk_cell BK282.out 0).trans rfl; have hcz235_1 : w222.cell? ⟨gb282, 1, none⟩ = some (.int .i64 a0_1) := (blk_cell BK282.out 1).trans rfl; have hfz235_0 := blk_frozen BK282.out 0; have hfz235_1 := blk_frozen BK282.out 1))
                  go_ret
                  exact ⟨by first | rfl | (simp [errW_none, errW_some] <;> rfl) | (simp [*, errW_none, errW_some] <;> rfl), by repeat (first | (with_reducible first | exact HB.out | apply below_alloc | apply pw_below_drewN | apply below_drew1 | refine below_set ?_ GE282.out | refine below_set ?_ GE283.out | refine below_set ?_ GE291.out | refine below_set ?_ GE295.out | refine below_set ?_ GE299.out | refine below_set ?_ GE303.out | refine below_set ?_ GE307.out | refine below_set ?_ GE313.out) | exact HB.out)⟩
              · rw [if_neg c177] at H
                have c177b0 : (t290 == 0) = false := beq_eq_false_iff_ne.mpr c177
                have c177b1 : (t290 != 0) = true := bne_iff_ne.mpr c177
                obtain rfl := Option.some.inj H
                go_wp2
                go_ret
                exact ⟨by first | rfl | (simp [errW_none, errW_some] <;> rfl) | (simp [*, errW_none, errW_some] <;> rfl), by repeat (first | (with_reducible first | exact HB.out | apply below_alloc | apply pw_below_drewN | apply below_drew1 | refine below_set ?_ GE282.out | refine below_set ?_ GE283.out | refine below_set ?_ GE291.out | refine below_set ?_ GE295.out | refine below_set ?_ GE299.out | refine below_set ?_ GE303.out | refine below_set ?_ GE307.out) | exact HB.out)⟩

/-- THE ONE PURE STATEMENT of sleuthlaw02_FractionAdds: yours. -/
def sleuthlaw02_FractionAdds.Pure : Prop := ∀ (a0_0 : Int) (a0_1 : Int) (a1_0 : Int) (a1_1 : Int), (Lit.int .i64 a0_0).wf = true → (Lit.int .i64 a0_1).wf = true → (Lit.int .i64 a1_0).wf = true → (Lit.int .i64 a1_1).wf = true → ∃ k, sleuthlaw02_FractionAdds.f k a0_0 a0_1 a1_0 a1_1 = some true
theorem sleuthlaw02_FractionAdds.walk (P : sleuthlaw02_FractionAdds.Pure) (a0_0 : Int) (a0_1 : Int) (a1_0 : Int) (a1_1 : Int) (w : World) (w0_0 : (Lit.int .i64 a0_0).wf = true) (w0_1 : (Lit.int .i64 a0_1).wf = true) (w1_0 : (Lit.int .i64 a1_0).wf = true) (w1_1 : (Lit.int .i64 a1_1).wf = true) :
    Calls Try.prog 6 #[.agg #[.int .i64 a0_0, .int .i64 a0_1], .agg #[.int .i64 a1_0, .int .i64 a1_1]] w fun e w' => e = .returned (.bool true) ∧ Below w.heap.size w w' := by
  obtain ⟨k, h⟩ := P a0_0 a0_1 a1_0 a1_1 w0_0 w0_1 w1_0 w1_1
  refine (sleuthlaw02_FractionAdds.calls k a0_0 a0_1 a1_0 a1_1 true w h).mono ?_
  rintro e w' ⟨rfl, hd⟩
  exact ⟨rfl, hd⟩

end Go.Proofs.Ytikioicjhdhdpaa.PF
