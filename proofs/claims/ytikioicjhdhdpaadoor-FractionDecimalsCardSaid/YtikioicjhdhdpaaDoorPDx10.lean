-- Written by a program of this session (gprint.py) out of Lean's own print of the program. Lean checks it.
import Derived.Test.YtikioicjhdhdpaaDoorPDx0
import Derived.Test.YtikioicjhdhdpaaDoorPDx1
import Derived.Test.YtikioicjhdhdpaaDoorPDx3
import Derived.Test.YtikioicjhdhdpaaDoorPDx6
import Derived.Test.YtikioicjhdhdpaaDoorPDx7
import Derived.Test.YtikioicjhdhdpaaDoorPDx8
import Derived.Test.YtikioicjhdhdpaaDoorPDx9
namespace Go.Proofs.YtikioicjhdhdpaaDoor.PD
open Go.RowKit Go.Proofs.YtikioicjhdhdpaaDoorW.PrintWords Go.Proofs.YtikioicjhdhdpaaDoorW.PrintLast Go.Proofs.YtikioicjhdhdpaaDoorW.PrintMore
attribute [local go_sem] max2_int min2_int max_two min_two max_three min_three max_four min_four   -- for this text's walks alone
set_option linter.unusedVariables false
set_option linter.unusedSimpArgs false

attribute [local go_sem high] eqA23
/-! ### sleuthlaw02_known: function 5 -/
def sleuthlaw02_known.f (k : Nat)  : Option (Bool) := (fraction_Make.f k 6 (-8)).bind fun bt133 => ((sleuthref02_Of.f k 1 6).bind fun bt137 => ((sleuthref02_Of.f k 1 3).bind fun bt139 => ((fraction_Add.f k bt137.1 bt137.2 bt139.1 bt139.2).bind fun bt141 => ((sleuthref02_Of.f k 99 100).bind fun bt145 => ((fraction_MulFloor.f 10 bt145.1 bt145.2).bind fun bt147 => ((fraction_Parse.f k (⟨#[57, 57, 46, 57, 37]⟩ : ByteArray)).bind fun bt149 => (if (bt133.1 == (-3) && (bt133.2.1 == 4)) = true then (if bt133.2.2 = 0 then (if (bt141.1 == 1 && (bt141.2.1 == 2)) = true then (if bt141.2.2 = 0 then (if bt147.1 = 9 then (if bt147.2 = 0 then (if (bt149.1 == 999 && (bt149.2.1 == 1000)) = true then (some (bt149.2.2 == 0)) else (some false)) else (some false)) else (some false)) else (some false)) else (some false)) else (some false)) else (some false))))))))
theorem sleuthlaw02_known.mono : ∀ k, LeO (sleuthlaw02_known.f k ) (sleuthlaw02_known.f (k + 1) ) := by
  intro  k
  unfold sleuthlaw02_known.f
  repeat' first
      | (with_reducible exact fraction_Add.mono _ _ _ _ _)
      | (with_reducible exact fraction_Make.mono _ _ _)
      | (with_reducible exact fraction_Parse.mono _ _)
      | (with_reducible exact sleuthref02_Of.mono _ _ _)
      | (with_reducible exact LeO.refl _)
      | (with_reducible exact LeO.none _)
      | (with_reducible refine LeO.ite ?_ ?_)
      | (with_reducible refine LeO.bind ?_ (fun _ => ?_))
      | exact fraction_Add.mono _ _ _ _ _
      | exact fraction_Make.mono _ _ _
      | exact fraction_Parse.mono _ _
      | exact sleuthref02_Of.mono _ _ _
      | exact LeO.none _
      | refine LeO.ite ?_ ?_
      | refine LeO.bind ?_ (fun _ => ?_)
set_option maxHeartbeats 8000000 in
set_option maxRecDepth 100000 in
theorem sleuthlaw02_known.calls (k : Nat)  (r : Bool) (w : World) (h : sleuthlaw02_known.f k  = some r) (hr_ : r = true) :
    Calls Tryd.prog 5 #[] w fun e w' => e = .returned (.bool r) ∧ Below w.heap.size w w' := by
  have hu23 := Tryd.underlying23
  have HB := Aside0.mk (Below.refl w.heap.size w)
  have H : ((fraction_Make.f k 6 (-8)).bind fun bt133 => ((sleuthref02_Of.f k 1 6).bind fun bt137 => ((sleuthref02_Of.f k 1 3).bind fun bt139 => ((fraction_Add.f k bt137.1 bt137.2 bt139.1 bt139.2).bind fun bt141 => ((sleuthref02_Of.f k 99 100).bind fun bt145 => ((fraction_MulFloor.f 10 bt145.1 bt145.2).bind fun bt147 => ((fraction_Parse.f k (⟨#[57, 57, 46, 57, 37]⟩ : ByteArray)).bind fun bt149 => (if (bt133.1 == (-3) && (bt133.2.1 == 4)) = true then (if bt133.2.2 = 0 then (if (bt141.1 == 1 && (bt141.2.1 == 2)) = true then (if bt141.2.2 = 0 then (if bt147.1 = 9 then (if bt147.2 = 0 then (if (bt149.1 == 999 && (bt149.2.1 == 1000)) = true then (some (bt149.2.2 == 0)) else (some false)) else (some false)) else (some false)) else (some false)) else (some false)) else (some false)) else (some false))))))))) = some r := h
  clear h
  replace H := Option.bind_eq_some_iff.mp H
  obtain ⟨⟨t133, t134, t135⟩, A10, H⟩ := H
  replace H : ((sleuthref02_Of.f k 1 6).bind fun bt137 => ((sleuthref02_Of.f k 1 3).bind fun bt139 => ((fraction_Add.f k bt137.1 bt137.2 bt139.1 bt139.2).bind fun bt141 => ((sleuthref02_Of.f k 99 100).bind fun bt145 => ((fraction_MulFloor.f 10 bt145.1 bt145.2).bind fun bt147 => ((fraction_Parse.f k (⟨#[57, 57, 46, 57, 37]⟩ : ByteArray)).bind fun bt149 => (if (t133 == (-3) && (t134 == 4)) = true then (if t135 = 0 then (if (bt141.1 == 1 && (bt141.2.1 == 2)) = true then (if bt141.2.2 = 0 then (if bt147.1 = 9 then (if bt147.2 = 0 then (if (bt149.1 == 999 && (bt149.2.1 == 1000)) = true then (some (bt149.2.2 == 0)) else (some false)) else (some false)) else (some false)) else (some false)) else (some false)) else (some false)) else (some false)))))))) = some r := H
  have A1 := Aside0.mk A10
  clear A10
  replace H := Option.bind_eq_some_iff.mp H
  obtain ⟨⟨t137, t138⟩, A20, H⟩ := H
  replace H : ((sleuthref02_Of.f k 1 3).bind fun bt139 => ((fraction_Add.f k t137 t138 bt139.1 bt139.2).bind fun bt141 => ((sleuthref02_Of.f k 99 100).bind fun bt145 => ((fraction_MulFloor.f 10 bt145.1 bt145.2).bind fun bt147 => ((fraction_Parse.f k (⟨#[57, 57, 46, 57, 37]⟩ : ByteArray)).bind fun bt149 => (if (t133 == (-3) && (t134 == 4)) = true then (if t135 = 0 then (if (bt141.1 == 1 && (bt141.2.1 == 2)) = true then (if bt141.2.2 = 0 then (if bt147.1 = 9 then (if bt147.2 = 0 then (if (bt149.1 == 999 && (bt149.2.1 == 1000)) = true then (some (bt149.2.2 == 0)) else (some false)) else (some false)) else (some false)) else (some false)) else (some false)) else (some false)) else (some false))))))) = some r := H
  have A2 := Aside0.mk A20
  clear A20
  replace H := Option.bind_eq_some_iff.mp H
  obtain ⟨⟨t139, t140⟩, A30, H⟩ := H
  replace H : ((fraction_Add.f k t137 t138 t139 t140).bind fun bt141 => ((sleuthref02_Of.f k 99 100).bind fun bt145 => ((fraction_MulFloor.f 10 bt145.1 bt145.2).bind fun bt147 => ((fraction_Parse.f k (⟨#[57, 57, 46, 57, 37]⟩ : ByteArray)).bind fun bt149 => (if (t133 == (-3) && (t134 == 4)) = true then (if t135 = 0 then (if (bt141.1 == 1 && (bt141.2.1 == 2)) = true then (if bt141.2.2 = 0 then (if bt147.1 = 9 then (if bt147.2 = 0 then (if (bt149.1 == 999 && (bt149.2.1 == 1000)) = true then (some (bt149.2.2 == 0)) else (some false)) else (some false)) else (some false)) else (some false)) else (some false)) else (some false)) else (some false)))))) = some r := H
  have A3 := Aside0.mk A30
  clear A30
  replace H := Option.bind_eq_some_iff.mp H
  obtain ⟨⟨t141, t142, t143⟩, A40, H⟩ := H
  replace H : ((sleuthref02_Of.f k 99 100).bind fun bt145 => ((fraction_MulFloor.f 10 bt145.1 bt145.2).bind fun bt147 => ((fraction_Parse.f k (⟨#[57, 57, 46, 57, 37]⟩ : ByteArray)).bind fun bt149 => (if (t133 == (-3) && (t134 == 4)) = true then (if t135 = 0 then (if (t141 == 1 && (t142 == 2)) = true then (if t143 = 0 then (if bt147.1 = 9 then (if bt147.2 = 0 then (if (bt149.1 == 999 && (bt149.2.1 == 1000)) = true then (some (bt149.2.2 == 0)) else (some false)) else (some false)) else (some false)) else (some false)) else (some false)) else (some false)) else (some false))))) = some r := H
  have A4 := Aside0.mk A40
  clear A40
  replace H := Option.bind_eq_some_iff.mp H
  obtain ⟨⟨t145, t146⟩, A50, H⟩ := H
  replace H : ((fraction_MulFloor.f 10 t145 t146).bind fun bt147 => ((fraction_Parse.f k (⟨#[57, 57, 46, 57, 37]⟩ : ByteArray)).bind fun bt149 => (if (t133 == (-3) && (t134 == 4)) = true then (if t135 = 0 then (if (t141 == 1 && (t142 == 2)) = true then (if t143 = 0 then (if bt147.1 = 9 then (if bt147.2 = 0 then (if (bt149.1 == 999 && (bt149.2.1 == 1000)) = true then (some (bt149.2.2 == 0)) else (some false)) else (some false)) else (some false)) else (some false)) else (some false)) else (some false)) else (some false)))) = some r := H
  have A5 := Aside0.mk A50
  clear A50
  replace H := Option.bind_eq_some_iff.mp H
  obtain ⟨⟨t147, t148⟩, A60, H⟩ := H
  replace H : ((fraction_Parse.f k (⟨#[57, 57, 46, 57, 37]⟩ : ByteArray)).bind fun bt149 => (if (t133 == (-3) && (t134 == 4)) = true then (if t135 = 0 then (if (t141 == 1 && (t142 == 2)) = true then (if t143 = 0 then (if t147 = 9 then (if t148 = 0 then (if (bt149.1 == 999 && (bt149.2.1 == 1000)) = true then (some (bt149.2.2 == 0)) else (some false)) else (some false)) else (some false)) else (some false)) else (some false)) else (some false)) else (some false))) = some r := H
  have A6 := Aside0.mk A60
  clear A60
  replace H := Option.bind_eq_some_iff.mp H
  obtain ⟨⟨t149, t150, t151⟩, A70, H⟩ := H
  replace H : (if (t133 == (-3) && (t134 == 4)) = true then (if t135 = 0 then (if (t141 == 1 && (t142 == 2)) = true then (if t143 = 0 then (if t147 = 9 then (if t148 = 0 then (if (t149 == 999 && (t150 == 1000)) = true then (some (t151 == 0)) else (some false)) else (some false)) else (some false)) else (some false)) else (some false)) else (some false)) else (some false)) = some r := H
  have A7 := Aside0.mk A70
  clear A70
  by_cases c8 : (t133 == (-3) && (t134 == 4)) = true
  · rw [if_pos c8] at H
    have c8b0 : (t133 == (-3) && (t134 == 4)) = true := c8
    (try (have c8b1 : decide (t133 = (-3) && (t134 == 4)) = true := by simpa using c8))
    (try (have c8b2 : (t133 == (-3) && (t134 == 4)) = true := by simpa using c8))
    clear c8
    by_cases c9 : t135 = 0
    · rw [if_pos c9] at H
      have c9b0 : (t135 == 0) = true := beq_iff_eq.mpr c9
      have c9b1 : (t135 != 0) = false := bne_eq_false_iff_eq.mpr c9
      clear c9
      by_cases c10 : (t141 == 1 && (t142 == 2)) = true
      · rw [if_pos c10] at H
        have c10b0 : (t141 == 1 && (t142 == 2)) = true := c10
        (try (have c10b1 : decide (t141 = 1 && (t142 == 2)) = true := by simpa using c10))
        (try (have c10b2 : (t141 == 1 && (t142 == 2)) = true := by simpa using c10))
        clear c10
        by_cases c11 : t143 = 0
        · rw [if_pos c11] at H
          have c11b0 : (t143 == 0) = true := beq_iff_eq.mpr c11
          have c11b1 : (t143 != 0) = false := bne_eq_false_iff_eq.mpr c11
          clear c11
          by_cases c12 : t147 = 9
          · rw [if_pos c12] at H
            have c12b0 : (t147 == 9) = true := beq_iff_eq.mpr c12
            have c12b1 : (t147 != 9) = false := bne_eq_false_iff_eq.mpr c12
            clear c12
            by_cases c13 : t148 = 0
            · rw [if_pos c13] at H
              have c13b0 : (t148 == 0) = true := beq_iff_eq.mpr c13
              have c13b1 : (t148 != 0) = false := bne_eq_false_iff_eq.mpr c13
              clear c13
              by_cases c14 : (t149 == 999 && (t150 == 1000)) = true
              · rw [if_pos c14] at H
                have c14b0 : (t149 == 999 && (t150 == 1000)) = true := c14
                (try (have c14b1 : decide (t149 = 999 && (t150 == 1000)) = true := by simpa using c14))
                (try (have c14b2 : (t149 == 999 && (t150 == 1000)) = true := by simpa using c14))
                clear c14
                obtain rfl := Option.some.inj H
                go_enter Tryd.func5, Tryd.ntmps5
                go_wp2_with (first | ((with_reducible refine gate_callee (f := 12) rfl ?_); refine goesL_ (some 10) rfl rfl Tryd.func12 (by kernel_rfl) rfl #[.int .i64 6, .int .i64 (-8)] rfl (by (try simp only [List.map_toArray, List.map_cons, List.map_nil]); first | done | rfl | (simp only [List.length_drop, List.length_take]; rfl)) ?_; (with_reducible refine (fraction_Make.calls k 6 (-8) t133 t134 t135 _ A1.out).mono ?_); rintro e w15 ⟨rfl, hb⟩; refine ⟨_, rfl, ?_⟩; have n0_ := Aside0.mk (below_step (by repeat (first | (with_reducible first | exact HB.out | apply below_alloc | apply pw_below_drewN | apply below_drew1) | exact HB.out)) hb); clear HB; have HB := n0_; clear n0_; (try clear hb); (try clear hb2); (try clear hk); (try clear hi)) | ((with_reducible refine gate_dst (N := 1) rfl ?_); refine box_event ?hg (N := 1) ?hd (cs := #[.int .i64 0, .int .i64 0]) (t := 23) ?hr ?_; (case hd => rfl); (case hg => rfl); (case hr => first | (go_simp; done) | (go_simp; rfl)); intro gb136 hg w16 hbox hb; have n0_ := Aside0.mk (below_step (by repeat (first | (with_reducible first | exact HB.out | apply below_alloc | apply pw_below_drewN | apply below_drew1) | exact HB.out)) hb); have n1_ := Aside0.mk (hbox); have n2_ := Aside0.mk ((by rw [hg]; exact (below_size (by repeat (first | (with_reducible first | exact HB.out | apply below_alloc | apply pw_below_drewN | apply below_drew1) | exact HB.out))) : w.heap.size ≤ gb136)); have n3_ := Aside0.mk ((by rw [hg]; exact (below_size (by repeat (first | (with_reducible first | exact HB.out | apply below_alloc | apply pw_below_drewN | apply below_drew1) | exact HB.out))) : w.heap.size ≤ gb136)); clear HB; have HB := n0_; have BK136 := n1_; have GW136 := n2_; have GE136 := n3_; clear n0_ n1_ n2_ n3_; clear hb hbox hg; have hcz17_0 : w16.cell? ⟨gb136, 0, none⟩ = some (.int .i64 0) := (blk_cell BK136.out 0).trans rfl; have hcz17_1 : w16.cell? ⟨gb136, 1, none⟩ = some (.int .i64 0) := (blk_cell BK136.out 1).trans rfl; have hfz17_0 := blk_frozen BK136.out 0; have hfz17_1 := blk_frozen BK136.out 1) | ((with_reducible refine gate_callee (f := 14) rfl ?_); refine goesL_ (some 14) rfl rfl Tryd.func14 (by kernel_rfl) rfl #[.int .i64 1, .int .i64 6] rfl (by (try simp only [List.map_toArray, List.map_cons, List.map_nil]); first | done | rfl | (simp only [List.length_drop, List.length_take]; rfl)) ?_; (with_reducible refine (sleuthref02_Of.calls k 1 6 t137 t138 _ A2.out).mono ?_); rintro e w18 ⟨rfl, hb⟩; refine ⟨_, rfl, ?_⟩; have n0_ := Aside0.mk (blk_below (g := gb136) (o := .cells #[.int .i64 t133, .int .i64 t134] 23 (0, 0)) (by (with_reducible repeat (first | refine blk_drewN ?_ _ | refine blk_drew ?_ | refine blk_alloc ?_ _)); refine blk_put (cs := #[.int .i64 t133, .int .i64 0]) ?_ 1 _ rfl; (with_reducible repeat (first | refine blk_drewN ?_ _ | refine blk_drew ?_ | refine blk_alloc ?_ _)); refine blk_put (cs := #[.int .i64 0, .int .i64 0]) ?_ 0 _ rfl; (with_reducible repeat (first | refine blk_drewN ?_ _ | refine blk_drew ?_ | refine blk_alloc ?_ _)); exact BK136.out) hb); have n1_ := Aside0.mk (below_step (by repeat (first | (with_reducible first | exact HB.out | apply below_alloc | apply pw_below_drewN | apply below_drew1 | refine below_set ?_ GE136.out) | exact HB.out)) hb); clear BK136; clear HB; have BK136 := n0_; have HB := n1_; clear n0_ n1_; (try clear hb); (try clear hb2); (try clear hk); (try clear hi)) | ((with_reducible refine gate_callee (f := 14) rfl ?_); refine goesL_ (some 15) rfl rfl Tryd.func14 (by kernel_rfl) rfl #[.int .i64 1, .int .i64 3] rfl (by (try simp only [List.map_toArray, List.map_cons, List.map_nil]); first | done | rfl | (simp only [List.length_drop, List.length_take]; rfl)) ?_; (with_reducible refine (sleuthref02_Of.calls k 1 3 t139 t140 _ A3.out).mono ?_); rintro e w19 ⟨rfl, hb⟩; refine ⟨_, rfl, ?_⟩; have n0_ := Aside0.mk (blk_below (g := gb136) (o := .cells #[.int .i64 t133, .int .i64 t134] 23 (0, 0)) (by (with_reducible repeat (first | refine blk_drewN ?_ _ | refine blk_drew ?_ | refine blk_alloc ?_ _)); exact BK136.out) hb); have n1_ := Aside0.mk (below_step (by repeat (first | (with_reducible first | exact HB.out | apply below_alloc | apply pw_below_drewN | apply below_drew1 | refine below_set ?_ GE136.out) | exact HB.out)) hb); clear BK136; clear HB; have BK136 := n0_; have HB := n1_; clear n0_ n1_; (try clear hb); (try clear hb2); (try clear hk); (try clear hi)) | ((with_reducible refine gate_callee (f := 13) rfl ?_); refine goesL_ (some 16) rfl rfl Tryd.func13 (by kernel_rfl) rfl #[.agg #[.int .i64 t137, .int .i64 t138], .agg #[.int .i64 t139, .int .i64 t140]] rfl (by (try simp only [List.map_toArray, List.map_cons, List.map_nil]); first | done | rfl | (simp only [List.length_drop, List.length_take]; rfl)) ?_; (with_reducible refine (fraction_Add.calls k t137 t138 t139 t140 t141 t142 t143 _ A4.out).mono ?_); rintro e w20 ⟨rfl, hb⟩; refine ⟨_, rfl, ?_⟩; have n0_ := Aside0.mk (blk_below (g := gb136) (o := .cells #[.int .i64 t133, .int .i64 t134] 23 (0, 0)) (by (with_reducible repeat (first | refine blk_drewN ?_ _ | refine blk_drew ?_ | refine blk_alloc ?_ _)); exact BK136.out) hb); have n1_ := Aside0.mk (below_step (by repeat (first | (with_reducible first | exact HB.out | apply below_alloc | apply pw_below_drewN | apply below_drew1 | refine below_set ?_ GE136.out) | exact HB.out)) hb); clear BK136; clear HB; have BK136 := n0_; have HB := n1_; clear n0_ n1_; (try clear hb); (try clear hb2); (try clear hk); (try clear hi)) | ((with_reducible refine gate_dst (N := 3) rfl ?_); refine box_event ?hg (N := 3) ?hd (cs := #[.int .i64 0, .int .i64 0]) (t := 23) ?hr ?_; (case hd => rfl); (case hg => rfl); (case hr => first | (go_simp; done) | (go_simp; rfl)); intro gb144 hg w21 hbox hb; have n0_ := Aside0.mk (blk_below (g := gb136) (o := .cells #[.int .i64 t133, .int .i64 t134] 23 (0, 0)) (by (with_reducible repeat (first | refine blk_drewN ?_ _ | refine blk_drew ?_ | refine blk_alloc ?_ _)); exact BK136.out) hb); have n1_ := Aside0.mk (below_step (by repeat (first | (with_reducible first | exact HB.out | apply below_alloc | apply pw_below_drewN | apply below_drew1 | refine below_set ?_ GE136.out) | exact HB.out)) hb); have n2_ := Aside0.mk (hbox); have n3_ := Aside0.mk ((by rw [hg]; exact (below_size (by repeat (first | (with_reducible first | exact HB.out | apply below_alloc | apply pw_below_drewN | apply below_drew1 | refine below_set ?_ GE136.out) | exact HB.out))) : w.heap.size ≤ gb144)); have n4_ := Aside0.mk ((by rw [hg]; exact (below_size (by repeat (first | (with_reducible first | exact HB.out | apply below_alloc | apply pw_below_drewN | apply below_drew1 | refine below_set ?_ GE136.out) | exact HB.out))) : w.heap.size ≤ gb144)); have n5_ := Aside0.mk ((by rw [hg]; exact Nat.ne_of_lt (blk_lt (g := gb136) (o := .cells #[.int .i64 t133, .int .i64 t134] 23 (0, 0)) (by (with_reducible repeat (first | refine blk_drewN ?_ _ | refine blk_drew ?_ | refine blk_alloc ?_ _)); exact BK136.out)) : gb136 ≠ gb144)); have n6_ := Aside0.mk ((by rw [hg]; exact Nat.ne_of_gt (blk_lt (g := gb136) (o := .cells #[.int .i64 t133, .int .i64 t134] 23 (0, 0)) (by (with_reducible repeat (first | refine blk_drewN ?_ _ | refine blk_drew ?_ | refine blk_alloc ?_ _)); exact BK136.out)) : gb144 ≠ gb136)); clear BK136; clear HB; have BK136 := n0_; have HB := n1_; have BK144 := n2_; have GW144 := n3_; have GE144 := n4_; have NB136_144 := n5_; have NB144_136 := n6_; clear n0_ n1_ n2_ n3_ n4_ n5_ n6_; clear hb hbox hg; have hnb22 := NB144_136.out; have hnc22 := NB136_144.out; have hcz23_0 : w21.cell? ⟨gb144, 0, none⟩ = some (.int .i64 0) := (blk_cell BK144.out 0).trans rfl; have hcz23_1 : w21.cell? ⟨gb144, 1, none⟩ = some (.int .i64 0) := (blk_cell BK144.out 1).trans rfl; have hfz23_0 := blk_frozen BK144.out 0; have hfz23_1 := blk_frozen BK144.out 1) | ((with_reducible refine gate_callee (f := 14) rfl ?_); refine goesL_ (some 20) rfl rfl Tryd.func14 (by kernel_rfl) rfl #[.int .i64 99, .int .i64 100] rfl (by (try simp only [List.map_toArray, List.map_cons, List.map_nil]); first | done | rfl | (simp only [List.length_drop, List.length_take]; rfl)) ?_; (with_reducible refine (sleuthref02_Of.calls k 99 100 t145 t146 _ A5.out).mono ?_); rintro e w24 ⟨rfl, hb⟩; refine ⟨_, rfl, ?_⟩; have n0_ := Aside0.mk (blk_below (g := gb136) (o := .cells #[.int .i64 t133, .int .i64 t134] 23 (0, 0)) (by (with_reducible repeat (first | refine blk_drewN ?_ _ | refine blk_drew ?_ | refine blk_alloc ?_ _)); refine blk_far ?_ NB136_144.out _; (with_reducible repeat (first | refine blk_drewN ?_ _ | refine blk_drew ?_ | refine blk_alloc ?_ _)); refine blk_far ?_ NB136_144.out _; (with_reducible repeat (first | refine blk_drewN ?_ _ | refine blk_drew ?_ | refine blk_alloc ?_ _)); exact BK136.out) hb); have n1_ := Aside0.mk (blk_below (g := gb144) (o := .cells #[.int .i64 t141, .int .i64 t142] 23 (0, 0)) (by (with_reducible repeat (first | refine blk_drewN ?_ _ | refine blk_drew ?_ | refine blk_alloc ?_ _)); refine blk_put (cs := #[.int .i64 t141, .int .i64 0]) ?_ 1 _ rfl; (with_reducible repeat (first | refine blk_drewN ?_ _ | refine blk_drew ?_ | refine blk_alloc ?_ _)); refine blk_put (cs := #[.int .i64 0, .int .i64 0]) ?_ 0 _ rfl; (with_reducible repeat (first | refine blk_drewN ?_ _ | refine blk_drew ?_ | refine blk_alloc ?_ _)); exact BK144.out) hb); have n2_ := Aside0.mk (below_step (by repeat (first | (with_reducible first | exact HB.out | apply below_alloc | apply pw_below_drewN | apply below_drew1 | refine below_set ?_ GE136.out | refine below_set ?_ GE144.out) | exact HB.out)) hb); clear BK136; clear BK144; clear HB; have BK136 := n0_; have BK144 := n1_; have HB := n2_; clear n0_ n1_ n2_; (try clear hb); (try clear hb2); (try clear hk); (try clear hi)) | ((with_reducible refine gate_callee (f := 15) rfl ?_); refine goesL_ (some 21) rfl rfl Tryd.func15 (by kernel_rfl) rfl #[.int .i64 10, .agg #[.int .i64 t145, .int .i64 t146]] rfl (by (try simp only [List.map_toArray, List.map_cons, List.map_nil]); first | done | rfl | (simp only [List.length_drop, List.length_take]; rfl)) ?_; (with_reducible refine (fraction_MulFloor.calls 10 t145 t146 t147 t148 _ A6.out).mono ?_); rintro e w25 ⟨rfl, hb⟩; refine ⟨_, rfl, ?_⟩; have n0_ := Aside0.mk (blk_below (g := gb136) (o := .cells #[.int .i64 t133, .int .i64 t134] 23 (0, 0)) (by (with_reducible repeat (first | refine blk_drewN ?_ _ | refine blk_drew ?_ | refine blk_alloc ?_ _)); exact BK136.out) hb); have n1_ := Aside0.mk (blk_below (g := gb144) (o := .cells #[.int .i64 t141, .int .i64 t142] 23 (0, 0)) (by (with_reducible repeat (first | refine blk_drewN ?_ _ | refine blk_drew ?_ | refine blk_alloc ?_ _)); exact BK144.out) hb); have n2_ := Aside0.mk (below_step (by repeat (first | (with_reducible first | exact HB.out | apply below_alloc | apply pw_below_drewN | apply below_drew1 | refine below_set ?_ GE136.out | refine below_set ?_ GE144.out) | exact HB.out)) hb); clear BK136; clear BK144; clear HB; have BK136 := n0_; have BK144 := n1_; have HB := n2_; clear n0_ n1_ n2_; (try clear hb); (try clear hb2); (try clear hk); (try clear hi)) | ((with_reducible refine gate_callee (f := 8) rfl ?_); refine goesL_ (some 25) rfl rfl Tryd.func8 (by kernel_rfl) rfl #[.string (⟨#[57, 57, 46, 57, 37]⟩ : ByteArray)] rfl (by (try simp only [List.map_toArray, List.map_cons, List.map_nil]); first | done | rfl | (simp only [List.length_drop, List.length_take]; rfl)) ?_; (with_reducible refine (fraction_Parse.calls k (⟨#[57, 57, 46, 57, 37]⟩ : ByteArray) t149 t150 t151 _ A7.out).mono ?_); rintro e w26 ⟨rfl, hb⟩; refine ⟨_, rfl, ?_⟩; have n0_ := Aside0.mk (blk_below (g := gb136) (o := .cells #[.int .i64 t133, .int .i64 t134] 23 (0, 0)) (by (with_reducible repeat (first | refine blk_drewN ?_ _ | refine blk_drew ?_ | refine blk_alloc ?_ _)); exact BK136.out) hb); have n1_ := Aside0.mk (blk_below (g := gb144) (o := .cells #[.int .i64 t141, .int .i64 t142] 23 (0, 0)) (by (with_reducible repeat (first | refine blk_drewN ?_ _ | refine blk_drew ?_ | refine blk_alloc ?_ _)); exact BK144.out) hb); have n2_ := Aside0.mk (below_step (by repeat (first | (with_reducible first | exact HB.out | apply below_alloc | apply pw_below_drewN | apply below_drew1 | refine below_set ?_ GE136.out | refine below_set ?_ GE144.out) | exact HB.out)) hb); clear BK136; clear BK144; clear HB; have BK136 := n0_; have BK144 := n1_; have HB := n2_; clear n0_ n1_ n2_; (try clear hb); (try clear hb2); (try clear hk); (try clear hi)) | ((with_reducible refine gate_dst (N := 7) rfl ?_); refine box_event ?hg (N := 7) ?hd (cs := #[.int .i64 0, .int .i64 0]) (t := 23) ?hr ?_; (case hd => rfl); (case hg => rfl); (case hr => first | (go_simp; done) | (go_simp; rfl)); intro gb152 hg w27 hbox hb; have n0_ := Aside0.mk (blk_below (g := gb136) (o := .cells #[.int .i64 t133, .int .i64 t134] 23 (0, 0)) (by (with_reducible repeat (first | refine blk_drewN ?_ _ | refine blk_drew ?_ | refine blk_alloc ?_ _)); exact BK136.out) hb); have n1_ := Aside0.mk (blk_below (g := gb144) (o := .cells #[.int .i64 t141, .int .i64 t142] 23 (0, 0)) (by (with_reducible repeat (first | refine blk_drewN ?_ _ | refine blk_drew ?_ | refine blk_alloc ?_ _)); exact BK144.out) hb); have n2_ := Aside0.mk (below_step (by repeat (first | (with_reducible first | exact HB.out | apply below_alloc | apply pw_below_drewN | apply below_drew1 | refine below_set ?_ GE136.out | refine below_set ?_ GE144.out) | exact HB.out)) hb); have n3_ := Aside0.mk (hbox); have n4_ := Aside0.mk ((by rw [hg]; exact (below_size (by repeat (first | (with_reducible first | exact HB.out | apply below_alloc | apply pw_below_drewN | apply below_drew1 | refine below_set ?_ GE136.out | refine below_set ?_ GE144.out) | exact HB.out))) : w.heap.size ≤ gb152)); have n5_ := Aside0.mk ((by rw [hg]; exact (below_size (by repeat (first | (with_reducible first | exact HB.out | apply below_alloc | apply pw_below_drewN | apply below_drew1 | refine below_set ?_ GE136.out | refine below_set ?_ GE144.out) | exact HB.out))) : w.heap.size ≤ gb152)); have n6_ := Aside0.mk ((by rw [hg]; exact Nat.ne_of_lt (blk_lt (g := gb136) (o := .cells #[.int .i64 t133, .int .i64 t134] 23 (0, 0)) (by (with_reducible repeat (first | refine blk_drewN ?_ _ | refine blk_drew ?_ | refine blk_alloc ?_ _)); exact BK136.out)) : gb136 ≠ gb152)); have n7_ := Aside0.mk ((by rw [hg]; exact Nat.ne_of_gt (blk_lt (g := gb136) (o := .cells #[.int .i64 t133, .int .i64 t134] 23 (0, 0)) (by (with_reducible repeat (first | refine blk_drewN ?_ _ | refine blk_drew ?_ | refine blk_alloc ?_ _)); exact BK136.out)) : gb152 ≠ gb136)); have n8_ := Aside0.mk ((by rw [hg]; exact Nat.ne_of_lt (blk_lt (g := gb144) (o := .cells #[.int .i64 t141, .int .i64 t142] 23 (0, 0)) (by (with_reducible repeat (first | refine blk_drewN ?_ _ | refine blk_drew ?_ | refine blk_alloc ?_ _)); exact BK144.out)) : gb144 ≠ gb152)); have n9_ := Aside0.mk ((by rw [hg]; exact Nat.ne_of_gt (blk_lt (g := gb144) (o := .cells #[.int .i64 t141, .int .i64 t142] 23 (0, 0)) (by (with_reducible repeat (first | refine blk_drewN ?_ _ | refine blk_drew ?_ | refine blk_alloc ?_ _)); exact BK144.out)) : gb152 ≠ gb144)); clear BK136; clear BK144; clear HB; have BK136 := n0_; have BK144 := n1_; have HB := n2_; have BK152 := n3_; have GW152 := n4_; have GE152 := n5_; have NB136_152 := n6_; have NB152_136 := n7_; have NB144_152 := n8_; have NB152_144 := n9_; clear n0_ n1_ n2_ n3_ n4_ n5_ n6_ n7_ n8_ n9_; clear hb hbox hg; have hnb28 := NB152_136.out; have hnc28 := NB136_152.out; have hnb29 := NB152_144.out; have hnc29 := NB144_152.out; have hcz30_0 : w27.cell? ⟨gb152, 0, none⟩ = some (.int .i64 0) := (blk_cell BK152.out 0).trans rfl; have hcz30_1 : w27.cell? ⟨gb152, 1, none⟩ = some (.int .i64 0) := (blk_cell BK152.out 1).trans rfl; have hfz30_0 := blk_frozen BK152.out 0; have hfz30_1 := blk_frozen BK152.out 1; have hcz31_0 : w27.cell? ⟨gb136, 0, none⟩ = some (.int .i64 t133) := (blk_cell BK136.out 0).trans rfl; have hcz31_1 : w27.cell? ⟨gb136, 1, none⟩ = some (.int .i64 t134) := (blk_cell BK136.out 1).trans rfl; have hfz31_0 := blk_frozen BK136.out 0; have hfz31_1 := blk_frozen BK136.out 1; have hcz32_0 : w27.cell? ⟨gb144, 0, none⟩ = some (.int .i64 t141) := (blk_cell BK144.out 0).trans rfl; have hcz32_1 : w27.cell? ⟨gb144, 1, none⟩ = some (.int .i64 t142) := (blk_cell BK144.out 1).trans rfl; have hfz32_0 := blk_frozen BK144.out 0; have hfz32_1 := blk_frozen BK144.out 1))
                go_ret
                exact ⟨by first | rfl | (simp [errW_none, errW_some] <;> rfl) | (simp [*, errW_none, errW_some] <;> rfl), by repeat (first | (with_reducible first | exact HB.out | apply below_alloc | apply pw_below_drewN | apply below_drew1 | refine below_set ?_ GE136.out | refine below_set ?_ GE144.out | refine below_set ?_ GE152.out) | exact HB.out)⟩
              · rw [if_neg c14] at H
                have c14b0 : (t149 == 999 && (t150 == 1000)) = false := by simpa using c14
                (try (have c14b1 : decide (t149 = 999 && (t150 == 1000)) = false := by simpa using c14))
                (try (have c14b2 : (t149 == 999 && (t150 == 1000)) = false := by simpa using c14))
                (try (have c14b3 : ¬ (t149 = 999 && (t150 == 1000)) := by simpa using c14))
                clear c14
                exact absurd (H.trans (congrArg some hr_)) (by decide)
            · rw [if_neg c13] at H
              have c13b0 : (t148 == 0) = false := beq_eq_false_iff_ne.mpr c13
              have c13b1 : (t148 != 0) = true := bne_iff_ne.mpr c13
              exact absurd (H.trans (congrArg some hr_)) (by decide)
          · rw [if_neg c12] at H
            have c12b0 : (t147 == 9) = false := beq_eq_false_iff_ne.mpr c12
            have c12b1 : (t147 != 9) = true := bne_iff_ne.mpr c12
            exact absurd (H.trans (congrArg some hr_)) (by decide)
        · rw [if_neg c11] at H
          have c11b0 : (t143 == 0) = false := beq_eq_false_iff_ne.mpr c11
          have c11b1 : (t143 != 0) = true := bne_iff_ne.mpr c11
          exact absurd (H.trans (congrArg some hr_)) (by decide)
      · rw [if_neg c10] at H
        have c10b0 : (t141 == 1 && (t142 == 2)) = false := by simpa using c10
        (try (have c10b1 : decide (t141 = 1 && (t142 == 2)) = false := by simpa using c10))
        (try (have c10b2 : (t141 == 1 && (t142 == 2)) = false := by simpa using c10))
        (try (have c10b3 : ¬ (t141 = 1 && (t142 == 2)) := by simpa using c10))
        clear c10
        exact absurd (H.trans (congrArg some hr_)) (by decide)
    · rw [if_neg c9] at H
      have c9b0 : (t135 == 0) = false := beq_eq_false_iff_ne.mpr c9
      have c9b1 : (t135 != 0) = true := bne_iff_ne.mpr c9
      exact absurd (H.trans (congrArg some hr_)) (by decide)
  · rw [if_neg c8] at H
    have c8b0 : (t133 == (-3) && (t134 == 4)) = false := by simpa using c8
    (try (have c8b1 : decide (t133 = (-3) && (t134 == 4)) = false := by simpa using c8))
    (try (have c8b2 : (t133 == (-3) && (t134 == 4)) = false := by simpa using c8))
    (try (have c8b3 : ¬ (t133 = (-3) && (t134 == 4)) := by simpa using c8))
    clear c8
    exact absurd (H.trans (congrArg some hr_)) (by decide)
theorem sleuthlaw02_known.never (k : Nat) : ¬ (sleuthlaw02_known.f k = some false) := by
  intro h
  have a := at_rounds sleuthlaw02_known.mono (show k ≤ k + 400 by omega) h
  have b := at_rounds sleuthlaw02_known.mono (show 400 ≤ k + 400 by omega) (show sleuthlaw02_known.f 400 = some true by decide +kernel)
  rw [a] at b
  cases b

end Go.Proofs.YtikioicjhdhdpaaDoor.PD
