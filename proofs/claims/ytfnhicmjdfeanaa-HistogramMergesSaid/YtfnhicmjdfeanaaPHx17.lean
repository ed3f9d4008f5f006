-- Written by a program of this session (gprint.py) out of Lean's own print of the program. Lean checks it.
import Derived.Test.YtfnhicmjdfeanaaPHx0
import Derived.Test.YtfnhicmjdfeanaaPHx4
import Derived.Test.YtfnhicmjdfeanaaPHx5
import Derived.Test.YtfnhicmjdfeanaaPHx11
import Derived.Test.YtfnhicmjdfeanaaPHx15
import Derived.Test.YtfnhicmjdfeanaaPHx16
namespace Go.Proofs.Ytfnhicmjdfeanaa.PH
open Go.RowKit Go.Proofs.YtfnhicmjdfeanaaW.PrintWords Go.Proofs.YtfnhicmjdfeanaaW.PrintLast Go.Proofs.YtfnhicmjdfeanaaW.PrintMore
attribute [local go_sem] max2_int min2_int max_two min_two max_three min_three max_four min_four   -- for this text's walks alone
set_option linter.unusedVariables false
set_option linter.unusedSimpArgs false

/-! ### sleuthlaw21_known: function 12 -/
def sleuthlaw21_known.f (k : Nat)  : Option (Bool) := (histogram_Of.f k (([3, 17, 16, 100] : List Int))).bind fun bt147 => ((histogram_Quantile.f k bt147.1 1 2).bind fun bt152 => ((histogram_Sum.f k bt147.1).bind fun bt155 => ((histogram_AtMost.f k bt147.1 16).bind fun bt157 => (if bt147.2 = 0 then ((sleuthlaw21_same.f k bt147.1 (([(⟨3, 1⟩ : S62), (⟨16, 2⟩ : S62), (⟨36, 1⟩ : S62)] : List (S62)))).bind fun t162 => (if t162 = true then (if bt152.2.2 = 0 then (if bt152.1 = 16 then (if bt152.2.1 = 17 then (if bt155.1 = 131 then (if bt155.2 = 140 then (if bt157.1 = 1 then (some (bt157.2 == 3)) else (some false)) else (some false)) else (some false)) else (some false)) else (some false)) else (some false)) else (some false))) else (some false)))))
theorem sleuthlaw21_known.mono : ∀ k, LeO (sleuthlaw21_known.f k ) (sleuthlaw21_known.f (k + 1) ) := by
  intro  k
  unfold sleuthlaw21_known.f
  repeat' first
      | (with_reducible exact histogram_AtMost.mono _ _ _)
      | (with_reducible exact histogram_Of.mono _ _)
      | (with_reducible exact histogram_Quantile.mono _ _ _ _)
      | (with_reducible exact histogram_Sum.mono _ _)
      | (with_reducible exact sleuthlaw21_same.mono _ _ _)
      | (with_reducible exact LeO.refl _)
      | (with_reducible exact LeO.none _)
      | (with_reducible refine LeO.ite ?_ ?_)
      | (with_reducible refine LeO.bind ?_ (fun _ => ?_))
      | exact histogram_AtMost.mono _ _ _
      | exact histogram_Of.mono _ _
      | exact histogram_Quantile.mono _ _ _ _
      | exact histogram_Sum.mono _ _
      | exact sleuthlaw21_same.mono _ _ _
      | exact LeO.none _
      | refine LeO.ite ?_ ?_
      | refine LeO.bind ?_ (fun _ => ?_)
set_option maxHeartbeats 8000000 in
set_option maxRecDepth 100000 in
theorem sleuthlaw21_known.calls (k : Nat)  (r : Bool) (w : World) (h : sleuthlaw21_known.f k  = some r) (hr_ : r = true) :
    Calls Try.prog 12 #[] w fun e w' => e = .returned (.bool r) ∧ Below w.heap.size w w' := by
  have hu33 := Try.underlying33
  have hu41 := Try.underlying41
  have hu62 := Try.underlying62
  have HB := Aside0.mk (Below.refl w.heap.size w)
  have H : ((histogram_Of.f k (([3, 17, 16, 100] : List Int))).bind fun bt147 => ((histogram_Quantile.f k bt147.1 1 2).bind fun bt152 => ((histogram_Sum.f k bt147.1).bind fun bt155 => ((histogram_AtMost.f k bt147.1 16).bind fun bt157 => (if bt147.2 = 0 then ((sleuthlaw21_same.f k bt147.1 (([(⟨3, 1⟩ : S62), (⟨16, 2⟩ : S62), (⟨36, 1⟩ : S62)] : List (S62)))).bind fun t162 => (if t162 = true then (if bt152.2.2 = 0 then (if bt152.1 = 16 then (if bt152.2.1 = 17 then (if bt155.1 = 131 then (if bt155.2 = 140 then (if bt157.1 = 1 then (some (bt157.2 == 3)) else (some false)) else (some false)) else (some false)) else (some false)) else (some false)) else (some false)) else (some false))) else (some false)))))) = some r := h
  clear h
  obtain ⟨y144, hy144⟩ : ∃ y_ : List Int, y_ = (([3, 17, 16, 100] : List Int)) := ⟨_, rfl⟩
  replace H : ((histogram_Of.f k y144).bind fun bt147 => ((histogram_Quantile.f k bt147.1 1 2).bind fun bt152 => ((histogram_Sum.f k bt147.1).bind fun bt155 => ((histogram_AtMost.f k bt147.1 16).bind fun bt157 => (if bt147.2 = 0 then ((sleuthlaw21_same.f k bt147.1 (([(⟨3, 1⟩ : S62), (⟨16, 2⟩ : S62), (⟨36, 1⟩ : S62)] : List (S62)))).bind fun t162 => (if t162 = true then (if bt152.2.2 = 0 then (if bt152.1 = 16 then (if bt152.2.1 = 17 then (if bt155.1 = 131 then (if bt155.2 = 140 then (if bt157.1 = 1 then (some (bt157.2 == 3)) else (some false)) else (some false)) else (some false)) else (some false)) else (some false)) else (some false)) else (some false))) else (some false)))))) = some r := by first | (rw [hy144]; with_reducible exact H) | (have H2_ := (Option.bind_some _ _).symm.trans H; rw [hy144]; with_reducible exact H2_) | (have H2_ := (Option.bind_some _ _).symm.trans H; with_reducible exact H2_) | with_reducible exact H | (rw [hy144]; exact H) | exact H
  have Ny144 := Aside0.mk hy144
  clear hy144
  replace H := Option.bind_eq_some_iff.mp H
  obtain ⟨⟨t147, t150⟩, A10, H⟩ := H
  replace H : ((histogram_Quantile.f k t147 1 2).bind fun bt152 => ((histogram_Sum.f k t147).bind fun bt155 => ((histogram_AtMost.f k t147 16).bind fun bt157 => (if t150 = 0 then ((sleuthlaw21_same.f k t147 (([(⟨3, 1⟩ : S62), (⟨16, 2⟩ : S62), (⟨36, 1⟩ : S62)] : List (S62)))).bind fun t162 => (if t162 = true then (if bt152.2.2 = 0 then (if bt152.1 = 16 then (if bt152.2.1 = 17 then (if bt155.1 = 131 then (if bt155.2 = 140 then (if bt157.1 = 1 then (some (bt157.2 == 3)) else (some false)) else (some false)) else (some false)) else (some false)) else (some false)) else (some false)) else (some false))) else (some false))))) = some r := H
  have A1 := Aside0.mk A10
  clear A10
  replace H := Option.bind_eq_some_iff.mp H
  obtain ⟨⟨t152, t153, t154⟩, A20, H⟩ := H
  replace H : ((histogram_Sum.f k t147).bind fun bt155 => ((histogram_AtMost.f k t147 16).bind fun bt157 => (if t150 = 0 then ((sleuthlaw21_same.f k t147 (([(⟨3, 1⟩ : S62), (⟨16, 2⟩ : S62), (⟨36, 1⟩ : S62)] : List (S62)))).bind fun t162 => (if t162 = true then (if t154 = 0 then (if t152 = 16 then (if t153 = 17 then (if bt155.1 = 131 then (if bt155.2 = 140 then (if bt157.1 = 1 then (some (bt157.2 == 3)) else (some false)) else (some false)) else (some false)) else (some false)) else (some false)) else (some false)) else (some false))) else (some false)))) = some r := H
  have A2 := Aside0.mk A20
  clear A20
  replace H := Option.bind_eq_some_iff.mp H
  obtain ⟨⟨t155, t156⟩, A30, H⟩ := H
  replace H : ((histogram_AtMost.f k t147 16).bind fun bt157 => (if t150 = 0 then ((sleuthlaw21_same.f k t147 (([(⟨3, 1⟩ : S62), (⟨16, 2⟩ : S62), (⟨36, 1⟩ : S62)] : List (S62)))).bind fun t162 => (if t162 = true then (if t154 = 0 then (if t152 = 16 then (if t153 = 17 then (if t155 = 131 then (if t156 = 140 then (if bt157.1 = 1 then (some (bt157.2 == 3)) else (some false)) else (some false)) else (some false)) else (some false)) else (some false)) else (some false)) else (some false))) else (some false))) = some r := H
  have A3 := Aside0.mk A30
  clear A30
  replace H := Option.bind_eq_some_iff.mp H
  obtain ⟨⟨t157, t158⟩, A40, H⟩ := H
  replace H : (if t150 = 0 then ((sleuthlaw21_same.f k t147 (([(⟨3, 1⟩ : S62), (⟨16, 2⟩ : S62), (⟨36, 1⟩ : S62)] : List (S62)))).bind fun t162 => (if t162 = true then (if t154 = 0 then (if t152 = 16 then (if t153 = 17 then (if t155 = 131 then (if t156 = 140 then (if t157 = 1 then (some (t158 == 3)) else (some false)) else (some false)) else (some false)) else (some false)) else (some false)) else (some false)) else (some false))) else (some false)) = some r := H
  have A4 := Aside0.mk A40
  clear A40
  by_cases c5 : t150 = 0
  · rw [if_pos c5] at H
    have c5b0 : (t150 == 0) = true := beq_iff_eq.mpr c5
    have c5b1 : (t150 != 0) = false := bne_eq_false_iff_eq.mpr c5
    clear c5
    obtain ⟨y159, hy159⟩ : ∃ y_ : List (S62), y_ = (([(⟨3, 1⟩ : S62), (⟨16, 2⟩ : S62), (⟨36, 1⟩ : S62)] : List (S62))) := ⟨_, rfl⟩
    replace H : ((sleuthlaw21_same.f k t147 y159).bind fun t162 => (if t162 = true then (if t154 = 0 then (if t152 = 16 then (if t153 = 17 then (if t155 = 131 then (if t156 = 140 then (if t157 = 1 then (some (t158 == 3)) else (some false)) else (some false)) else (some false)) else (some false)) else (some false)) else (some false)) else (some false))) = some r := by first | (rw [hy159]; with_reducible exact H) | (have H2_ := (Option.bind_some _ _).symm.trans H; rw [hy159]; with_reducible exact H2_) | (have H2_ := (Option.bind_some _ _).symm.trans H; with_reducible exact H2_) | with_reducible exact H | (rw [hy159]; exact H) | exact H
    have Ny159 := Aside0.mk hy159
    clear hy159
    replace H := Option.bind_eq_some_iff.mp H
    obtain ⟨t162, A60, H⟩ := H
    replace H : (if t162 = true then (if t154 = 0 then (if t152 = 16 then (if t153 = 17 then (if t155 = 131 then (if t156 = 140 then (if t157 = 1 then (some (t158 == 3)) else (some false)) else (some false)) else (some false)) else (some false)) else (some false)) else (some false)) else (some false)) = some r := H
    have A6 := Aside0.mk A60
    clear A60
    by_cases c7 : t162 = true
    · subst c7
      have H1 : (if t154 = 0 then (if t152 = 16 then (if t153 = 17 then (if t155 = 131 then (if t156 = 140 then (if t157 = 1 then (some (t158 == 3)) else (some false)) else (some false)) else (some false)) else (some false)) else (some false)) else (some false)) = some r := by rw [if_pos rfl] at H; exact H
      clear H
      have H := H1
      clear H1
      by_cases c8 : t154 = 0
      · rw [if_pos c8] at H
        have c8b0 : (t154 == 0) = true := beq_iff_eq.mpr c8
        have c8b1 : (t154 != 0) = false := bne_eq_false_iff_eq.mpr c8
        clear c8
        by_cases c9 : t152 = 16
        · rw [if_pos c9] at H
          have c9b0 : (t152 == 16) = true := beq_iff_eq.mpr c9
          have c9b1 : (t152 != 16) = false := bne_eq_false_iff_eq.mpr c9
          clear c9
          by_cases c10 : t153 = 17
          · rw [if_pos c10] at H
            have c10b0 : (t153 == 17) = true := beq_iff_eq.mpr c10
            have c10b1 : (t153 != 17) = false := bne_eq_false_iff_eq.mpr c10
            clear c10
            by_cases c11 : t155 = 131
            · rw [if_pos c11] at H
              have c11b0 : (t155 == 131) = true := beq_iff_eq.mpr c11
              have c11b1 : (t155 != 131) = false := bne_eq_false_iff_eq.mpr c11
              clear c11
              by_cases c12 : t156 = 140
              · rw [if_pos c12] at H
                have c12b0 : (t156 == 140) = true := beq_iff_eq.mpr c12
                have c12b1 : (t156 != 140) = false := bne_eq_false_iff_eq.mpr c12
                clear c12
                by_cases c13 : t157 = 1
                · rw [if_pos c13] at H
                  have c13b0 : (t157 == 1) = true := beq_iff_eq.mpr c13
                  have c13b1 : (t157 != 1) = false := bne_eq_false_iff_eq.mpr c13
                  clear c13
                  obtain rfl := Option.some.inj H
                  go_enter Try.func12, Try.ntmps12
                  go_wp2_with (first | ((with_reducible refine gate_dst (N := 11) rfl ?_); (try (refine gate_guard (by rfl) ?_; dsimp only)); refine Kd.R_lit (Kd.int .i64) _ 3 ?hg (N := 11) ?hd (xs := ([3, 17, 16, 100] : List Int)) (inner := [.int .i64 3, .int .i64 17, .int .i64 16, .int .i64 100]) (ok := fun _ => True) (okp := fun _ => True) ?hr ?hp (fun _ hk => hk) trivial (Below.refl _ _) (Nat.le_refl _) (by simp) ?_; (case hd => rfl); (case hg => rfl); (case hr => first | (go_simp; done) | (go_simp; rfl)); (case hp => exact (Reps.one (show Kd.M (Kd.int .i64) _ _ _ 3 [.int .i64 3] from rfl) (Reps.one (show Kd.M (Kd.int .i64) _ _ _ 17 [.int .i64 17] from rfl) (Reps.one (show Kd.M (Kd.int .i64) _ _ _ 16 [.int .i64 16] from rfl) (Reps.one (show Kd.M (Kd.int .i64) _ _ _ 100 [.int .i64 100] from rfl) (Reps.none _ _)))))); intro v145 w14 ho15 hb hg_ hnew_; clear hg_ hnew_; (first | rw [← Ny144.out] at ho15 | (simp only [Int.reduceToNat] at ho15; rw [← Ny144.out] at ho15)); have n0_ := Aside0.mk (Kd.R_lower ho15 (below_size (by repeat (first | (with_reducible first | exact HB.out | apply below_alloc | apply pw_below_drewN | apply below_drew1) | exact HB.out)))); have n1_ := Aside0.mk (below_step (by repeat (first | (with_reducible first | exact HB.out | apply below_alloc | apply pw_below_drewN | apply below_drew1) | exact HB.out)) hb); clear HB; have HO146 := n0_; have HB := n1_; clear n0_ n1_; clear hb ho15; obtain ⟨Ao16, co16, eo16⟩ := Kd.R_slice HO146.out; subst eo16) | ((with_reducible refine gate_callee (f := 26) rfl ?_); refine goesL_ (some 12) rfl rfl Try.func26 (by kernel_rfl) rfl #[.slice Ao16 y144.length co16] rfl (by (try simp only [List.map_toArray, List.map_cons, List.map_nil]); first | done | rfl | (simp only [List.length_drop, List.length_take]; rfl)) ?_; (with_reducible refine (histogram_Of.calls k _ _ y144 t147 t150 _ ?side1 ?side2 A1.out).mono ?_); (case side1 => repeat (first | exact (Kd.R_reads' HO146.out).2.2 | (with_reducible refine Kd.C_alloc ?_ _) | (with_reducible refine Kd.C_drewN ?_ _) | (with_reducible refine Kd.C_drew ?_))); (case side2 => exact (Kd.R_reads' HO146.out).2.1); rintro e w17 ⟨v148, rfl, ho0, hb⟩; refine ⟨_, rfl, ?_⟩; have n0_ := Aside0.mk (Kd.R_below (by (with_reducible repeat (first | apply Kd.R_alloc | apply Kd.R_drewN | apply Kd.R_drew)); exact HO146.out) hb); have n1_ := Aside0.mk (Kd.R_lower ho0 (below_size (by repeat (first | (with_reducible first | exact HB.out | apply below_alloc | apply pw_below_drewN | apply below_drew1) | exact HB.out)))); have n2_ := Aside0.mk (below_step (by repeat (first | (with_reducible first | exact HB.out | apply below_alloc | apply pw_below_drewN | apply below_drew1) | exact HB.out)) hb); clear HO146; clear HB; have HO146 := n0_; have HO149 := n1_; have HB := n2_; clear n0_ n1_ n2_; (try clear hb); (try clear hb2); (try clear hk); (try clear hi); (try clear ho0)) | ((with_reducible refine gate_dst (N := 1) rfl ?_); (try (refine gate_guard (by rfl) ?_; dsimp only)); refine box_event ?hg (N := 1) ?hd (cs := #[.slice none 0 0]) (t := 33) ?hr ?_; (case hd => rfl); (case hg => rfl); (case hr => first | (go_simp; done) | (go_simp; rfl)); intro gb151 hg w18 hbox hb; have n0_ := Aside0.mk (Kd.R_below (by (with_reducible repeat (first | apply Kd.R_alloc | apply Kd.R_drewN | apply Kd.R_drew)); exact HO146.out) hb); have n1_ := Aside0.mk (Kd.R_below (by (with_reducible repeat (first | apply Kd.R_alloc | apply Kd.R_drewN | apply Kd.R_drew)); exact HO149.out) hb); have n2_ := Aside0.mk (below_step (by repeat (first | (with_reducible first | exact HB.out | apply below_alloc | apply pw_below_drewN | apply below_drew1) | exact HB.out)) hb); have n3_ := Aside0.mk (hbox); have n4_ := Aside0.mk ((by rw [hg]; exact (below_size (by repeat (first | (with_reducible first | exact HB.out | apply below_alloc | apply pw_below_drewN | apply below_drew1) | exact HB.out))) : w.heap.size ≤ gb151)); have n5_ := Aside0.mk ((by rw [hg]; exact (below_size (by repeat (first | (with_reducible first | exact HB.out | apply below_alloc | apply pw_below_drewN | apply below_drew1) | exact HB.out))) : w.heap.size ≤ gb151)); clear HO146; clear HO149; clear HB; have HO146 := n0_; have HO149 := n1_; have HB := n2_; have BK151 := n3_; have GW151 := n4_; have GE151 := n5_; clear n0_ n1_ n2_ n3_ n4_ n5_; clear hb hbox hg; obtain ⟨Ao19, co19, eo19⟩ := Kd.R_slice HO149.out; subst eo19; have hcz20_0 : w18.cell? ⟨gb151, 0, none⟩ = some (.slice none 0 0) := (blk_cell BK151.out 0).trans rfl; have hfz20_0 := blk_frozen BK151.out 0) | ((with_reducible refine gate_callee (f := 22) rfl ?_); refine goesL_ (some 18) rfl rfl Try.func22 (by kernel_rfl) rfl #[.agg #[.slice Ao19 t147.length co19], .agg #[.int .i64 1, .int .i64 2]] rfl (by (try simp only [List.map_toArray, List.map_cons, List.map_nil]); first | done | rfl | (simp only [List.length_drop, List.length_take]; rfl)) ?_; (with_reducible refine (histogram_Quantile.calls k _ _ t147 1 2 t152 t153 t154 _ ?side1 ?side2 A2.out).mono ?_); (case side1 => refine (Kd.R_reads' (e := 67) (base := w.heap.size) (ok := fun k_ => True) (n := t147.length) (c := co19) ?_).2.2; exact (by (with_reducible repeat (first | apply Kd.R_alloc | apply Kd.R_drewN | apply Kd.R_drew)); exact (Kd.R_mono (Kd.R_far (p := ⟨gb151, 0, none⟩) (Kd.R_types HO149.out BK151.out (by decide)) (fun _ hk => hk.2) (.slice Ao19 t147.length co19)) (fun _ h_ => h_.1)))); (case side2 => exact (Kd.R_reads' HO149.out).2.1); rintro e w21 ⟨rfl, hb⟩; refine ⟨_, rfl, ?_⟩; have n0_ := Aside0.mk (Kd.R_below (by (with_reducible repeat (first | apply Kd.R_alloc | apply Kd.R_drewN | apply Kd.R_drew)); exact (Kd.R_mono (Kd.R_far (p := ⟨gb151, 0, none⟩) (Kd.R_types HO146.out BK151.out (by decide)) (fun _ hk => hk.2) (.slice Ao19 t147.length co19)) (fun _ h_ => h_.1))) hb); have n1_ := Aside0.mk (Kd.R_below (by (with_reducible repeat (first | apply Kd.R_alloc | apply Kd.R_drewN | apply Kd.R_drew)); exact (Kd.R_mono (Kd.R_far (p := ⟨gb151, 0, none⟩) (Kd.R_types HO149.out BK151.out (by decide)) (fun _ hk => hk.2) (.slice Ao19 t147.length co19)) (fun _ h_ => h_.1))) hb); have n2_ := Aside0.mk (blk_below (g := gb151) (o := .cells #[.slice Ao19 t147.length co19] 33 (0, 0)) (by (with_reducible repeat (first | refine blk_drewN ?_ _ | refine blk_drew ?_ | refine blk_alloc ?_ _)); refine blk_put (cs := #[.slice none 0 0]) ?_ 0 _ rfl; (with_reducible repeat (first | refine blk_drewN ?_ _ | refine blk_drew ?_ | refine blk_alloc ?_ _)); exact BK151.out) hb); have n3_ := Aside0.mk (below_step (by repeat (first | (with_reducible first | exact HB.out | apply below_alloc | apply pw_below_drewN | apply below_drew1 | refine below_set ?_ GE151.out) | exact HB.out)) hb); clear HO146; clear HO149; clear BK151; clear HB; have HO146 := n0_; have HO149 := n1_; have BK151 := n2_; have HB := n3_; clear n0_ n1_ n2_ n3_; (try clear hb); (try clear hb2); (try clear hk); (try clear hi); have hcz22_0 : w21.cell? ⟨gb151, 0, none⟩ = some (.slice Ao19 t147.length co19) := (blk_cell BK151.out 0).trans rfl; have hfz22_0 := blk_frozen BK151.out 0) | ((with_reducible refine gate_callee (f := 21) rfl ?_); refine goesL_ (some 24) rfl rfl Try.func21 (by kernel_rfl) rfl #[.agg #[.slice Ao19 t147.length co19]] rfl (by (try simp only [List.map_toArray, List.map_cons, List.map_nil]); first | done | rfl | (simp only [List.length_drop, List.length_take]; rfl)) ?_; (with_reducible refine (histogram_Sum.calls k _ _ t147 t155 t156 _ ?side1 ?side2 A3.out).mono ?_); (case side1 => repeat (first | exact (Kd.R_reads' HO149.out).2.2 | (with_reducible refine Kd.C_alloc ?_ _) | (with_reducible refine Kd.C_drewN ?_ _) | (with_reducible refine Kd.C_drew ?_))); (case side2 => exact (Kd.R_reads' HO149.out).2.1); rintro e w23 ⟨rfl, hb⟩; refine ⟨_, rfl, ?_⟩; have n0_ := Aside0.mk (Kd.R_below (by (with_reducible repeat (first | apply Kd.R_alloc | apply Kd.R_drewN | apply Kd.R_drew)); exact HO146.out) hb); have n1_ := Aside0.mk (Kd.R_below (by (with_reducible repeat (first | apply Kd.R_alloc | apply Kd.R_drewN | apply Kd.R_drew)); exact HO149.out) hb); have n2_ := Aside0.mk (blk_below (g := gb151) (o := .cells #[.slice Ao19 t147.length co19] 33 (0, 0)) (by (with_reducible repeat (first | refine blk_drewN ?_ _ | refine blk_drew ?_ | refine blk_alloc ?_ _)); exact BK151.out) hb); have n3_ := Aside0.mk (below_step (by repeat (first | (with_reducible first | exact HB.out | apply below_alloc | apply pw_below_drewN | apply below_drew1 | refine below_set ?_ GE151.out) | exact HB.out)) hb); clear HO146; clear HO149; clear BK151; clear HB; have HO146 := n0_; have HO149 := n1_; have BK151 := n2_; have HB := n3_; clear n0_ n1_ n2_ n3_; (try clear hb); (try clear hb2); (try clear hk); (try clear hi); have hcz24_0 : w23.cell? ⟨gb151, 0, none⟩ = some (.slice Ao19 t147.length co19) := (blk_cell BK151.out 0).trans rfl; have hfz24_0 := blk_frozen BK151.out 0) | ((with_reducible refine gate_callee (f := 20) rfl ?_); refine goesL_ (some 29) rfl rfl Try.func20 (by kernel_rfl) rfl #[.agg #[.slice Ao19 t147.length co19], .int .i64 16] rfl (by (try simp only [List.map_toArray, List.map_cons, List.map_nil]); first | done | rfl | (simp only [List.length_drop, List.length_take]; rfl)) ?_; (with_reducible refine (histogram_AtMost.calls k _ _ t147 16 t157 t158 _ ?side1 ?side2 A4.out).mono ?_); (case side1 => repeat (first | exact (Kd.R_reads' HO149.out).2.2 | (with_reducible refine Kd.C_alloc ?_ _) | (with_reducible refine Kd.C_drewN ?_ _) | (with_reducible refine Kd.C_drew ?_))); (case side2 => exact (Kd.R_reads' HO149.out).2.1); rintro e w25 ⟨rfl, hb⟩; refine ⟨_, rfl, ?_⟩; have n0_ := Aside0.mk (Kd.R_below (by (with_reducible repeat (first | apply Kd.R_alloc | apply Kd.R_drewN | apply Kd.R_drew)); exact HO146.out) hb); have n1_ := Aside0.mk (Kd.R_below (by (with_reducible repeat (first | apply Kd.R_alloc | apply Kd.R_drewN | apply Kd.R_drew)); exact HO149.out) hb); have n2_ := Aside0.mk (blk_below (g := gb151) (o := .cells #[.slice Ao19 t147.length co19] 33 (0, 0)) (by (with_reducible repeat (first | refine blk_drewN ?_ _ | refine blk_drew ?_ | refine blk_alloc ?_ _)); exact BK151.out) hb); have n3_ := Aside0.mk (below_step (by repeat (first | (with_reducible first | exact HB.out | apply below_alloc | apply pw_below_drewN | apply below_drew1 | refine below_set ?_ GE151.out) | exact HB.out)) hb); clear HO146; clear HO149; clear BK151; clear HB; have HO146 := n0_; have HO149 := n1_; have BK151 := n2_; have HB := n3_; clear n0_ n1_ n2_ n3_; (try clear hb); (try clear hb2); (try clear hk); (try clear hi); have hcz26_0 : w25.cell? ⟨gb151, 0, none⟩ = some (.slice Ao19 t147.length co19) := (blk_cell BK151.out 0).trans rfl; have hfz26_0 := blk_frozen BK151.out 0) | ((with_reducible refine gate_dst (N := 39) rfl ?_); (try (refine gate_guard (by rfl) ?_; dsimp only)); refine Kd.R_lit k62 _ 62 ?hg (N := 39) ?hd (xs := ([(⟨3, 1⟩ : S62), (⟨16, 2⟩ : S62), (⟨36, 1⟩ : S62)] : List (S62))) (inner := [.int .i64 3, .int .i64 1, .int .i64 16, .int .i64 2, .int .i64 36, .int .i64 1]) (ok := fun _ => True) (okp := fun _ => True) ?hr ?hp (fun _ hk => hk) trivial (Below.refl _ _) (Nat.le_refl _) (by simp) ?_; (case hd => rfl); (case hg => rfl); (case hr => first | (go_simp; done) | (go_simp; rfl)); (case hp => exact (Reps.c2 (show Kd.M k62 _ _ _ (⟨3, 1⟩ : S62) [.int .i64 3, .int .i64 1] from (k62_mkM _ _ _ (⟨3, 1⟩ : S62) )) (Reps.c2 (show Kd.M k62 _ _ _ (⟨16, 2⟩ : S62) [.int .i64 16, .int .i64 2] from (k62_mkM _ _ _ (⟨16, 2⟩ : S62) )) (Reps.c2 (show Kd.M k62 _ _ _ (⟨36, 1⟩ : S62) [.int .i64 36, .int .i64 1] from (k62_mkM _ _ _ (⟨36, 1⟩ : S62) )) (Reps.none _ _))))); intro v160 w27 ho28 hb hg_ hnew_; clear hg_ hnew_; (first | rw [← Ny159.out] at ho28 | (simp only [Int.reduceToNat] at ho28; rw [← Ny159.out] at ho28)); have n0_ := Aside0.mk (Kd.R_below (by (with_reducible repeat (first | apply Kd.R_alloc | apply Kd.R_drewN | apply Kd.R_drew)); exact HO146.out) hb); have n1_ := Aside0.mk (Kd.R_below (by (with_reducible repeat (first | apply Kd.R_alloc | apply Kd.R_drewN | apply Kd.R_drew)); exact HO149.out) hb); have n2_ := Aside0.mk (Kd.R_lower ho28 (below_size (by repeat (first | (with_reducible first | exact HB.out | apply below_alloc | apply pw_below_drewN | apply below_drew1 | refine below_set ?_ GE151.out) | exact HB.out)))); have n3_ := Aside0.mk (blk_below (g := gb151) (o := .cells #[.slice Ao19 t147.length co19] 33 (0, 0)) (by (with_reducible repeat (first | refine blk_drewN ?_ _ | refine blk_drew ?_ | refine blk_alloc ?_ _)); exact BK151.out) hb); have n4_ := Aside0.mk (below_step (by repeat (first | (with_reducible first | exact HB.out | apply below_alloc | apply pw_below_drewN | apply below_drew1 | refine below_set ?_ GE151.out) | exact HB.out)) hb); clear HO146; clear HO149; clear BK151; clear HB; have HO146 := n0_; have HO149 := n1_; have HO161 := n2_; have BK151 := n3_; have HB := n4_; clear n0_ n1_ n2_ n3_ n4_; clear hb ho28; obtain ⟨Ao29, co29, eo29⟩ := Kd.R_slice HO161.out; subst eo29) | (go_at_call 28; (with_reducible refine (sleuthlaw21_same.calls k _ _ t147 _ _ y159 true _ ?side1 ?side2 ?side3 ?side4 A6.out).mono ?_); (case side1 => repeat (first | exact (Kd.R_reads' HO149.out).2.2 | (with_reducible refine Kd.C_alloc ?_ _) | (with_reducible refine Kd.C_drewN ?_ _) | (with_reducible refine Kd.C_drew ?_))); (case side2 => exact (Kd.R_reads' HO149.out).2.1); (case side3 => repeat (first | exact (Kd.R_reads' HO161.out).2.2 | (with_reducible refine Kd.C_alloc ?_ _) | (with_reducible refine Kd.C_drewN ?_ _) | (with_reducible refine Kd.C_drew ?_))); (case side4 => exact (Kd.R_reads' HO161.out).2.1); rintro e w30 ⟨rfl, hb⟩; have n0_ := Aside0.mk (Kd.R_below (by (with_reducible repeat (first | apply Kd.R_alloc | apply Kd.R_drewN | apply Kd.R_drew)); exact HO146.out) hb); have n1_ := Aside0.mk (Kd.R_below (by (with_reducible repeat (first | apply Kd.R_alloc | apply Kd.R_drewN | apply Kd.R_drew)); exact HO149.out) hb); have n2_ := Aside0.mk (Kd.R_below (by (with_reducible repeat (first | apply Kd.R_alloc | apply Kd.R_drewN | apply Kd.R_drew)); exact HO161.out) hb); have n3_ := Aside0.mk (blk_below (g := gb151) (o := .cells #[.slice Ao19 t147.length co19] 33 (0, 0)) (by (with_reducible repeat (first | refine blk_drewN ?_ _ | refine blk_drew ?_ | refine blk_alloc ?_ _)); exact BK151.out) hb); have n4_ := Aside0.mk (below_step (by repeat (first | (with_reducible first | exact HB.out | apply below_alloc | apply pw_below_drewN | apply below_drew1 | refine below_set ?_ GE151.out) | exact HB.out)) hb); clear HO146; clear HO149; clear HO161; clear BK151; clear HB; have HO146 := n0_; have HO149 := n1_; have HO161 := n2_; have BK151 := n3_; have HB := n4_; clear n0_ n1_ n2_ n3_ n4_; (try clear hb); (try clear hb2); (try clear hk); (try clear hi)))
                  go_ret
                  exact ⟨by first | rfl | (simp [errW_none, errW_some] <;> rfl) | (simp [*, errW_none, errW_some] <;> rfl), by repeat (first | (with_reducible first | exact HB.out | apply below_alloc | apply pw_below_drewN | apply below_drew1 | refine below_set ?_ GE151.out) | exact HB.out)⟩
                · rw [if_neg c13] at H
                  have c13b0 : (t157 == 1) = false := beq_eq_false_iff_ne.mpr c13
                  have c13b1 : (t157 != 1) = true := bne_iff_ne.mpr c13
                  exact absurd (H.trans (congrArg some hr_)) (by decide)
              · rw [if_neg c12] at H
                have c12b0 : (t156 == 140) = false := beq_eq_false_iff_ne.mpr c12
                have c12b1 : (t156 != 140) = true := bne_iff_ne.mpr c12
                exact absurd (H.trans (congrArg some hr_)) (by decide)
            · rw [if_neg c11] at H
              have c11b0 : (t155 == 131) = false := beq_eq_false_iff_ne.mpr c11
              have c11b1 : (t155 != 131) = true := bne_iff_ne.mpr c11
              exact absurd (H.trans (congrArg some hr_)) (by decide)
          · rw [if_neg c10] at H
            have c10b0 : (t153 == 17) = false := beq_eq_false_iff_ne.mpr c10
            have c10b1 : (t153 != 17) = true := bne_iff_ne.mpr c10
            exact absurd (H.trans (congrArg some hr_)) (by decide)
        · rw [if_neg c9] at H
          have c9b0 : (t152 == 16) = false := beq_eq_false_iff_ne.mpr c9
          have c9b1 : (t152 != 16) = true := bne_iff_ne.mpr c9
          exact absurd (H.trans (congrArg some hr_)) (by decide)
      · rw [if_neg c8] at H
        have c8b0 : (t154 == 0) = false := beq_eq_false_iff_ne.mpr c8
        have c8b1 : (t154 != 0) = true := bne_iff_ne.mpr c8
        exact absurd (H.trans (congrArg some hr_)) (by decide)
    · replace c7 := Bool.eq_false_iff.mpr c7
      subst c7
      have H1 : (some false) = some r := by rw [if_neg (show ¬ (false = true) by decide)] at H; exact H
      clear H
      have H := H1
      clear H1
      exact absurd (H.trans (congrArg some hr_)) (by decide)
  · rw [if_neg c5] at H
    have c5b0 : (t150 == 0) = false := beq_eq_false_iff_ne.mpr c5
    have c5b1 : (t150 != 0) = true := bne_iff_ne.mpr c5
    exact absurd (H.trans (congrArg some hr_)) (by decide)
theorem sleuthlaw21_known.never (k : Nat) : ¬ (sleuthlaw21_known.f k = some false) := by
  intro h
  have a := at_rounds sleuthlaw21_known.mono (show k ≤ k + 400 by omega) h
  have b := at_rounds sleuthlaw21_known.mono (show 400 ≤ k + 400 by omega) (show sleuthlaw21_known.f 400 = some true by decide +kernel)
  rw [a] at b
  cases b

end Go.Proofs.Ytfnhicmjdfeanaa.PH
