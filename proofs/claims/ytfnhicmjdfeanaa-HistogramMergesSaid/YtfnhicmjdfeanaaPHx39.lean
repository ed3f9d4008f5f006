-- Written by a program of this session (gprint.py) out of Lean's own print of the program. Lean checks it.
import Derived.Test.YtfnhicmjdfeanaaPHx0
import Derived.Test.YtfnhicmjdfeanaaPHx5
import Derived.Test.YtfnhicmjdfeanaaPHx9
import Derived.Test.YtfnhicmjdfeanaaPHx10
import Derived.Test.YtfnhicmjdfeanaaPHx33
namespace Go.Proofs.Ytfnhicmjdfeanaa.PH
open Go.RowKit Go.Proofs.YtfnhicmjdfeanaaW.PrintWords Go.Proofs.YtfnhicmjdfeanaaW.PrintLast Go.Proofs.YtfnhicmjdfeanaaW.PrintMore
attribute [local go_sem] max2_int min2_int max_two min_two max_three min_three max_four min_four   -- for this text's walks alone
set_option linter.unusedVariables false
set_option linter.unusedSimpArgs false

/-! ### histogram_Scale: function 36 -/
def scaleRest (l0_0 : List S67) (a1 : Int) : Option ((List S67) × Int) := (accum l0_0 (List.replicate 305 0)).bind fun cs => some (buckFrom 0 (cs.map fun c => wrap64 (c * a1)), 0)
def histogram_Scale.f (k : Nat) (l0_0 : List (S67)) (a1 : Int) : Option ((List (S67)) × Int) :=
  if a1 < 0 then some ([], 2) else (histogram_Total.f k l0_0).bind fun n => if n > 0 then (if a1 > wrap64 ((1048576 : Int) / n) then some ([], 20) else scaleRest l0_0 a1) else scaleRest l0_0 a1
theorem histogram_Scale.mono : ∀ a0 a1 k, LeO (histogram_Scale.f k a0 a1) (histogram_Scale.f (k + 1) a0 a1) := fun a0 a1 k => by
  unfold histogram_Scale.f
  exact LeO.ite (LeO.refl _) (LeO.bind (histogram_Total.mono _ _) (fun _ => LeO.refl _))
theorem scale_step (a1 : Int) (cs : List Int) (i : Nat) (h : i < cs.length) :
    ((cs.take i).map (fun c => wrap64 (c * a1)) ++ cs.drop i).getD i 0 = cs.getD i 0 ∧ ((cs.take i).map (fun c => wrap64 (c * a1)) ++ cs.drop i).set i (wrap64 (cs.getD i 0 * a1)) = (cs.take (i + 1)).map (fun c => wrap64 (c * a1)) ++ cs.drop (i + 1) := by
  have e : cs.getD i 0 = cs[i] := by simp [List.getD_eq_getElem?_getD, List.getElem?_eq_getElem h]
  have hl : ((cs.take i).map (fun c => wrap64 (c * a1))).length = i := by simp; omega
  rw [e, List.take_succ_eq_append_getElem h, List.drop_eq_getElem_cons h]
  constructor
  · rw [List.getD_eq_getElem?_getD, List.getElem?_append_right (by omega), hl]; simp [List.getElem?_eq_getElem h]
  · rw [List.set_append_right _ _ (by omega), hl, Nat.sub_self, List.set_cons_zero, List.map_append, List.append_assoc]; rfl
theorem quo_wrap (n : Int) (h : n > 0) : wrap64 ((1048576 : Int) / n) = 1048576 / n := by
  have h1 : (1048576 : Int) / n ≤ 1048576 := Int.ediv_le_self _ (by omega)
  have h2 : 0 ≤ (1048576 : Int) / n := Int.ediv_nonneg (by omega) (by omega)
  unfold wrap64
  omega

set_option maxHeartbeats 8000000 in
set_option maxRecDepth 100000 in
theorem histogram_Scale.calls (k : Nat) (A0_0 : Option Addr) (c0_0 : Nat) (l0_0 : List S67) (a1 : Int) (r1 : List S67) (r2 : Int) (w : World) (hr0_0 : Kd.C k67 w A0_0 l0_0.length l0_0) (hc0_0 : l0_0.length ≤ c0_0) (h : histogram_Scale.f k l0_0 a1 = some (r1, r2)) :
    Calls Try.prog 36 #[.agg #[.slice A0_0 l0_0.length c0_0], .int .i64 a1] w fun e w' => ∃ v0_ : Value, e = .returned (.tuple #[.agg #[v0_], .int .i64 r2]) ∧ Kd.R k67 67 w' w.heap.size (fun _ => True) v0_ r1 ∧ Below w.heap.size w w' := by
  have hu33 := Try.underlying33
  have HR0 := Aside0.mk hr0_0
  have HC0 := Aside0.mk hc0_0
  clear hr0_0 hc0_0
  have HB := Aside0.mk (Below.refl w.heap.size w)
  have H : (if a1 < 0 then some ([], 2) else (histogram_Total.f k l0_0).bind fun n => if n > 0 then (if a1 > wrap64 ((1048576 : Int) / n) then some ([], 20) else scaleRest l0_0 a1) else scaleRest l0_0 a1) = some (r1, r2) := h
  clear h
  by_cases h1 : a1 < 0
  · rw [if_pos h1] at H
    simp only [Option.some.injEq, Prod.mk.injEq] at H
    obtain ⟨rfl, rfl⟩ := H
    go_enter Try.func36, Try.ntmps36
    go_wp2_with (first | ((with_reducible refine gate_dst (N := 2) rfl ?_); refine box_event ?hg (N := 2) ?hd (cs := #[.slice A0_0 l0_0.length c0_0]) (t := 33) ?hr ?_; (case hd => rfl); (case hg => rfl); (case hr => first | (go_simp; done) | (go_simp; rfl)); intro gp hg w2 hbox hb; have n0_ := Aside0.mk (below_step (by repeat (first | (with_reducible first | exact HB.out | apply below_alloc | apply pw_below_drewN | apply below_drew1) | exact HB.out)) hb); have n1_ := Aside0.mk (hbox); have n2_ := Aside0.mk ((show w.heap.size ≤ gp by rw [hg]; exact below_size (by repeat (first | (with_reducible first | exact HB.out | apply below_alloc | apply pw_below_drewN | apply below_drew1) | exact HB.out)))); clear HB ; have HB := n0_; have BKgp := n1_; have GEgp := n2_; clear n0_ n1_ n2_; clear hb hbox hg; have hcp : w2.cell? ⟨gp, 0, none⟩ = some (.slice A0_0 l0_0.length c0_0) := (blk_cell BKgp.out 0).trans rfl) | ((with_reducible refine gate_dst (N := 4) rfl ?_); refine box_event ?hg (N := 4) ?hd (cs := #[.slice none 0 0]) (t := 33) ?hr ?_; (case hd => rfl); (case hg => rfl); (case hr => first | (go_simp; done) | (go_simp; rfl)); intro gr hg w2 hbox hb; have n0_ := Aside0.mk (below_step (by repeat (first | (with_reducible first | exact HB.out | apply below_alloc | apply pw_below_drewN | apply below_drew1 | refine below_set ?_ GEgp.out) | exact HB.out)) hb); have n1_ := Aside0.mk (hbox); have n2_ := Aside0.mk ((show w.heap.size ≤ gr by rw [hg]; exact below_size (by repeat (first | (with_reducible first | exact HB.out | apply below_alloc | apply pw_below_drewN | apply below_drew1 | refine below_set ?_ GEgp.out) | exact HB.out)))); have n3_ := Aside0.mk (blk_below BKgp.out hb); have n4_ := Aside0.mk ((show gp ≠ gr by rw [hg]; exact Nat.ne_of_lt (blk_lt BKgp.out))); clear HB BKgp; have HB := n0_; have BKgr := n1_; have GEgr := n2_; have BKgp := n3_; have NE_gp_gr := n4_; clear n0_ n1_ n2_ n3_ n4_; clear hb hbox hg; clear hcp; have hcp : w2.cell? ⟨gp, 0, none⟩ = some (.slice A0_0 l0_0.length c0_0) := (blk_cell BKgp.out 0).trans rfl; have hcr : w2.cell? ⟨gr, 0, none⟩ = some (.slice none 0 0) := (blk_cell BKgr.out 0).trans rfl; have hfr := blk_frozen BKgr.out 0))
    refine bodyPost_ret (results_ct rfl _ _ gr 33 #[.slice none 0 0] (0, 0) _ rfl (blk_put BKgr.out 0 _ rfl) Try.underlying33 rfl (by kernel_rfl)) rfl ?_
    exact ⟨_, rfl, Kd.R_nil _ _ _ _ _, below_set HB.out GEgr.out⟩
  · rw [if_neg h1] at H
    have h1b := decide_eq_false h1
    clear h1
    replace H := Option.bind_eq_some_iff.mp H
    obtain ⟨n, A1, H⟩ := H
    replace A1 := Aside0.mk A1
    by_cases h2 : n > 0 ∧ a1 > wrap64 ((1048576 : Int) / n)
    · obtain ⟨h2, h3⟩ := h2
      rw [if_pos h2, if_pos h3] at H
      simp only [Option.some.injEq, Prod.mk.injEq] at H
      obtain ⟨rfl, rfl⟩ := H
      rw [quo_wrap n h2] at h3
      have h3b : decide (1048576 / n < a1) = true := decide_eq_true h3
      have h2b : decide (0 < n) = true := decide_eq_true h2
      have h2c : (n == 0) = false := by simp; omega
      have h2d : ¬ n = 0 := by omega
      clear h3
      go_enter Try.func36, Try.ntmps36
      go_wp2_with (first | ((with_reducible refine gate_dst (N := 2) rfl ?_); refine box_event ?hg (N := 2) ?hd (cs := #[.slice A0_0 l0_0.length c0_0]) (t := 33) ?hr ?_; (case hd => rfl); (case hg => rfl); (case hr => first | (go_simp; done) | (go_simp; rfl)); intro gp hg w2 hbox hb; have n0_ := Aside0.mk (below_step (by repeat (first | (with_reducible first | exact HB.out | apply below_alloc | apply pw_below_drewN | apply below_drew1) | exact HB.out)) hb); have n1_ := Aside0.mk (hbox); have n2_ := Aside0.mk ((show w.heap.size ≤ gp by rw [hg]; exact below_size (by repeat (first | (with_reducible first | exact HB.out | apply below_alloc | apply pw_below_drewN | apply below_drew1) | exact HB.out)))); clear HB ; have HB := n0_; have BKgp := n1_; have GEgp := n2_; clear n0_ n1_ n2_; clear hb hbox hg; have hcp : w2.cell? ⟨gp, 0, none⟩ = some (.slice A0_0 l0_0.length c0_0) := (blk_cell BKgp.out 0).trans rfl) | ((with_reducible refine gate_dst (N := 4) rfl ?_); refine box_event ?hg (N := 4) ?hd (cs := #[.slice none 0 0]) (t := 33) ?hr ?_; (case hd => rfl); (case hg => rfl); (case hr => first | (go_simp; done) | (go_simp; rfl)); intro gr hg w2 hbox hb; have n0_ := Aside0.mk (below_step (by repeat (first | (with_reducible first | exact HB.out | apply below_alloc | apply pw_below_drewN | apply below_drew1 | refine below_set ?_ GEgp.out) | exact HB.out)) hb); have n1_ := Aside0.mk (hbox); have n2_ := Aside0.mk ((show w.heap.size ≤ gr by rw [hg]; exact below_size (by repeat (first | (with_reducible first | exact HB.out | apply below_alloc | apply pw_below_drewN | apply below_drew1 | refine below_set ?_ GEgp.out) | exact HB.out)))); have n3_ := Aside0.mk (blk_below BKgp.out hb); have n4_ := Aside0.mk ((show gp ≠ gr by rw [hg]; exact Nat.ne_of_lt (blk_lt BKgp.out))); clear HB BKgp; have HB := n0_; have BKgr := n1_; have GEgr := n2_; have BKgp := n3_; have NE_gp_gr := n4_; clear n0_ n1_ n2_ n3_ n4_; clear hb hbox hg; clear hcp; have hcp : w2.cell? ⟨gp, 0, none⟩ = some (.slice A0_0 l0_0.length c0_0) := (blk_cell BKgp.out 0).trans rfl; have hcr : w2.cell? ⟨gr, 0, none⟩ = some (.slice none 0 0) := (blk_cell BKgr.out 0).trans rfl; have hfr := blk_frozen BKgr.out 0) | (go_at_call 30; (with_reducible refine (histogram_Total.calls k A0_0 c0_0 l0_0 n _ (Kd.C_below HR0.out HB.out) HC0.out A1.out).mono ?_); rintro e w11 ⟨rfl, hb⟩; have n0_ := Aside0.mk (below_step HB.out hb); have n1_ := Aside0.mk (blk_below BKgr.out hb); have n2_ := Aside0.mk (blk_below BKgp.out hb); clear HB BKgr BKgp hcr hfr hcp; have HB := n0_; have BKgr := n1_; have BKgp := n2_; clear n0_ n1_ n2_ hb; have hcr : w11.cell? ⟨gr, 0, none⟩ = some (.slice none 0 0) := (blk_cell BKgr.out 0).trans rfl; have hfr := blk_frozen BKgr.out 0; have hcp : w11.cell? ⟨gp, 0, none⟩ = some (.slice A0_0 l0_0.length c0_0) := (blk_cell BKgp.out 0).trans rfl))
      refine bodyPost_ret (results_ct rfl _ _ gr 33 #[.slice none 0 0] (0, 0) _ rfl (blk_put BKgr.out 0 _ rfl) Try.underlying33 rfl (by kernel_rfl)) rfl ?_
      exact ⟨_, rfl, Kd.R_nil _ _ _ _ _, below_set HB.out GEgr.out⟩
    · have H2 : scaleRest l0_0 a1 = some (r1, r2) := by
        by_cases h3 : n > 0
        · rw [if_pos h3, if_neg (fun h => h2 ⟨h3, h⟩)] at H; exact H
        · rw [if_neg h3] at H; exact H
      clear H
      replace H2 := Option.bind_eq_some_iff.mp H2
      obtain ⟨cs, A2, H⟩ := H2
      simp only [Option.some.injEq, Prod.mk.injEq] at H
      obtain ⟨rfl, rfl⟩ := H
      have HL := Aside0.mk (show cs.length = 305 from (accum_len _ _ _ A2).trans (by simp))
      replace A2 := Aside0.mk A2
      by_cases h3 : n > 0
      · have h4 : ¬ (a1 > wrap64 ((1048576 : Int) / n)) := fun h => h2 ⟨h3, h⟩
        rw [quo_wrap n h3] at h4
        have h3b : decide (1048576 / n < a1) = false := decide_eq_false h4
        have h2b : decide (0 < n) = true := decide_eq_true h3
        have h2c : (n == 0) = false := by simp; omega
        have h2d : ¬ n = 0 := by omega
        clear h2 h4
        go_enter Try.func36, Try.ntmps36
        go_wp2_with (first | ((with_reducible refine gate_dst (N := 2) rfl ?_); refine box_event ?hg (N := 2) ?hd (cs := #[.slice A0_0 l0_0.length c0_0]) (t := 33) ?hr ?_; (case hd => rfl); (case hg => rfl); (case hr => first | (go_simp; done) | (go_simp; rfl)); intro gp hg w2 hbox hb; have n0_ := Aside0.mk (below_step (by repeat (first | (with_reducible first | exact HB.out | apply below_alloc | apply pw_below_drewN | apply below_drew1) | exact HB.out)) hb); have n1_ := Aside0.mk (hbox); have n2_ := Aside0.mk ((show w.heap.size ≤ gp by rw [hg]; exact below_size (by repeat (first | (with_reducible first | exact HB.out | apply below_alloc | apply pw_below_drewN | apply below_drew1) | exact HB.out)))); clear HB ; have HB := n0_; have BKgp := n1_; have GEgp := n2_; clear n0_ n1_ n2_; clear hb hbox hg; have hcp : w2.cell? ⟨gp, 0, none⟩ = some (.slice A0_0 l0_0.length c0_0) := (blk_cell BKgp.out 0).trans rfl) | ((with_reducible refine gate_dst (N := 4) rfl ?_); refine box_event ?hg (N := 4) ?hd (cs := #[.slice none 0 0]) (t := 33) ?hr ?_; (case hd => rfl); (case hg => rfl); (case hr => first | (go_simp; done) | (go_simp; rfl)); intro gr hg w2 hbox hb; have n0_ := Aside0.mk (below_step (by repeat (first | (with_reducible first | exact HB.out | apply below_alloc | apply pw_below_drewN | apply below_drew1 | refine below_set ?_ GEgp.out) | exact HB.out)) hb); have n1_ := Aside0.mk (hbox); have n2_ := Aside0.mk ((show w.heap.size ≤ gr by rw [hg]; exact below_size (by repeat (first | (with_reducible first | exact HB.out | apply below_alloc | apply pw_below_drewN | apply below_drew1 | refine below_set ?_ GEgp.out) | exact HB.out)))); have n3_ := Aside0.mk (blk_below BKgp.out hb); have n4_ := Aside0.mk ((show gp ≠ gr by rw [hg]; exact Nat.ne_of_lt (blk_lt BKgp.out))); clear HB BKgp; have HB := n0_; have BKgr := n1_; have GEgr := n2_; have BKgp := n3_; have NE_gp_gr := n4_; clear n0_ n1_ n2_ n3_ n4_; clear hb hbox hg; clear hcp; have hcp : w2.cell? ⟨gp, 0, none⟩ = some (.slice A0_0 l0_0.length c0_0) := (blk_cell BKgp.out 0).trans rfl; have hcr : w2.cell? ⟨gr, 0, none⟩ = some (.slice none 0 0) := (blk_cell BKgr.out 0).trans rfl; have hfr := blk_frozen BKgr.out 0) | (go_at_call 30; (with_reducible refine (histogram_Total.calls k A0_0 c0_0 l0_0 n _ (Kd.C_below HR0.out HB.out) HC0.out A1.out).mono ?_); rintro e w11 ⟨rfl, hb⟩; have n0_ := Aside0.mk (below_step HB.out hb); have n1_ := Aside0.mk (blk_below BKgr.out hb); have n2_ := Aside0.mk (blk_below BKgp.out hb); clear HB BKgr BKgp hcr hfr hcp; have HB := n0_; have BKgr := n1_; have BKgp := n2_; clear n0_ n1_ n2_ hb; have hcr : w11.cell? ⟨gr, 0, none⟩ = some (.slice none 0 0) := (blk_cell BKgr.out 0).trans rfl; have hfr := blk_frozen BKgr.out 0; have hcp : w11.cell? ⟨gp, 0, none⟩ = some (.slice A0_0 l0_0.length c0_0) := (blk_cell BKgp.out 0).trans rfl) | (go_at_call 46; (with_reducible refine (histogram_of.calls A0_0 c0_0 l0_0 cs _ (Kd.C_below HR0.out HB.out) HC0.out A2.out).mono ?_); rintro e w12 ⟨gc, rfl, hge, hbk, hb⟩; have n0_ := Aside0.mk (below_step HB.out hb); have n1_ := Aside0.mk (blk_below BKgr.out hb); have BKgc := Aside0.mk hbk; have GEgc := Aside0.mk (Nat.le_trans HB.out.size hge); have NE := Aside0.mk (show gr ≠ gc from Nat.ne_of_lt (Nat.lt_of_lt_of_le (blk_lt BKgr.out) hge)); clear HB BKgr hcr hfr hcp BKgp; have HB := n0_; have BKgr := n1_; clear n0_ n1_ hb hge hbk; have hcr : w12.cell? ⟨gr, 0, none⟩ = some (.slice none 0 0) := (blk_cell BKgr.out 0).trans rfl; have hfr := blk_frozen BKgr.out 0))
        go_loopw [25] (fun v25 wc => ∃ (i : Nat), i ≤ 305 ∧ v25 = .int .i64 i ∧ Aside0 (wc.heap[gc]? = some (.cells (arrV ((cs.take i).map (fun c => wrap64 (c * a1)) ++ cs.drop i)) 76 (0, 0))) ∧ Aside0 (wc.heap[gr]? = some (.cells #[.slice none 0 0] 33 (0, 0))) ∧ Aside0 (Below w.heap.size w wc)) (fun v25 _ => 305 - (intOf v25).toNat)
        case atStart => exact ⟨0, by omega, rfl, ⟨BKgc.out⟩, BKgr, HB⟩
        case round =>
          clear BKgc BKgr HB
          (try clear hcr) ; (try clear hfr) ; (try clear hcp)
          obtain ⟨i, hi, rfl, BKgc, BKgr, HB⟩ := hrel
          by_cases hlt : i < 305
          · have hS := scale_step a1 cs i (by rw [HL.out]; exact hlt)
            obtain ⟨cx, hcx⟩ : ∃ cx, cs.getD i 0 = cx := ⟨_, rfl⟩
            rw [hcx] at hS
            have hc0 := arrV_cell BKgc.out i (by simp; rw [HL.out]; omega)
            rw [hS.1] at hc0
            have HS := Aside0.mk hS.2
            clear hS hcx
            have hf0 := blk_frozen BKgc.out i
            have q0 := eq_true (show (0:Int) ≤ (i : Int) by omega)
            have q1 := eq_true (show (i:Int) < 305 by omega)
            have q2 := eq_true (show i < 305 by omega)
            go_wp2
            go_region
            go_wp2
            go_roundw
            case rel => exact ⟨i + 1, by omega, by go_num, ⟨by rw [← HS.out]; (with_reducible repeat (first | refine blk_drewN ?_ _ | refine blk_drew ?_ | refine blk_alloc ?_ _)); exact arrV_set BKgc.out i _⟩, ⟨by (with_reducible repeat (first | refine blk_drewN ?_ _ | refine blk_drew ?_ | refine blk_alloc ?_ _)); exact blk_far BKgr.out NE.out _⟩, ⟨by repeat (first | (with_reducible first | exact HB.out | apply below_alloc | apply pw_below_drewN | apply below_drew1 | refine below_set ?_ GEgc.out) | exact HB.out)⟩⟩
            case measure => simp [intOf]; omega
          · obtain rfl : i = 305 := by omega
            have HT : Aside0 ((cs.take 305).map (fun c => wrap64 (c * a1)) ++ cs.drop 305 = cs.map (fun c => wrap64 (c * a1))) := ⟨by rw [List.take_of_length_le (by rw [HL.out]; exact Nat.le_refl _), List.drop_of_length_le (by rw [HL.out]; exact Nat.le_refl _), List.append_nil]⟩
            have BKgc2 := BKgc.out
            rw [HT.out] at BKgc2
            replace BKgc2 := Aside0.mk BKgc2
            clear BKgc HT
            go_wp2_with ((go_at_call 45; (with_reducible refine (histogram_counts_histogram.calls gc (cs.map fun c => wrap64 (c * a1)) _ (by rw [List.length_map]; exact HL.out) BKgc2.out).mono ?_); rintro e w13 ⟨v0_, rfl, ho, hb⟩; obtain ⟨Ao, co, eo⟩ := Kd.R_slice ho; subst eo; have n0_ := Aside0.mk (below_step HB.out hb); have n1_ := Aside0.mk (blk_below BKgr.out hb); have HO := Aside0.mk (Kd.R_lower (Kd.R_mono (Kd.R_newB ho BKgr.out) (fun _ h => h.2)) (by have := HB.out.size; simpa using this)); clear HB BKgr ho; have HB := n0_; have BKgr := n1_; clear n0_ n1_ hb; have hcr : w13.cell? ⟨gr, 0, none⟩ = some (.slice none 0 0) := (blk_cell BKgr.out 0).trans rfl; have hfr := blk_frozen BKgr.out 0))
            refine bodyPost_ret (results_ct rfl _ _ gr 33 #[.slice Ao (buckFrom 0 (cs.map fun c => wrap64 (c * a1))).length co] (0, 0) _ rfl (blk_put BKgr.out 0 _ rfl) Try.underlying33 rfl (by kernel_rfl)) rfl ?_
            exact ⟨_, rfl, Kd.R_mono (Kd.R_set HO.out BKgr.out (by decide) 0 _) (fun _ _ => trivial), below_set HB.out GEgr.out⟩
      · have h2b : decide (0 < n) = false := decide_eq_false h3
        clear h2
        go_enter Try.func36, Try.ntmps36
        go_wp2_with (first | ((with_reducible refine gate_dst (N := 2) rfl ?_); refine box_event ?hg (N := 2) ?hd (cs := #[.slice A0_0 l0_0.length c0_0]) (t := 33) ?hr ?_; (case hd => rfl); (case hg => rfl); (case hr => first | (go_simp; done) | (go_simp; rfl)); intro gp hg w2 hbox hb; have n0_ := Aside0.mk (below_step (by repeat (first | (with_reducible first | exact HB.out | apply below_alloc | apply pw_below_drewN | apply below_drew1) | exact HB.out)) hb); have n1_ := Aside0.mk (hbox); have n2_ := Aside0.mk ((show w.heap.size ≤ gp by rw [hg]; exact below_size (by repeat (first | (with_reducible first | exact HB.out | apply below_alloc | apply pw_below_drewN | apply below_drew1) | exact HB.out)))); clear HB ; have HB := n0_; have BKgp := n1_; have GEgp := n2_; clear n0_ n1_ n2_; clear hb hbox hg; have hcp : w2.cell? ⟨gp, 0, none⟩ = some (.slice A0_0 l0_0.length c0_0) := (blk_cell BKgp.out 0).trans rfl) | ((with_reducible refine gate_dst (N := 4) rfl ?_); refine box_event ?hg (N := 4) ?hd (cs := #[.slice none 0 0]) (t := 33) ?hr ?_; (case hd => rfl); (case hg => rfl); (case hr => first | (go_simp; done) | (go_simp; rfl)); intro gr hg w2 hbox hb; have n0_ := Aside0.mk (below_step (by repeat (first | (with_reducible first | exact HB.out | apply below_alloc | apply pw_below_drewN | apply below_drew1 | refine below_set ?_ GEgp.out) | exact HB.out)) hb); have n1_ := Aside0.mk (hbox); have n2_ := Aside0.mk ((show w.heap.size ≤ gr by rw [hg]; exact below_size (by repeat (first | (with_reducible first | exact HB.out | apply below_alloc | apply pw_below_drewN | apply below_drew1 | refine below_set ?_ GEgp.out) | exact HB.out)))); have n3_ := Aside0.mk (blk_below BKgp.out hb); have n4_ := Aside0.mk ((show gp ≠ gr by rw [hg]; exact Nat.ne_of_lt (blk_lt BKgp.out))); clear HB BKgp; have HB := n0_; have BKgr := n1_; have GEgr := n2_; have BKgp := n3_; have NE_gp_gr := n4_; clear n0_ n1_ n2_ n3_ n4_; clear hb hbox hg; clear hcp; have hcp : w2.cell? ⟨gp, 0, none⟩ = some (.slice A0_0 l0_0.length c0_0) := (blk_cell BKgp.out 0).trans rfl; have hcr : w2.cell? ⟨gr, 0, none⟩ = some (.slice none 0 0) := (blk_cell BKgr.out 0).trans rfl; have hfr := blk_frozen BKgr.out 0) | (go_at_call 30; (with_reducible refine (histogram_Total.calls k A0_0 c0_0 l0_0 n _ (Kd.C_below HR0.out HB.out) HC0.out A1.out).mono ?_); rintro e w11 ⟨rfl, hb⟩; have n0_ := Aside0.mk (below_step HB.out hb); have n1_ := Aside0.mk (blk_below BKgr.out hb); have n2_ := Aside0.mk (blk_below BKgp.out hb); clear HB BKgr BKgp hcr hfr hcp; have HB := n0_; have BKgr := n1_; have BKgp := n2_; clear n0_ n1_ n2_ hb; have hcr : w11.cell? ⟨gr, 0, none⟩ = some (.slice none 0 0) := (blk_cell BKgr.out 0).trans rfl; have hfr := blk_frozen BKgr.out 0; have hcp : w11.cell? ⟨gp, 0, none⟩ = some (.slice A0_0 l0_0.length c0_0) := (blk_cell BKgp.out 0).trans rfl) | (go_at_call 46; (with_reducible refine (histogram_of.calls A0_0 c0_0 l0_0 cs _ (Kd.C_below HR0.out HB.out) HC0.out A2.out).mono ?_); rintro e w12 ⟨gc, rfl, hge, hbk, hb⟩; have n0_ := Aside0.mk (below_step HB.out hb); have n1_ := Aside0.mk (blk_below BKgr.out hb); have BKgc := Aside0.mk hbk; have GEgc := Aside0.mk (Nat.le_trans HB.out.size hge); have NE := Aside0.mk (show gr ≠ gc from Nat.ne_of_lt (Nat.lt_of_lt_of_le (blk_lt BKgr.out) hge)); clear HB BKgr hcr hfr hcp BKgp; have HB := n0_; have BKgr := n1_; clear n0_ n1_ hb hge hbk; have hcr : w12.cell? ⟨gr, 0, none⟩ = some (.slice none 0 0) := (blk_cell BKgr.out 0).trans rfl; have hfr := blk_frozen BKgr.out 0))
        go_loopw [25] (fun v25 wc => ∃ (i : Nat), i ≤ 305 ∧ v25 = .int .i64 i ∧ Aside0 (wc.heap[gc]? = some (.cells (arrV ((cs.take i).map (fun c => wrap64 (c * a1)) ++ cs.drop i)) 76 (0, 0))) ∧ Aside0 (wc.heap[gr]? = some (.cells #[.slice none 0 0] 33 (0, 0))) ∧ Aside0 (Below w.heap.size w wc)) (fun v25 _ => 305 - (intOf v25).toNat)
        case atStart => exact ⟨0, by omega, rfl, ⟨BKgc.out⟩, BKgr, HB⟩
        case round =>
          clear BKgc BKgr HB
          (try clear hcr) ; (try clear hfr) ; (try clear hcp)
          obtain ⟨i, hi, rfl, BKgc, BKgr, HB⟩ := hrel
          by_cases hlt : i < 305
          · have hS := scale_step a1 cs i (by rw [HL.out]; exact hlt)
            obtain ⟨cx, hcx⟩ : ∃ cx, cs.getD i 0 = cx := ⟨_, rfl⟩
            rw [hcx] at hS
            have hc0 := arrV_cell BKgc.out i (by simp; rw [HL.out]; omega)
            rw [hS.1] at hc0
            have HS := Aside0.mk hS.2
            clear hS hcx
            have hf0 := blk_frozen BKgc.out i
            have q0 := eq_true (show (0:Int) ≤ (i : Int) by omega)
            have q1 := eq_true (show (i:Int) < 305 by omega)
            have q2 := eq_true (show i < 305 by omega)
            go_wp2
            go_region
            go_wp2
            go_roundw
            case rel => exact ⟨i + 1, by omega, by go_num, ⟨by rw [← HS.out]; (with_reducible repeat (first | refine blk_drewN ?_ _ | refine blk_drew ?_ | refine blk_alloc ?_ _)); exact arrV_set BKgc.out i _⟩, ⟨by (with_reducible repeat (first | refine blk_drewN ?_ _ | refine blk_drew ?_ | refine blk_alloc ?_ _)); exact blk_far BKgr.out NE.out _⟩, ⟨by repeat (first | (with_reducible first | exact HB.out | apply below_alloc | apply pw_below_drewN | apply below_drew1 | refine below_set ?_ GEgc.out) | exact HB.out)⟩⟩
            case measure => simp [intOf]; omega
          · obtain rfl : i = 305 := by omega
            have HT : Aside0 ((cs.take 305).map (fun c => wrap64 (c * a1)) ++ cs.drop 305 = cs.map (fun c => wrap64 (c * a1))) := ⟨by rw [List.take_of_length_le (by rw [HL.out]; exact Nat.le_refl _), List.drop_of_length_le (by rw [HL.out]; exact Nat.le_refl _), List.append_nil]⟩
            have BKgc2 := BKgc.out
            rw [HT.out] at BKgc2
            replace BKgc2 := Aside0.mk BKgc2
            clear BKgc HT
            go_wp2_with ((go_at_call 45; (with_reducible refine (histogram_counts_histogram.calls gc (cs.map fun c => wrap64 (c * a1)) _ (by rw [List.length_map]; exact HL.out) BKgc2.out).mono ?_); rintro e w13 ⟨v0_, rfl, ho, hb⟩; obtain ⟨Ao, co, eo⟩ := Kd.R_slice ho; subst eo; have n0_ := Aside0.mk (below_step HB.out hb); have n1_ := Aside0.mk (blk_below BKgr.out hb); have HO := Aside0.mk (Kd.R_lower (Kd.R_mono (Kd.R_newB ho BKgr.out) (fun _ h => h.2)) (by have := HB.out.size; simpa using this)); clear HB BKgr ho; have HB := n0_; have BKgr := n1_; clear n0_ n1_ hb; have hcr : w13.cell? ⟨gr, 0, none⟩ = some (.slice none 0 0) := (blk_cell BKgr.out 0).trans rfl; have hfr := blk_frozen BKgr.out 0))
            refine bodyPost_ret (results_ct rfl _ _ gr 33 #[.slice Ao (buckFrom 0 (cs.map fun c => wrap64 (c * a1))).length co] (0, 0) _ rfl (blk_put BKgr.out 0 _ rfl) Try.underlying33 rfl (by kernel_rfl)) rfl ?_
            exact ⟨_, rfl, Kd.R_mono (Kd.R_set HO.out BKgr.out (by decide) 0 _) (fun _ _ => trivial), below_set HB.out GEgr.out⟩

end Go.Proofs.Ytfnhicmjdfeanaa.PH
