-- Written by a program of this session (gprint.py) out of Lean's own print of the program. Lean checks it.
import Derived.Test.YtfnhicmjdfeanaaPHx0
import Derived.Test.YtfnhicmjdfeanaaPHx9
import Derived.Test.YtfnhicmjdfeanaaPHx10
import Derived.Test.YtfnhicmjdfeanaaPHx33
namespace Go.Proofs.Ytfnhicmjdfeanaa.PH
open Go.RowKit Go.Proofs.YtfnhicmjdfeanaaW.PrintWords Go.Proofs.YtfnhicmjdfeanaaW.PrintLast Go.Proofs.YtfnhicmjdfeanaaW.PrintMore
attribute [local go_sem] max2_int min2_int max_two min_two max_three min_three max_four min_four   -- for this text's walks alone
set_option linter.unusedVariables false
set_option linter.unusedSimpArgs false

/-! ### histogram_Merge: function 33 -/
def histogram_Merge.f (k : Nat) (l0_0 : List (S67)) (l1_0 : List (S67)) : Option ((List (S67)) × Int) :=
  (accum l0_0 (List.replicate 305 0)).bind fun cs => (accum l1_0 cs).bind fun cs2 => histogram_limited.f k (buckFrom 0 cs2)
theorem histogram_Merge.mono : ∀ a0 a1 k, LeO (histogram_Merge.f k a0 a1) (histogram_Merge.f (k + 1) a0 a1) := fun a0 a1 k => by
  unfold histogram_Merge.f
  exact LeO.bind (LeO.refl _) (fun _ => LeO.bind (LeO.refl _) (fun _ => histogram_limited.mono _ _))

set_option maxHeartbeats 8000000 in
set_option maxRecDepth 100000 in
theorem histogram_Merge.calls (k : Nat) (A0_0 : Option Addr) (c0_0 : Nat) (l0_0 : List S67) (A1_0 : Option Addr) (c1_0 : Nat) (l1_0 : List S67) (r1 : List S67) (r2 : Int) (w : World) (hr0_0 : Kd.C k67 w A0_0 l0_0.length l0_0) (hc0_0 : l0_0.length ≤ c0_0) (hr1_0 : Kd.C k67 w A1_0 l1_0.length l1_0) (hc1_0 : l1_0.length ≤ c1_0) (h : histogram_Merge.f k l0_0 l1_0 = some (r1, r2)) :
    Calls Try.prog 33 #[.agg #[.slice A0_0 l0_0.length c0_0], .agg #[.slice A1_0 l1_0.length c1_0]] w fun e w' => ∃ v0_ : Value, e = .returned (.tuple #[.agg #[v0_], .int .i64 r2]) ∧ Kd.R k67 67 w' w.heap.size (fun _ => True) v0_ r1 ∧ Below w.heap.size w w' := by
  have hu33 := Try.underlying33
  have hu67 := Try.underlying67
  have HR0 := Aside0.mk hr0_0
  have HC0 := Aside0.mk hc0_0
  have HR1 := Aside0.mk hr1_0
  have HM := Aside0.mk hr1_0.2.1
  clear hr0_0 hc0_0 hr1_0 hc1_0
  have HB := Aside0.mk (Below.refl w.heap.size w)
  have H : ((accum l0_0 (List.replicate 305 0)).bind fun cs => (accum l1_0 cs).bind fun cs2 => histogram_limited.f k (buckFrom 0 cs2)) = some (r1, r2) := h
  clear h
  replace H := Option.bind_eq_some_iff.mp H
  obtain ⟨cs, A2, H⟩ := H
  replace H := Option.bind_eq_some_iff.mp H
  obtain ⟨cs2, A3, H⟩ := H
  have HL0 := Aside0.mk (show cs.length = 305 from (accum_len _ _ _ A2).trans (by simp))
  replace A2 := Aside0.mk A2
  replace A3 := Aside0.mk A3
  have HH := Aside0.mk H
  clear H
  go_enter Try.func33, Try.ntmps33
  go_wp2_with (first | ((with_reducible refine gate_dst (N := 2) rfl ?_); refine box_event ?hg (N := 2) ?hd (cs := #[.slice A0_0 l0_0.length c0_0]) (t := 33) ?hr ?_; (case hd => rfl); (case hg => rfl); (case hr => first | (go_simp; done) | (go_simp; rfl)); intro gp hg w2 hbox hb; have n0_ := Aside0.mk (below_step (by repeat (first | (with_reducible first | exact HB.out | apply below_alloc | apply pw_below_drewN | apply below_drew1) | exact HB.out)) hb); have n1_ := Aside0.mk (hbox); have n2_ := Aside0.mk ((show w.heap.size ≤ gp by rw [hg]; exact below_size (by repeat (first | (with_reducible first | exact HB.out | apply below_alloc | apply pw_below_drewN | apply below_drew1) | exact HB.out)))); clear HB ; have HB := n0_; have BKgp := n1_; have GEgp := n2_; clear n0_ n1_ n2_; clear hb hbox hg; have hcp : w2.cell? ⟨gp, 0, none⟩ = some (.slice A0_0 l0_0.length c0_0) := (blk_cell BKgp.out 0).trans rfl) | ((with_reducible refine gate_dst (N := 3) rfl ?_); refine box_event ?hg (N := 3) ?hd (cs := #[.slice A1_0 l1_0.length c1_0]) (t := 33) ?hr ?_; (case hd => rfl); (case hg => rfl); (case hr => first | (go_simp; done) | (go_simp; rfl)); intro gq hg w2 hbox hb; have n0_ := Aside0.mk (below_step (by repeat (first | (with_reducible first | exact HB.out | apply below_alloc | apply pw_below_drewN | apply below_drew1 | refine below_set ?_ GEgp.out) | exact HB.out)) hb); have n1_ := Aside0.mk (hbox); have n2_ := Aside0.mk ((show w.heap.size ≤ gq by rw [hg]; exact below_size (by repeat (first | (with_reducible first | exact HB.out | apply below_alloc | apply pw_below_drewN | apply below_drew1 | refine below_set ?_ GEgp.out) | exact HB.out)))); have n3_ := Aside0.mk (blk_below BKgp.out hb); clear HB BKgp; have HB := n0_; have BKgq := n1_; have GEgq := n2_; have BKgp := n3_; clear n0_ n1_ n2_ n3_; clear hb hbox hg; clear hcp; have hcp : w2.cell? ⟨gp, 0, none⟩ = some (.slice A0_0 l0_0.length c0_0) := (blk_cell BKgp.out 0).trans rfl; have hcq : w2.cell? ⟨gq, 0, none⟩ = some (.slice A1_0 l1_0.length c1_0) := (blk_cell BKgq.out 0).trans rfl) | ((with_reducible refine gate_dst (N := 4) rfl ?_); refine box_event ?hg (N := 4) ?hd (cs := #[.slice none 0 0]) (t := 33) ?hr ?_; (case hd => rfl); (case hg => rfl); (case hr => first | (go_simp; done) | (go_simp; rfl)); intro gr hg w2 hbox hb; have n0_ := Aside0.mk (below_step (by repeat (first | (with_reducible first | exact HB.out | apply below_alloc | apply pw_below_drewN | apply below_drew1 | refine below_set ?_ GEgp.out) | exact HB.out)) hb); have n1_ := Aside0.mk (hbox); have n2_ := Aside0.mk ((show w.heap.size ≤ gr by rw [hg]; exact below_size (by repeat (first | (with_reducible first | exact HB.out | apply below_alloc | apply pw_below_drewN | apply below_drew1 | refine below_set ?_ GEgp.out) | exact HB.out)))); have n3_ := Aside0.mk (blk_below BKgp.out hb); have n4_ := Aside0.mk (blk_below BKgq.out hb); have n5_ := Aside0.mk ((show gp ≠ gr by rw [hg]; exact Nat.ne_of_lt (blk_lt BKgp.out))); have n6_ := Aside0.mk ((show gq ≠ gr by rw [hg]; exact Nat.ne_of_lt (blk_lt BKgq.out))); clear HB BKgp BKgq; have HB := n0_; have BKgr := n1_; have GEgr := n2_; have BKgp := n3_; have BKgq := n4_; have NE_gp_gr := n5_; have NE_gq_gr := n6_; clear n0_ n1_ n2_ n3_ n4_ n5_ n6_; clear hb hbox hg; clear hcp hcq; have hcp : w2.cell? ⟨gp, 0, none⟩ = some (.slice A0_0 l0_0.length c0_0) := (blk_cell BKgp.out 0).trans rfl; have hcq : w2.cell? ⟨gq, 0, none⟩ = some (.slice A1_0 l1_0.length c1_0) := (blk_cell BKgq.out 0).trans rfl; have hcr : w2.cell? ⟨gr, 0, none⟩ = some (.slice none 0 0) := (blk_cell BKgr.out 0).trans rfl; have hfr := blk_frozen BKgr.out 0) | (go_at_call 46; (with_reducible refine (histogram_of.calls A0_0 c0_0 l0_0 cs _ (Kd.C_below HR0.out HB.out) HC0.out A2.out).mono ?_); rintro e w12 ⟨gc, rfl, hge, hbk, hb⟩; have n0_ := Aside0.mk (below_step HB.out hb); have n1_ := Aside0.mk (blk_below BKgr.out hb); have n2_ := Aside0.mk (blk_below BKgq.out hb); have BKgc := Aside0.mk hbk; have GEgc := Aside0.mk (Nat.le_trans HB.out.size hge); have NE := Aside0.mk (show gr ≠ gc from Nat.ne_of_lt (Nat.lt_of_lt_of_le (blk_lt BKgr.out) hge)); clear HB BKgr BKgq hcr hfr hcp hcq BKgp; have HB := n0_; have BKgr := n1_; have BKgq := n2_; clear n0_ n1_ n2_ hb hge hbk; have hcr : w12.cell? ⟨gr, 0, none⟩ = some (.slice none 0 0) := (blk_cell BKgr.out 0).trans rfl; have hfr := blk_frozen BKgr.out 0; have hcq : w12.cell? ⟨gq, 0, none⟩ = some (.slice A1_0 l1_0.length c1_0) := (blk_cell BKgq.out 0).trans rfl))
  go_loopw [14] (fun v14 wc => ∃ (i : Nat) (ci : List Int), i ≤ l1_0.length ∧ v14 = .int .i64 i ∧ Aside0 (ci.length = 305) ∧ Aside0 (accum (l1_0.drop i) ci = some cs2) ∧ Aside0 (wc.heap[gc]? = some (.cells (arrV ci) 76 (0, 0))) ∧ Aside0 (wc.heap[gr]? = some (.cells #[.slice none 0 0] 33 (0, 0))) ∧ Aside0 (Below w.heap.size w wc)) (fun v14 _ => l1_0.length - (intOf v14).toNat)
  case atStart => exact ⟨0, cs, by omega, rfl, HL0, A3, BKgc, BKgr, HB⟩
  case round =>
    clear BKgc BKgr HB A3 HL0
    (try clear hcr) ; (try clear hfr) ; (try clear hcq)
    obtain ⟨i, ci, hi, rfl, HL, HA, BKgc, BKgr, HB⟩ := hrel
    by_cases hlt : i < l1_0.length
    · obtain ⟨ad, e, hx0, hx1⟩ := at_T67 HR1.out (i : Int) (by omega) (by omega)
      cases e
      replace hx0 := (HB.out.cell (World.block_lt_of_cell? w _ hx0)).trans hx0
      replace hx1 := (HB.out.cell (World.block_lt_of_cell? w _ hx1)).trans hx1
      rw [Int.toNat_natCast] at hx0 hx1
      have HA2 := HA.out
      clear HA
      rw [accum_drop _ _ hlt] at HA2
      obtain ⟨b, hb⟩ : ∃ b, rd_T67 l1_0 i = b := ⟨_, rfl⟩
      rw [hb] at HA2 hx0 hx1
      clear hb
      obtain ⟨f0, f1⟩ := b
      dsimp only at HA2 hx0 hx1
      by_cases hf : 0 ≤ f0
      · rw [if_pos hf] at HA2
        by_cases hg : f0 < 305
        · rw [if_pos hg] at HA2
          obtain ⟨b0, rfl⟩ := Int.eq_ofNat_of_zero_le hf
          rw [Int.toNat_natCast] at HA2
          have HA := Aside0.mk HA2
          clear HA2 hf
          have hm := HM.out
          obtain ⟨cx, hcx⟩ : ∃ cx, ci.getD b0 0 = cx := ⟨_, rfl⟩
          rw [hcx] at HA
          have q0 := eq_true (show (0:Int) ≤ (b0 : Int) by omega)
          have q1 := eq_true (show (b0:Int) < 305 by omega)
          have q2 := eq_true (show b0 < 305 by omega)
          go_wp2_with (((with_reducible refine gate_dst (N := 8) rfl ?_); refine box_event ?hg (N := 8) ?hd (cs := #[.int .i64 0, .int .i64 0]) (t := 67) ?hr ?_; (case hd => rfl); (case hg => rfl); (case hr => first | (go_simp; done) | (go_simp; rfl)); intro gb hg w5 hbox hb; have n0_ := Aside0.mk (below_step (by repeat (first | (with_reducible first | exact HB.out | apply below_alloc | apply pw_below_drewN | apply below_drew1 | refine below_set ?_ GEgc.out) | exact HB.out)) hb); have n1_ := Aside0.mk (hbox); have n2_ := Aside0.mk ((show w.heap.size ≤ gb by rw [hg]; exact below_size (by repeat (first | (with_reducible first | exact HB.out | apply below_alloc | apply pw_below_drewN | apply below_drew1 | refine below_set ?_ GEgc.out) | exact HB.out)))); have n3_ := Aside0.mk (blk_below BKgc.out hb); have n4_ := Aside0.mk (blk_below BKgr.out hb); have n5_ := Aside0.mk ((show gc ≠ gb by rw [hg]; exact Nat.ne_of_lt (blk_lt BKgc.out))); have n6_ := Aside0.mk ((show gr ≠ gb by rw [hg]; exact Nat.ne_of_lt (blk_lt BKgr.out))); clear HB BKgc BKgr; have HB := n0_; have BKgb := n1_; have GEgb := n2_; have BKgc := n3_; have BKgr := n4_; have NE_gc_gb := n5_; have NE_gr_gb := n6_; clear n0_ n1_ n2_ n3_ n4_ n5_ n6_; clear hb hbox hg; have hn1 := NE_gc_gb.out; have hn2 := Ne.symm hn1; have hc0 := (arrV_cell BKgc.out b0 (by have := HL.out; omega)); rw [hcx] at hc0; have hf0 := blk_frozen BKgc.out b0; have hcb0 : w5.cell? ⟨gb, 0, none⟩ = some (.int .i64 0) := (blk_cell BKgb.out 0).trans rfl; have hcb1 : w5.cell? ⟨gb, 1, none⟩ = some (.int .i64 0) := (blk_cell BKgb.out 1).trans rfl; have hfb0 := blk_frozen BKgb.out 0; have hfb1 := blk_frozen BKgb.out 1; clear hcx))
          go_region
          go_wp2
          go_roundw
          case rel => exact ⟨i + 1, ci.set b0 (wrap64 (cx + f1)), by omega, by go_num, ⟨by rw [List.length_set]; exact HL.out⟩, HA, ⟨blk_drew (arrV_set (blk_far (blk_far BKgc.out NE_gc_gb.out _) NE_gc_gb.out _) b0 _)⟩, ⟨blk_drew (blk_far (blk_far (blk_far BKgr.out NE_gr_gb.out _) NE_gr_gb.out _) NE.out _)⟩, ⟨by repeat (first | (with_reducible first | exact HB.out | apply below_alloc | apply pw_below_drewN | apply below_drew1 | refine below_set ?_ GEgc.out | refine below_set ?_ GEgb.out) | exact HB.out)⟩⟩
          case measure => simp [intOf]; omega
        · rw [if_neg hg] at HA2
          exact absurd HA2 (by simp)
      · rw [if_neg hf] at HA2
        exact absurd HA2 (by simp)
    · obtain rfl : i = l1_0.length := by omega
      have HA2 := HA.out
      rw [List.drop_length] at HA2
      obtain rfl := Option.some.inj HA2
      clear HA HA2
      go_wp2_with (first | (go_at_call 45; (with_reducible refine (histogram_counts_histogram.calls gc ci _ HL.out BKgc.out).mono ?_); rintro e w13 ⟨v0_, rfl, ho, hb⟩; have n0_ := Aside0.mk (below_step HB.out hb); have n1_ := Aside0.mk (blk_below BKgr.out hb); have HO := Aside0.mk (Kd.R_lower (Kd.R_mono (Kd.R_newB ho BKgr.out) (fun _ h => h.2)) (by have := HB.out.size; simpa using this)); clear HB BKgr ho; have HB := n0_; have BKgr := n1_; clear n0_ n1_ hb; have hcr : w13.cell? ⟨gr, 0, none⟩ = some (.slice none 0 0) := (blk_cell BKgr.out 0).trans rfl; have hfr := blk_frozen BKgr.out 0) | (go_at_call 47; (with_reducible refine (histogram_limited.calls k (fun k => k ≠ gr) _ _ r1 r2 w _ HB.out HO.out HH.out).mono ?_); rintro e w14 ⟨v1_, rfl, ho, hb, hk⟩; obtain ⟨Ao, co, eo⟩ := Kd.R_slice ho; subst eo; have n0_ := Aside0.mk hb; have n1_ := Aside0.mk (blk_kept BKgr.out hk (fun h => h rfl)); clear HO; have HO := Aside0.mk ho; clear HB BKgr hcr hfr ho hk; have HB := n0_; have BKgr := n1_; clear n0_ n1_ hb; have hcr : w14.cell? ⟨gr, 0, none⟩ = some (.slice none 0 0) := (blk_cell BKgr.out 0).trans rfl; have hfr := blk_frozen BKgr.out 0))
      refine bodyPost_ret (results_ct rfl _ _ gr 33 #[.slice Ao r1.length co] (0, 0) _ rfl (blk_put BKgr.out 0 _ rfl) Try.underlying33 rfl (by kernel_rfl)) rfl ?_
      exact ⟨_, rfl, Kd.R_mono (Kd.R_set HO.out BKgr.out (by decide) 0 _) (fun _ _ => trivial), below_set HB.out GEgr.out⟩

/-! ### histogram_Subtract: function 34 -/
def subLoop : List S67 → List Int → Option (List S67 × Int)
  | [], cs => some (buckFrom 0 cs, 0)
  | b :: bs, cs => if 0 ≤ b.f0 then (if b.f0 < 305 then (if wrap64 (cs.getD b.f0.toNat 0 - b.f1) < 0 then some ([], 17) else subLoop bs (cs.set b.f0.toNat (wrap64 (cs.getD b.f0.toNat 0 - b.f1)))) else none) else none
theorem subLoop_drop (l : List S67) (i : Nat) (h : i < l.length) (cs : List Int) : subLoop (l.drop i) cs = (if 0 ≤ (rd_T67 l i).f0 then (if (rd_T67 l i).f0 < 305 then (if wrap64 (cs.getD (rd_T67 l i).f0.toNat 0 - (rd_T67 l i).f1) < 0 then some ([], 17) else subLoop (l.drop (i + 1)) (cs.set (rd_T67 l i).f0.toNat (wrap64 (cs.getD (rd_T67 l i).f0.toNat 0 - (rd_T67 l i).f1)))) else none) else none) := by
  rw [List.drop_eq_getElem_cons h]
  have e : rd_T67 l i = l[i] := by simp [rd_T67, List.getD_eq_getElem?_getD, List.getElem?_eq_getElem h]
  rw [e]
  rfl
def histogram_Subtract.f (l0_0 : List (S67)) (l1_0 : List (S67)) : Option ((List (S67)) × Int) :=
  (accum l0_0 (List.replicate 305 0)).bind fun cs => subLoop l1_0 cs

set_option maxHeartbeats 8000000 in
set_option maxRecDepth 100000 in
theorem histogram_Subtract.calls (A0_0 : Option Addr) (c0_0 : Nat) (l0_0 : List S67) (A1_0 : Option Addr) (c1_0 : Nat) (l1_0 : List S67) (r1 : List S67) (r2 : Int) (w : World) (hr0_0 : Kd.C k67 w A0_0 l0_0.length l0_0) (hc0_0 : l0_0.length ≤ c0_0) (hr1_0 : Kd.C k67 w A1_0 l1_0.length l1_0) (hc1_0 : l1_0.length ≤ c1_0) (h : histogram_Subtract.f l0_0 l1_0 = some (r1, r2)) :
    Calls Try.prog 34 #[.agg #[.slice A0_0 l0_0.length c0_0], .agg #[.slice A1_0 l1_0.length c1_0]] w fun e w' => ∃ v0_ : Value, e = .returned (.tuple #[.agg #[v0_], .int .i64 r2]) ∧ Kd.R k67 67 w' w.heap.size (fun _ => True) v0_ r1 ∧ Below w.heap.size w w' := by
  have hu33 := Try.underlying33
  have hu67 := Try.underlying67
  have HR0 := Aside0.mk hr0_0
  have HC0 := Aside0.mk hc0_0
  have HR1 := Aside0.mk hr1_0
  have HM := Aside0.mk hr1_0.2.1
  clear hr0_0 hc0_0 hr1_0 hc1_0
  have HB := Aside0.mk (Below.refl w.heap.size w)
  have H : ((accum l0_0 (List.replicate 305 0)).bind fun cs => subLoop l1_0 cs) = some (r1, r2) := h
  clear h
  replace H := Option.bind_eq_some_iff.mp H
  obtain ⟨cs, A2, A3⟩ := H
  have HL0 := Aside0.mk (show cs.length = 305 from (accum_len _ _ _ A2).trans (by simp))
  replace A2 := Aside0.mk A2
  replace A3 := Aside0.mk A3
  go_enter Try.func34, Try.ntmps34
  go_wp2_with (first | ((with_reducible refine gate_dst (N := 2) rfl ?_); refine box_event ?hg (N := 2) ?hd (cs := #[.slice A0_0 l0_0.length c0_0]) (t := 33) ?hr ?_; (case hd => rfl); (case hg => rfl); (case hr => first | (go_simp; done) | (go_simp; rfl)); intro gp hg w2 hbox hb; have n0_ := Aside0.mk (below_step (by repeat (first | (with_reducible first | exact HB.out | apply below_alloc | apply pw_below_drewN | apply below_drew1) | exact HB.out)) hb); have n1_ := Aside0.mk (hbox); have n2_ := Aside0.mk ((show w.heap.size ≤ gp by rw [hg]; exact below_size (by repeat (first | (with_reducible first | exact HB.out | apply below_alloc | apply pw_below_drewN | apply below_drew1) | exact HB.out)))); clear HB ; have HB := n0_; have BKgp := n1_; have GEgp := n2_; clear n0_ n1_ n2_; clear hb hbox hg; have hcp : w2.cell? ⟨gp, 0, none⟩ = some (.slice A0_0 l0_0.length c0_0) := (blk_cell BKgp.out 0).trans rfl) | ((with_reducible refine gate_dst (N := 3) rfl ?_); refine box_event ?hg (N := 3) ?hd (cs := #[.slice A1_0 l1_0.length c1_0]) (t := 33) ?hr ?_; (case hd => rfl); (case hg => rfl); (case hr => first | (go_simp; done) | (go_simp; rfl)); intro gq hg w2 hbox hb; have n0_ := Aside0.mk (below_step (by repeat (first | (with_reducible first | exact HB.out | apply below_alloc | apply pw_below_drewN | apply below_drew1 | refine below_set ?_ GEgp.out) | exact HB.out)) hb); have n1_ := Aside0.mk (hbox); have n2_ := Aside0.mk ((show w.heap.size ≤ gq by rw [hg]; exact below_size (by repeat (first | (with_reducible first | exact HB.out | apply below_alloc | apply pw_below_drewN | apply below_drew1 | refine below_set ?_ GEgp.out) | exact HB.out)))); have n3_ := Aside0.mk (blk_below BKgp.out hb); clear HB BKgp; have HB := n0_; have BKgq := n1_; have GEgq := n2_; have BKgp := n3_; clear n0_ n1_ n2_ n3_; clear hb hbox hg; clear hcp; have hcp : w2.cell? ⟨gp, 0, none⟩ = some (.slice A0_0 l0_0.length c0_0) := (blk_cell BKgp.out 0).trans rfl; have hcq : w2.cell? ⟨gq, 0, none⟩ = some (.slice A1_0 l1_0.length c1_0) := (blk_cell BKgq.out 0).trans rfl) | ((with_reducible refine gate_dst (N := 4) rfl ?_); refine box_event ?hg (N := 4) ?hd (cs := #[.slice none 0 0]) (t := 33) ?hr ?_; (case hd => rfl); (case hg => rfl); (case hr => first | (go_simp; done) | (go_simp; rfl)); intro gr hg w2 hbox hb; have n0_ := Aside0.mk (below_step (by repeat (first | (with_reducible first | exact HB.out | apply below_alloc | apply pw_below_drewN | apply below_drew1 | refine below_set ?_ GEgp.out) | exact HB.out)) hb); have n1_ := Aside0.mk (hbox); have n2_ := Aside0.mk ((show w.heap.size ≤ gr by rw [hg]; exact below_size (by repeat (first | (with_reducible first | exact HB.out | apply below_alloc | apply pw_below_drewN | apply below_drew1 | refine below_set ?_ GEgp.out) | exact HB.out)))); have n3_ := Aside0.mk (blk_below BKgp.out hb); have n4_ := Aside0.mk (blk_below BKgq.out hb); have n5_ := Aside0.mk ((show gp ≠ gr by rw [hg]; exact Nat.ne_of_lt (blk_lt BKgp.out))); have n6_ := Aside0.mk ((show gq ≠ gr by rw [hg]; exact Nat.ne_of_lt (blk_lt BKgq.out))); clear HB BKgp BKgq; have HB := n0_; have BKgr := n1_; have GEgr := n2_; have BKgp := n3_; have BKgq := n4_; have NE_gp_gr := n5_; have NE_gq_gr := n6_; clear n0_ n1_ n2_ n3_ n4_ n5_ n6_; clear hb hbox hg; clear hcp hcq; have hcp : w2.cell? ⟨gp, 0, none⟩ = some (.slice A0_0 l0_0.length c0_0) := (blk_cell BKgp.out 0).trans rfl; have hcq : w2.cell? ⟨gq, 0, none⟩ = some (.slice A1_0 l1_0.length c1_0) := (blk_cell BKgq.out 0).trans rfl; have hcr : w2.cell? ⟨gr, 0, none⟩ = some (.slice none 0 0) := (blk_cell BKgr.out 0).trans rfl; have hfr := blk_frozen BKgr.out 0) | (go_at_call 46; (with_reducible refine (histogram_of.calls A0_0 c0_0 l0_0 cs _ (Kd.C_below HR0.out HB.out) HC0.out A2.out).mono ?_); rintro e w12 ⟨gc, rfl, hge, hbk, hb⟩; have n0_ := Aside0.mk (below_step HB.out hb); have n1_ := Aside0.mk (blk_below BKgr.out hb); have n2_ := Aside0.mk (blk_below BKgq.out hb); have BKgc := Aside0.mk hbk; have GEgc := Aside0.mk (Nat.le_trans HB.out.size hge); have NE := Aside0.mk (show gr ≠ gc from Nat.ne_of_lt (Nat.lt_of_lt_of_le (blk_lt BKgr.out) hge)); clear HB BKgr BKgq hcr hfr hcp hcq BKgp; have HB := n0_; have BKgr := n1_; have BKgq := n2_; clear n0_ n1_ n2_ hb hge hbk; have hcr : w12.cell? ⟨gr, 0, none⟩ = some (.slice none 0 0) := (blk_cell BKgr.out 0).trans rfl; have hfr := blk_frozen BKgr.out 0; have hcq : w12.cell? ⟨gq, 0, none⟩ = some (.slice A1_0 l1_0.length c1_0) := (blk_cell BKgq.out 0).trans rfl))
  go_loopw [14] (fun v14 wc => ∃ (i : Nat) (ci : List Int), i ≤ l1_0.length ∧ v14 = .int .i64 i ∧ Aside0 (ci.length = 305) ∧ Aside0 (subLoop (l1_0.drop i) ci = some (r1, r2)) ∧ Aside0 (wc.heap[gc]? = some (.cells (arrV ci) 76 (0, 0))) ∧ Aside0 (wc.heap[gr]? = some (.cells #[.slice none 0 0] 33 (0, 0))) ∧ Aside0 (Below w.heap.size w wc)) (fun v14 _ => l1_0.length - (intOf v14).toNat)
  case atStart => exact ⟨0, cs, by omega, rfl, HL0, A3, BKgc, BKgr, HB⟩
  case round =>
    clear BKgc BKgr HB A3 HL0
    (try clear hcr) ; (try clear hfr) ; (try clear hcq)
    obtain ⟨i, ci, hi, rfl, HL, HA, BKgc, BKgr, HB⟩ := hrel
    by_cases hlt : i < l1_0.length
    · obtain ⟨ad, e, hx0, hx1⟩ := at_T67 HR1.out (i : Int) (by omega) (by omega)
      cases e
      replace hx0 := (HB.out.cell (World.block_lt_of_cell? w _ hx0)).trans hx0
      replace hx1 := (HB.out.cell (World.block_lt_of_cell? w _ hx1)).trans hx1
      rw [Int.toNat_natCast] at hx0 hx1
      have HA2 := HA.out
      clear HA
      rw [subLoop_drop _ _ hlt] at HA2
      obtain ⟨b, hb⟩ : ∃ b, rd_T67 l1_0 i = b := ⟨_, rfl⟩
      rw [hb] at HA2 hx0 hx1
      clear hb
      obtain ⟨f0, f1⟩ := b
      dsimp only at HA2 hx0 hx1
      by_cases hf : 0 ≤ f0
      · rw [if_pos hf] at HA2
        by_cases hg : f0 < 305
        · rw [if_pos hg] at HA2
          obtain ⟨b0, rfl⟩ := Int.eq_ofNat_of_zero_le hf
          rw [Int.toNat_natCast] at HA2
          clear hf
          have hm := HM.out
          obtain ⟨cx, hcx⟩ : ∃ cx, ci.getD b0 0 = cx := ⟨_, rfl⟩
          rw [hcx] at HA2
          have q0 := eq_true (show (0:Int) ≤ (b0 : Int) by omega)
          have q1 := eq_true (show (b0:Int) < 305 by omega)
          have q2 := eq_true (show b0 < 305 by omega)
          by_cases hs : wrap64 (cx - f1) < 0
          · rw [if_pos hs] at HA2
            simp only [Option.some.injEq, Prod.mk.injEq] at HA2
            obtain ⟨rfl, rfl⟩ := HA2
            obtain ⟨dx, hdx⟩ : ∃ dx, wrap64 (cx - f1) = dx := ⟨_, rfl⟩
            rw [hdx] at hs
            have hs1 := decide_eq_true hs
            clear hs
            go_wp2_with (((with_reducible refine gate_dst (N := 8) rfl ?_); refine box_event ?hg (N := 8) ?hd (cs := #[.int .i64 0, .int .i64 0]) (t := 67) ?hr ?_; (case hd => rfl); (case hg => rfl); (case hr => first | (go_simp; done) | (go_simp; rfl)); intro gb hg w5 hbox hb; have n0_ := Aside0.mk (below_step (by repeat (first | (with_reducible first | exact HB.out | apply below_alloc | apply pw_below_drewN | apply below_drew1 | refine below_set ?_ GEgc.out) | exact HB.out)) hb); have n1_ := Aside0.mk (hbox); have n2_ := Aside0.mk ((show w.heap.size ≤ gb by rw [hg]; exact below_size (by repeat (first | (with_reducible first | exact HB.out | apply below_alloc | apply pw_below_drewN | apply below_drew1 | refine below_set ?_ GEgc.out) | exact HB.out)))); have n3_ := Aside0.mk (blk_below BKgc.out hb); have n4_ := Aside0.mk (blk_below BKgr.out hb); have n5_ := Aside0.mk ((show gc ≠ gb by rw [hg]; exact Nat.ne_of_lt (blk_lt BKgc.out))); have n6_ := Aside0.mk ((show gr ≠ gb by rw [hg]; exact Nat.ne_of_lt (blk_lt BKgr.out))); clear HB BKgc BKgr; have HB := n0_; have BKgb := n1_; have GEgb := n2_; have BKgc := n3_; have BKgr := n4_; have NE_gc_gb := n5_; have NE_gr_gb := n6_; clear n0_ n1_ n2_ n3_ n4_ n5_ n6_; clear hb hbox hg; have hn1 := NE_gc_gb.out; have hn2 := Ne.symm hn1; have hc0 := (arrV_cell BKgc.out b0 (by have := HL.out; omega)); rw [hcx] at hc0; have hf0 := blk_frozen BKgc.out b0; have hcb0 : w5.cell? ⟨gb, 0, none⟩ = some (.int .i64 0) := (blk_cell BKgb.out 0).trans rfl; have hcb1 : w5.cell? ⟨gb, 1, none⟩ = some (.int .i64 0) := (blk_cell BKgb.out 1).trans rfl; have hfb0 := blk_frozen BKgb.out 0; have hfb1 := blk_frozen BKgb.out 1; clear hcx))
            go_region
            have hcr : w5.cell? ⟨gr, 0, none⟩ = some (.slice none 0 0) := (blk_cell BKgr.out 0).trans rfl
            have hfr := blk_frozen BKgr.out 0
            have hn3 := NE_gr_gb.out
            have hn4 := Ne.symm hn3
            have hn5 := NE.out
            have hn6 := Ne.symm hn5
            go_wp2
            go_quiet (fail)
            go_wp2
            refine bodyPost_ret (results_ct rfl _ _ gr 33 #[.slice none 0 0] (0, 0) _ rfl (by (with_reducible repeat (first | refine blk_drewN ?_ _ | refine blk_drew ?_ | refine blk_alloc ?_ _)); refine blk_put (cs := #[.slice none 0 0]) ?_ 0 _ rfl; (with_reducible repeat (first | refine blk_drewN ?_ _ | refine blk_drew ?_ | refine blk_alloc ?_ _)); exact blk_far (blk_far (blk_far BKgr.out NE_gr_gb.out _) NE_gr_gb.out _) NE.out _) Try.underlying33 rfl (by kernel_rfl)) rfl ?_
            exact ⟨_, rfl, Kd.R_nil _ _ _ _ _, by repeat (first | (with_reducible first | exact HB.out | apply below_alloc | apply pw_below_drewN | apply below_drew1 | refine below_set ?_ GEgc.out | refine below_set ?_ GEgb.out | refine below_set ?_ GEgr.out) | exact HB.out)⟩
          · rw [if_neg hs] at HA2
            have HA := Aside0.mk HA2
            clear HA2
            obtain ⟨dx, hdx⟩ : ∃ dx, wrap64 (cx - f1) = dx := ⟨_, rfl⟩
            rw [hdx] at hs HA
            have hs1 := decide_eq_false hs
            clear hs
            go_wp2_with (((with_reducible refine gate_dst (N := 8) rfl ?_); refine box_event ?hg (N := 8) ?hd (cs := #[.int .i64 0, .int .i64 0]) (t := 67) ?hr ?_; (case hd => rfl); (case hg => rfl); (case hr => first | (go_simp; done) | (go_simp; rfl)); intro gb hg w5 hbox hb; have n0_ := Aside0.mk (below_step (by repeat (first | (with_reducible first | exact HB.out | apply below_alloc | apply pw_below_drewN | apply below_drew1 | refine below_set ?_ GEgc.out) | exact HB.out)) hb); have n1_ := Aside0.mk (hbox); have n2_ := Aside0.mk ((show w.heap.size ≤ gb by rw [hg]; exact below_size (by repeat (first | (with_reducible first | exact HB.out | apply below_alloc | apply pw_below_drewN | apply below_drew1 | refine below_set ?_ GEgc.out) | exact HB.out)))); have n3_ := Aside0.mk (blk_below BKgc.out hb); have n4_ := Aside0.mk (blk_below BKgr.out hb); have n5_ := Aside0.mk ((show gc ≠ gb by rw [hg]; exact Nat.ne_of_lt (blk_lt BKgc.out))); have n6_ := Aside0.mk ((show gr ≠ gb by rw [hg]; exact Nat.ne_of_lt (blk_lt BKgr.out))); clear HB BKgc BKgr; have HB := n0_; have BKgb := n1_; have GEgb := n2_; have BKgc := n3_; have BKgr := n4_; have NE_gc_gb := n5_; have NE_gr_gb := n6_; clear n0_ n1_ n2_ n3_ n4_ n5_ n6_; clear hb hbox hg; have hn1 := NE_gc_gb.out; have hn2 := Ne.symm hn1; have hc0 := (arrV_cell BKgc.out b0 (by have := HL.out; omega)); rw [hcx] at hc0; have hf0 := blk_frozen BKgc.out b0; have hcb0 : w5.cell? ⟨gb, 0, none⟩ = some (.int .i64 0) := (blk_cell BKgb.out 0).trans rfl; have hcb1 : w5.cell? ⟨gb, 1, none⟩ = some (.int .i64 0) := (blk_cell BKgb.out 1).trans rfl; have hfb0 := blk_frozen BKgb.out 0; have hfb1 := blk_frozen BKgb.out 1; clear hcx))
            go_region
            go_wp2
            go_quiet (fail)
            go_wp2
            go_roundw
            case rel => exact ⟨i + 1, ci.set b0 dx, by omega, by go_num, ⟨by rw [List.length_set]; exact HL.out⟩, HA, ⟨by (with_reducible repeat (first | refine blk_drewN ?_ _ | refine blk_drew ?_ | refine blk_alloc ?_ _)); exact arrV_set (blk_far (blk_far BKgc.out NE_gc_gb.out _) NE_gc_gb.out _) b0 _⟩, ⟨by (with_reducible repeat (first | refine blk_drewN ?_ _ | refine blk_drew ?_ | refine blk_alloc ?_ _)); exact blk_far (blk_far (blk_far BKgr.out NE_gr_gb.out _) NE_gr_gb.out _) NE.out _⟩, ⟨by repeat (first | (with_reducible first | exact HB.out | apply below_alloc | apply pw_below_drewN | apply below_drew1 | refine below_set ?_ GEgc.out | refine below_set ?_ GEgb.out) | exact HB.out)⟩⟩
            case measure => simp [intOf]; omega
        · rw [if_neg hg] at HA2
          exact absurd HA2 (by simp)
      · rw [if_neg hf] at HA2
        exact absurd HA2 (by simp)
    · obtain rfl : i = l1_0.length := by omega
      have HA2 := HA.out
      rw [List.drop_length] at HA2
      simp only [subLoop, Option.some.injEq, Prod.mk.injEq] at HA2
      obtain ⟨rfl, rfl⟩ := HA2
      clear HA
      go_wp2_with ((go_at_call 45; (with_reducible refine (histogram_counts_histogram.calls gc ci _ HL.out BKgc.out).mono ?_); rintro e w13 ⟨v0_, rfl, ho, hb⟩; obtain ⟨Ao, co, eo⟩ := Kd.R_slice ho; subst eo; have n0_ := Aside0.mk (below_step HB.out hb); have n1_ := Aside0.mk (blk_below BKgr.out hb); have HO := Aside0.mk (Kd.R_lower (Kd.R_mono (Kd.R_newB ho BKgr.out) (fun _ h => h.2)) (by have := HB.out.size; simpa using this)); clear HB BKgr ho; have HB := n0_; have BKgr := n1_; clear n0_ n1_ hb; have hcr : w13.cell? ⟨gr, 0, none⟩ = some (.slice none 0 0) := (blk_cell BKgr.out 0).trans rfl; have hfr := blk_frozen BKgr.out 0))
      refine bodyPost_ret (results_ct rfl _ _ gr 33 #[.slice Ao (buckFrom 0 ci).length co] (0, 0) _ rfl (blk_put BKgr.out 0 _ rfl) Try.underlying33 rfl (by kernel_rfl)) rfl ?_
      exact ⟨_, rfl, Kd.R_mono (Kd.R_set HO.out BKgr.out (by decide) 0 _) (fun _ _ => trivial), below_set HB.out GEgr.out⟩

end Go.Proofs.Ytfnhicmjdfeanaa.PH
