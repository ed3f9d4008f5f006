-- Written by a program of this session (gprint.py) out of Lean's own print of the program. Lean checks it.
import Derived.Test.YtfnhicmjdfeanaaPHx0
import Derived.Test.YtfnhicmjdfeanaaPHx9
import Derived.Test.YtfnhicmjdfeanaaPHx10
import Derived.Test.YtfnhicmjdfeanaaPHx14
namespace Go.Proofs.Ytfnhicmjdfeanaa.PH
open Go.RowKit Go.Proofs.YtfnhicmjdfeanaaW.PrintWords Go.Proofs.YtfnhicmjdfeanaaW.PrintLast Go.Proofs.YtfnhicmjdfeanaaW.PrintMore
attribute [local go_sem] max2_int min2_int max_two min_two max_three min_three max_four min_four   -- for this text's walks alone
set_option linter.unusedVariables false
set_option linter.unusedSimpArgs false

/-! ### histogram_Of: function 26 -/
def ofLoop (k : Nat) : List Int → List Int → Option (List S67 × Int)
  | [], cs => some (buckFrom 0 cs, 0)
  | v :: vs, cs => (histogram_Index.f k v).bind fun p => if p.2 = 0 then (if 0 ≤ p.1 then (if p.1 < 305 then ofLoop k vs (cs.set p.1.toNat (wrap64 (cs.getD p.1.toNat 0 + 1))) else none) else none) else some ([], p.2)
def histogram_Of.f (k : Nat) (l0 : List Int) : Option ((List (S67)) × Int) := if (l0.length : Int) > 1048576 then some ([], 20) else ofLoop k l0 (List.replicate 305 0)
theorem ofLoop.mono (k : Nat) : ∀ (l cs : List Int), LeO (ofLoop k l cs) (ofLoop (k + 1) l cs)
  | [], cs => LeO.refl _
  | v :: vs, cs => by
    unfold ofLoop
    refine LeO.bind (histogram_Index.mono _ _) (fun p => ?_)
    refine LeO.ite (LeO.ite (LeO.ite (ofLoop.mono k vs _) (LeO.refl _)) (LeO.refl _)) (LeO.refl _)
theorem histogram_Of.mono : ∀ a0 k, LeO (histogram_Of.f k a0) (histogram_Of.f (k + 1) a0) := fun a0 k => LeO.ite (LeO.refl _) (ofLoop.mono k _ _)
theorem ofLoop_drop (k : Nat) (l : List Int) (i : Nat) (h : i < l.length) (cs : List Int) : ofLoop k (l.drop i) cs = (histogram_Index.f k (rd l i)).bind fun p => if p.2 = 0 then (if 0 ≤ p.1 then (if p.1 < 305 then ofLoop k (l.drop (i + 1)) (cs.set p.1.toNat (wrap64 (cs.getD p.1.toNat 0 + 1))) else none) else none) else some ([], p.2) := by
  rw [List.drop_eq_getElem_cons h]
  have e : rd l i = l[i] := by simp [rd, List.getD_eq_getElem?_getD, List.getElem?_eq_getElem h]
  rw [e]
  rfl

set_option maxHeartbeats 8000000 in
set_option maxRecDepth 100000 in
theorem histogram_Of.calls (k : Nat) (A0 : Option Addr) (c0 : Nat) (l0 : List Int) (r1 : List S67) (r2 : Int) (w : World) (hr0 : Kd.C (Kd.int .i64) w A0 l0.length l0) (hc0 : l0.length ≤ c0) (h : histogram_Of.f k l0 = some (r1, r2)) :
    Calls Try.prog 26 #[.slice A0 l0.length c0] w fun e w' => ∃ v0_ : Value, e = .returned (.tuple #[.agg #[v0_], .int .i64 r2]) ∧ Kd.R k67 67 w' w.heap.size (fun _ => True) v0_ r1 ∧ Below w.heap.size w w' := by
  have hu33 := Try.underlying33
  have HR0 := Aside0.mk hr0
  have HM := Aside0.mk hr0.2.1
  clear hr0 hc0
  have HB := Aside0.mk (Below.refl w.heap.size w)
  have H : (if (l0.length : Int) > 1048576 then some ([], 20) else ofLoop k l0 (List.replicate 305 0)) = some (r1, r2) := h
  clear h
  by_cases c1 : (l0.length : Int) > 1048576
  · rw [if_pos c1] at H
    simp only [Option.some.injEq, Prod.mk.injEq] at H
    obtain ⟨rfl, rfl⟩ := H
    go_enter Try.func26, Try.ntmps26
    go_wp2_with (((with_reducible refine gate_dst (N := 2) rfl ?_); refine box_event ?hg (N := 2) ?hd (cs := #[.slice none 0 0]) (t := 33) ?hr ?_; (case hd => rfl); (case hg => rfl); (case hr => first | (go_simp; done) | (go_simp; rfl)); intro gr hg w2 hbox hb; have n0_ := Aside0.mk (below_step (by repeat (first | (with_reducible first | exact HB.out | apply below_alloc | apply pw_below_drewN | apply below_drew1) | exact HB.out)) hb); have n1_ := Aside0.mk (hbox); have n2_ := Aside0.mk ((show w.heap.size ≤ gr by rw [hg]; exact below_size (by repeat (first | (with_reducible first | exact HB.out | apply below_alloc | apply pw_below_drewN | apply below_drew1) | exact HB.out)))); clear HB ; have HB := n0_; have BKgr := n1_; have GEgr := n2_; clear n0_ n1_ n2_; clear hb hbox hg; have hcr : w2.cell? ⟨gr, 0, none⟩ = some (.slice none 0 0) := (blk_cell BKgr.out 0).trans rfl; have hfr := blk_frozen BKgr.out 0))
    refine bodyPost_ret (results_ct rfl _ _ gr 33 #[.slice none 0 0] (0, 0) _ rfl (blk_put BKgr.out 0 _ rfl) Try.underlying33 rfl (by kernel_rfl)) rfl ?_
    exact ⟨_, rfl, Kd.R_nil _ _ _ _ _, below_set HB.out GEgr.out⟩
  · rw [if_neg c1] at H
    have c2 : ¬ (1048576 < l0.length) := by omega
    have HA := Aside0.mk H
    clear H c1
    go_enter Try.func26, Try.ntmps26
    go_wp2_with (first | ((with_reducible refine gate_dst (N := 2) rfl ?_); refine box_event ?hg (N := 2) ?hd (cs := #[.slice none 0 0]) (t := 33) ?hr ?_; (case hd => rfl); (case hg => rfl); (case hr => first | (go_simp; done) | (go_simp; rfl)); intro gr hg w2 hbox hb; have n0_ := Aside0.mk (below_step (by repeat (first | (with_reducible first | exact HB.out | apply below_alloc | apply pw_below_drewN | apply below_drew1) | exact HB.out)) hb); have n1_ := Aside0.mk (hbox); have n2_ := Aside0.mk ((show w.heap.size ≤ gr by rw [hg]; exact below_size (by repeat (first | (with_reducible first | exact HB.out | apply below_alloc | apply pw_below_drewN | apply below_drew1) | exact HB.out)))); clear HB ; have HB := n0_; have BKgr := n1_; have GEgr := n2_; clear n0_ n1_ n2_; clear hb hbox hg; have hcr : w2.cell? ⟨gr, 0, none⟩ = some (.slice none 0 0) := (blk_cell BKgr.out 0).trans rfl; have hfr := blk_frozen BKgr.out 0) | ((with_reducible refine gate_dst (N := 4) rfl ?_); refine box_event ?hg (N := 4) ?hd (cs := arrV (List.replicate 305 0)) (t := 76) ?hr ?_; (case hd => rfl); (case hg => rfl); (case hr => rfl); intro gc hg w2 hbox hb; have n0_ := Aside0.mk (below_step (by repeat (first | (with_reducible first | exact HB.out | apply below_alloc | apply pw_below_drewN | apply below_drew1 | refine below_set ?_ GEgr.out) | exact HB.out)) hb); have n1_ := Aside0.mk (hbox); have n2_ := Aside0.mk ((show w.heap.size ≤ gc by rw [hg]; exact below_size (by repeat (first | (with_reducible first | exact HB.out | apply below_alloc | apply pw_below_drewN | apply below_drew1 | refine below_set ?_ GEgr.out) | exact HB.out)))); have n3_ := Aside0.mk (blk_below BKgr.out hb); have n4_ := Aside0.mk ((show gr ≠ gc by rw [hg]; exact Nat.ne_of_lt (blk_lt BKgr.out))); clear HB BKgr; have HB := n0_; have BKgc := n1_; have GEgc := n2_; have BKgr := n3_; have NE_gr_gc := n4_; clear n0_ n1_ n2_ n3_ n4_; clear hb hbox hg; clear hcr hfr; have hcr : w2.cell? ⟨gr, 0, none⟩ = some (.slice none 0 0) := (blk_cell BKgr.out 0).trans rfl; have hfr := blk_frozen BKgr.out 0))
    clear c2
    go_loopw [15] (fun v15 wc => ∃ (i : Nat) (ci : List Int), i ≤ l0.length ∧ v15 = .int .i64 i ∧ Aside0 (ci.length = 305) ∧ Aside0 (ofLoop k (l0.drop i) ci = some (r1, r2)) ∧ Aside0 (wc.heap[gc]? = some (.cells (arrV ci) 76 (0, 0))) ∧ Aside0 (wc.heap[gr]? = some (.cells #[.slice none 0 0] 33 (0, 0))) ∧ Aside0 (Below w.heap.size w wc)) (fun v15 _ => l0.length - (intOf v15).toNat)
    case atStart => exact ⟨0, List.replicate 305 0, by omega, rfl, ⟨List.length_replicate⟩, HA, BKgc, BKgr, HB⟩
    case round =>
      clear BKgc BKgr HB HA hcr hfr
      obtain ⟨i, ci, hi, rfl, HL, HA, BKgc, BKgr, HB⟩ := hrel
      have hcr : wr.cell? ⟨gr, 0, none⟩ = some (.slice none 0 0) := (blk_cell BKgr.out 0).trans rfl
      have hfr := blk_frozen BKgr.out 0
      by_cases hlt : i < l0.length
      · obtain ⟨ad, e, hx0⟩ := Kd.at_int HR0.out (i : Int) (by omega) (by omega)
        cases e
        replace hx0 := (HB.out.cell (World.block_lt_of_cell? w _ hx0)).trans hx0
        rw [Int.toNat_natCast] at hx0
        have HA2 := HA.out
        clear HA
        rw [ofLoop_drop _ _ _ hlt] at HA2
        obtain ⟨b, hb⟩ : ∃ b, rd l0 i = b := ⟨_, rfl⟩
        rw [hb] at HA2 hx0
        clear hb
        replace HA2 := Option.bind_eq_some_iff.mp HA2
        obtain ⟨⟨p1, p2⟩, A1, HA2⟩ := HA2
        replace A1 := Aside0.mk A1
        dsimp only at HA2
        have hm := HM.out
        by_cases hf : p2 = 0
        · rw [if_pos hf] at HA2
          subst hf
          by_cases hp : 0 ≤ p1
          · rw [if_pos hp] at HA2
            by_cases hg : p1 < 305
            · rw [if_pos hg] at HA2
              obtain ⟨b0, rfl⟩ := Int.eq_ofNat_of_zero_le hp
              rw [Int.toNat_natCast] at HA2
              replace HA2 := Aside0.mk HA2
              clear hp
              obtain ⟨cx, hcx⟩ : ∃ cx, ci.getD b0 0 = cx := ⟨_, rfl⟩
              rw [hcx] at HA2
              have hc0 := (arrV_cell BKgc.out b0 (by have := HL.out; omega))
              rw [hcx] at hc0
              clear hcx
              have hf0 := blk_frozen BKgc.out b0
              have q0 := eq_true (show (0:Int) ≤ (b0 : Int) by omega)
              have q1 := eq_true (show (b0:Int) < 305 by omega)
              have q2 := eq_true (show b0 < 305 by omega)
              go_wp2_with (go_at_call 13; (with_reducible refine (histogram_Index.calls k b _ _ _ A1.out).mono ?_); rintro e w11 ⟨rfl, hb⟩; obtain ⟨nq, rfl⟩ := hb.out)
              go_roundw
              case rel => exact ⟨i + 1, ci.set b0 (wrap64 (cx + 1)), by omega, by go_num, ⟨by rw [List.length_set]; exact HL.out⟩, HA2, ⟨arrV_set (blk_drewN BKgc.out nq) b0 _⟩, ⟨blk_far (blk_drewN BKgr.out nq) NE_gr_gc.out _⟩, ⟨by repeat (first | (with_reducible first | exact HB.out | apply below_alloc | apply pw_below_drewN | apply below_drew1 | refine below_set ?_ GEgc.out) | exact HB.out)⟩⟩
              case measure => simp [intOf]; omega
            · rw [if_neg hg] at HA2
              exact absurd HA2 (by simp)
          · rw [if_neg hp] at HA2
            exact absurd HA2 (by simp)
        · rw [if_neg hf] at HA2
          simp only [Option.some.injEq, Prod.mk.injEq] at HA2
          obtain ⟨rfl, rfl⟩ := HA2
          have hf1 : (p2 != 0) = true := by simp [hf]
          clear hf
          go_wp2_with (go_at_call 13; (with_reducible refine (histogram_Index.calls k b _ _ _ A1.out).mono ?_); rintro e w11 ⟨rfl, hb⟩; obtain ⟨nq, rfl⟩ := hb.out)
          refine bodyPost_ret (results_ct rfl _ _ gr 33 #[.slice none 0 0] (0, 0) _ rfl (blk_put (blk_drewN BKgr.out nq) 0 _ rfl) Try.underlying33 rfl (by kernel_rfl)) rfl ?_
          exact ⟨_, rfl, Kd.R_nil _ _ _ _ _, below_set (pw_below_drewN HB.out nq) GEgr.out⟩
      · obtain rfl : i = l0.length := by omega
        have HA2 := HA.out
        rw [List.drop_length] at HA2
        simp only [ofLoop, Option.some.injEq, Prod.mk.injEq] at HA2
        obtain ⟨rfl, rfl⟩ := HA2
        go_wp2_with (go_at_call 45; (with_reducible refine (histogram_counts_histogram.calls gc ci _ HL.out BKgc.out).mono ?_); rintro e w12 ⟨v0_, rfl, ho, hb⟩; obtain ⟨Ao, co, eo⟩ := Kd.R_slice ho; subst eo; have n0_ := Aside0.mk (below_step HB.out hb); have n1_ := Aside0.mk (blk_below BKgr.out hb); have HO := Aside0.mk (Kd.R_lower ho HB.out.size); clear HB BKgr hcr hfr ho; have HB := n0_; have BKgr := n1_; clear n0_ n1_ hb; have hcr : w12.cell? ⟨gr, 0, none⟩ = some (.slice none 0 0) := (blk_cell BKgr.out 0).trans rfl; have hfr := blk_frozen BKgr.out 0)
        refine bodyPost_ret (results_ct rfl _ _ gr 33 #[.slice Ao (buckFrom 0 ci).length co] (0, 0) _ rfl (blk_put BKgr.out 0 _ rfl) Try.underlying33 rfl (by kernel_rfl)) rfl ?_
        exact ⟨_, rfl, Kd.R_set HO.out BKgr.out (by decide) 0 _, below_set HB.out GEgr.out⟩

end Go.Proofs.Ytfnhicmjdfeanaa.PH
