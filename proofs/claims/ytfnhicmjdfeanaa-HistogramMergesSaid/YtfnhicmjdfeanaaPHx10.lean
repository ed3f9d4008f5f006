-- Written by a program of this session (gprint.py) out of Lean's own print of the program. Lean checks it.
import Derived.Test.YtfnhicmjdfeanaaPHx0
import Derived.Test.YtfnhicmjdfeanaaPHx9
namespace Go.Proofs.Ytfnhicmjdfeanaa.PH
open Go.RowKit Go.Proofs.YtfnhicmjdfeanaaW.PrintWords Go.Proofs.YtfnhicmjdfeanaaW.PrintLast Go.Proofs.YtfnhicmjdfeanaaW.PrintMore
attribute [local go_sem] max2_int min2_int max_two min_two max_three min_three max_four min_four   -- for this text's walks alone
set_option linter.unusedVariables false
set_option linter.unusedSimpArgs false

/-! ### histogram_of: function 46 -/
theorem arrV_set {w : World} {g t : Nat} {cs : List Int} (h : w.heap[g]? = some (.cells (arrV cs) t (0, 0))) (i : Nat) (v : Int) : (w.setCell ⟨g, i, none⟩ (.int .i64 v)).heap[g]? = some (.cells (arrV (cs.set i v)) t (0, 0)) := by
  rw [blk_set h]
  simp [arrV, List.map_set]
def accum : List S67 → List Int → Option (List Int)
  | [], cs => some cs
  | b :: bs, cs => if 0 ≤ b.f0 then (if b.f0 < 305 then accum bs (cs.set b.f0.toNat (wrap64 (cs.getD b.f0.toNat 0 + b.f1))) else none) else none
theorem accum_drop (l : List S67) (i : Nat) (h : i < l.length) (cs : List Int) : accum (l.drop i) cs = (if 0 ≤ (rd_T67 l i).f0 then (if (rd_T67 l i).f0 < 305 then accum (l.drop (i + 1)) (cs.set (rd_T67 l i).f0.toNat (wrap64 (cs.getD (rd_T67 l i).f0.toNat 0 + (rd_T67 l i).f1))) else none) else none) := by
  rw [List.drop_eq_getElem_cons h]
  have e : rd_T67 l i = l[i] := by simp [rd_T67, List.getD_eq_getElem?_getD, List.getElem?_eq_getElem h]
  rw [e]
  rfl

set_option maxHeartbeats 8000000 in
set_option maxRecDepth 100000 in
theorem histogram_of.calls (A0_0 : Option Addr) (c0_0 : Nat) (l0_0 : List S67) (cs : List Int) (w : World) (hr0_0 : Kd.C k67 w A0_0 l0_0.length l0_0) (hc0_0 : l0_0.length ≤ c0_0) (h : accum l0_0 (List.replicate 305 0) = some cs) :
    Calls Try.prog 46 #[.agg #[.slice A0_0 l0_0.length c0_0]] w fun e w' => ∃ g : Nat, e = .returned (.pointer (some ⟨g, 0, none⟩)) ∧ w.heap.size ≤ g ∧ w'.heap[g]? = some (.cells (arrV cs) 76 (0, 0)) ∧ Below w.heap.size w w' := by
  have hu33 := Try.underlying33
  have hu67 := Try.underlying67
  have HR0 := Aside0.mk hr0_0
  have HM := Aside0.mk hr0_0.2.1
  have HA := Aside0.mk h
  clear hr0_0 hc0_0 h
  have HB := Aside0.mk (Below.refl w.heap.size w)
  go_enter Try.func46, Try.ntmps46
  go_wp2_with (first | ((with_reducible refine gate_dst (N := 1) rfl ?_); refine box_event ?hg (N := 1) ?hd (cs := #[.slice A0_0 l0_0.length c0_0]) (t := 33) ?hr ?_; (case hd => rfl); (case hg => rfl); (case hr => first | (go_simp; done) | (go_simp; rfl)); intro gp hg w2 hbox hb; have n0_ := Aside0.mk (below_step (by repeat (first | (with_reducible first | exact HB.out | apply below_alloc | apply pw_below_drewN | apply below_drew1) | exact HB.out)) hb); have n1_ := Aside0.mk (hbox); have n2_ := Aside0.mk ((show w.heap.size ≤ gp by rw [hg]; exact below_size (by repeat (first | (with_reducible first | exact HB.out | apply below_alloc | apply pw_below_drewN | apply below_drew1) | exact HB.out)))); clear HB ; have HB := n0_; have BKgp := n1_; have GEgp := n2_; clear n0_ n1_ n2_; clear hb hbox hg; have hcp : w2.cell? ⟨gp, 0, none⟩ = some (.slice A0_0 l0_0.length c0_0) := (blk_cell BKgp.out 0).trans rfl) | ((with_reducible refine gate_dst (N := 3) rfl ?_); refine box_event ?hg (N := 3) ?hd (cs := arrV (List.replicate 305 0)) (t := 76) ?hr ?_; (case hd => rfl); (case hg => rfl); (case hr => rfl); intro gc hg w2 hbox hb; have n0_ := Aside0.mk (below_step (by repeat (first | (with_reducible first | exact HB.out | apply below_alloc | apply pw_below_drewN | apply below_drew1) | exact HB.out)) hb); have n1_ := Aside0.mk (hbox); have n2_ := Aside0.mk ((show w.heap.size ≤ gc by rw [hg]; exact below_size (by repeat (first | (with_reducible first | exact HB.out | apply below_alloc | apply pw_below_drewN | apply below_drew1) | exact HB.out)))); have n3_ := Aside0.mk (blk_below BKgp.out hb); have n4_ := Aside0.mk ((show gp ≠ gc by rw [hg]; exact Nat.ne_of_lt (blk_lt BKgp.out))); clear HB BKgp; have HB := n0_; have BKgc := n1_; have GEgc := n2_; have BKgp := n3_; have NE_gp_gc := n4_; clear n0_ n1_ n2_ n3_ n4_; clear hb hbox hg; clear hcp; have hcp : w2.cell? ⟨gp, 0, none⟩ = some (.slice A0_0 l0_0.length c0_0) := (blk_cell BKgp.out 0).trans rfl))
  go_loopw [9] (fun v9 wc => ∃ (i : Nat) (ci : List Int), i ≤ l0_0.length ∧ v9 = .int .i64 i ∧ Aside0 (ci.length = 305) ∧ Aside0 (accum (l0_0.drop i) ci = some cs) ∧ Aside0 (wc.heap[gc]? = some (.cells (arrV ci) 76 (0, 0))) ∧ Aside0 (Below w.heap.size w wc)) (fun v9 _ => l0_0.length - (intOf v9).toNat)
  case atStart => exact ⟨0, List.replicate 305 0, by omega, rfl, ⟨List.length_replicate⟩, HA, BKgc, HB⟩
  case round =>
    clear BKgc HB hcp HA
    obtain ⟨i, ci, hi, rfl, HL, HA, BKgc, HB⟩ := hrel
    by_cases hlt : i < l0_0.length
    · obtain ⟨ad, e, hx0, hx1⟩ := at_T67 HR0.out (i : Int) (by omega) (by omega)
      cases e
      replace hx0 := (HB.out.cell (World.block_lt_of_cell? w _ hx0)).trans hx0
      replace hx1 := (HB.out.cell (World.block_lt_of_cell? w _ hx1)).trans hx1
      rw [Int.toNat_natCast] at hx0 hx1
      have HA2 := HA.out
      clear HA
      rw [accum_drop _ _ hlt] at HA2
      obtain ⟨b, hb⟩ : ∃ b, rd_T67 l0_0 i = b := ⟨_, rfl⟩
      rw [hb] at HA2 hx0 hx1
      clear hb
      obtain ⟨f0, f1⟩ := b
      dsimp only at HA2 hx0 hx1
      by_cases hf : 0 ≤ f0
      · rw [if_pos hf] at HA2
        by_cases hg : f0 < 305
        · rw [if_pos hg] at HA2
          obtain ⟨b0, rfl⟩ := Int.eq_ofNat_of_zero_le hf
          rw [Int.toNat_natCast] at HA2
          have HA := Aside0.mk HA2
          clear HA2
          have hm := HM.out
          obtain ⟨cx, hcx⟩ : ∃ cx, ci.getD b0 0 = cx := ⟨_, rfl⟩
          rw [hcx] at HA
          go_wp2_with (((with_reducible refine gate_dst (N := 5) rfl ?_); refine box_event ?hg (N := 5) ?hd (cs := #[.int .i64 0, .int .i64 0]) (t := 67) ?hr ?_; (case hd => rfl); (case hg => rfl); (case hr => first | (go_simp; done) | (go_simp; rfl)); intro gb hg w5 hbox hb; have n0_ := Aside0.mk (below_step (by repeat (first | (with_reducible first | exact HB.out | apply below_alloc | apply pw_below_drewN | apply below_drew1 | refine below_set ?_ GEgc.out) | exact HB.out)) hb); have n1_ := Aside0.mk (hbox); have n2_ := Aside0.mk ((show w.heap.size ≤ gb by rw [hg]; exact below_size (by repeat (first | (with_reducible first | exact HB.out | apply below_alloc | apply pw_below_drewN | apply below_drew1 | refine below_set ?_ GEgc.out) | exact HB.out)))); have n3_ := Aside0.mk (blk_below BKgc.out hb); have n4_ := Aside0.mk ((show gc ≠ gb by rw [hg]; exact Nat.ne_of_lt (blk_lt BKgc.out))); clear HB BKgc; have HB := n0_; have BKgb := n1_; have GEgb := n2_; have BKgc := n3_; have NE_gc_gb := n4_; clear n0_ n1_ n2_ n3_ n4_; clear hb hbox hg; have hn1 := NE_gc_gb.out; have hn2 := Ne.symm hn1; have hc0 := (arrV_cell BKgc.out b0 (by have := HL.out; omega)); rw [hcx] at hc0; have hf0 := blk_frozen BKgc.out b0; have hcb0 : w5.cell? ⟨gb, 0, none⟩ = some (.int .i64 0) := (blk_cell BKgb.out 0).trans rfl; have hcb1 : w5.cell? ⟨gb, 1, none⟩ = some (.int .i64 0) := (blk_cell BKgb.out 1).trans rfl; have hfb0 := blk_frozen BKgb.out 0; have hfb1 := blk_frozen BKgb.out 1; clear hcx))
          have q0 := eq_true (show (0:Int) ≤ (b0 : Int) by omega)
          have q1 := eq_true (show (b0:Int) < 305 by omega)
          have q2 := eq_true (show b0 < 305 by omega)
          go_region
          go_wp2
          go_roundw
          case rel => exact ⟨i + 1, ci.set b0 (wrap64 (cx + f1)), by omega, by go_num, ⟨by rw [List.length_set]; exact HL.out⟩, HA, ⟨blk_drew (arrV_set (blk_far (blk_far BKgc.out NE_gc_gb.out _) NE_gc_gb.out _) b0 _)⟩, ⟨by repeat (first | (with_reducible first | exact HB.out | apply below_alloc | apply pw_below_drewN | apply below_drew1 | refine below_set ?_ GEgc.out | refine below_set ?_ GEgb.out) | exact HB.out)⟩⟩
          case measure => simp [intOf]; omega
        · rw [if_neg hg] at HA2
          exact absurd HA2 (by simp)
      · rw [if_neg hf] at HA2
        exact absurd HA2 (by simp)
    · obtain rfl : i = l0_0.length := by omega
      have HA2 := HA.out
      rw [List.drop_length] at HA2
      obtain rfl := Option.some.inj HA2
      go_wp2
      go_ret
      exact ⟨gc, rfl, GEgc.out, BKgc.out, HB.out⟩

end Go.Proofs.Ytfnhicmjdfeanaa.PH
