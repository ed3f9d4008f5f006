-- Written by a program of this session (gprint.py) out of Lean's own print of the program. Lean checks it.
import Derived.Test.YtcjfgejiknlpfaaJ0
namespace Go.Proofs.Ytcjfgejiknlpfaa.PI
open Go.RowKit Go.Proofs.YtcjfgejiknlpfaaW.PrintWords Go.Proofs.YtcjfgejiknlpfaaW.PrintLast Go.Proofs.YtcjfgejiknlpfaaW.PrintMore
attribute [local go_sem] str_gtr str_leq str_geq max2_int min2_int max_two min_two max_three min_three max_four min_four   -- for this text's walks alone
set_option linter.unusedVariables false
set_option linter.unusedSimpArgs false

/-! ### sleuthlaw51_role: function 67 -/
def sleuthlaw51_role.l0 : Nat → ByteArray → Int → Int → ByteArray → Int → Int → ByteArray → Int → List (S49) → List (S51) → Int → Option (Int)
  | 0, _, _, _, _, _, _, _, _, _, _, _ => none
  | k + 1, x1, x5, x310000, x310001, x310002, x310003, x310004, x310005, x310006, x310007, x310008 => if x5 < (x310006.length : Int) then (if 0 ≤ x5 then (if ((rd_T49 x310006 x5).f0).toList = x1.toList then (some ((rd_T49 x310006 x5).f1)) else (sleuthlaw51_role.l0 k x1 (wrap64 (x5 + 1)) x310000 x310001 x310002 x310003 x310004 x310005 x310006 x310007 x310008)) else (none)) else (some 1)
def sleuthlaw51_role.f (k : Nat) (a0_0 : Int) (a0_1 : ByteArray) (a0_2 : Int) (a0_3 : Int) (a0_4 : ByteArray) (a0_5 : Int) (l0_6 : List (S49)) (l0_7 : List (S51)) (a0_8 : Int) (a1 : ByteArray) : Option (Int) := sleuthlaw51_role.l0 k a1 0 a0_0 a0_1 a0_2 a0_3 a0_4 a0_5 l0_6 l0_7 a0_8
theorem sleuthlaw51_role.mono_l : ∀ k, (∀ y0 y1 y2 y3 y4 y5 y6 y7 y8 y9 y10, LeO (sleuthlaw51_role.l0 k y0 y1 y2 y3 y4 y5 y6 y7 y8 y9 y10) (sleuthlaw51_role.l0 (k + 1) y0 y1 y2 y3 y4 y5 y6 y7 y8 y9 y10))
  | 0 => fun _ _ _ _ _ _ _ _ _ _ _ r h => by simp [sleuthlaw51_role.l0] at h
  | k + 1 => by
    have ih0 := sleuthlaw51_role.mono_l k
    · intro y0 y1 y2 y3 y4 y5 y6 y7 y8 y9 y10
      unfold sleuthlaw51_role.l0
      repeat' first
      | (with_reducible exact ih0 _ _ _ _ _ _ _ _ _ _ _)
      | (with_reducible exact LeO.refl _)
      | (with_reducible exact LeO.none _)
      | (with_reducible refine LeO.ite ?_ ?_)
      | (with_reducible refine LeO.bind ?_ (fun _ => ?_))
      | exact ih0 _ _ _ _ _ _ _ _ _ _ _
      | exact LeO.none _
      | refine LeO.ite ?_ ?_
      | refine LeO.bind ?_ (fun _ => ?_)
theorem sleuthlaw51_role.mono : ∀ a0 a1 a2 a3 a4 a5 a6 a7 a8 a9 k, LeO (sleuthlaw51_role.f k a0 a1 a2 a3 a4 a5 a6 a7 a8 a9) (sleuthlaw51_role.f (k + 1) a0 a1 a2 a3 a4 a5 a6 a7 a8 a9) := by
  intro a0 a1 a2 a3 a4 a5 a6 a7 a8 a9 k
  have ih0 := sleuthlaw51_role.mono_l k
  unfold sleuthlaw51_role.f
  repeat' first
      | (with_reducible exact ih0 _ _ _ _ _ _ _ _ _ _ _)
      | (with_reducible exact LeO.refl _)
      | (with_reducible exact LeO.none _)
      | (with_reducible refine LeO.ite ?_ ?_)
      | (with_reducible refine LeO.bind ?_ (fun _ => ?_))
      | exact ih0 _ _ _ _ _ _ _ _ _ _ _
      | exact LeO.none _
      | refine LeO.ite ?_ ?_
      | refine LeO.bind ?_ (fun _ => ?_)
set_option maxHeartbeats 8000000 in
set_option maxRecDepth 100000 in
theorem sleuthlaw51_role.calls (k : Nat) (a0_0 : Int) (a0_1 : ByteArray) (a0_2 : Int) (a0_3 : Int) (a0_4 : ByteArray) (a0_5 : Int) (A0_6 : Option Addr) (c0_6 : Nat) (l0_6 : List (S49)) (A0_7 : Option Addr) (c0_7 : Nat) (l0_7 : List (S51)) (a0_8 : Int) (a1 : ByteArray) (r : Int) (w : World) (hr0_6 : Kd.C k49 w A0_6 l0_6.length l0_6) (hc0_6 : l0_6.length ≤ c0_6) (hr0_7 : Kd.C k51 w A0_7 l0_7.length l0_7) (hc0_7 : l0_7.length ≤ c0_7) (h : sleuthlaw51_role.f k a0_0 a0_1 a0_2 a0_3 a0_4 a0_5 l0_6 l0_7 a0_8 a1 = some r) :
    Calls Try.prog 67 #[.agg #[.int .i64 a0_0, .string a0_1, .int .i64 a0_2, .int .i64 a0_3, .string a0_4, .int .i64 a0_5, .slice A0_6 l0_6.length c0_6, .slice A0_7 l0_7.length c0_7, .int .i64 a0_8], .string a1] w fun e w' => e = .returned (.int .i64 r) ∧ Below w.heap.size w w' := by
  have hu40 := Try.underlying40
  have HR0_6 := Aside0.mk hr0_6
  have HC0_6 := Aside0.mk hc0_6
  clear hr0_6 hc0_6
  have HR0_7 := Aside0.mk hr0_7
  have HC0_7 := Aside0.mk hc0_7
  clear hr0_7 hc0_7
  have HB := Aside0.mk (Below.refl w.heap.size w)
  have H : (sleuthlaw51_role.l0 k a1 0 a0_0 a0_1 a0_2 a0_3 a0_4 a0_5 l0_6 l0_7 a0_8) = some r := h
  clear h
  have H' := Aside0.mk H
  clear H
  go_enter Try.func67, Try.ntmps67
  go_wp2_with (first | ((with_reducible refine gate_dst (N := 2) rfl ?_); refine box_event ?hg (N := 2) ?hd (cs := #[.int .i64 a0_0, .string a0_1, .int .i64 a0_2, .int .i64 a0_3, .string a0_4, .int .i64 a0_5, .slice A0_6 l0_6.length c0_6, .slice A0_7 l0_7.length c0_7, .int .i64 a0_8]) (t := 40) ?hr ?_; (case hd => rfl); (case hg => rfl); (case hr => first | (go_simp; done) | (go_simp; rfl)); intro gb309 hg w3 hbox hb; have n0_ := Aside0.mk (below_step (by repeat (first | (with_reducible first | exact HB.out | apply below_alloc | apply pw_below_drewN | apply below_drew1) | exact HB.out)) hb); have n1_ := Aside0.mk (hbox); have n2_ := Aside0.mk ((by rw [hg]; exact (below_size (by repeat (first | (with_reducible first | exact HB.out | apply below_alloc | apply pw_below_drewN | apply below_drew1) | exact HB.out))) : w.heap.size ≤ gb309)); have n3_ := Aside0.mk ((by rw [hg]; exact (below_size (by repeat (first | (with_reducible first | exact HB.out | apply below_alloc | apply pw_below_drewN | apply below_drew1) | exact HB.out))) : w.heap.size ≤ gb309)); clear HB; have HB := n0_; have BK309 := n1_; have GW309 := n2_; have GE309 := n3_; clear n0_ n1_ n2_ n3_; clear hb hbox hg))
  go_loopg [5] k (fun kq v5 w' => ∃ (x5_1 : Int), v5 = .int .i64 x5_1 ∧ Aside0 (sleuthlaw51_role.l0 kq a1 x5_1 a0_0 a0_1 a0_2 a0_3 a0_4 a0_5 l0_6 l0_7 a0_8 = some r) ∧ Aside0 (kq ≤ k) ∧ Aside0 (w'.heap[gb309]? = some (.cells #[.int .i64 a0_0, .string a0_1, .int .i64 a0_2, .int .i64 a0_3, .string a0_4, .int .i64 a0_5, (.slice A0_6 l0_6.length c0_6), (.slice A0_7 l0_7.length c0_7), .int .i64 a0_8] 40 (0, 0))) ∧ Aside0 (Below w.heap.size w w'))
  case atStart => exact ⟨(0), (by first | rfl | (simp; done) | (simp [*]; done)), H', ⟨Nat.le_refl _⟩, ⟨by (with_reducible repeat (first | refine blk_drewN ?_ _ | refine blk_drew ?_ | refine blk_alloc ?_ _)); exact BK309.out⟩, ⟨by repeat (first | (with_reducible first | exact HB.out | apply below_alloc | apply pw_below_drewN | apply below_drew1 | refine below_set ?_ GE309.out) | exact HB.out)⟩⟩
  case round =>
    clear H'
    try clear p2
    obtain ⟨x5_1, rfl, HA, HK1, BK309, HB⟩ := hrel
    cases gk with
    | zero => exact absurd HA.out (by simp [sleuthlaw51_role.l0])
    | succ k1 =>
      have H := HA.out
      clear HA
      simp only [sleuthlaw51_role.l0] at H
      by_cases c4 : x5_1 < (l0_6.length : Int)
      · rw [if_pos c4] at H
        have c4b0 : decide (x5_1 < (l0_6.length : Int)) = true := decide_eq_true c4
        clear c4
        by_cases c5 : 0 ≤ x5_1
        · rw [if_pos c5] at H
          have c5b0 : decide (0 ≤ x5_1) = true := decide_eq_true c5
          clear c5
          by_cases c6 : ((rd_T49 l0_6 x5_1).f0).toList = a1.toList
          · rw [if_pos c6] at H
            have c6b0 : (((rd_T49 l0_6 x5_1).f0).toList == a1.toList) = true := beq_iff_eq.mpr c6
            have c6b1 : (((rd_T49 l0_6 x5_1).f0).toList != a1.toList) = false := bne_eq_false_iff_eq.mpr c6
            clear c6
            obtain rfl := Option.some.inj H
            have hcz7_0 : wr.cell? ⟨gb309, 0, none⟩ = some (.int .i64 a0_0) := (blk_cell BK309.out 0).trans rfl
            have hcz7_1 : wr.cell? ⟨gb309, 1, none⟩ = some (.string a0_1) := (blk_cell BK309.out 1).trans rfl
            have hcz7_2 : wr.cell? ⟨gb309, 2, none⟩ = some (.int .i64 a0_2) := (blk_cell BK309.out 2).trans rfl
            have hcz7_3 : wr.cell? ⟨gb309, 3, none⟩ = some (.int .i64 a0_3) := (blk_cell BK309.out 3).trans rfl
            have hcz7_4 : wr.cell? ⟨gb309, 4, none⟩ = some (.string a0_4) := (blk_cell BK309.out 4).trans rfl
            have hcz7_5 : wr.cell? ⟨gb309, 5, none⟩ = some (.int .i64 a0_5) := (blk_cell BK309.out 5).trans rfl
            have hcz7_6 : wr.cell? ⟨gb309, 6, none⟩ = some (.slice A0_6 l0_6.length c0_6) := (blk_cell BK309.out 6).trans rfl
            have hcz7_7 : wr.cell? ⟨gb309, 7, none⟩ = some (.slice A0_7 l0_7.length c0_7) := (blk_cell BK309.out 7).trans rfl
            have hcz7_8 : wr.cell? ⟨gb309, 8, none⟩ = some (.int .i64 a0_8) := (blk_cell BK309.out 8).trans rfl
            have hfz7_0 := blk_frozen BK309.out 0
            have hfz7_1 := blk_frozen BK309.out 1
            have hfz7_2 := blk_frozen BK309.out 2
            have hfz7_3 := blk_frozen BK309.out 3
            have hfz7_4 := blk_frozen BK309.out 4
            have hfz7_5 := blk_frozen BK309.out 5
            have hfz7_6 := blk_frozen BK309.out 6
            have hfz7_7 := blk_frozen BK309.out 7
            have hfz7_8 := blk_frozen BK309.out 8
            have p310 : 0 ≤ (x5_1 : Int) := of_decide_eq_true (by first | (with_reducible assumption) | assumption)
            have q310 : x5_1 < (l0_6.length : Int) := of_decide_eq_true (by first | (with_reducible assumption) | assumption)
            obtain ⟨ad310, e310, hx310_0, hx310_1⟩ := at_T49 HR0_6.out x5_1 p310 q310
            cases e310
            replace hx310_0 := (HB.out.cell (World.block_lt_of_cell? w _ hx310_0)).trans hx310_0
            replace hx310_1 := (HB.out.cell (World.block_lt_of_cell? w _ hx310_1)).trans hx310_1
            replace p310 := eq_true p310
            replace q310 := eq_true q310
            have p311 : 0 ≤ (x5_1 : Int) := of_decide_eq_true (by first | (with_reducible assumption) | assumption)
            have q311 : x5_1 < (l0_6.length : Int) := of_decide_eq_true (by first | (with_reducible assumption) | assumption)
            obtain ⟨ad311, e311, hx311_0, hx311_1⟩ := at_T49 HR0_6.out x5_1 p311 q311
            obtain rfl : ad310 = ad311 := (by injection e311)
            replace hx311_0 := (HB.out.cell (World.block_lt_of_cell? w _ hx311_0)).trans hx311_0
            replace hx311_1 := (HB.out.cell (World.block_lt_of_cell? w _ hx311_1)).trans hx311_1
            replace p311 := eq_true p311
            replace q311 := eq_true q311
            go_wp2
            go_ret
            exact ⟨by first | rfl | (simp [errW_none, errW_some] <;> rfl) | (simp [*, errW_none, errW_some] <;> rfl), by repeat (first | (with_reducible first | exact HB.out | apply below_alloc | apply pw_below_drewN | apply below_drew1 | refine below_set ?_ GE309.out) | exact HB.out)⟩
          · rw [if_neg c6] at H
            have c6b0 : (((rd_T49 l0_6 x5_1).f0).toList == a1.toList) = false := beq_eq_false_iff_ne.mpr c6
            have c6b1 : (((rd_T49 l0_6 x5_1).f0).toList != a1.toList) = true := bne_iff_ne.mpr c6
            have H' := Aside0.mk H
            clear H
            have hcz8_0 : wr.cell? ⟨gb309, 0, none⟩ = some (.int .i64 a0_0) := (blk_cell BK309.out 0).trans rfl
            have hcz8_1 : wr.cell? ⟨gb309, 1, none⟩ = some (.string a0_1) := (blk_cell BK309.out 1).trans rfl
            have hcz8_2 : wr.cell? ⟨gb309, 2, none⟩ = some (.int .i64 a0_2) := (blk_cell BK309.out 2).trans rfl
            have hcz8_3 : wr.cell? ⟨gb309, 3, none⟩ = some (.int .i64 a0_3) := (blk_cell BK309.out 3).trans rfl
            have hcz8_4 : wr.cell? ⟨gb309, 4, none⟩ = some (.string a0_4) := (blk_cell BK309.out 4).trans rfl
            have hcz8_5 : wr.cell? ⟨gb309, 5, none⟩ = some (.int .i64 a0_5) := (blk_cell BK309.out 5).trans rfl
            have hcz8_6 : wr.cell? ⟨gb309, 6, none⟩ = some (.slice A0_6 l0_6.length c0_6) := (blk_cell BK309.out 6).trans rfl
            have hcz8_7 : wr.cell? ⟨gb309, 7, none⟩ = some (.slice A0_7 l0_7.length c0_7) := (blk_cell BK309.out 7).trans rfl
            have hcz8_8 : wr.cell? ⟨gb309, 8, none⟩ = some (.int .i64 a0_8) := (blk_cell BK309.out 8).trans rfl
            have hfz8_0 := blk_frozen BK309.out 0
            have hfz8_1 := blk_frozen BK309.out 1
            have hfz8_2 := blk_frozen BK309.out 2
            have hfz8_3 := blk_frozen BK309.out 3
            have hfz8_4 := blk_frozen BK309.out 4
            have hfz8_5 := blk_frozen BK309.out 5
            have hfz8_6 := blk_frozen BK309.out 6
            have hfz8_7 := blk_frozen BK309.out 7
            have hfz8_8 := blk_frozen BK309.out 8
            have p310 : 0 ≤ (x5_1 : Int) := of_decide_eq_true (by first | (with_reducible assumption) | assumption)
            have q310 : x5_1 < (l0_6.length : Int) := of_decide_eq_true (by first | (with_reducible assumption) | assumption)
            obtain ⟨ad310, e310, hx310_0, hx310_1⟩ := at_T49 HR0_6.out x5_1 p310 q310
            cases e310
            replace hx310_0 := (HB.out.cell (World.block_lt_of_cell? w _ hx310_0)).trans hx310_0
            replace hx310_1 := (HB.out.cell (World.block_lt_of_cell? w _ hx310_1)).trans hx310_1
            replace p310 := eq_true p310
            replace q310 := eq_true q310
            go_wp2
            go_roundg k1
            case measure => have := HK1.out; omega
            case rel => exact ⟨(wrap64 (x5_1 + 1)), (by first | rfl | (simp; done) | (simp [*]; done)), H', ⟨by have := HK1.out; omega⟩, ⟨by (with_reducible repeat (first | refine blk_drewN ?_ _ | refine blk_drew ?_ | refine blk_alloc ?_ _)); exact BK309.out⟩, ⟨by repeat (first | (with_reducible first | exact HB.out | apply below_alloc | apply pw_below_drewN | apply below_drew1 | refine below_set ?_ GE309.out) | exact HB.out)⟩⟩
        · rw [if_neg c5] at H
          exact absurd H (by simp)
      · rw [if_neg c4] at H
        have c4b0 : decide (x5_1 < (l0_6.length : Int)) = false := decide_eq_false c4
        clear c4
        obtain rfl := Option.some.inj H
        have hcz9_0 : wr.cell? ⟨gb309, 0, none⟩ = some (.int .i64 a0_0) := (blk_cell BK309.out 0).trans rfl
        have hcz9_1 : wr.cell? ⟨gb309, 1, none⟩ = some (.string a0_1) := (blk_cell BK309.out 1).trans rfl
        have hcz9_2 : wr.cell? ⟨gb309, 2, none⟩ = some (.int .i64 a0_2) := (blk_cell BK309.out 2).trans rfl
        have hcz9_3 : wr.cell? ⟨gb309, 3, none⟩ = some (.int .i64 a0_3) := (blk_cell BK309.out 3).trans rfl
        have hcz9_4 : wr.cell? ⟨gb309, 4, none⟩ = some (.string a0_4) := (blk_cell BK309.out 4).trans rfl
        have hcz9_5 : wr.cell? ⟨gb309, 5, none⟩ = some (.int .i64 a0_5) := (blk_cell BK309.out 5).trans rfl
        have hcz9_6 : wr.cell? ⟨gb309, 6, none⟩ = some (.slice A0_6 l0_6.length c0_6) := (blk_cell BK309.out 6).trans rfl
        have hcz9_7 : wr.cell? ⟨gb309, 7, none⟩ = some (.slice A0_7 l0_7.length c0_7) := (blk_cell BK309.out 7).trans rfl
        have hcz9_8 : wr.cell? ⟨gb309, 8, none⟩ = some (.int .i64 a0_8) := (blk_cell BK309.out 8).trans rfl
        have hfz9_0 := blk_frozen BK309.out 0
        have hfz9_1 := blk_frozen BK309.out 1
        have hfz9_2 := blk_frozen BK309.out 2
        have hfz9_3 := blk_frozen BK309.out 3
        have hfz9_4 := blk_frozen BK309.out 4
        have hfz9_5 := blk_frozen BK309.out 5
        have hfz9_6 := blk_frozen BK309.out 6
        have hfz9_7 := blk_frozen BK309.out 7
        have hfz9_8 := blk_frozen BK309.out 8
        go_wp2
        go_ret
        exact ⟨by first | rfl | (simp [errW_none, errW_some] <;> rfl) | (simp [*, errW_none, errW_some] <;> rfl), by repeat (first | (with_reducible first | exact HB.out | apply below_alloc | apply pw_below_drewN | apply below_drew1 | refine below_set ?_ GE309.out) | exact HB.out)⟩

-- NOT PRINTED: function 43 (sleuthlaw51_reason)

end Go.Proofs.Ytcjfgejiknlpfaa.PI
