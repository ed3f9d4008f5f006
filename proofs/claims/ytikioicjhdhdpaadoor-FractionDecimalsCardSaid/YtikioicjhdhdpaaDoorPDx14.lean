-- Written by a program of this session (gprint.py) out of Lean's own print of the program. Lean checks it.
import Derived.Test.YtikioicjhdhdpaaDoorPDx0
import Derived.Test.YtikioicjhdhdpaaDoorPDx7
import Derived.Test.YtikioicjhdhdpaaDoorPDx13
namespace Go.Proofs.YtikioicjhdhdpaaDoor.PD
open Go.RowKit Go.Proofs.YtikioicjhdhdpaaDoorW.PrintWords Go.Proofs.YtikioicjhdhdpaaDoorW.PrintLast Go.Proofs.YtikioicjhdhdpaaDoorW.PrintMore
attribute [local go_sem] max2_int min2_int max_two min_two max_three min_three max_four min_four   -- for this text's walks alone
set_option linter.unusedVariables false
set_option linter.unusedSimpArgs false

/-! ### sleuthref02_Print: function 9 -/
def sleuthref02_Print.f (k : Nat) (a0_0 : Int) (a0_1 : Int) : Option (ByteArray) := (sleuthref02_magnitude.f a0_0).bind fun t168 => ((sleuthref02_digits.f k (wrap64 (t168)) 1).bind fun t169 => (if a0_0 < 0 then (if 1 + t169.size ≤ 9223372036854775807 then (if a0_1 = 1 then (some ((⟨#[45]⟩ : ByteArray) ++ t169)) else (if ((⟨#[45]⟩ : ByteArray) ++ t169).size + 1 ≤ 9223372036854775807 then ((sleuthref02_digits.f k a0_1 1).bind fun t170 => (if (((⟨#[45]⟩ : ByteArray) ++ t169) ++ (⟨#[47]⟩ : ByteArray)).size + t170.size ≤ 9223372036854775807 then (some ((((⟨#[45]⟩ : ByteArray) ++ t169) ++ (⟨#[47]⟩ : ByteArray)) ++ t170)) else (none))) else (none))) else (none)) else (if a0_1 = 1 then (some t169) else (if t169.size + 1 ≤ 9223372036854775807 then ((sleuthref02_digits.f k a0_1 1).bind fun t171 => (if (t169 ++ (⟨#[47]⟩ : ByteArray)).size + t171.size ≤ 9223372036854775807 then (some ((t169 ++ (⟨#[47]⟩ : ByteArray)) ++ t171)) else (none))) else (none)))))
theorem sleuthref02_Print.mono : ∀ a0 a1 k, LeO (sleuthref02_Print.f k a0 a1) (sleuthref02_Print.f (k + 1) a0 a1) := by
  intro a0 a1 k
  unfold sleuthref02_Print.f
  repeat' first
      | (with_reducible exact sleuthref02_digits.mono _ _ _)
      | (with_reducible exact LeO.refl _)
      | (with_reducible exact LeO.none _)
      | (with_reducible refine LeO.ite ?_ ?_)
      | (with_reducible refine LeO.bind ?_ (fun _ => ?_))
      | exact sleuthref02_digits.mono _ _ _
      | exact LeO.none _
      | refine LeO.ite ?_ ?_
      | refine LeO.bind ?_ (fun _ => ?_)
set_option maxHeartbeats 8000000 in
set_option maxRecDepth 100000 in
theorem sleuthref02_Print.calls (k : Nat) (a0_0 : Int) (a0_1 : Int) (r : ByteArray) (w : World) (h : sleuthref02_Print.f k a0_0 a0_1 = some r) :
    Calls Tryd.prog 9 #[.agg #[.int .i64 a0_0, .int .i64 a0_1]] w fun e w' => e = .returned (.string r) ∧ Below w.heap.size w w' := by
  have hu23 := Tryd.underlying23
  have HB := Aside0.mk (Below.refl w.heap.size w)
  have H : ((sleuthref02_magnitude.f a0_0).bind fun t168 => ((sleuthref02_digits.f k (wrap64 (t168)) 1).bind fun t169 => (if a0_0 < 0 then (if 1 + t169.size ≤ 9223372036854775807 then (if a0_1 = 1 then (some ((⟨#[45]⟩ : ByteArray) ++ t169)) else (if ((⟨#[45]⟩ : ByteArray) ++ t169).size + 1 ≤ 9223372036854775807 then ((sleuthref02_digits.f k a0_1 1).bind fun t170 => (if (((⟨#[45]⟩ : ByteArray) ++ t169) ++ (⟨#[47]⟩ : ByteArray)).size + t170.size ≤ 9223372036854775807 then (some ((((⟨#[45]⟩ : ByteArray) ++ t169) ++ (⟨#[47]⟩ : ByteArray)) ++ t170)) else (none))) else (none))) else (none)) else (if a0_1 = 1 then (some t169) else (if t169.size + 1 ≤ 9223372036854775807 then ((sleuthref02_digits.f k a0_1 1).bind fun t171 => (if (t169 ++ (⟨#[47]⟩ : ByteArray)).size + t171.size ≤ 9223372036854775807 then (some ((t169 ++ (⟨#[47]⟩ : ByteArray)) ++ t171)) else (none))) else (none)))))) = some r := h
  clear h
  replace H := Option.bind_eq_some_iff.mp H
  obtain ⟨t168, A20, H⟩ := H
  replace H : ((sleuthref02_digits.f k (wrap64 (t168)) 1).bind fun t169 => (if a0_0 < 0 then (if 1 + t169.size ≤ 9223372036854775807 then (if a0_1 = 1 then (some ((⟨#[45]⟩ : ByteArray) ++ t169)) else (if ((⟨#[45]⟩ : ByteArray) ++ t169).size + 1 ≤ 9223372036854775807 then ((sleuthref02_digits.f k a0_1 1).bind fun t170 => (if (((⟨#[45]⟩ : ByteArray) ++ t169) ++ (⟨#[47]⟩ : ByteArray)).size + t170.size ≤ 9223372036854775807 then (some ((((⟨#[45]⟩ : ByteArray) ++ t169) ++ (⟨#[47]⟩ : ByteArray)) ++ t170)) else (none))) else (none))) else (none)) else (if a0_1 = 1 then (some t169) else (if t169.size + 1 ≤ 9223372036854775807 then ((sleuthref02_digits.f k a0_1 1).bind fun t171 => (if (t169 ++ (⟨#[47]⟩ : ByteArray)).size + t171.size ≤ 9223372036854775807 then (some ((t169 ++ (⟨#[47]⟩ : ByteArray)) ++ t171)) else (none))) else (none))))) = some r := H
  have A2 := Aside0.mk A20
  clear A20
  replace H := Option.bind_eq_some_iff.mp H
  obtain ⟨t169, A30, H⟩ := H
  replace H : (if a0_0 < 0 then (if 1 + t169.size ≤ 9223372036854775807 then (if a0_1 = 1 then (some ((⟨#[45]⟩ : ByteArray) ++ t169)) else (if ((⟨#[45]⟩ : ByteArray) ++ t169).size + 1 ≤ 9223372036854775807 then ((sleuthref02_digits.f k a0_1 1).bind fun t170 => (if (((⟨#[45]⟩ : ByteArray) ++ t169) ++ (⟨#[47]⟩ : ByteArray)).size + t170.size ≤ 9223372036854775807 then (some ((((⟨#[45]⟩ : ByteArray) ++ t169) ++ (⟨#[47]⟩ : ByteArray)) ++ t170)) else (none))) else (none))) else (none)) else (if a0_1 = 1 then (some t169) else (if t169.size + 1 ≤ 9223372036854775807 then ((sleuthref02_digits.f k a0_1 1).bind fun t171 => (if (t169 ++ (⟨#[47]⟩ : ByteArray)).size + t171.size ≤ 9223372036854775807 then (some ((t169 ++ (⟨#[47]⟩ : ByteArray)) ++ t171)) else (none))) else (none)))) = some r := H
  have A3 := Aside0.mk A30
  clear A30
  by_cases c4 : a0_0 < 0
  · rw [if_pos c4] at H
    have c4b0 : decide (a0_0 < 0) = true := decide_eq_true c4
    clear c4
    by_cases c5 : 1 + t169.size ≤ 9223372036854775807
    · rw [if_pos c5] at H
      have c5b0 := eq_true c5
      have c5b1 : decide (1 + t169.size ≤ 9223372036854775807) = true := decide_eq_true c5
      try have c5b2 : (9223372036854775807 < 1 + t169.size) = False := eq_false (Nat.not_lt.2 c5)
      by_cases c6 : a0_1 = 1
      · rw [if_pos c6] at H
        have c6b0 : (a0_1 == 1) = true := beq_iff_eq.mpr c6
        have c6b1 : (a0_1 != 1) = false := bne_eq_false_iff_eq.mpr c6
        clear c6
        obtain rfl := Option.some.inj H
        go_enter Tryd.func9, Tryd.ntmps9
        go_wp2_with (first | ((with_reducible refine gate_dst (N := 1) rfl ?_); refine box_event ?hg (N := 1) ?hd (cs := #[.int .i64 a0_0, .int .i64 a0_1]) (t := 23) ?hr ?_; (case hd => rfl); (case hg => rfl); (case hr => first | (go_simp; done) | (go_simp; rfl)); intro gb167 hg w7 hbox hb; have n0_ := Aside0.mk (below_step (by repeat (first | (with_reducible first | exact HB.out | apply below_alloc | apply pw_below_drewN | apply below_drew1) | exact HB.out)) hb); have n1_ := Aside0.mk (hbox); have n2_ := Aside0.mk ((by rw [hg]; exact (below_size (by repeat (first | (with_reducible first | exact HB.out | apply below_alloc | apply pw_below_drewN | apply below_drew1) | exact HB.out))) : w.heap.size ≤ gb167)); have n3_ := Aside0.mk ((by rw [hg]; exact (below_size (by repeat (first | (with_reducible first | exact HB.out | apply below_alloc | apply pw_below_drewN | apply below_drew1) | exact HB.out))) : w.heap.size ≤ gb167)); clear HB; have HB := n0_; have BK167 := n1_; have GW167 := n2_; have GE167 := n3_; clear n0_ n1_ n2_ n3_; clear hb hbox hg; have hcz8_0 : w7.cell? ⟨gb167, 0, none⟩ = some (.int .i64 a0_0) := (blk_cell BK167.out 0).trans rfl; have hcz8_1 : w7.cell? ⟨gb167, 1, none⟩ = some (.int .i64 a0_1) := (blk_cell BK167.out 1).trans rfl; have hfz8_0 := blk_frozen BK167.out 0; have hfz8_1 := blk_frozen BK167.out 1) | ((with_reducible refine gate_callee (f := 17) rfl ?_); refine goesL_ (some 6) rfl rfl Tryd.func17 (by kernel_rfl) rfl #[.int .i64 a0_0] rfl (by (try simp only [List.map_toArray, List.map_cons, List.map_nil]); first | done | rfl | (simp only [List.length_drop, List.length_take]; rfl)) ?_; (with_reducible refine (sleuthref02_magnitude.calls a0_0 t168 _ A2.out).mono ?_); rintro e w' ⟨rfl, ⟨nd, rfl⟩⟩; refine ⟨_, rfl, ?_⟩) | ((with_reducible refine gate_callee (f := 23) rfl ?_); refine goesL_ (some 8) rfl rfl Tryd.func23 (by kernel_rfl) rfl #[.int .i64 (wrap64 (t168)), .int .i64 1] rfl (by (try simp only [List.map_toArray, List.map_cons, List.map_nil]); first | done | rfl | (simp only [List.length_drop, List.length_take]; rfl)) ?_; (with_reducible refine (sleuthref02_digits.calls k (wrap64 (t168)) 1 t169 _ A3.out).mono ?_); rintro e w9 ⟨rfl, hb⟩; refine ⟨_, rfl, ?_⟩; have n0_ := Aside0.mk (blk_below (g := gb167) (o := .cells #[.int .i64 a0_0, .int .i64 a0_1] 23 (0, 0)) (by (with_reducible repeat (first | refine blk_drewN ?_ _ | refine blk_drew ?_ | refine blk_alloc ?_ _)); exact BK167.out) hb); have n1_ := Aside0.mk (below_step (by repeat (first | (with_reducible first | exact HB.out | apply below_alloc | apply pw_below_drewN | apply below_drew1 | refine below_set ?_ GE167.out) | exact HB.out)) hb); clear BK167; clear HB; have BK167 := n0_; have HB := n1_; clear n0_ n1_; (try clear hb); (try clear hb2); (try clear hk); (try clear hi); have hcz10_0 : w9.cell? ⟨gb167, 0, none⟩ = some (.int .i64 a0_0) := (blk_cell BK167.out 0).trans rfl; have hcz10_1 : w9.cell? ⟨gb167, 1, none⟩ = some (.int .i64 a0_1) := (blk_cell BK167.out 1).trans rfl; have hfz10_0 := blk_frozen BK167.out 0; have hfz10_1 := blk_frozen BK167.out 1))
        go_ret
        exact ⟨by first | rfl | (simp [errW_none, errW_some] <;> rfl) | (simp [*, errW_none, errW_some] <;> rfl), by repeat (first | (with_reducible first | exact HB.out | apply below_alloc | apply pw_below_drewN | apply below_drew1 | refine below_set ?_ GE167.out) | exact HB.out)⟩
      · rw [if_neg c6] at H
        have c6b0 : (a0_1 == 1) = false := beq_eq_false_iff_ne.mpr c6
        have c6b1 : (a0_1 != 1) = true := bne_iff_ne.mpr c6
        by_cases c11 : ((⟨#[45]⟩ : ByteArray) ++ t169).size + 1 ≤ 9223372036854775807
        · rw [if_pos c11] at H
          have c11b0 := eq_true c11
          (try have c11b9 : (9223372036854775807 < 1 + t169.size + 1) = False := eq_false (by have h_ := c11; simp only [ByteArray.size_append] at h_; have e0_ : (⟨#[45]⟩ : ByteArray).size = 1 := rfl; omega))
          have c11b1 : decide (((⟨#[45]⟩ : ByteArray) ++ t169).size + 1 ≤ 9223372036854775807) = true := decide_eq_true c11
          try have c11b2 : (9223372036854775807 < ((⟨#[45]⟩ : ByteArray) ++ t169).size + 1) = False := eq_false (Nat.not_lt.2 c11)
          replace H := Option.bind_eq_some_iff.mp H
          obtain ⟨t170, A120, H⟩ := H
          replace H : (if (((⟨#[45]⟩ : ByteArray) ++ t169) ++ (⟨#[47]⟩ : ByteArray)).size + t170.size ≤ 9223372036854775807 then (some ((((⟨#[45]⟩ : ByteArray) ++ t169) ++ (⟨#[47]⟩ : ByteArray)) ++ t170)) else (none)) = some r := H
          have A12 := Aside0.mk A120
          clear A120
          by_cases c13 : (((⟨#[45]⟩ : ByteArray) ++ t169) ++ (⟨#[47]⟩ : ByteArray)).size + t170.size ≤ 9223372036854775807
          · rw [if_pos c13] at H
            have c13b0 := eq_true c13
            (try have c13b9 : (9223372036854775807 < 1 + t169.size + 1 + t170.size) = False := eq_false (by have h_ := c13; simp only [ByteArray.size_append] at h_; have e0_ : (⟨#[45]⟩ : ByteArray).size = 1 := rfl; have e1_ : (⟨#[47]⟩ : ByteArray).size = 1 := rfl; omega))
            have c13b1 : decide ((((⟨#[45]⟩ : ByteArray) ++ t169) ++ (⟨#[47]⟩ : ByteArray)).size + t170.size ≤ 9223372036854775807) = true := decide_eq_true c13
            try have c13b2 : (9223372036854775807 < (((⟨#[45]⟩ : ByteArray) ++ t169) ++ (⟨#[47]⟩ : ByteArray)).size + t170.size) = False := eq_false (Nat.not_lt.2 c13)
            obtain rfl := Option.some.inj H
            go_enter Tryd.func9, Tryd.ntmps9
            go_wp2_with (first | ((with_reducible refine gate_dst (N := 1) rfl ?_); refine box_event ?hg (N := 1) ?hd (cs := #[.int .i64 a0_0, .int .i64 a0_1]) (t := 23) ?hr ?_; (case hd => rfl); (case hg => rfl); (case hr => first | (go_simp; done) | (go_simp; rfl)); intro gb167 hg w14 hbox hb; have n0_ := Aside0.mk (below_step (by repeat (first | (with_reducible first | exact HB.out | apply below_alloc | apply pw_below_drewN | apply below_drew1) | exact HB.out)) hb); have n1_ := Aside0.mk (hbox); have n2_ := Aside0.mk ((by rw [hg]; exact (below_size (by repeat (first | (with_reducible first | exact HB.out | apply below_alloc | apply pw_below_drewN | apply below_drew1) | exact HB.out))) : w.heap.size ≤ gb167)); have n3_ := Aside0.mk ((by rw [hg]; exact (below_size (by repeat (first | (with_reducible first | exact HB.out | apply below_alloc | apply pw_below_drewN | apply below_drew1) | exact HB.out))) : w.heap.size ≤ gb167)); clear HB; have HB := n0_; have BK167 := n1_; have GW167 := n2_; have GE167 := n3_; clear n0_ n1_ n2_ n3_; clear hb hbox hg; have hcz15_0 : w14.cell? ⟨gb167, 0, none⟩ = some (.int .i64 a0_0) := (blk_cell BK167.out 0).trans rfl; have hcz15_1 : w14.cell? ⟨gb167, 1, none⟩ = some (.int .i64 a0_1) := (blk_cell BK167.out 1).trans rfl; have hfz15_0 := blk_frozen BK167.out 0; have hfz15_1 := blk_frozen BK167.out 1) | ((with_reducible refine gate_callee (f := 17) rfl ?_); refine goesL_ (some 6) rfl rfl Tryd.func17 (by kernel_rfl) rfl #[.int .i64 a0_0] rfl (by (try simp only [List.map_toArray, List.map_cons, List.map_nil]); first | done | rfl | (simp only [List.length_drop, List.length_take]; rfl)) ?_; (with_reducible refine (sleuthref02_magnitude.calls a0_0 t168 _ A2.out).mono ?_); rintro e w' ⟨rfl, ⟨nd, rfl⟩⟩; refine ⟨_, rfl, ?_⟩) | ((with_reducible refine gate_callee (f := 23) rfl ?_); refine goesL_ (some 8) rfl rfl Tryd.func23 (by kernel_rfl) rfl #[.int .i64 (wrap64 (t168)), .int .i64 1] rfl (by (try simp only [List.map_toArray, List.map_cons, List.map_nil]); first | done | rfl | (simp only [List.length_drop, List.length_take]; rfl)) ?_; (with_reducible refine (sleuthref02_digits.calls k (wrap64 (t168)) 1 t169 _ A3.out).mono ?_); rintro e w16 ⟨rfl, hb⟩; refine ⟨_, rfl, ?_⟩; have n0_ := Aside0.mk (blk_below (g := gb167) (o := .cells #[.int .i64 a0_0, .int .i64 a0_1] 23 (0, 0)) (by (with_reducible repeat (first | refine blk_drewN ?_ _ | refine blk_drew ?_ | refine blk_alloc ?_ _)); exact BK167.out) hb); have n1_ := Aside0.mk (below_step (by repeat (first | (with_reducible first | exact HB.out | apply below_alloc | apply pw_below_drewN | apply below_drew1 | refine below_set ?_ GE167.out) | exact HB.out)) hb); clear BK167; clear HB; have BK167 := n0_; have HB := n1_; clear n0_ n1_; (try clear hb); (try clear hb2); (try clear hk); (try clear hi); have hcz17_0 : w16.cell? ⟨gb167, 0, none⟩ = some (.int .i64 a0_0) := (blk_cell BK167.out 0).trans rfl; have hcz17_1 : w16.cell? ⟨gb167, 1, none⟩ = some (.int .i64 a0_1) := (blk_cell BK167.out 1).trans rfl; have hfz17_0 := blk_frozen BK167.out 0; have hfz17_1 := blk_frozen BK167.out 1) | ((with_reducible refine gate_callee (f := 23) rfl ?_); refine goesL_ (some 21) rfl rfl Tryd.func23 (by kernel_rfl) rfl #[.int .i64 a0_1, .int .i64 1] rfl (by (try simp only [List.map_toArray, List.map_cons, List.map_nil]); first | done | rfl | (simp only [List.length_drop, List.length_take]; rfl)) ?_; (with_reducible refine (sleuthref02_digits.calls k a0_1 1 t170 _ A12.out).mono ?_); rintro e w18 ⟨rfl, hb⟩; refine ⟨_, rfl, ?_⟩; have n0_ := Aside0.mk (blk_below (g := gb167) (o := .cells #[.int .i64 a0_0, .int .i64 a0_1] 23 (0, 0)) (by (with_reducible repeat (first | refine blk_drewN ?_ _ | refine blk_drew ?_ | refine blk_alloc ?_ _)); exact BK167.out) hb); have n1_ := Aside0.mk (below_step (by repeat (first | (with_reducible first | exact HB.out | apply below_alloc | apply pw_below_drewN | apply below_drew1 | refine below_set ?_ GE167.out) | exact HB.out)) hb); clear BK167; clear HB; have BK167 := n0_; have HB := n1_; clear n0_ n1_; (try clear hb); (try clear hb2); (try clear hk); (try clear hi)))
            go_ret
            exact ⟨by first | rfl | (simp [errW_none, errW_some] <;> rfl) | (simp [*, errW_none, errW_some] <;> rfl), by repeat (first | (with_reducible first | exact HB.out | apply below_alloc | apply pw_below_drewN | apply below_drew1 | refine below_set ?_ GE167.out) | exact HB.out)⟩
          · rw [if_neg c13] at H
            exact absurd H (by simp)
        · rw [if_neg c11] at H
          exact absurd H (by simp)
    · rw [if_neg c5] at H
      exact absurd H (by simp)
  · rw [if_neg c4] at H
    have c4b0 : decide (a0_0 < 0) = false := decide_eq_false c4
    clear c4
    by_cases c19 : a0_1 = 1
    · rw [if_pos c19] at H
      have c19b0 : (a0_1 == 1) = true := beq_iff_eq.mpr c19
      have c19b1 : (a0_1 != 1) = false := bne_eq_false_iff_eq.mpr c19
      clear c19
      obtain rfl := Option.some.inj H
      go_enter Tryd.func9, Tryd.ntmps9
      go_wp2_with (first | ((with_reducible refine gate_dst (N := 1) rfl ?_); refine box_event ?hg (N := 1) ?hd (cs := #[.int .i64 a0_0, .int .i64 a0_1]) (t := 23) ?hr ?_; (case hd => rfl); (case hg => rfl); (case hr => first | (go_simp; done) | (go_simp; rfl)); intro gb167 hg w20 hbox hb; have n0_ := Aside0.mk (below_step (by repeat (first | (with_reducible first | exact HB.out | apply below_alloc | apply pw_below_drewN | apply below_drew1) | exact HB.out)) hb); have n1_ := Aside0.mk (hbox); have n2_ := Aside0.mk ((by rw [hg]; exact (below_size (by repeat (first | (with_reducible first | exact HB.out | apply below_alloc | apply pw_below_drewN | apply below_drew1) | exact HB.out))) : w.heap.size ≤ gb167)); have n3_ := Aside0.mk ((by rw [hg]; exact (below_size (by repeat (first | (with_reducible first | exact HB.out | apply below_alloc | apply pw_below_drewN | apply below_drew1) | exact HB.out))) : w.heap.size ≤ gb167)); clear HB; have HB := n0_; have BK167 := n1_; have GW167 := n2_; have GE167 := n3_; clear n0_ n1_ n2_ n3_; clear hb hbox hg; have hcz21_0 : w20.cell? ⟨gb167, 0, none⟩ = some (.int .i64 a0_0) := (blk_cell BK167.out 0).trans rfl; have hcz21_1 : w20.cell? ⟨gb167, 1, none⟩ = some (.int .i64 a0_1) := (blk_cell BK167.out 1).trans rfl; have hfz21_0 := blk_frozen BK167.out 0; have hfz21_1 := blk_frozen BK167.out 1) | ((with_reducible refine gate_callee (f := 17) rfl ?_); refine goesL_ (some 6) rfl rfl Tryd.func17 (by kernel_rfl) rfl #[.int .i64 a0_0] rfl (by (try simp only [List.map_toArray, List.map_cons, List.map_nil]); first | done | rfl | (simp only [List.length_drop, List.length_take]; rfl)) ?_; (with_reducible refine (sleuthref02_magnitude.calls a0_0 t168 _ A2.out).mono ?_); rintro e w' ⟨rfl, ⟨nd, rfl⟩⟩; refine ⟨_, rfl, ?_⟩) | ((with_reducible refine gate_callee (f := 23) rfl ?_); refine goesL_ (some 8) rfl rfl Tryd.func23 (by kernel_rfl) rfl #[.int .i64 (wrap64 (t168)), .int .i64 1] rfl (by (try simp only [List.map_toArray, List.map_cons, List.map_nil]); first | done | rfl | (simp only [List.length_drop, List.length_take]; rfl)) ?_; (with_reducible refine (sleuthref02_digits.calls k (wrap64 (t168)) 1 t169 _ A3.out).mono ?_); rintro e w22 ⟨rfl, hb⟩; refine ⟨_, rfl, ?_⟩; have n0_ := Aside0.mk (blk_below (g := gb167) (o := .cells #[.int .i64 a0_0, .int .i64 a0_1] 23 (0, 0)) (by (with_reducible repeat (first | refine blk_drewN ?_ _ | refine blk_drew ?_ | refine blk_alloc ?_ _)); exact BK167.out) hb); have n1_ := Aside0.mk (below_step (by repeat (first | (with_reducible first | exact HB.out | apply below_alloc | apply pw_below_drewN | apply below_drew1 | refine below_set ?_ GE167.out) | exact HB.out)) hb); clear BK167; clear HB; have BK167 := n0_; have HB := n1_; clear n0_ n1_; (try clear hb); (try clear hb2); (try clear hk); (try clear hi); have hcz23_0 : w22.cell? ⟨gb167, 0, none⟩ = some (.int .i64 a0_0) := (blk_cell BK167.out 0).trans rfl; have hcz23_1 : w22.cell? ⟨gb167, 1, none⟩ = some (.int .i64 a0_1) := (blk_cell BK167.out 1).trans rfl; have hfz23_0 := blk_frozen BK167.out 0; have hfz23_1 := blk_frozen BK167.out 1))
      go_ret
      exact ⟨by first | rfl | (simp [errW_none, errW_some] <;> rfl) | (simp [*, errW_none, errW_some] <;> rfl), by repeat (first | (with_reducible first | exact HB.out | apply below_alloc | apply pw_below_drewN | apply below_drew1 | refine below_set ?_ GE167.out) | exact HB.out)⟩
    · rw [if_neg c19] at H
      have c19b0 : (a0_1 == 1) = false := beq_eq_false_iff_ne.mpr c19
      have c19b1 : (a0_1 != 1) = true := bne_iff_ne.mpr c19
      by_cases c24 : t169.size + 1 ≤ 9223372036854775807
      · rw [if_pos c24] at H
        have c24b0 := eq_true c24
        have c24b1 : decide (t169.size + 1 ≤ 9223372036854775807) = true := decide_eq_true c24
        try have c24b2 : (9223372036854775807 < t169.size + 1) = False := eq_false (Nat.not_lt.2 c24)
        replace H := Option.bind_eq_some_iff.mp H
        obtain ⟨t171, A250, H⟩ := H
        replace H : (if (t169 ++ (⟨#[47]⟩ : ByteArray)).size + t171.size ≤ 9223372036854775807 then (some ((t169 ++ (⟨#[47]⟩ : ByteArray)) ++ t171)) else (none)) = some r := H
        have A25 := Aside0.mk A250
        clear A250
        by_cases c26 : (t169 ++ (⟨#[47]⟩ : ByteArray)).size + t171.size ≤ 9223372036854775807
        · rw [if_pos c26] at H
          have c26b0 := eq_true c26
          (try have c26b9 : (9223372036854775807 < t169.size + 1 + t171.size) = False := eq_false (by have h_ := c26; simp only [ByteArray.size_append] at h_; have e0_ : (⟨#[47]⟩ : ByteArray).size = 1 := rfl; omega))
          have c26b1 : decide ((t169 ++ (⟨#[47]⟩ : ByteArray)).size + t171.size ≤ 9223372036854775807) = true := decide_eq_true c26
          try have c26b2 : (9223372036854775807 < (t169 ++ (⟨#[47]⟩ : ByteArray)).size + t171.size) = False := eq_false (Nat.not_lt.2 c26)
          obtain rfl := Option.some.inj H
          go_enter Tryd.func9, Tryd.ntmps9
          go_wp2_with (first | ((with_reducible refine gate_dst (N := 1) rfl ?_); refine box_event ?hg (N := 1) ?hd (cs := #[.int .i64 a0_0, .int .i64 a0_1]) (t := 23) ?hr ?_; (case hd => rfl); (case hg => rfl); (case hr => first | (go_simp; done) | (go_simp; rfl)); intro gb167 hg w27 hbox hb; have n0_ := Aside0.mk (below_step (by repeat (first | (with_reducible first | exact HB.out | apply below_alloc | apply pw_below_drewN | apply below_drew1) | exact HB.out)) hb); have n1_ := Aside0.mk (hbox); have n2_ := Aside0.mk ((by rw [hg]; exact (below_size (by repeat (first | (with_reducible first | exact HB.out | apply below_alloc | apply pw_below_drewN | apply below_drew1) | exact HB.out))) : w.heap.size ≤ gb167)); have n3_ := Aside0.mk ((by rw [hg]; exact (below_size (by repeat (first | (with_reducible first | exact HB.out | apply below_alloc | apply pw_below_drewN | apply below_drew1) | exact HB.out))) : w.heap.size ≤ gb167)); clear HB; have HB := n0_; have BK167 := n1_; have GW167 := n2_; have GE167 := n3_; clear n0_ n1_ n2_ n3_; clear hb hbox hg; have hcz28_0 : w27.cell? ⟨gb167, 0, none⟩ = some (.int .i64 a0_0) := (blk_cell BK167.out 0).trans rfl; have hcz28_1 : w27.cell? ⟨gb167, 1, none⟩ = some (.int .i64 a0_1) := (blk_cell BK167.out 1).trans rfl; have hfz28_0 := blk_frozen BK167.out 0; have hfz28_1 := blk_frozen BK167.out 1) | ((with_reducible refine gate_callee (f := 17) rfl ?_); refine goesL_ (some 6) rfl rfl Tryd.func17 (by kernel_rfl) rfl #[.int .i64 a0_0] rfl (by (try simp only [List.map_toArray, List.map_cons, List.map_nil]); first | done | rfl | (simp only [List.length_drop, List.length_take]; rfl)) ?_; (with_reducible refine (sleuthref02_magnitude.calls a0_0 t168 _ A2.out).mono ?_); rintro e w' ⟨rfl, ⟨nd, rfl⟩⟩; refine ⟨_, rfl, ?_⟩) | ((with_reducible refine gate_callee (f := 23) rfl ?_); refine goesL_ (some 8) rfl rfl Tryd.func23 (by kernel_rfl) rfl #[.int .i64 (wrap64 (t168)), .int .i64 1] rfl (by (try simp only [List.map_toArray, List.map_cons, List.map_nil]); first | done | rfl | (simp only [List.length_drop, List.length_take]; rfl)) ?_; (with_reducible refine (sleuthref02_digits.calls k (wrap64 (t168)) 1 t169 _ A3.out).mono ?_); rintro e w29 ⟨rfl, hb⟩; refine ⟨_, rfl, ?_⟩; have n0_ := Aside0.mk (blk_below (g := gb167) (o := .cells #[.int .i64 a0_0, .int .i64 a0_1] 23 (0, 0)) (by (with_reducible repeat (first | refine blk_drewN ?_ _ | refine blk_drew ?_ | refine blk_alloc ?_ _)); exact BK167.out) hb); have n1_ := Aside0.mk (below_step (by repeat (first | (with_reducible first | exact HB.out | apply below_alloc | apply pw_below_drewN | apply below_drew1 | refine below_set ?_ GE167.out) | exact HB.out)) hb); clear BK167; clear HB; have BK167 := n0_; have HB := n1_; clear n0_ n1_; (try clear hb); (try clear hb2); (try clear hk); (try clear hi); have hcz30_0 : w29.cell? ⟨gb167, 0, none⟩ = some (.int .i64 a0_0) := (blk_cell BK167.out 0).trans rfl; have hcz30_1 : w29.cell? ⟨gb167, 1, none⟩ = some (.int .i64 a0_1) := (blk_cell BK167.out 1).trans rfl; have hfz30_0 := blk_frozen BK167.out 0; have hfz30_1 := blk_frozen BK167.out 1) | ((with_reducible refine gate_callee (f := 23) rfl ?_); refine goesL_ (some 21) rfl rfl Tryd.func23 (by kernel_rfl) rfl #[.int .i64 a0_1, .int .i64 1] rfl (by (try simp only [List.map_toArray, List.map_cons, List.map_nil]); first | done | rfl | (simp only [List.length_drop, List.length_take]; rfl)) ?_; (with_reducible refine (sleuthref02_digits.calls k a0_1 1 t171 _ A25.out).mono ?_); rintro e w31 ⟨rfl, hb⟩; refine ⟨_, rfl, ?_⟩; have n0_ := Aside0.mk (blk_below (g := gb167) (o := .cells #[.int .i64 a0_0, .int .i64 a0_1] 23 (0, 0)) (by (with_reducible repeat (first | refine blk_drewN ?_ _ | refine blk_drew ?_ | refine blk_alloc ?_ _)); exact BK167.out) hb); have n1_ := Aside0.mk (below_step (by repeat (first | (with_reducible first | exact HB.out | apply below_alloc | apply pw_below_drewN | apply below_drew1 | refine below_set ?_ GE167.out) | exact HB.out)) hb); clear BK167; clear HB; have BK167 := n0_; have HB := n1_; clear n0_ n1_; (try clear hb); (try clear hb2); (try clear hk); (try clear hi)))
          go_ret
          exact ⟨by first | rfl | (simp [errW_none, errW_some] <;> rfl) | (simp [*, errW_none, errW_some] <;> rfl), by repeat (first | (with_reducible first | exact HB.out | apply below_alloc | apply pw_below_drewN | apply below_drew1 | refine below_set ?_ GE167.out) | exact HB.out)⟩
        · rw [if_neg c26] at H
          exact absurd H (by simp)
      · rw [if_neg c24] at H
        exact absurd H (by simp)

end Go.Proofs.YtikioicjhdhdpaaDoor.PD
