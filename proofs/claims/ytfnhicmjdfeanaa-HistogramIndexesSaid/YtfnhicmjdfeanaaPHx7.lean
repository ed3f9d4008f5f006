-- Written by a program of this session (gprint.py) out of Lean's own print of the program. Lean checks it.
import Derived.Test.YtfnhicmjdfeanaaPHx0
import Derived.Test.YtfnhicmjdfeanaaPHx3
import Derived.Test.YtfnhicmjdfeanaaPHx5
import Derived.Test.YtfnhicmjdfeanaaPHx6
namespace Go.Proofs.Ytfnhicmjdfeanaa.PH
open Go.RowKit Go.Proofs.YtfnhicmjdfeanaaW.PrintWords Go.Proofs.YtfnhicmjdfeanaaW.PrintLast Go.Proofs.YtfnhicmjdfeanaaW.PrintMore
attribute [local go_sem] max2_int min2_int max_two min_two max_three min_three max_four min_four   -- for this text's walks alone
set_option linter.unusedVariables false
set_option linter.unusedSimpArgs false

/-! ### sleuthlaw21_HistogramIndexes: function 3 -/
mutual
def sleuthlaw21_HistogramIndexes.j0 : Nat → Int → Int → Int → Bool → Option (Bool)
  | 0, _, _, _, _ => none
  | k + 1, x0, x3, x4, x22 => if x22 = true then (if x4 = 2 then (some (x3 == 0)) else (some false)) else ((histogram_Bounds.f k x3).bind fun bt166 => (if x4 = 0 then ((sleuthlaw21_index.f k x0).bind fun t169 => (if x3 = t169 then (if bt166.2.2 = 0 then (if x0 < bt166.1 then (sleuthlaw21_HistogramIndexes.j1 k x0 x3 bt166.1 true) else (if x0 > bt166.2.1 then (sleuthlaw21_HistogramIndexes.j1 k x0 x3 bt166.1 true) else (if x3 ≥ 16 then (if (wrap64 (8 * (wrap64 ((wrap64 (bt166.2.1 - bt166.1)) + 1)))) > bt166.1 then (sleuthlaw21_HistogramIndexes.j1 k x0 x3 bt166.1 true) else (if x3 < 16 then (sleuthlaw21_HistogramIndexes.j1 k x0 x3 bt166.1 (bt166.1 != bt166.2.1)) else (sleuthlaw21_HistogramIndexes.j1 k x0 x3 bt166.1 false))) else (if x3 < 16 then (sleuthlaw21_HistogramIndexes.j1 k x0 x3 bt166.1 (bt166.1 != bt166.2.1)) else (sleuthlaw21_HistogramIndexes.j1 k x0 x3 bt166.1 false))))) else (sleuthlaw21_HistogramIndexes.j1 k x0 x3 bt166.1 true)) else (sleuthlaw21_HistogramIndexes.j1 k x0 x3 bt166.1 true))) else (sleuthlaw21_HistogramIndexes.j1 k x0 x3 bt166.1 true)))
def sleuthlaw21_HistogramIndexes.j1 : Nat → Int → Int → Int → Bool → Option (Bool)
  | 0, _, _, _, _ => none
  | k + 1, x0, x3, x5, x78 => if x78 = true then (some false) else (if x0 = 0 then (some (x3 == 0)) else ((histogram_Index.f k (wrap64 (x0 - 1))).bind fun bt170 => (if bt170.2 = 0 then (if bt170.1 = x3 then (some true) else (if bt170.1 = (wrap64 (x3 - 1)) then (some (x0 == x5)) else (some false))) else (some false))))
end
def sleuthlaw21_HistogramIndexes.f (k : Nat) (a0 : Int) : Option (Bool) := (sleuthlaw21_known.f k).bind fun t163 => (if t163 = true then ((histogram_Index.f k a0).bind fun bt164 => (if a0 < 0 then (sleuthlaw21_HistogramIndexes.j0 k a0 bt164.1 bt164.2 true) else (sleuthlaw21_HistogramIndexes.j0 k a0 bt164.1 bt164.2 (decide (a0 > 1099511627776))))) else (some false))
theorem sleuthlaw21_HistogramIndexes.mono_l : ∀ k, (∀ y0 y1 y2 y3, LeO (sleuthlaw21_HistogramIndexes.j0 k y0 y1 y2 y3) (sleuthlaw21_HistogramIndexes.j0 (k + 1) y0 y1 y2 y3)) ∧ (∀ y0 y1 y2 y3, LeO (sleuthlaw21_HistogramIndexes.j1 k y0 y1 y2 y3) (sleuthlaw21_HistogramIndexes.j1 (k + 1) y0 y1 y2 y3))
  | 0 => ⟨fun _ _ _ _ r h => by simp [sleuthlaw21_HistogramIndexes.j0] at h, fun _ _ _ _ r h => by simp [sleuthlaw21_HistogramIndexes.j1] at h⟩
  | k + 1 => by
    obtain ⟨ih0, ih1⟩ := sleuthlaw21_HistogramIndexes.mono_l k
    refine ⟨?_, ?_⟩
    · intro y0 y1 y2 y3
      unfold sleuthlaw21_HistogramIndexes.j0
      repeat' first
      | (with_reducible exact ih0 _ _ _ _)
      | (with_reducible exact ih1 _ _ _ _)
      | (with_reducible exact histogram_Bounds.mono _ _)
      | (with_reducible exact histogram_Index.mono _ _)
      | (with_reducible exact sleuthlaw21_index.mono _ _)
      | (with_reducible exact sleuthlaw21_known.mono _)
      | (with_reducible exact LeO.refl _)
      | (with_reducible exact LeO.none _)
      | (with_reducible refine LeO.ite ?_ ?_)
      | (with_reducible refine LeO.bind ?_ (fun _ => ?_))
      | exact ih0 _ _ _ _
      | exact ih1 _ _ _ _
      | exact histogram_Bounds.mono _ _
      | exact histogram_Index.mono _ _
      | exact sleuthlaw21_index.mono _ _
      | exact sleuthlaw21_known.mono _
      | exact LeO.none _
      | refine LeO.ite ?_ ?_
      | refine LeO.bind ?_ (fun _ => ?_)
    · intro y0 y1 y2 y3
      unfold sleuthlaw21_HistogramIndexes.j1
      repeat' first
      | (with_reducible exact ih0 _ _ _ _)
      | (with_reducible exact ih1 _ _ _ _)
      | (with_reducible exact histogram_Bounds.mono _ _)
      | (with_reducible exact histogram_Index.mono _ _)
      | (with_reducible exact sleuthlaw21_index.mono _ _)
      | (with_reducible exact sleuthlaw21_known.mono _)
      | (with_reducible exact LeO.refl _)
      | (with_reducible exact LeO.none _)
      | (with_reducible refine LeO.ite ?_ ?_)
      | (with_reducible refine LeO.bind ?_ (fun _ => ?_))
      | exact ih0 _ _ _ _
      | exact ih1 _ _ _ _
      | exact histogram_Bounds.mono _ _
      | exact histogram_Index.mono _ _
      | exact sleuthlaw21_index.mono _ _
      | exact sleuthlaw21_known.mono _
      | exact LeO.none _
      | refine LeO.ite ?_ ?_
      | refine LeO.bind ?_ (fun _ => ?_)
theorem sleuthlaw21_HistogramIndexes.mono : ∀ a0 k, LeO (sleuthlaw21_HistogramIndexes.f k a0) (sleuthlaw21_HistogramIndexes.f (k + 1) a0) := by
  intro a0 k
  obtain ⟨ih0, ih1⟩ := sleuthlaw21_HistogramIndexes.mono_l k
  unfold sleuthlaw21_HistogramIndexes.f
  repeat' first
      | (with_reducible exact ih0 _ _ _ _)
      | (with_reducible exact ih1 _ _ _ _)
      | (with_reducible exact histogram_Bounds.mono _ _)
      | (with_reducible exact histogram_Index.mono _ _)
      | (with_reducible exact sleuthlaw21_index.mono _ _)
      | (with_reducible exact sleuthlaw21_known.mono _)
      | (with_reducible exact LeO.refl _)
      | (with_reducible exact LeO.none _)
      | (with_reducible refine LeO.ite ?_ ?_)
      | (with_reducible refine LeO.bind ?_ (fun _ => ?_))
      | exact ih0 _ _ _ _
      | exact ih1 _ _ _ _
      | exact histogram_Bounds.mono _ _
      | exact histogram_Index.mono _ _
      | exact sleuthlaw21_index.mono _ _
      | exact sleuthlaw21_known.mono _
      | exact LeO.none _
      | refine LeO.ite ?_ ?_
      | refine LeO.bind ?_ (fun _ => ?_)
set_option maxHeartbeats 8000000 in
set_option maxRecDepth 100000 in
theorem sleuthlaw21_HistogramIndexes.calls (k : Nat) (a0 : Int) (r : Bool) (w : World) (h : sleuthlaw21_HistogramIndexes.f k a0 = some r) :
    Calls Try.prog 3 #[.int .i64 a0] w fun e w' => e = .returned (.bool r) ∧ Below w.heap.size w w' := by
  have HB := Aside0.mk (Below.refl w.heap.size w)
  have H : ((sleuthlaw21_known.f k).bind fun t163 => (if t163 = true then ((histogram_Index.f k a0).bind fun bt164 => (if a0 < 0 then (sleuthlaw21_HistogramIndexes.j0 k a0 bt164.1 bt164.2 true) else (sleuthlaw21_HistogramIndexes.j0 k a0 bt164.1 bt164.2 (decide (a0 > 1099511627776))))) else (some false))) = some r := h
  clear h
  replace H := Option.bind_eq_some_iff.mp H
  obtain ⟨t163, A20, H⟩ := H
  replace H : (if t163 = true then ((histogram_Index.f k a0).bind fun bt164 => (if a0 < 0 then (sleuthlaw21_HistogramIndexes.j0 k a0 bt164.1 bt164.2 true) else (sleuthlaw21_HistogramIndexes.j0 k a0 bt164.1 bt164.2 (decide (a0 > 1099511627776))))) else (some false)) = some r := H
  have A2 := Aside0.mk A20
  clear A20
  by_cases c3 : t163 = true
  · subst c3
    have H1 : ((histogram_Index.f k a0).bind fun bt164 => (if a0 < 0 then (sleuthlaw21_HistogramIndexes.j0 k a0 bt164.1 bt164.2 true) else (sleuthlaw21_HistogramIndexes.j0 k a0 bt164.1 bt164.2 (decide (a0 > 1099511627776))))) = some r := by rw [if_pos rfl] at H; exact H
    clear H
    have H := H1
    clear H1
    replace H := Option.bind_eq_some_iff.mp H
    obtain ⟨⟨t164, t165⟩, A40, H⟩ := H
    replace H : (if a0 < 0 then (sleuthlaw21_HistogramIndexes.j0 k a0 t164 t165 true) else (sleuthlaw21_HistogramIndexes.j0 k a0 t164 t165 (decide (a0 > 1099511627776)))) = some r := H
    have A4 := Aside0.mk A40
    clear A40
    have HC5 := Aside0.mk H
    clear H
    go_enter Try.func3, Try.ntmps3
    go_upto_region 4 with (first | ((with_reducible refine gate_callee (f := 12) rfl ?_); refine goesL_ (some 10) rfl rfl Try.func12 (by kernel_rfl) rfl #[] rfl (by (try simp only [List.map_toArray, List.map_cons, List.map_nil]); first | done | rfl | (simp only [List.length_drop, List.length_take]; rfl)) ?_; (with_reducible refine (sleuthlaw21_known.calls k  true _ A2.out).mono ?_); rintro e w6 ⟨rfl, hb⟩; refine ⟨_, rfl, ?_⟩; have n0_ := Aside0.mk (below_step (by repeat (first | (with_reducible first | exact HB.out | apply below_alloc | apply pw_below_drewN | apply below_drew1) | exact HB.out)) hb); clear HB; have HB := n0_; clear n0_; (try clear hb); (try clear hb2); (try clear hk); (try clear hi)) | ((with_reducible refine gate_callee (f := 13) rfl ?_); refine goesL_ (some 14) rfl rfl Try.func13 (by kernel_rfl) rfl #[.int .i64 a0] rfl (by (try simp only [List.map_toArray, List.map_cons, List.map_nil]); first | done | rfl | (simp only [List.length_drop, List.length_take]; rfl)) ?_; (with_reducible refine (histogram_Index.calls k a0 t164 t165 _ A4.out).mono ?_); rintro e w' ⟨rfl, ⟨nd, rfl⟩⟩; refine ⟨_, rfl, ?_⟩))
    (try simp only [Act.put, List.setIfInBounds_toArray, List.set_cons_zero, List.set_cons_succ])
    go_cut [22] (fun v22 wc => ∃ (kq : Nat) (x22_4 : Bool), v22 = .bool x22_4 ∧ Aside0 (sleuthlaw21_HistogramIndexes.j0 kq a0 t164 t165 x22_4 = some r) ∧ Aside0 (kq ≤ k) ∧ Aside0 (Below w.heap.size w wc))
    case first =>
      have H := HC5.out
      clear HC5
      by_cases c7 : a0 < 0
      · rw [if_pos c7] at H
        have c7b0 : decide (a0 < 0) = true := decide_eq_true c7
        clear c7
        (first | rw [c7b0] | (simp only [i64_w, i32_w]; rw [c7b0]) | skip)
        have H' := Aside0.mk H
        clear H
        go_wp2
        go_meet
        case rel => exact ⟨_, (true), (by first | rfl | (simp; done) | (simp [*]; done)), H', ⟨by first | omega | exact Nat.le_refl _⟩, ⟨by repeat (first | (with_reducible first | exact HB.out | apply below_alloc | apply pw_below_drewN | apply below_drew1) | exact HB.out)⟩⟩
      · rw [if_neg c7] at H
        have c7b0 : decide (a0 < 0) = false := decide_eq_false c7
        clear c7
        (first | rw [c7b0] | (simp only [i64_w, i32_w]; rw [c7b0]) | skip)
        have H' := Aside0.mk H
        clear H
        go_wp2
        go_meet
        case rel => exact ⟨_, (decide (a0 > 1099511627776)), (by first | rfl | (simp; done) | (simp [*]; done)), H', ⟨by first | omega | exact Nat.le_refl _⟩, ⟨by repeat (first | (with_reducible first | exact HB.out | apply below_alloc | apply pw_below_drewN | apply below_drew1) | exact HB.out)⟩⟩
    case rest =>
      clear HC5
      try clear c1
      try clear p2
      try clear c3
      try clear c7
      try clear c7b0
      obtain ⟨kq, x22_4, rfl, HA, HJ4, HB⟩ := hcut
      cases kq with
      | zero => exact absurd HA.out (by simp [sleuthlaw21_HistogramIndexes.j0])
      | succ kj4 =>
        have H := HA.out
        clear HA
        simp only [sleuthlaw21_HistogramIndexes.j0] at H
        by_cases c8 : x22_4 = true
        · subst c8
          have H1 : (if t165 = 2 then (some (t164 == 0)) else (some false)) = some r := by rw [if_pos rfl] at H; exact H
          clear H
          have H := H1
          clear H1
          by_cases c9 : t165 = 2
          · rw [if_pos c9] at H
            have c9b0 : (t165 == 2) = true := beq_iff_eq.mpr c9
            have c9b1 : (t165 != 2) = false := bne_eq_false_iff_eq.mpr c9
            clear c9
            obtain rfl := Option.some.inj H
            go_wp2
            go_ret
            exact ⟨by first | rfl | (simp [errW_none, errW_some] <;> rfl) | (simp [*, errW_none, errW_some] <;> rfl), by repeat (first | (with_reducible first | exact HB.out | apply below_alloc | apply pw_below_drewN | apply below_drew1) | exact HB.out)⟩
          · rw [if_neg c9] at H
            have c9b0 : (t165 == 2) = false := beq_eq_false_iff_ne.mpr c9
            have c9b1 : (t165 != 2) = true := bne_iff_ne.mpr c9
            obtain rfl := Option.some.inj H
            go_wp2
            go_ret
            exact ⟨by first | rfl | (simp [errW_none, errW_some] <;> rfl) | (simp [*, errW_none, errW_some] <;> rfl), by repeat (first | (with_reducible first | exact HB.out | apply below_alloc | apply pw_below_drewN | apply below_drew1) | exact HB.out)⟩
        · replace c8 := Bool.eq_false_iff.mpr c8
          subst c8
          have H1 : ((histogram_Bounds.f kj4 t164).bind fun bt166 => (if t165 = 0 then ((sleuthlaw21_index.f kj4 a0).bind fun t169 => (if t164 = t169 then (if bt166.2.2 = 0 then (if a0 < bt166.1 then (sleuthlaw21_HistogramIndexes.j1 kj4 a0 t164 bt166.1 true) else (if a0 > bt166.2.1 then (sleuthlaw21_HistogramIndexes.j1 kj4 a0 t164 bt166.1 true) else (if t164 ≥ 16 then (if (wrap64 (8 * (wrap64 ((wrap64 (bt166.2.1 - bt166.1)) + 1)))) > bt166.1 then (sleuthlaw21_HistogramIndexes.j1 kj4 a0 t164 bt166.1 true) else (if t164 < 16 then (sleuthlaw21_HistogramIndexes.j1 kj4 a0 t164 bt166.1 (bt166.1 != bt166.2.1)) else (sleuthlaw21_HistogramIndexes.j1 kj4 a0 t164 bt166.1 false))) else (if t164 < 16 then (sleuthlaw21_HistogramIndexes.j1 kj4 a0 t164 bt166.1 (bt166.1 != bt166.2.1)) else (sleuthlaw21_HistogramIndexes.j1 kj4 a0 t164 bt166.1 false))))) else (sleuthlaw21_HistogramIndexes.j1 kj4 a0 t164 bt166.1 true)) else (sleuthlaw21_HistogramIndexes.j1 kj4 a0 t164 bt166.1 true))) else (sleuthlaw21_HistogramIndexes.j1 kj4 a0 t164 bt166.1 true))) = some r := by rw [if_neg (show ¬ (false = true) by decide)] at H; exact H
          clear H
          have H := H1
          clear H1
          replace H := Option.bind_eq_some_iff.mp H
          obtain ⟨⟨t166, t167, t168⟩, A100, H⟩ := H
          replace H : (if t165 = 0 then ((sleuthlaw21_index.f kj4 a0).bind fun t169 => (if t164 = t169 then (if t168 = 0 then (if a0 < t166 then (sleuthlaw21_HistogramIndexes.j1 kj4 a0 t164 t166 true) else (if a0 > t167 then (sleuthlaw21_HistogramIndexes.j1 kj4 a0 t164 t166 true) else (if t164 ≥ 16 then (if (wrap64 (8 * (wrap64 ((wrap64 (t167 - t166)) + 1)))) > t166 then (sleuthlaw21_HistogramIndexes.j1 kj4 a0 t164 t166 true) else (if t164 < 16 then (sleuthlaw21_HistogramIndexes.j1 kj4 a0 t164 t166 (t166 != t167)) else (sleuthlaw21_HistogramIndexes.j1 kj4 a0 t164 t166 false))) else (if t164 < 16 then (sleuthlaw21_HistogramIndexes.j1 kj4 a0 t164 t166 (t166 != t167)) else (sleuthlaw21_HistogramIndexes.j1 kj4 a0 t164 t166 false))))) else (sleuthlaw21_HistogramIndexes.j1 kj4 a0 t164 t166 true)) else (sleuthlaw21_HistogramIndexes.j1 kj4 a0 t164 t166 true))) else (sleuthlaw21_HistogramIndexes.j1 kj4 a0 t164 t166 true)) = some r := H
          have A10 := Aside0.mk A100
          clear A100
          have HC11 := Aside0.mk H
          clear H
          go_upto_region 7 with (first | ((with_reducible refine gate_callee (f := 14) rfl ?_); refine goesL_ (some 31) rfl rfl Try.func14 (by kernel_rfl) rfl #[.int .i64 t164] rfl (by (try simp only [List.map_toArray, List.map_cons, List.map_nil]); first | done | rfl | (simp only [List.length_drop, List.length_take]; rfl)) ?_; (with_reducible refine (histogram_Bounds.calls kj4 t164 t166 t167 t168 _ A10.out).mono ?_); rintro e w12 ⟨rfl, hb⟩; refine ⟨_, rfl, ?_⟩; have n0_ := Aside0.mk (below_step (by repeat (first | (with_reducible first | exact HB.out | apply below_alloc | apply pw_below_drewN | apply below_drew1) | exact HB.out)) hb); clear HB; have HB := n0_; clear n0_; (try clear hb); (try clear hb2); (try clear hk); (try clear hi)))
          (try simp only [Act.put, List.setIfInBounds_toArray, List.set_cons_zero, List.set_cons_succ])
          go_cut [78] (fun v78 wc => ∃ (kq : Nat) (x78_10 : Bool), v78 = .bool x78_10 ∧ Aside0 (sleuthlaw21_HistogramIndexes.j1 kq a0 t164 t166 x78_10 = some r) ∧ Aside0 (kq ≤ kj4) ∧ Aside0 (Below w.heap.size w wc))
          case first =>
            have H := HC11.out
            clear HC11
            by_cases c13 : t165 = 0
            · rw [if_pos c13] at H
              have c13b0 : (t165 == 0) = true := beq_iff_eq.mpr c13
              have c13b1 : (t165 != 0) = false := bne_eq_false_iff_eq.mpr c13
              clear c13
              (first | rw [c13b0] | (simp only [i64_w, i32_w]; rw [c13b0]) | skip)
              replace H := Option.bind_eq_some_iff.mp H
              obtain ⟨t169, A140, H⟩ := H
              replace H : (if t164 = t169 then (if t168 = 0 then (if a0 < t166 then (sleuthlaw21_HistogramIndexes.j1 kj4 a0 t164 t166 true) else (if a0 > t167 then (sleuthlaw21_HistogramIndexes.j1 kj4 a0 t164 t166 true) else (if t164 ≥ 16 then (if (wrap64 (8 * (wrap64 ((wrap64 (t167 - t166)) + 1)))) > t166 then (sleuthlaw21_HistogramIndexes.j1 kj4 a0 t164 t166 true) else (if t164 < 16 then (sleuthlaw21_HistogramIndexes.j1 kj4 a0 t164 t166 (t166 != t167)) else (sleuthlaw21_HistogramIndexes.j1 kj4 a0 t164 t166 false))) else (if t164 < 16 then (sleuthlaw21_HistogramIndexes.j1 kj4 a0 t164 t166 (t166 != t167)) else (sleuthlaw21_HistogramIndexes.j1 kj4 a0 t164 t166 false))))) else (sleuthlaw21_HistogramIndexes.j1 kj4 a0 t164 t166 true)) else (sleuthlaw21_HistogramIndexes.j1 kj4 a0 t164 t166 true)) = some r := H
              have A14 := Aside0.mk A140
              clear A140
              by_cases c15 : t164 = t169
              · rw [if_pos c15] at H
                have c15b0 : (t164 == t169) = true := beq_iff_eq.mpr c15
                have c15b1 : (t164 != t169) = false := bne_eq_false_iff_eq.mpr c15
                clear c15
                by_cases c16 : t168 = 0
                · rw [if_pos c16] at H
                  have c16b0 : (t168 == 0) = true := beq_iff_eq.mpr c16
                  have c16b1 : (t168 != 0) = false := bne_eq_false_iff_eq.mpr c16
                  clear c16
                  by_cases c17 : a0 < t166
                  · rw [if_pos c17] at H
                    have c17b0 : decide (a0 < t166) = true := decide_eq_true c17
                    clear c17
                    have H' := Aside0.mk H
                    clear H
                    go_wp2_with (first | (go_at_call 15; (with_reducible refine (sleuthlaw21_index.calls kj4 a0 t169 _ A14.out).mono ?_); rintro e w' ⟨rfl, ⟨nd, rfl⟩⟩))
                    go_meet
                    case rel => exact ⟨_, (true), (by first | rfl | (simp; done) | (simp [*]; done)), H', ⟨by have := HJ4.out; first | omega | exact Nat.le_refl _⟩, ⟨by repeat (first | (with_reducible first | exact HB.out | apply below_alloc | apply pw_below_drewN | apply below_drew1) | exact HB.out)⟩⟩
                  · rw [if_neg c17] at H
                    have c17b0 : decide (a0 < t166) = false := decide_eq_false c17
                    clear c17
                    by_cases c18 : a0 > t167
                    · rw [if_pos c18] at H
                      have c18b0 : decide (t167 < a0) = true := decide_eq_true c18
                      clear c18
                      have H' := Aside0.mk H
                      clear H
                      go_wp2_with (first | (go_at_call 15; (with_reducible refine (sleuthlaw21_index.calls kj4 a0 t169 _ A14.out).mono ?_); rintro e w' ⟨rfl, ⟨nd, rfl⟩⟩))
                      go_meet
                      case rel => exact ⟨_, (true), (by first | rfl | (simp; done) | (simp [*]; done)), H', ⟨by have := HJ4.out; first | omega | exact Nat.le_refl _⟩, ⟨by repeat (first | (with_reducible first | exact HB.out | apply below_alloc | apply pw_below_drewN | apply below_drew1) | exact HB.out)⟩⟩
                    · rw [if_neg c18] at H
                      have c18b0 : decide (t167 < a0) = false := decide_eq_false c18
                      clear c18
                      by_cases c19 : t164 ≥ 16
                      · rw [if_pos c19] at H
                        have c19b0 : decide (16 ≤ t164) = true := decide_eq_true c19
                        clear c19
                        by_cases c20 : (wrap64 (8 * (wrap64 ((wrap64 (t167 - t166)) + 1)))) > t166
                        · rw [if_pos c20] at H
                          have c20b0 : decide (t166 < (wrap64 (8 * (wrap64 ((wrap64 (t167 - t166)) + 1))))) = true := decide_eq_true c20
                          clear c20
                          have H' := Aside0.mk H
                          clear H
                          go_wp2_with (first | (go_at_call 15; (with_reducible refine (sleuthlaw21_index.calls kj4 a0 t169 _ A14.out).mono ?_); rintro e w' ⟨rfl, ⟨nd, rfl⟩⟩))
                          go_meet
                          case rel => exact ⟨_, (true), (by first | rfl | (simp; done) | (simp [*]; done)), H', ⟨by have := HJ4.out; first | omega | exact Nat.le_refl _⟩, ⟨by repeat (first | (with_reducible first | exact HB.out | apply below_alloc | apply pw_below_drewN | apply below_drew1) | exact HB.out)⟩⟩
                        · rw [if_neg c20] at H
                          have c20b0 : decide (t166 < (wrap64 (8 * (wrap64 ((wrap64 (t167 - t166)) + 1))))) = false := decide_eq_false c20
                          clear c20
                          by_cases c21 : t164 < 16
                          · rw [if_pos c21] at H
                            have c21b0 : decide (t164 < 16) = true := decide_eq_true c21
                            clear c21
                            have H' := Aside0.mk H
                            clear H
                            go_wp2_with (first | (go_at_call 15; (with_reducible refine (sleuthlaw21_index.calls kj4 a0 t169 _ A14.out).mono ?_); rintro e w' ⟨rfl, ⟨nd, rfl⟩⟩))
                            go_meet
                            case rel => exact ⟨_, ((t166 != t167)), (by first | rfl | (simp; done) | (simp [*]; done)), H', ⟨by have := HJ4.out; first | omega | exact Nat.le_refl _⟩, ⟨by repeat (first | (with_reducible first | exact HB.out | apply below_alloc | apply pw_below_drewN | apply below_drew1) | exact HB.out)⟩⟩
                          · rw [if_neg c21] at H
                            have c21b0 : decide (t164 < 16) = false := decide_eq_false c21
                            clear c21
                            have H' := Aside0.mk H
                            clear H
                            go_wp2_with (first | (go_at_call 15; (with_reducible refine (sleuthlaw21_index.calls kj4 a0 t169 _ A14.out).mono ?_); rintro e w' ⟨rfl, ⟨nd, rfl⟩⟩))
                            go_meet
                            case rel => exact ⟨_, (false), (by first | rfl | (simp; done) | (simp [*]; done)), H', ⟨by have := HJ4.out; first | omega | exact Nat.le_refl _⟩, ⟨by repeat (first | (with_reducible first | exact HB.out | apply below_alloc | apply pw_below_drewN | apply below_drew1) | exact HB.out)⟩⟩
                      · rw [if_neg c19] at H
                        have c19b0 : decide (16 ≤ t164) = false := decide_eq_false c19
                        clear c19
                        by_cases c22 : t164 < 16
                        · rw [if_pos c22] at H
                          have c22b0 : decide (t164 < 16) = true := decide_eq_true c22
                          clear c22
                          have H' := Aside0.mk H
                          clear H
                          go_wp2_with (first | (go_at_call 15; (with_reducible refine (sleuthlaw21_index.calls kj4 a0 t169 _ A14.out).mono ?_); rintro e w' ⟨rfl, ⟨nd, rfl⟩⟩))
                          go_meet
                          case rel => exact ⟨_, ((t166 != t167)), (by first | rfl | (simp; done) | (simp [*]; done)), H', ⟨by have := HJ4.out; first | omega | exact Nat.le_refl _⟩, ⟨by repeat (first | (with_reducible first | exact HB.out | apply below_alloc | apply pw_below_drewN | apply below_drew1) | exact HB.out)⟩⟩
                        · rw [if_neg c22] at H
                          have c22b0 : decide (t164 < 16) = false := decide_eq_false c22
                          clear c22
                          have H' := Aside0.mk H
                          clear H
                          go_wp2_with (first | (go_at_call 15; (with_reducible refine (sleuthlaw21_index.calls kj4 a0 t169 _ A14.out).mono ?_); rintro e w' ⟨rfl, ⟨nd, rfl⟩⟩))
                          go_meet
                          case rel => exact ⟨_, (false), (by first | rfl | (simp; done) | (simp [*]; done)), H', ⟨by have := HJ4.out; first | omega | exact Nat.le_refl _⟩, ⟨by repeat (first | (with_reducible first | exact HB.out | apply below_alloc | apply pw_below_drewN | apply below_drew1) | exact HB.out)⟩⟩
                · rw [if_neg c16] at H
                  have c16b0 : (t168 == 0) = false := beq_eq_false_iff_ne.mpr c16
                  have c16b1 : (t168 != 0) = true := bne_iff_ne.mpr c16
                  have H' := Aside0.mk H
                  clear H
                  go_wp2_with (first | (go_at_call 15; (with_reducible refine (sleuthlaw21_index.calls kj4 a0 t169 _ A14.out).mono ?_); rintro e w' ⟨rfl, ⟨nd, rfl⟩⟩))
                  go_meet
                  case rel => exact ⟨_, (true), (by first | rfl | (simp; done) | (simp [*]; done)), H', ⟨by have := HJ4.out; first | omega | exact Nat.le_refl _⟩, ⟨by repeat (first | (with_reducible first | exact HB.out | apply below_alloc | apply pw_below_drewN | apply below_drew1) | exact HB.out)⟩⟩
              · rw [if_neg c15] at H
                have c15b0 : (t164 == t169) = false := beq_eq_false_iff_ne.mpr c15
                have c15b1 : (t164 != t169) = true := bne_iff_ne.mpr c15
                have H' := Aside0.mk H
                clear H
                go_wp2_with (first | (go_at_call 15; (with_reducible refine (sleuthlaw21_index.calls kj4 a0 t169 _ A14.out).mono ?_); rintro e w' ⟨rfl, ⟨nd, rfl⟩⟩))
                go_meet
                case rel => exact ⟨_, (true), (by first | rfl | (simp; done) | (simp [*]; done)), H', ⟨by have := HJ4.out; first | omega | exact Nat.le_refl _⟩, ⟨by repeat (first | (with_reducible first | exact HB.out | apply below_alloc | apply pw_below_drewN | apply below_drew1) | exact HB.out)⟩⟩
            · rw [if_neg c13] at H
              have c13b0 : (t165 == 0) = false := beq_eq_false_iff_ne.mpr c13
              have c13b1 : (t165 != 0) = true := bne_iff_ne.mpr c13
              (first | rw [c13b0] | (simp only [i64_w, i32_w]; rw [c13b0]) | skip)
              have H' := Aside0.mk H
              clear H
              go_wp2
              go_meet
              case rel => exact ⟨_, (true), (by first | rfl | (simp; done) | (simp [*]; done)), H', ⟨by have := HJ4.out; first | omega | exact Nat.le_refl _⟩, ⟨by repeat (first | (with_reducible first | exact HB.out | apply below_alloc | apply pw_below_drewN | apply below_drew1) | exact HB.out)⟩⟩
          case rest =>
            clear HC11
            try clear c1
            try clear c2
            try clear p2
            try clear c3
            try clear p6
            try clear c7
            try clear c7b0
            try clear c8
            try clear c9
            try clear c9b0
            try clear c9b1
            try clear c12
            try clear c13
            try clear c13b0
            try clear c13b1
            try clear c14
            try clear c15
            try clear c15b0
            try clear c15b1
            try clear c16
            try clear c16b0
            try clear c16b1
            try clear c17
            try clear c17b0
            try clear c18
            try clear c18b0
            try clear c19
            try clear c19b0
            try clear c20
            try clear c20b0
            try clear c21
            try clear c21b0
            try clear c22
            try clear c22b0
            try clear p2
            obtain ⟨kq, x78_10, rfl, HA, HJ10, HB⟩ := hcut
            cases kq with
            | zero => exact absurd HA.out (by simp [sleuthlaw21_HistogramIndexes.j1])
            | succ kj10 =>
              have H := HA.out
              clear HA
              simp only [sleuthlaw21_HistogramIndexes.j1] at H
              by_cases c23 : x78_10 = true
              · subst c23
                have H1 : (some false) = some r := by rw [if_pos rfl] at H; exact H
                clear H
                have H := H1
                clear H1
                obtain rfl := Option.some.inj H
                go_wp2
                go_ret
                exact ⟨by first | rfl | (simp [errW_none, errW_some] <;> rfl) | (simp [*, errW_none, errW_some] <;> rfl), by repeat (first | (with_reducible first | exact HB.out | apply below_alloc | apply pw_below_drewN | apply below_drew1) | exact HB.out)⟩
              · replace c23 := Bool.eq_false_iff.mpr c23
                subst c23
                have H1 : (if a0 = 0 then (some (t164 == 0)) else ((histogram_Index.f kj10 (wrap64 (a0 - 1))).bind fun bt170 => (if bt170.2 = 0 then (if bt170.1 = t164 then (some true) else (if bt170.1 = (wrap64 (t164 - 1)) then (some (a0 == t166)) else (some false))) else (some false)))) = some r := by rw [if_neg (show ¬ (false = true) by decide)] at H; exact H
                clear H
                have H := H1
                clear H1
                by_cases c24 : a0 = 0
                · rw [if_pos c24] at H
                  have c24b0 : (a0 == 0) = true := beq_iff_eq.mpr c24
                  have c24b1 : (a0 != 0) = false := bne_eq_false_iff_eq.mpr c24
                  clear c24
                  obtain rfl := Option.some.inj H
                  go_wp2
                  go_ret
                  exact ⟨by first | rfl | (simp [errW_none, errW_some] <;> rfl) | (simp [*, errW_none, errW_some] <;> rfl), by repeat (first | (with_reducible first | exact HB.out | apply below_alloc | apply pw_below_drewN | apply below_drew1) | exact HB.out)⟩
                · rw [if_neg c24] at H
                  have c24b0 : (a0 == 0) = false := beq_eq_false_iff_ne.mpr c24
                  have c24b1 : (a0 != 0) = true := bne_iff_ne.mpr c24
                  replace H := Option.bind_eq_some_iff.mp H
                  obtain ⟨⟨t170, t171⟩, A250, H⟩ := H
                  replace H : (if t171 = 0 then (if t170 = t164 then (some true) else (if t170 = (wrap64 (t164 - 1)) then (some (a0 == t166)) else (some false))) else (some false)) = some r := H
                  have A25 := Aside0.mk A250
                  clear A250
                  by_cases c26 : t171 = 0
                  · rw [if_pos c26] at H
                    have c26b0 : (t171 == 0) = true := beq_iff_eq.mpr c26
                    have c26b1 : (t171 != 0) = false := bne_eq_false_iff_eq.mpr c26
                    clear c26
                    by_cases c27 : t170 = t164
                    · rw [if_pos c27] at H
                      have c27b0 : (t170 == t164) = true := beq_iff_eq.mpr c27
                      have c27b1 : (t170 != t164) = false := bne_eq_false_iff_eq.mpr c27
                      clear c27
                      obtain rfl := Option.some.inj H
                      go_wp2_with (first | ((with_reducible refine gate_callee (f := 13) rfl ?_); refine goesL_ (some 86) rfl rfl Try.func13 (by kernel_rfl) rfl #[.int .i64 (wrap64 (a0 - 1))] rfl (by (try simp only [List.map_toArray, List.map_cons, List.map_nil]); first | done | rfl | (simp only [List.length_drop, List.length_take]; rfl)) ?_; (with_reducible refine (histogram_Index.calls kj10 (wrap64 (a0 - 1)) t170 t171 _ A25.out).mono ?_); rintro e w' ⟨rfl, ⟨nd, rfl⟩⟩; refine ⟨_, rfl, ?_⟩))
                      go_ret
                      exact ⟨by first | rfl | (simp [errW_none, errW_some] <;> rfl) | (simp [*, errW_none, errW_some] <;> rfl), by repeat (first | (with_reducible first | exact HB.out | apply below_alloc | apply pw_below_drewN | apply below_drew1) | exact HB.out)⟩
                    · rw [if_neg c27] at H
                      have c27b0 : (t170 == t164) = false := beq_eq_false_iff_ne.mpr c27
                      have c27b1 : (t170 != t164) = true := bne_iff_ne.mpr c27
                      by_cases c28 : t170 = (wrap64 (t164 - 1))
                      · rw [if_pos c28] at H
                        have c28b0 : (t170 == (wrap64 (t164 - 1))) = true := beq_iff_eq.mpr c28
                        have c28b1 : (t170 != (wrap64 (t164 - 1))) = false := bne_eq_false_iff_eq.mpr c28
                        clear c28
                        obtain rfl := Option.some.inj H
                        go_wp2_with (first | ((with_reducible refine gate_callee (f := 13) rfl ?_); refine goesL_ (some 86) rfl rfl Try.func13 (by kernel_rfl) rfl #[.int .i64 (wrap64 (a0 - 1))] rfl (by (try simp only [List.map_toArray, List.map_cons, List.map_nil]); first | done | rfl | (simp only [List.length_drop, List.length_take]; rfl)) ?_; (with_reducible refine (histogram_Index.calls kj10 (wrap64 (a0 - 1)) t170 t171 _ A25.out).mono ?_); rintro e w' ⟨rfl, ⟨nd, rfl⟩⟩; refine ⟨_, rfl, ?_⟩))
                        go_ret
                        exact ⟨by first | rfl | (simp [errW_none, errW_some] <;> rfl) | (simp [*, errW_none, errW_some] <;> rfl), by repeat (first | (with_reducible first | exact HB.out | apply below_alloc | apply pw_below_drewN | apply below_drew1) | exact HB.out)⟩
                      · rw [if_neg c28] at H
                        have c28b0 : (t170 == (wrap64 (t164 - 1))) = false := beq_eq_false_iff_ne.mpr c28
                        have c28b1 : (t170 != (wrap64 (t164 - 1))) = true := bne_iff_ne.mpr c28
                        obtain rfl := Option.some.inj H
                        go_wp2_with (first | ((with_reducible refine gate_callee (f := 13) rfl ?_); refine goesL_ (some 86) rfl rfl Try.func13 (by kernel_rfl) rfl #[.int .i64 (wrap64 (a0 - 1))] rfl (by (try simp only [List.map_toArray, List.map_cons, List.map_nil]); first | done | rfl | (simp only [List.length_drop, List.length_take]; rfl)) ?_; (with_reducible refine (histogram_Index.calls kj10 (wrap64 (a0 - 1)) t170 t171 _ A25.out).mono ?_); rintro e w' ⟨rfl, ⟨nd, rfl⟩⟩; refine ⟨_, rfl, ?_⟩))
                        go_ret
                        exact ⟨by first | rfl | (simp [errW_none, errW_some] <;> rfl) | (simp [*, errW_none, errW_some] <;> rfl), by repeat (first | (with_reducible first | exact HB.out | apply below_alloc | apply pw_below_drewN | apply below_drew1) | exact HB.out)⟩
                  · rw [if_neg c26] at H
                    have c26b0 : (t171 == 0) = false := beq_eq_false_iff_ne.mpr c26
                    have c26b1 : (t171 != 0) = true := bne_iff_ne.mpr c26
                    obtain rfl := Option.some.inj H
                    go_wp2_with (first | ((with_reducible refine gate_callee (f := 13) rfl ?_); refine goesL_ (some 86) rfl rfl Try.func13 (by kernel_rfl) rfl #[.int .i64 (wrap64 (a0 - 1))] rfl (by (try simp only [List.map_toArray, List.map_cons, List.map_nil]); first | done | rfl | (simp only [List.length_drop, List.length_take]; rfl)) ?_; (with_reducible refine (histogram_Index.calls kj10 (wrap64 (a0 - 1)) t170 t171 _ A25.out).mono ?_); rintro e w' ⟨rfl, ⟨nd, rfl⟩⟩; refine ⟨_, rfl, ?_⟩))
                    go_ret
                    exact ⟨by first | rfl | (simp [errW_none, errW_some] <;> rfl) | (simp [*, errW_none, errW_some] <;> rfl), by repeat (first | (with_reducible first | exact HB.out | apply below_alloc | apply pw_below_drewN | apply below_drew1) | exact HB.out)⟩
  · replace c3 := Bool.eq_false_iff.mpr c3
    subst c3
    have H1 : (some false) = some r := by rw [if_neg (show ¬ (false = true) by decide)] at H; exact H
    clear H
    have H := H1
    clear H1
    obtain rfl := Option.some.inj H
    go_enter Try.func3, Try.ntmps3
    go_wp2_with (first | ((with_reducible refine gate_callee (f := 12) rfl ?_); refine goesL_ (some 10) rfl rfl Try.func12 (by kernel_rfl) rfl #[] rfl (by (try simp only [List.map_toArray, List.map_cons, List.map_nil]); first | done | rfl | (simp only [List.length_drop, List.length_take]; rfl)) ?_; (with_reducible refine (sleuthlaw21_known.calls k  false _ A2.out).mono ?_); rintro e w29 ⟨rfl, hb⟩; refine ⟨_, rfl, ?_⟩; have n0_ := Aside0.mk (below_step (by repeat (first | (with_reducible first | exact HB.out | apply below_alloc | apply pw_below_drewN | apply below_drew1) | exact HB.out)) hb); clear HB; have HB := n0_; clear n0_; (try clear hb); (try clear hb2); (try clear hk); (try clear hi)))
    go_ret
    exact ⟨by first | rfl | (simp [errW_none, errW_some] <;> rfl) | (simp [*, errW_none, errW_some] <;> rfl), by repeat (first | (with_reducible first | exact HB.out | apply below_alloc | apply pw_below_drewN | apply below_drew1) | exact HB.out)⟩

/-- THE ONE PURE STATEMENT of sleuthlaw21_HistogramIndexes: yours. -/
def sleuthlaw21_HistogramIndexes.Pure : Prop := ∀ (a0 : Int), (Lit.int .i64 a0).wf = true → ∃ k, sleuthlaw21_HistogramIndexes.f k a0 = some true
theorem sleuthlaw21_HistogramIndexes.walk (P : sleuthlaw21_HistogramIndexes.Pure) (a0 : Int) (w : World) (w0 : (Lit.int .i64 a0).wf = true) :
    Calls Try.prog 3 #[.int .i64 a0] w fun e w' => e = .returned (.bool true) ∧ Below w.heap.size w w' := by
  obtain ⟨k, h⟩ := P a0 w0
  refine (sleuthlaw21_HistogramIndexes.calls k a0 true w h).mono ?_
  rintro e w' ⟨rfl, hd⟩
  exact ⟨rfl, hd⟩

/-! ### sleuthlaw21_low: function 16 -/
def sleuthlaw21_low.f (a0 : Int) : Option (Int) := if a0 < 16 then (some a0) else (if 0 ≤ (wrap64 ((wrap64 (Int.tdiv a0 8)) - 1)) then (some (shl .i64 (wrap64 (a0 - (wrap64 (8 * (wrap64 ((wrap64 (Int.tdiv a0 8)) - 1)))))) (wrap64 ((wrap64 (Int.tdiv a0 8)) - 1)))) else (none))
set_option maxHeartbeats 8000000 in
set_option maxRecDepth 100000 in
theorem sleuthlaw21_low.calls (a0 : Int) (r : Int) (w : World) (h : sleuthlaw21_low.f a0 = some r) :
    Calls Try.prog 16 #[.int .i64 a0] w fun e w' => e = .returned (.int .i64 r) ∧ Drawn0 w w' := by
  have H : (if a0 < 16 then (some a0) else (if 0 ≤ (wrap64 ((wrap64 (Int.tdiv a0 8)) - 1)) then (some (shl .i64 (wrap64 (a0 - (wrap64 (8 * (wrap64 ((wrap64 (Int.tdiv a0 8)) - 1)))))) (wrap64 ((wrap64 (Int.tdiv a0 8)) - 1)))) else (none))) = some r := h
  clear h
  by_cases c2 : a0 < 16
  · rw [if_pos c2] at H
    have c2b0 : decide (a0 < 16) = true := decide_eq_true c2
    clear c2
    obtain rfl := Option.some.inj H
    go_enter Try.func16, Try.ntmps16
    go_wp2
    go_ret
    exact ⟨by first | rfl | (simp; done) | (simp [*]; done), by repeat (first | exact Drawn0.refl _ | apply Drawn0.step)⟩
  · rw [if_neg c2] at H
    have c2b0 : decide (a0 < 16) = false := decide_eq_false c2
    clear c2
    obtain ⟨ji3, hji3⟩ : ∃ j_ : Int, (wrap64 ((wrap64 (Int.tdiv a0 8)) - 1)) = j_ := ⟨_, rfl⟩
    replace H : (if 0 ≤ (ji3) then (some (shl .i64 (wrap64 (a0 - (wrap64 (8 * (ji3))))) (ji3))) else (none)) = some r := by first | (rw [hji3] at H; exact H) | (simp only [hji3] at H ⊢; exact H)
    have hji3w : (IntKind.i64.wrap ((wrap64 (Int.tdiv a0 8)) - 1)) = ji3 := (i64_w _).trans hji3
    by_cases c4 : 0 ≤ (ji3)
    · rw [if_pos c4] at H
      have c4b0 := eq_true c4
      have c4b1 : decide (0 ≤ (ji3)) = true := decide_eq_true c4
      clear c4
      obtain ⟨ji5, hji5⟩ : ∃ j_ : Int, (shl .i64 (wrap64 (a0 - (wrap64 (8 * (ji3))))) (ji3)) = j_ := ⟨_, rfl⟩
      replace H : (some ji5) = some r := by first | (rw [hji5] at H; exact H) | (simp only [hji5] at H ⊢; exact H)
      have hji5_ : (IntKind.i64.wrap ((wrap64 (a0 - (wrap64 (8 * (ji3))))) * 2 ^ min (ji3).toNat 64)) = ji5 := hji5
      have hji5z : (ji3) ≤ 64 → (IntKind.i64.wrap ((wrap64 (a0 - (wrap64 (8 * (ji3))))) * 2 ^ (ji3).toNat)) = ji5 := shl_small hji5
      have hji5y : (wrap64 ((wrap64 (a0 - (wrap64 (8 * (ji3))))) * 2 ^ min (ji3).toNat 64)) = ji5 := (i64_w _).symm.trans hji5_
      have hji5x : (ji3) ≤ 64 → (wrap64 ((wrap64 (a0 - (wrap64 (8 * (ji3))))) * 2 ^ (ji3).toNat)) = ji5 := fun h_ => (i64_w _).symm.trans (hji5z h_)
      obtain rfl := Option.some.inj H
      go_enter Try.func16, Try.ntmps16
      go_wp2
      go_ret
      exact ⟨by first | rfl | (simp; done) | (simp only [← hji3, ← hji5] <;> (first | rfl | simp)) | (simp [*]; done), by repeat (first | exact Drawn0.refl _ | apply Drawn0.step)⟩
    · rw [if_neg c4] at H
      exact absurd H (by simp)

/-! ### sleuthlaw21_high: function 17 -/
def sleuthlaw21_high.f (a0 : Int) : Option (Int) := if a0 < 16 then (some a0) else (if 0 ≤ (wrap64 ((wrap64 (Int.tdiv a0 8)) - 1)) then (some (mn (wrap64 ((shl .i64 (wrap64 ((wrap64 (a0 - (wrap64 (8 * (wrap64 ((wrap64 (Int.tdiv a0 8)) - 1)))))) + 1)) (wrap64 ((wrap64 (Int.tdiv a0 8)) - 1))) - 1)) 1099511627776)) else (none))
set_option maxHeartbeats 8000000 in
set_option maxRecDepth 100000 in
theorem sleuthlaw21_high.calls (a0 : Int) (r : Int) (w : World) (h : sleuthlaw21_high.f a0 = some r) :
    Calls Try.prog 17 #[.int .i64 a0] w fun e w' => e = .returned (.int .i64 r) ∧ Below w.heap.size w w' := by
  have HB := Aside0.mk (Below.refl w.heap.size w)
  have H : (if a0 < 16 then (some a0) else (if 0 ≤ (wrap64 ((wrap64 (Int.tdiv a0 8)) - 1)) then (some (mn (wrap64 ((shl .i64 (wrap64 ((wrap64 (a0 - (wrap64 (8 * (wrap64 ((wrap64 (Int.tdiv a0 8)) - 1)))))) + 1)) (wrap64 ((wrap64 (Int.tdiv a0 8)) - 1))) - 1)) 1099511627776)) else (none))) = some r := h
  clear h
  by_cases c2 : a0 < 16
  · rw [if_pos c2] at H
    have c2b0 : decide (a0 < 16) = true := decide_eq_true c2
    clear c2
    obtain rfl := Option.some.inj H
    go_enter Try.func17, Try.ntmps17
    go_wp2
    go_ret
    exact ⟨by first | rfl | (simp [errW_none, errW_some] <;> rfl) | (simp [*, errW_none, errW_some] <;> rfl), by repeat (first | (with_reducible first | exact HB.out | apply below_alloc | apply pw_below_drewN | apply below_drew1) | exact HB.out)⟩
  · rw [if_neg c2] at H
    have c2b0 : decide (a0 < 16) = false := decide_eq_false c2
    clear c2
    obtain ⟨ji3, hji3⟩ : ∃ j_ : Int, (wrap64 ((wrap64 (Int.tdiv a0 8)) - 1)) = j_ := ⟨_, rfl⟩
    replace H : (if 0 ≤ (ji3) then (some (mn (wrap64 ((shl .i64 (wrap64 ((wrap64 (a0 - (wrap64 (8 * (ji3))))) + 1)) (ji3)) - 1)) 1099511627776)) else (none)) = some r := by first | (rw [hji3] at H; exact H) | (simp only [hji3] at H ⊢; exact H)
    have hji3w : (IntKind.i64.wrap ((wrap64 (Int.tdiv a0 8)) - 1)) = ji3 := (i64_w _).trans hji3
    by_cases c4 : 0 ≤ (ji3)
    · rw [if_pos c4] at H
      have c4b0 := eq_true c4
      have c4b1 : decide (0 ≤ (ji3)) = true := decide_eq_true c4
      clear c4
      obtain ⟨ji5, hji5⟩ : ∃ j_ : Int, (shl .i64 (wrap64 ((wrap64 (a0 - (wrap64 (8 * (ji3))))) + 1)) (ji3)) = j_ := ⟨_, rfl⟩
      replace H : (some (mn (wrap64 ((ji5) - 1)) 1099511627776)) = some r := by first | (rw [hji5] at H; exact H) | (simp only [hji5] at H ⊢; exact H)
      have hji5_ : (IntKind.i64.wrap ((wrap64 ((wrap64 (a0 - (wrap64 (8 * (ji3))))) + 1)) * 2 ^ min (ji3).toNat 64)) = ji5 := hji5
      have hji5z : (ji3) ≤ 64 → (IntKind.i64.wrap ((wrap64 ((wrap64 (a0 - (wrap64 (8 * (ji3))))) + 1)) * 2 ^ (ji3).toNat)) = ji5 := shl_small hji5
      have hji5y : (wrap64 ((wrap64 ((wrap64 (a0 - (wrap64 (8 * (ji3))))) + 1)) * 2 ^ min (ji3).toNat 64)) = ji5 := (i64_w _).symm.trans hji5_
      have hji5x : (ji3) ≤ 64 → (wrap64 ((wrap64 ((wrap64 (a0 - (wrap64 (8 * (ji3))))) + 1)) * 2 ^ (ji3).toNat)) = ji5 := fun h_ => (i64_w _).symm.trans (hji5z h_)
      obtain ⟨ji6, hji6⟩ : ∃ j_ : Int, (mn (wrap64 ((ji5) - 1)) 1099511627776) = j_ := ⟨_, rfl⟩
      replace H : (some ji6) = some r := by first | (rw [hji6] at H; exact H) | (simp only [hji6] at H ⊢; exact H)
      have hji6_ : (if 1099511627776 < (wrap64 ((ji5) - 1)) then 1099511627776 else (wrap64 ((ji5) - 1))) = ji6 := hji6
      obtain rfl := Option.some.inj H
      go_enter Try.func17, Try.ntmps17
      go_wp2
      go_ret
      exact ⟨by first | rfl | (simp [errW_none, errW_some] <;> rfl) | (simp only [← hji3, ← hji5, ← hji6]; first | rfl | (simp [errW_none, errW_some] <;> rfl)) | (simp [*, errW_none, errW_some] <;> rfl), by repeat (first | (with_reducible first | exact HB.out | apply below_alloc | apply pw_below_drewN | apply below_drew1) | exact HB.out)⟩
    · rw [if_neg c4] at H
      exact absurd H (by simp)

end Go.Proofs.Ytfnhicmjdfeanaa.PH
