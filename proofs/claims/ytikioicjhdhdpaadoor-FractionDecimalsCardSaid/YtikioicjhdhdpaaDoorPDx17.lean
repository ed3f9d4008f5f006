-- Written by a program of this session (gprint.py) out of Lean's own print of the program. Lean checks it.
import Derived.Test.YtikioicjhdhdpaaDoorPDx0
import Derived.Test.YtikioicjhdhdpaaDoorPDx9
import Derived.Test.YtikioicjhdhdpaaDoorPDx11
import Derived.Test.YtikioicjhdhdpaaDoorPDx16
namespace Go.Proofs.YtikioicjhdhdpaaDoor.PD
open Go.RowKit Go.Proofs.YtikioicjhdhdpaaDoorW.PrintWords Go.Proofs.YtikioicjhdhdpaaDoorW.PrintLast Go.Proofs.YtikioicjhdhdpaaDoorW.PrintMore
attribute [local go_sem] max2_int min2_int max_two min_two max_three min_three max_four min_four   -- for this text's walks alone
set_option linter.unusedVariables false
set_option linter.unusedSimpArgs false

/-! ### fraction_Decimal: function 10 -/
mutual
def fraction_Decimal.j0 : Nat → Int → Bool → Int → Int → Option (ByteArray × Int)
  | 0, _, _, _, _ => none
  | k + 1, x1, x16, x183000, x183001 => if x16 = true then (some ((⟨#[]⟩ : ByteArray), 2)) else (fraction_Decimal.l0 k x1 1 x1 0 x183000 x183001)
def fraction_Decimal.l0 : Nat → Int → Int → Int → Int → Int → Int → Option (ByteArray × Int)
  | 0, _, _, _, _, _, _ => none
  | k + 1, x1, x6, x17, x18, x183000, x183001 => if x18 < x17 then (fraction_Decimal.l0 k x1 (wrap64 (x6 * 10)) x17 (wrap64 (x18 + 1)) x183000 x183001) else ((fraction_floor.f (wrap64 (x183000 * x6)) x183001).bind fun t183 => (if t183 < 0 then (fraction_Decimal.j2 k x1 x6 (wrap64 (-t183)) (⟨#[45]⟩ : ByteArray)) else (fraction_Decimal.j2 k x1 x6 t183 (⟨#[]⟩ : ByteArray))))
def fraction_Decimal.j2 : Nat → Int → Int → Int → ByteArray → Option (ByteArray × Int)
  | 0, _, _, _, _ => none
  | k + 1, x1, x6, x7, x8 => if x6 = 0 then (none) else ((strconv_Itoa.f (wrap64 (Int.tdiv x7 x6))).bind fun t184 => (if x1 = 0 then (if x8.size + t184.size ≤ 9223372036854775807 then (some (x8 ++ t184, 0)) else (none)) else ((strconv_Itoa.f (Int.tmod x7 x6)).bind fun t185 => (if x8.size + t184.size ≤ 9223372036854775807 then (if (x8 ++ t184).size + 1 ≤ 9223372036854775807 then ((strings_Repeat.f (⟨#[48]⟩ : ByteArray) (wrap64 (x1 - (t185.size : Int)))).bind fun t186 => (if ((x8 ++ t184) ++ (⟨#[46]⟩ : ByteArray)).size + t186.size ≤ 9223372036854775807 then (if (((x8 ++ t184) ++ (⟨#[46]⟩ : ByteArray)) ++ t186).size + t185.size ≤ 9223372036854775807 then (some ((((x8 ++ t184) ++ (⟨#[46]⟩ : ByteArray)) ++ t186) ++ t185, 0)) else (none)) else (none))) else (none)) else (none)))))
end
def fraction_Decimal.f (k : Nat) (a0_0 : Int) (a0_1 : Int) (a1 : Int) : Option (ByteArray × Int) := if a1 < 0 then (fraction_Decimal.j0 k a1 true a0_0 a0_1) else (fraction_Decimal.j0 k a1 (decide (a1 > 6)) a0_0 a0_1)
theorem fraction_Decimal.mono_l : ∀ k, (∀ y0 y1 y2 y3, LeO (fraction_Decimal.j0 k y0 y1 y2 y3) (fraction_Decimal.j0 (k + 1) y0 y1 y2 y3)) ∧ (∀ y0 y1 y2 y3 y4 y5, LeO (fraction_Decimal.l0 k y0 y1 y2 y3 y4 y5) (fraction_Decimal.l0 (k + 1) y0 y1 y2 y3 y4 y5)) ∧ (∀ y0 y1 y2 y3, LeO (fraction_Decimal.j2 k y0 y1 y2 y3) (fraction_Decimal.j2 (k + 1) y0 y1 y2 y3))
  | 0 => ⟨fun _ _ _ _ r h => by simp [fraction_Decimal.j0] at h, fun _ _ _ _ _ _ r h => by simp [fraction_Decimal.l0] at h, fun _ _ _ _ r h => by simp [fraction_Decimal.j2] at h⟩
  | k + 1 => by
    obtain ⟨ih0, ih1, ih2⟩ := fraction_Decimal.mono_l k
    refine ⟨?_, ?_, ?_⟩
    · intro y0 y1 y2 y3
      unfold fraction_Decimal.j0
      repeat' first
      | (with_reducible exact ih0 _ _ _ _)
      | (with_reducible exact ih1 _ _ _ _ _ _)
      | (with_reducible exact ih2 _ _ _ _)
      | (with_reducible exact LeO.refl _)
      | (with_reducible exact LeO.none _)
      | (with_reducible refine LeO.ite ?_ ?_)
      | (with_reducible refine LeO.bind ?_ (fun _ => ?_))
      | exact ih0 _ _ _ _
      | exact ih1 _ _ _ _ _ _
      | exact ih2 _ _ _ _
      | exact LeO.none _
      | refine LeO.ite ?_ ?_
      | refine LeO.bind ?_ (fun _ => ?_)
    · intro y0 y1 y2 y3 y4 y5
      unfold fraction_Decimal.l0
      repeat' first
      | (with_reducible exact ih0 _ _ _ _)
      | (with_reducible exact ih1 _ _ _ _ _ _)
      | (with_reducible exact ih2 _ _ _ _)
      | (with_reducible exact LeO.refl _)
      | (with_reducible exact LeO.none _)
      | (with_reducible refine LeO.ite ?_ ?_)
      | (with_reducible refine LeO.bind ?_ (fun _ => ?_))
      | exact ih0 _ _ _ _
      | exact ih1 _ _ _ _ _ _
      | exact ih2 _ _ _ _
      | exact LeO.none _
      | refine LeO.ite ?_ ?_
      | refine LeO.bind ?_ (fun _ => ?_)
    · intro y0 y1 y2 y3
      unfold fraction_Decimal.j2
      repeat' first
      | (with_reducible exact ih0 _ _ _ _)
      | (with_reducible exact ih1 _ _ _ _ _ _)
      | (with_reducible exact ih2 _ _ _ _)
      | (with_reducible exact LeO.refl _)
      | (with_reducible exact LeO.none _)
      | (with_reducible refine LeO.ite ?_ ?_)
      | (with_reducible refine LeO.bind ?_ (fun _ => ?_))
      | exact ih0 _ _ _ _
      | exact ih1 _ _ _ _ _ _
      | exact ih2 _ _ _ _
      | exact LeO.none _
      | refine LeO.ite ?_ ?_
      | refine LeO.bind ?_ (fun _ => ?_)
theorem fraction_Decimal.mono : ∀ a0 a1 a2 k, LeO (fraction_Decimal.f k a0 a1 a2) (fraction_Decimal.f (k + 1) a0 a1 a2) := by
  intro a0 a1 a2 k
  obtain ⟨ih0, ih1, ih2⟩ := fraction_Decimal.mono_l k
  unfold fraction_Decimal.f
  repeat' first
      | (with_reducible exact ih0 _ _ _ _)
      | (with_reducible exact ih1 _ _ _ _ _ _)
      | (with_reducible exact ih2 _ _ _ _)
      | (with_reducible exact LeO.refl _)
      | (with_reducible exact LeO.none _)
      | (with_reducible refine LeO.ite ?_ ?_)
      | (with_reducible refine LeO.bind ?_ (fun _ => ?_))
      | exact ih0 _ _ _ _
      | exact ih1 _ _ _ _ _ _
      | exact ih2 _ _ _ _
      | exact LeO.none _
      | refine LeO.ite ?_ ?_
      | refine LeO.bind ?_ (fun _ => ?_)
set_option maxHeartbeats 8000000 in
set_option maxRecDepth 100000 in
theorem fraction_Decimal.calls (k : Nat) (a0_0 : Int) (a0_1 : Int) (a1 : Int) (r1 : ByteArray) (r2 : Int) (w : World) (h : fraction_Decimal.f k a0_0 a0_1 a1 = some (r1, r2)) (HTAB_ : Lib.TabIs Tryd.prog w "internal/strconv.uint64pow10" .u64 Lib.pow10Tab := by exact tab_in HTAB_.out (by repeat (first | (with_reducible first | exact HB.out | apply below_alloc | apply pw_below_drewN | apply below_drew1) | exact HB.out))) :
    Calls Tryd.prog 10 #[.agg #[.int .i64 a0_0, .int .i64 a0_1], .int .i64 a1] w fun e w' => e = .returned (.tuple #[.string r1, .int .i64 r2]) ∧ Below w.heap.size w w' := by
  replace HTAB_ : Aside0 (Lib.TabIs Tryd.prog w "internal/strconv.uint64pow10" .u64 Lib.pow10Tab) := ⟨HTAB_⟩
  have hu23 := Tryd.underlying23
  have HB := Aside0.mk (Below.refl w.heap.size w)
  have H : (if a1 < 0 then (fraction_Decimal.j0 k a1 true a0_0 a0_1) else (fraction_Decimal.j0 k a1 (decide (a1 > 6)) a0_0 a0_1)) = some (r1, r2) := h
  clear h
  have HC3 := Aside0.mk H
  clear H
  go_enter Tryd.func10, Tryd.ntmps10
  go_upto_region 1 with (first | ((with_reducible refine gate_dst (N := 2) rfl ?_); refine box_event ?hg (N := 2) ?hd (cs := #[.int .i64 a0_0, .int .i64 a0_1]) (t := 23) ?hr ?_; (case hd => rfl); (case hg => rfl); (case hr => first | (go_simp; done) | (go_simp; rfl)); intro gb182 hg w4 hbox hb; have n0_ := Aside0.mk (below_step (by repeat (first | (with_reducible first | exact HB.out | apply below_alloc | apply pw_below_drewN | apply below_drew1) | exact HB.out)) hb); have n1_ := Aside0.mk (hbox); have n2_ := Aside0.mk ((by rw [hg]; exact (below_size (by repeat (first | (with_reducible first | exact HB.out | apply below_alloc | apply pw_below_drewN | apply below_drew1) | exact HB.out))) : w.heap.size ≤ gb182)); have n3_ := Aside0.mk ((by rw [hg]; exact (below_size (by repeat (first | (with_reducible first | exact HB.out | apply below_alloc | apply pw_below_drewN | apply below_drew1) | exact HB.out))) : w.heap.size ≤ gb182)); clear HB; have HB := n0_; have BK182 := n1_; have GW182 := n2_; have GE182 := n3_; clear n0_ n1_ n2_ n3_; clear hb hbox hg))
  (try simp only [Act.put, List.setIfInBounds_toArray, List.set_cons_zero, List.set_cons_succ])
  go_cut [16] (fun v16 wc => ∃ (kq : Nat) (x16_2 : Bool), v16 = .bool x16_2 ∧ Aside0 (fraction_Decimal.j0 kq a1 x16_2 a0_0 a0_1 = some (r1, r2)) ∧ Aside0 (kq ≤ k) ∧ Aside0 (wc.heap[gb182]? = some (.cells #[.int .i64 a0_0, .int .i64 a0_1] 23 (0, 0))) ∧ Aside0 (Below w.heap.size w wc))
  case first =>
    have H := HC3.out
    clear HC3
    by_cases c5 : a1 < 0
    · rw [if_pos c5] at H
      have c5b0 : decide (a1 < 0) = true := decide_eq_true c5
      clear c5
      (first | rw [c5b0] | (simp only [i64_w, i32_w]; rw [c5b0]) | skip)
      have H' := Aside0.mk H
      clear H
      go_wp2
      go_meet
      case rel => exact ⟨_, (true), (by first | rfl | (simp; done) | (simp [*]; done)), H', ⟨by first | omega | exact Nat.le_refl _⟩, ⟨by (with_reducible repeat (first | refine blk_drewN ?_ _ | refine blk_drew ?_ | refine blk_alloc ?_ _)); exact BK182.out⟩, ⟨by repeat (first | (with_reducible first | exact HB.out | apply below_alloc | apply pw_below_drewN | apply below_drew1 | refine below_set ?_ GE182.out) | exact HB.out)⟩⟩
    · rw [if_neg c5] at H
      have c5b0 : decide (a1 < 0) = false := decide_eq_false c5
      clear c5
      (first | rw [c5b0] | (simp only [i64_w, i32_w]; rw [c5b0]) | skip)
      have H' := Aside0.mk H
      clear H
      go_wp2
      go_meet
      case rel => exact ⟨_, (decide (a1 > 6)), (by first | rfl | (simp; done) | (simp [*]; done)), H', ⟨by first | omega | exact Nat.le_refl _⟩, ⟨by (with_reducible repeat (first | refine blk_drewN ?_ _ | refine blk_drew ?_ | refine blk_alloc ?_ _)); exact BK182.out⟩, ⟨by repeat (first | (with_reducible first | exact HB.out | apply below_alloc | apply pw_below_drewN | apply below_drew1 | refine below_set ?_ GE182.out) | exact HB.out)⟩⟩
  case rest =>
    clear HC3
    try clear c1
    try clear p2
    try clear c5
    try clear c5b0
    obtain ⟨kq, x16_2, rfl, HA, HJ2, BK182, HB⟩ := hcut
    cases kq with
    | zero => exact absurd HA.out (by simp [fraction_Decimal.j0])
    | succ kj2 =>
      have H := HA.out
      clear HA
      simp only [fraction_Decimal.j0] at H
      by_cases c6 : x16_2 = true
      · subst c6
        have H1 : (some ((⟨#[]⟩ : ByteArray), 2)) = some (r1, r2) := by rw [if_pos rfl] at H; exact H
        clear H
        have H := H1
        clear H1
        simp only [Option.some.injEq, Prod.mk.injEq] at H
        obtain ⟨rfl, rfl⟩ := H
        go_wp2
        go_ret2
        exact ⟨by first | rfl | (simp [errW_none, errW_some] <;> rfl) | (simp [*, errW_none, errW_some] <;> rfl), by repeat (first | (with_reducible first | exact HB.out | apply below_alloc | apply pw_below_drewN | apply below_drew1 | refine below_set ?_ GE182.out) | exact HB.out)⟩
      · replace c6 := Bool.eq_false_iff.mpr c6
        subst c6
        have H1 : (fraction_Decimal.l0 kj2 a1 1 a1 0 a0_0 a0_1) = some (r1, r2) := by rw [if_neg (show ¬ (false = true) by decide)] at H; exact H
        clear H
        have H := H1
        clear H1
        have H' := Aside0.mk H
        clear H
        go_wp2
        go_loopg [6, 18] kj2 (fun kq v6 v18 w' => ∃ (x6_2 : Int) (x18_2 : Int), v6 = .int .i64 x6_2 ∧ v18 = .int .i64 x18_2 ∧ Aside0 (fraction_Decimal.l0 kq a1 x6_2 a1 x18_2 a0_0 a0_1 = some (r1, r2)) ∧ Aside0 (kq ≤ kj2) ∧ Aside0 (w'.heap[gb182]? = some (.cells #[.int .i64 a0_0, .int .i64 a0_1] 23 (0, 0))) ∧ Aside0 (Below w.heap.size w w'))
        case atStart => exact ⟨(1), (0), (by first | rfl | (simp; done) | (simp [*]; done)), (by first | rfl | (simp; done) | (simp [*]; done)), H', ⟨Nat.le_refl _⟩, ⟨by (with_reducible repeat (first | refine blk_drewN ?_ _ | refine blk_drew ?_ | refine blk_alloc ?_ _)); exact BK182.out⟩, ⟨by repeat (first | (with_reducible first | exact HB.out | apply below_alloc | apply pw_below_drewN | apply below_drew1 | refine below_set ?_ GE182.out) | exact HB.out)⟩⟩
        case round =>
          clear H'
          try clear c1
          try clear p2
          try clear c5
          try clear c5b0
          try clear c6
          try clear p2
          obtain ⟨x6_2, x18_2, rfl, rfl, HA, HK2, BK182, HB⟩ := hrel
          cases gk with
          | zero => exact absurd HA.out (by simp [fraction_Decimal.l0])
          | succ k2 =>
            have H := HA.out
            clear HA
            simp only [fraction_Decimal.l0] at H
            by_cases c7 : x18_2 < a1
            · rw [if_pos c7] at H
              have c7b0 : decide (x18_2 < a1) = true := decide_eq_true c7
              clear c7
              have H' := Aside0.mk H
              clear H
              go_wp2
              go_roundg k2
              case measure => have := HJ2.out; have := HK2.out; omega
              case rel => exact ⟨(wrap64 (x6_2 * 10)), (wrap64 (x18_2 + 1)), (by first | rfl | (simp; done) | (simp [*]; done)), (by first | rfl | (simp; done) | (simp [*]; done)), H', ⟨by have := HJ2.out; have := HK2.out; omega⟩, ⟨by (with_reducible repeat (first | refine blk_drewN ?_ _ | refine blk_drew ?_ | refine blk_alloc ?_ _)); exact BK182.out⟩, ⟨by repeat (first | (with_reducible first | exact HB.out | apply below_alloc | apply pw_below_drewN | apply below_drew1 | refine below_set ?_ GE182.out) | exact HB.out)⟩⟩
            · rw [if_neg c7] at H
              have c7b0 : decide (x18_2 < a1) = false := decide_eq_false c7
              clear c7
              replace H := Option.bind_eq_some_iff.mp H
              obtain ⟨t183, A80, H⟩ := H
              replace H : (if t183 < 0 then (fraction_Decimal.j2 k2 a1 x6_2 (wrap64 (-t183)) (⟨#[45]⟩ : ByteArray)) else (fraction_Decimal.j2 k2 a1 x6_2 t183 (⟨#[]⟩ : ByteArray))) = some (r1, r2) := H
              have A8 := Aside0.mk A80
              clear A80
              have HC9 := Aside0.mk H
              clear H
              have hcz10_0 : wr.cell? ⟨gb182, 0, none⟩ = some (.int .i64 a0_0) := (blk_cell BK182.out 0).trans rfl
              have hcz10_1 : wr.cell? ⟨gb182, 1, none⟩ = some (.int .i64 a0_1) := (blk_cell BK182.out 1).trans rfl
              have hfz10_0 := blk_frozen BK182.out 0
              have hfz10_1 := blk_frozen BK182.out 1
              go_upto_if 31 with (first | ((with_reducible refine gate_callee (f := 24) rfl ?_); refine goesL_ (some 29) rfl rfl Tryd.func24 (by kernel_rfl) rfl #[.int .i64 (wrap64 (a0_0 * x6_2)), .int .i64 a0_1] rfl (by (try simp only [List.map_toArray, List.map_cons, List.map_nil]); first | done | rfl | (simp only [List.length_drop, List.length_take]; rfl)) ?_; (with_reducible refine (fraction_floor.calls (wrap64 (a0_0 * x6_2)) a0_1 t183 _ A8.out).mono ?_); rintro e w' ⟨rfl, ⟨nd, rfl⟩⟩; refine ⟨_, rfl, ?_⟩))
              (try simp only [Act.put, List.setIfInBounds_toArray, List.set_cons_zero, List.set_cons_succ])
              go_cut [7, 8] (fun v7 v8 wc => ∃ (kq : Nat) (x7_8 : Int) (x8_8 : ByteArray), v7 = .int .i64 x7_8 ∧ v8 = .string x8_8 ∧ Aside0 (fraction_Decimal.j2 kq a1 x6_2 x7_8 x8_8 = some (r1, r2)) ∧ Aside0 (kq ≤ k2) ∧ Aside0 (wc.heap[gb182]? = some (.cells #[.int .i64 a0_0, .int .i64 a0_1] 23 (0, 0))) ∧ Aside0 (Below w.heap.size w wc))
              case first =>
                have H := HC9.out
                clear HC9
                by_cases c11 : t183 < 0
                · rw [if_pos c11] at H
                  have c11b0 : decide (t183 < 0) = true := decide_eq_true c11
                  clear c11
                  (first | rw [c11b0] | (simp only [i64_w, i32_w]; rw [c11b0]) | skip)
                  have H' := Aside0.mk H
                  clear H
                  go_wp2
                  go_meet
                  case rel => exact ⟨_, (wrap64 (-t183)), ((⟨#[45]⟩ : ByteArray)), (by first | rfl | (simp; done) | (simp [*]; done)), (by first | rfl | (simp; done) | (simp [*]; done)), H', ⟨by have := HJ2.out; have := HK2.out; first | omega | exact Nat.le_refl _⟩, ⟨by (with_reducible repeat (first | refine blk_drewN ?_ _ | refine blk_drew ?_ | refine blk_alloc ?_ _)); exact BK182.out⟩, ⟨by repeat (first | (with_reducible first | exact HB.out | apply below_alloc | apply pw_below_drewN | apply below_drew1 | refine below_set ?_ GE182.out) | exact HB.out)⟩⟩
                · rw [if_neg c11] at H
                  have c11b0 : decide (t183 < 0) = false := decide_eq_false c11
                  clear c11
                  (first | rw [c11b0] | (simp only [i64_w, i32_w]; rw [c11b0]) | skip)
                  have H' := Aside0.mk H
                  clear H
                  go_wp2
                  go_meet
                  case rel => exact ⟨_, (t183), ((⟨#[]⟩ : ByteArray)), (by first | rfl | (simp; done) | (simp [*]; done)), (by first | rfl | (simp; done) | (simp [*]; done)), H', ⟨by have := HJ2.out; have := HK2.out; first | omega | exact Nat.le_refl _⟩, ⟨by (with_reducible repeat (first | refine blk_drewN ?_ _ | refine blk_drew ?_ | refine blk_alloc ?_ _)); exact BK182.out⟩, ⟨by repeat (first | (with_reducible first | exact HB.out | apply below_alloc | apply pw_below_drewN | apply below_drew1 | refine below_set ?_ GE182.out) | exact HB.out)⟩⟩
              case rest =>
                clear HC9
                try clear c1
                try clear c2
                try clear p2
                try clear c5
                try clear c5b0
                try clear c6
                try clear p6
                try clear c7
                try clear c7b0
                try clear c10
                try clear c11
                try clear c11b0
                try clear hcz10_0
                try clear hcz10_1
                try clear hfz10_0
                try clear hfz10_1
                try clear p2
                obtain ⟨kq, x7_8, x8_8, rfl, rfl, HA, HJ8, BK182, HB⟩ := hcut
                cases kq with
                | zero => exact absurd HA.out (by simp [fraction_Decimal.j2])
                | succ kj8 =>
                  have H := HA.out
                  clear HA
                  simp only [fraction_Decimal.j2] at H
                  by_cases c12 : x6_2 = 0
                  · rw [if_pos c12] at H
                    exact absurd H (by simp)
                  · rw [if_neg c12] at H
                    have c12b0 : (x6_2 == 0) = false := beq_eq_false_iff_ne.mpr c12
                    have c12b1 : (x6_2 != 0) = true := bne_iff_ne.mpr c12
                    replace H := Option.bind_eq_some_iff.mp H
                    obtain ⟨t184, A130, H⟩ := H
                    replace H : (if a1 = 0 then (if x8_8.size + t184.size ≤ 9223372036854775807 then (some (x8_8 ++ t184, 0)) else (none)) else ((strconv_Itoa.f (Int.tmod x7_8 x6_2)).bind fun t185 => (if x8_8.size + t184.size ≤ 9223372036854775807 then (if (x8_8 ++ t184).size + 1 ≤ 9223372036854775807 then ((strings_Repeat.f (⟨#[48]⟩ : ByteArray) (wrap64 (a1 - (t185.size : Int)))).bind fun t186 => (if ((x8_8 ++ t184) ++ (⟨#[46]⟩ : ByteArray)).size + t186.size ≤ 9223372036854775807 then (if (((x8_8 ++ t184) ++ (⟨#[46]⟩ : ByteArray)) ++ t186).size + t185.size ≤ 9223372036854775807 then (some ((((x8_8 ++ t184) ++ (⟨#[46]⟩ : ByteArray)) ++ t186) ++ t185, 0)) else (none)) else (none))) else (none)) else (none)))) = some (r1, r2) := H
                    have A13 := Aside0.mk A130
                    clear A130
                    by_cases c14 : a1 = 0
                    · rw [if_pos c14] at H
                      have c14b0 : (a1 == 0) = true := beq_iff_eq.mpr c14
                      have c14b1 : (a1 != 0) = false := bne_eq_false_iff_eq.mpr c14
                      clear c14
                      by_cases c15 : x8_8.size + t184.size ≤ 9223372036854775807
                      · rw [if_pos c15] at H
                        have c15b0 := eq_true c15
                        have c15b1 : decide (x8_8.size + t184.size ≤ 9223372036854775807) = true := decide_eq_true c15
                        try have c15b2 : (9223372036854775807 < x8_8.size + t184.size) = False := eq_false (Nat.not_lt.2 c15)
                        simp only [Option.some.injEq, Prod.mk.injEq] at H
                        obtain ⟨rfl, rfl⟩ := H
                        go_wp2_with (first | ((with_reducible refine gate_callee (f := 18) rfl ?_); refine goesL_ (some 37) rfl rfl Tryd.func18 (by kernel_rfl) rfl #[.int .i64 (wrap64 (Int.tdiv x7_8 x6_2))] rfl (by (try simp only [List.map_toArray, List.map_cons, List.map_nil]); first | done | rfl | (simp only [List.length_drop, List.length_take]; rfl)) ?_; (with_reducible refine (strconv_Itoa.calls (wrap64 (Int.tdiv x7_8 x6_2)) t184 _ A13.out).mono ?_); rintro e w16 ⟨rfl, hb⟩; refine ⟨_, rfl, ?_⟩; have n0_ := Aside0.mk (blk_below (g := gb182) (o := .cells #[.int .i64 a0_0, .int .i64 a0_1] 23 (0, 0)) (by (with_reducible repeat (first | refine blk_drewN ?_ _ | refine blk_drew ?_ | refine blk_alloc ?_ _)); exact BK182.out) hb); have n1_ := Aside0.mk (below_step (by repeat (first | (with_reducible first | exact HB.out | apply below_alloc | apply pw_below_drewN | apply below_drew1 | refine below_set ?_ GE182.out) | exact HB.out)) hb); clear BK182; clear HB; have BK182 := n0_; have HB := n1_; clear n0_ n1_; (try clear hb); (try clear hb2); (try clear hk); (try clear hi)))
                        go_ret2
                        exact ⟨by first | rfl | (simp [errW_none, errW_some] <;> rfl) | (simp [*, errW_none, errW_some] <;> rfl), by repeat (first | (with_reducible first | exact HB.out | apply below_alloc | apply pw_below_drewN | apply below_drew1 | refine below_set ?_ GE182.out) | exact HB.out)⟩
                      · rw [if_neg c15] at H
                        exact absurd H (by simp)
                    · rw [if_neg c14] at H
                      have c14b0 : (a1 == 0) = false := beq_eq_false_iff_ne.mpr c14
                      have c14b1 : (a1 != 0) = true := bne_iff_ne.mpr c14
                      replace H := Option.bind_eq_some_iff.mp H
                      obtain ⟨t185, A170, H⟩ := H
                      replace H : (if x8_8.size + t184.size ≤ 9223372036854775807 then (if (x8_8 ++ t184).size + 1 ≤ 9223372036854775807 then ((strings_Repeat.f (⟨#[48]⟩ : ByteArray) (wrap64 (a1 - (t185.size : Int)))).bind fun t186 => (if ((x8_8 ++ t184) ++ (⟨#[46]⟩ : ByteArray)).size + t186.size ≤ 9223372036854775807 then (if (((x8_8 ++ t184) ++ (⟨#[46]⟩ : ByteArray)) ++ t186).size + t185.size ≤ 9223372036854775807 then (some ((((x8_8 ++ t184) ++ (⟨#[46]⟩ : ByteArray)) ++ t186) ++ t185, 0)) else (none)) else (none))) else (none)) else (none)) = some (r1, r2) := H
                      have A17 := Aside0.mk A170
                      clear A170
                      by_cases c18 : x8_8.size + t184.size ≤ 9223372036854775807
                      · rw [if_pos c18] at H
                        have c18b0 := eq_true c18
                        have c18b1 : decide (x8_8.size + t184.size ≤ 9223372036854775807) = true := decide_eq_true c18
                        try have c18b2 : (9223372036854775807 < x8_8.size + t184.size) = False := eq_false (Nat.not_lt.2 c18)
                        by_cases c19 : (x8_8 ++ t184).size + 1 ≤ 9223372036854775807
                        · rw [if_pos c19] at H
                          have c19b0 := eq_true c19
                          (try have c19b9 : (9223372036854775807 < x8_8.size + t184.size + 1) = False := eq_false (by have h_ := c19; simp only [ByteArray.size_append] at h_; omega))
                          have c19b1 : decide ((x8_8 ++ t184).size + 1 ≤ 9223372036854775807) = true := decide_eq_true c19
                          try have c19b2 : (9223372036854775807 < (x8_8 ++ t184).size + 1) = False := eq_false (Nat.not_lt.2 c19)
                          replace H := Option.bind_eq_some_iff.mp H
                          obtain ⟨t186, A200, H⟩ := H
                          replace H : (if ((x8_8 ++ t184) ++ (⟨#[46]⟩ : ByteArray)).size + t186.size ≤ 9223372036854775807 then (if (((x8_8 ++ t184) ++ (⟨#[46]⟩ : ByteArray)) ++ t186).size + t185.size ≤ 9223372036854775807 then (some ((((x8_8 ++ t184) ++ (⟨#[46]⟩ : ByteArray)) ++ t186) ++ t185, 0)) else (none)) else (none)) = some (r1, r2) := H
                          have A20 := Aside0.mk A200
                          clear A200
                          by_cases c21 : ((x8_8 ++ t184) ++ (⟨#[46]⟩ : ByteArray)).size + t186.size ≤ 9223372036854775807
                          · rw [if_pos c21] at H
                            have c21b0 := eq_true c21
                            (try have c21b9 : (9223372036854775807 < x8_8.size + t184.size + 1 + t186.size) = False := eq_false (by have h_ := c21; simp only [ByteArray.size_append] at h_; have e0_ : (⟨#[46]⟩ : ByteArray).size = 1 := rfl; omega))
                            have c21b1 : decide (((x8_8 ++ t184) ++ (⟨#[46]⟩ : ByteArray)).size + t186.size ≤ 9223372036854775807) = true := decide_eq_true c21
                            try have c21b2 : (9223372036854775807 < ((x8_8 ++ t184) ++ (⟨#[46]⟩ : ByteArray)).size + t186.size) = False := eq_false (Nat.not_lt.2 c21)
                            by_cases c22 : (((x8_8 ++ t184) ++ (⟨#[46]⟩ : ByteArray)) ++ t186).size + t185.size ≤ 9223372036854775807
                            · rw [if_pos c22] at H
                              have c22b0 := eq_true c22
                              (try have c22b9 : (9223372036854775807 < x8_8.size + t184.size + 1 + t186.size + t185.size) = False := eq_false (by have h_ := c22; simp only [ByteArray.size_append] at h_; have e0_ : (⟨#[46]⟩ : ByteArray).size = 1 := rfl; omega))
                              have c22b1 : decide ((((x8_8 ++ t184) ++ (⟨#[46]⟩ : ByteArray)) ++ t186).size + t185.size ≤ 9223372036854775807) = true := decide_eq_true c22
                              try have c22b2 : (9223372036854775807 < (((x8_8 ++ t184) ++ (⟨#[46]⟩ : ByteArray)) ++ t186).size + t185.size) = False := eq_false (Nat.not_lt.2 c22)
                              simp only [Option.some.injEq, Prod.mk.injEq] at H
                              obtain ⟨rfl, rfl⟩ := H
                              go_wp2_with (first | ((with_reducible refine gate_callee (f := 18) rfl ?_); refine goesL_ (some 37) rfl rfl Tryd.func18 (by kernel_rfl) rfl #[.int .i64 (wrap64 (Int.tdiv x7_8 x6_2))] rfl (by (try simp only [List.map_toArray, List.map_cons, List.map_nil]); first | done | rfl | (simp only [List.length_drop, List.length_take]; rfl)) ?_; (with_reducible refine (strconv_Itoa.calls (wrap64 (Int.tdiv x7_8 x6_2)) t184 _ A13.out).mono ?_); rintro e w23 ⟨rfl, hb⟩; refine ⟨_, rfl, ?_⟩; have n0_ := Aside0.mk (blk_below (g := gb182) (o := .cells #[.int .i64 a0_0, .int .i64 a0_1] 23 (0, 0)) (by (with_reducible repeat (first | refine blk_drewN ?_ _ | refine blk_drew ?_ | refine blk_alloc ?_ _)); exact BK182.out) hb); have n1_ := Aside0.mk (below_step (by repeat (first | (with_reducible first | exact HB.out | apply below_alloc | apply pw_below_drewN | apply below_drew1 | refine below_set ?_ GE182.out) | exact HB.out)) hb); clear BK182; clear HB; have BK182 := n0_; have HB := n1_; clear n0_ n1_; (try clear hb); (try clear hb2); (try clear hk); (try clear hi)) | ((with_reducible refine gate_callee (f := 18) rfl ?_); refine goesL_ (some 46) rfl rfl Tryd.func18 (by kernel_rfl) rfl #[.int .i64 (Int.tmod x7_8 x6_2)] rfl (by (try simp only [List.map_toArray, List.map_cons, List.map_nil]); first | done | rfl | (simp only [List.length_drop, List.length_take]; rfl)) ?_; (with_reducible refine (strconv_Itoa.calls (Int.tmod x7_8 x6_2) t185 _ A17.out).mono ?_); rintro e w24 ⟨rfl, hb⟩; refine ⟨_, rfl, ?_⟩; have n0_ := Aside0.mk (blk_below (g := gb182) (o := .cells #[.int .i64 a0_0, .int .i64 a0_1] 23 (0, 0)) (by (with_reducible repeat (first | refine blk_drewN ?_ _ | refine blk_drew ?_ | refine blk_alloc ?_ _)); exact BK182.out) hb); have n1_ := Aside0.mk (below_step (by repeat (first | (with_reducible first | exact HB.out | apply below_alloc | apply pw_below_drewN | apply below_drew1 | refine below_set ?_ GE182.out) | exact HB.out)) hb); clear BK182; clear HB; have BK182 := n0_; have HB := n1_; clear n0_ n1_; (try clear hb); (try clear hb2); (try clear hk); (try clear hi)) | ((with_reducible refine gate_callee (f := 25) rfl ?_); refine goesL_ (some 55) rfl rfl Tryd.func25 (by kernel_rfl) rfl #[.string (⟨#[48]⟩ : ByteArray), .int .i64 (wrap64 (a1 - (t185.size : Int)))] rfl (by (try simp only [List.map_toArray, List.map_cons, List.map_nil]); first | done | rfl | (simp only [List.length_drop, List.length_take]; rfl)) ?_; (with_reducible refine (strings_Repeat.calls (⟨#[48]⟩ : ByteArray) (wrap64 (a1 - (t185.size : Int))) t186 _ A20.out).mono ?_); rintro e w25 ⟨rfl, hb⟩; refine ⟨_, rfl, ?_⟩; have n0_ := Aside0.mk (blk_below (g := gb182) (o := .cells #[.int .i64 a0_0, .int .i64 a0_1] 23 (0, 0)) (by (with_reducible repeat (first | refine blk_drewN ?_ _ | refine blk_drew ?_ | refine blk_alloc ?_ _)); exact BK182.out) hb); have n1_ := Aside0.mk (below_step (by repeat (first | (with_reducible first | exact HB.out | apply below_alloc | apply pw_below_drewN | apply below_drew1 | refine below_set ?_ GE182.out) | exact HB.out)) hb); clear BK182; clear HB; have BK182 := n0_; have HB := n1_; clear n0_ n1_; (try clear hb); (try clear hb2); (try clear hk); (try clear hi)))
                              go_ret2
                              exact ⟨by first | rfl | (simp [errW_none, errW_some] <;> rfl) | (simp [*, errW_none, errW_some] <;> rfl), by repeat (first | (with_reducible first | exact HB.out | apply below_alloc | apply pw_below_drewN | apply below_drew1 | refine below_set ?_ GE182.out) | exact HB.out)⟩
                            · rw [if_neg c22] at H
                              exact absurd H (by simp)
                          · rw [if_neg c21] at H
                            exact absurd H (by simp)
                        · rw [if_neg c19] at H
                          exact absurd H (by simp)
                      · rw [if_neg c18] at H
                        exact absurd H (by simp)

end Go.Proofs.YtikioicjhdhdpaaDoor.PD
