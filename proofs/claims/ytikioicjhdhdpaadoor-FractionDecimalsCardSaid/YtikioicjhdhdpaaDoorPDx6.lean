-- Written by a program of this session (gprint.py) out of Lean's own print of the program. Lean checks it.
import Derived.Test.YtikioicjhdhdpaaDoorPDx0
import Derived.Test.YtikioicjhdhdpaaDoorPDx3
import Derived.Test.YtikioicjhdhdpaaDoorPDx4
import Derived.Test.YtikioicjhdhdpaaDoorPDx5
namespace Go.Proofs.YtikioicjhdhdpaaDoor.PD
open Go.RowKit Go.Proofs.YtikioicjhdhdpaaDoorW.PrintWords Go.Proofs.YtikioicjhdhdpaaDoorW.PrintLast Go.Proofs.YtikioicjhdhdpaaDoorW.PrintMore
attribute [local go_sem] max2_int min2_int max_two min_two max_three min_three max_four min_four   -- for this text's walks alone
set_option linter.unusedVariables false
set_option linter.unusedSimpArgs false

/-! ### fraction_Parse: function 8 -/
mutual
def fraction_Parse.j2 : Nat → Bool → Bool → Int → Int → Bool → Option (Int × Int × Int)
  | 0, _, _, _, _, _ => none
  | k + 1, x4, x5, x6, x7, x8 => if x8 = true then (if x5 = true then (if x4 = true then ((fraction_Make.f k (wrap64 (-x6)) (wrap64 (x7 * 100))).bind fun bt139 => (some (bt139.1, bt139.2.1, bt139.2.2))) else ((fraction_Make.f k x6 (wrap64 (x7 * 100))).bind fun bt142 => (some (bt142.1, bt142.2.1, bt142.2.2)))) else (if x4 = true then ((fraction_Make.f k (wrap64 (-x6)) x7).bind fun bt145 => (some (bt145.1, bt145.2.1, bt145.2.2))) else ((fraction_Make.f k x6 x7).bind fun bt148 => (some (bt148.1, bt148.2.1, bt148.2.2))))) else (some (0, 0, 14))
def fraction_Parse.j0 : Nat → Bool → Bool → Int → Int → Bool → ByteArray → Option (Int × Int × Int)
  | 0, _, _, _, _, _, _ => none
  | k + 1, x4, x5, x6, x7, x8, x14 => fraction_Parse.l0 k x4 x5 x6 x7 x8 x14 0
def fraction_Parse.l0 : Nat → Bool → Bool → Int → Int → Bool → ByteArray → Nat → Option (Int × Int × Int)
  | 0, _, _, _, _, _, _, _ => none
  | k + 1, x4, x5, x6, x7, x8, x14, x91 => if x91 < x14.size then (fraction_Parse.l0 k x4 x5 x6 (wrap64 (x7 * 10)) x8 x14 (x91 + (Utf8.decode x14 x91).2)) else (fraction_Parse.j2 k x4 x5 x6 x7 x8)
end
def fraction_Parse.f (k : Nat) (a0 : ByteArray) : Option (Int × Int × Int) := if (a0.size : Int) > 16 then (some (0, 0, 5)) else ((strings_CutPrefix.f a0 (⟨#[45]⟩ : ByteArray)).bind fun bt117 => ((strings_CutSuffix.f bt117.1 (⟨#[37]⟩ : ByteArray)).bind fun bt119 => ((strings_Cut.f bt119.1 (⟨#[47]⟩ : ByteArray)).bind fun bt121 => (if bt121.2.2 = true then ((fraction_digits.f bt121.1).bind fun bt124 => ((fraction_digits.f bt121.2.1).bind fun bt126 => (if bt124.2 = true then (if bt126.2 = true then (fraction_Parse.j2 k bt117.2 bt119.2 bt124.1 bt126.1 (!bt119.2)) else (fraction_Parse.j2 k bt117.2 bt119.2 bt124.1 bt126.1 false)) else (fraction_Parse.j2 k bt117.2 bt119.2 bt124.1 bt126.1 false)))) else ((strings_Cut.f bt119.1 (⟨#[46]⟩ : ByteArray)).bind fun bt128 => (if bt128.2.2 = true then ((fraction_digits.f bt128.1).bind fun bt131 => ((fraction_digits.f bt128.2.1).bind fun bt133 => (if bt128.1.size + bt128.2.1.size ≤ 9223372036854775807 then ((fraction_digits.f (bt128.1 ++ bt128.2.1)).bind fun bt135 => (if bt135.2 = true then (if bt131.2 = true then (fraction_Parse.j0 k bt117.2 bt119.2 bt135.1 1 bt133.2 bt128.2.1) else (fraction_Parse.j0 k bt117.2 bt119.2 bt135.1 1 false bt128.2.1)) else (fraction_Parse.j0 k bt117.2 bt119.2 bt135.1 1 false bt128.2.1))) else (none)))) else ((fraction_digits.f bt119.1).bind fun bt137 => (fraction_Parse.j2 k bt117.2 bt119.2 bt137.1 1 bt137.2))))))))
theorem fraction_Parse.mono_l : ∀ k, (∀ y0 y1 y2 y3 y4, LeO (fraction_Parse.j2 k y0 y1 y2 y3 y4) (fraction_Parse.j2 (k + 1) y0 y1 y2 y3 y4)) ∧ (∀ y0 y1 y2 y3 y4 y5, LeO (fraction_Parse.j0 k y0 y1 y2 y3 y4 y5) (fraction_Parse.j0 (k + 1) y0 y1 y2 y3 y4 y5)) ∧ (∀ y0 y1 y2 y3 y4 y5 y6, LeO (fraction_Parse.l0 k y0 y1 y2 y3 y4 y5 y6) (fraction_Parse.l0 (k + 1) y0 y1 y2 y3 y4 y5 y6))
  | 0 => ⟨fun _ _ _ _ _ r h => by simp [fraction_Parse.j2] at h, fun _ _ _ _ _ _ r h => by simp [fraction_Parse.j0] at h, fun _ _ _ _ _ _ _ r h => by simp [fraction_Parse.l0] at h⟩
  | k + 1 => by
    obtain ⟨ih0, ih1, ih2⟩ := fraction_Parse.mono_l k
    refine ⟨?_, ?_, ?_⟩
    · intro y0 y1 y2 y3 y4
      unfold fraction_Parse.j2
      repeat' first
      | (with_reducible exact ih0 _ _ _ _ _)
      | (with_reducible exact ih1 _ _ _ _ _ _)
      | (with_reducible exact ih2 _ _ _ _ _ _ _)
      | (with_reducible exact fraction_Make.mono _ _ _)
      | (with_reducible exact LeO.refl _)
      | (with_reducible exact LeO.none _)
      | (with_reducible refine LeO.ite ?_ ?_)
      | (with_reducible refine LeO.bind ?_ (fun _ => ?_))
      | exact ih0 _ _ _ _ _
      | exact ih1 _ _ _ _ _ _
      | exact ih2 _ _ _ _ _ _ _
      | exact fraction_Make.mono _ _ _
      | exact LeO.none _
      | refine LeO.ite ?_ ?_
      | refine LeO.bind ?_ (fun _ => ?_)
    · intro y0 y1 y2 y3 y4 y5
      unfold fraction_Parse.j0
      repeat' first
      | (with_reducible exact ih0 _ _ _ _ _)
      | (with_reducible exact ih1 _ _ _ _ _ _)
      | (with_reducible exact ih2 _ _ _ _ _ _ _)
      | (with_reducible exact fraction_Make.mono _ _ _)
      | (with_reducible exact LeO.refl _)
      | (with_reducible exact LeO.none _)
      | (with_reducible refine LeO.ite ?_ ?_)
      | (with_reducible refine LeO.bind ?_ (fun _ => ?_))
      | exact ih0 _ _ _ _ _
      | exact ih1 _ _ _ _ _ _
      | exact ih2 _ _ _ _ _ _ _
      | exact fraction_Make.mono _ _ _
      | exact LeO.none _
      | refine LeO.ite ?_ ?_
      | refine LeO.bind ?_ (fun _ => ?_)
    · intro y0 y1 y2 y3 y4 y5 y6
      unfold fraction_Parse.l0
      repeat' first
      | (with_reducible exact ih0 _ _ _ _ _)
      | (with_reducible exact ih1 _ _ _ _ _ _)
      | (with_reducible exact ih2 _ _ _ _ _ _ _)
      | (with_reducible exact fraction_Make.mono _ _ _)
      | (with_reducible exact LeO.refl _)
      | (with_reducible exact LeO.none _)
      | (with_reducible refine LeO.ite ?_ ?_)
      | (with_reducible refine LeO.bind ?_ (fun _ => ?_))
      | exact ih0 _ _ _ _ _
      | exact ih1 _ _ _ _ _ _
      | exact ih2 _ _ _ _ _ _ _
      | exact fraction_Make.mono _ _ _
      | exact LeO.none _
      | refine LeO.ite ?_ ?_
      | refine LeO.bind ?_ (fun _ => ?_)
theorem fraction_Parse.mono : ∀ a0 k, LeO (fraction_Parse.f k a0) (fraction_Parse.f (k + 1) a0) := by
  intro a0 k
  obtain ⟨ih0, ih1, ih2⟩ := fraction_Parse.mono_l k
  unfold fraction_Parse.f
  repeat' first
      | (with_reducible exact ih0 _ _ _ _ _)
      | (with_reducible exact ih1 _ _ _ _ _ _)
      | (with_reducible exact ih2 _ _ _ _ _ _ _)
      | (with_reducible exact fraction_Make.mono _ _ _)
      | (with_reducible exact LeO.refl _)
      | (with_reducible exact LeO.none _)
      | (with_reducible refine LeO.ite ?_ ?_)
      | (with_reducible refine LeO.bind ?_ (fun _ => ?_))
      | exact ih0 _ _ _ _ _
      | exact ih1 _ _ _ _ _ _
      | exact ih2 _ _ _ _ _ _ _
      | exact fraction_Make.mono _ _ _
      | exact LeO.none _
      | refine LeO.ite ?_ ?_
      | refine LeO.bind ?_ (fun _ => ?_)
set_option maxHeartbeats 8000000 in
set_option maxRecDepth 100000 in
theorem fraction_Parse.calls (k : Nat) (a0 : ByteArray) (r1 : Int) (r2 : Int) (r3 : Int) (w : World) (h : fraction_Parse.f k a0 = some (r1, r2, r3)) :
    Calls Tryd.prog 8 #[.string a0] w fun e w' => e = .returned (.tuple #[.agg #[.int .i64 r1, .int .i64 r2], .int .i64 r3]) ∧ Below w.heap.size w w' := by
  have hu24 := Tryd.underlying23
  have HB := Aside0.mk (Below.refl w.heap.size w)
  have H : (if (a0.size : Int) > 16 then (some (0, 0, 5)) else ((strings_CutPrefix.f a0 (⟨#[45]⟩ : ByteArray)).bind fun bt117 => ((strings_CutSuffix.f bt117.1 (⟨#[37]⟩ : ByteArray)).bind fun bt119 => ((strings_Cut.f bt119.1 (⟨#[47]⟩ : ByteArray)).bind fun bt121 => (if bt121.2.2 = true then ((fraction_digits.f bt121.1).bind fun bt124 => ((fraction_digits.f bt121.2.1).bind fun bt126 => (if bt124.2 = true then (if bt126.2 = true then (fraction_Parse.j2 k bt117.2 bt119.2 bt124.1 bt126.1 (!bt119.2)) else (fraction_Parse.j2 k bt117.2 bt119.2 bt124.1 bt126.1 false)) else (fraction_Parse.j2 k bt117.2 bt119.2 bt124.1 bt126.1 false)))) else ((strings_Cut.f bt119.1 (⟨#[46]⟩ : ByteArray)).bind fun bt128 => (if bt128.2.2 = true then ((fraction_digits.f bt128.1).bind fun bt131 => ((fraction_digits.f bt128.2.1).bind fun bt133 => (if bt128.1.size + bt128.2.1.size ≤ 9223372036854775807 then ((fraction_digits.f (bt128.1 ++ bt128.2.1)).bind fun bt135 => (if bt135.2 = true then (if bt131.2 = true then (fraction_Parse.j0 k bt117.2 bt119.2 bt135.1 1 bt133.2 bt128.2.1) else (fraction_Parse.j0 k bt117.2 bt119.2 bt135.1 1 false bt128.2.1)) else (fraction_Parse.j0 k bt117.2 bt119.2 bt135.1 1 false bt128.2.1))) else (none)))) else ((fraction_digits.f bt119.1).bind fun bt137 => (fraction_Parse.j2 k bt117.2 bt119.2 bt137.1 1 bt137.2))))))))) = some (r1, r2, r3) := h
  clear h
  by_cases c2 : (a0.size : Int) > 16
  · rw [if_pos c2] at H
    have c2b0 : decide (16 < (a0.size : Int)) = true := decide_eq_true c2
    have c2b1 : decide (16 < a0.size) = true := decide_eq_true (by omega)
    clear c2
    simp only [Option.some.injEq, Prod.mk.injEq] at H
    obtain ⟨rfl, rfl, rfl⟩ := H
    go_enter Tryd.func8, Tryd.ntmps8
    go_wp2_with (first | ((with_reducible refine gate_dst (N := 2) rfl ?_); refine box_event ?hg (N := 2) ?hd (cs := #[.int .i64 0, .int .i64 0]) (t := 23) ?hr ?_; (case hd => rfl); (case hg => rfl); (case hr => first | (go_simp; done) | (go_simp; rfl)); intro gb116 hg w3 hbox hb; have n0_ := Aside0.mk (below_step (by repeat (first | (with_reducible first | exact HB.out | apply below_alloc | apply pw_below_drewN | apply below_drew1) | exact HB.out)) hb); have n1_ := Aside0.mk (hbox); have n2_ := Aside0.mk ((by rw [hg]; exact (below_size (by repeat (first | (with_reducible first | exact HB.out | apply below_alloc | apply pw_below_drewN | apply below_drew1) | exact HB.out))) : w.heap.size ≤ gb116)); have n3_ := Aside0.mk ((by rw [hg]; exact (below_size (by repeat (first | (with_reducible first | exact HB.out | apply below_alloc | apply pw_below_drewN | apply below_drew1) | exact HB.out))) : w.heap.size ≤ gb116)); clear HB; have HB := n0_; have BK116 := n1_; have GW116 := n2_; have GE116 := n3_; clear n0_ n1_ n2_ n3_; clear hb hbox hg; have hcz4_0 : w3.cell? ⟨gb116, 0, none⟩ = some (.int .i64 0) := (blk_cell BK116.out 0).trans rfl; have hcz4_1 : w3.cell? ⟨gb116, 1, none⟩ = some (.int .i64 0) := (blk_cell BK116.out 1).trans rfl; have hfz4_0 := blk_frozen BK116.out 0; have hfz4_1 := blk_frozen BK116.out 1))
    refine bodyPost_ret (results_ct rfl _ _ gb116 23 #[.int .i64 0, .int .i64 0] (0, 0) _ rfl (by (with_reducible repeat (first | refine blk_drewN ?_ _ | refine blk_drew ?_ | refine blk_alloc ?_ _)); refine blk_put (cs := #[.int .i64 0, .int .i64 0]) ?_ 1 _ rfl; (with_reducible repeat (first | refine blk_drewN ?_ _ | refine blk_drew ?_ | refine blk_alloc ?_ _)); refine blk_put (cs := #[.int .i64 0, .int .i64 0]) ?_ 0 _ rfl; (with_reducible repeat (first | refine blk_drewN ?_ _ | refine blk_drew ?_ | refine blk_alloc ?_ _)); exact BK116.out) Tryd.underlying23 rfl (by kernel_rfl)) rfl ?_
    exact ⟨by first | rfl | (simp [errW_none, errW_some] <;> rfl) | (simp [*, errW_none, errW_some] <;> rfl), by repeat (first | (with_reducible first | exact HB.out | apply below_alloc | apply pw_below_drewN | apply below_drew1 | refine below_set ?_ GE116.out) | exact HB.out)⟩
  · rw [if_neg c2] at H
    have c2b0 : decide (16 < (a0.size : Int)) = false := decide_eq_false c2
    have c2b1 : decide (16 < a0.size) = false := decide_eq_false (by omega)
    clear c2
    replace H := Option.bind_eq_some_iff.mp H
    obtain ⟨⟨t117, t118⟩, A50, H⟩ := H
    replace H : ((strings_CutSuffix.f t117 (⟨#[37]⟩ : ByteArray)).bind fun bt119 => ((strings_Cut.f bt119.1 (⟨#[47]⟩ : ByteArray)).bind fun bt121 => (if bt121.2.2 = true then ((fraction_digits.f bt121.1).bind fun bt124 => ((fraction_digits.f bt121.2.1).bind fun bt126 => (if bt124.2 = true then (if bt126.2 = true then (fraction_Parse.j2 k t118 bt119.2 bt124.1 bt126.1 (!bt119.2)) else (fraction_Parse.j2 k t118 bt119.2 bt124.1 bt126.1 false)) else (fraction_Parse.j2 k t118 bt119.2 bt124.1 bt126.1 false)))) else ((strings_Cut.f bt119.1 (⟨#[46]⟩ : ByteArray)).bind fun bt128 => (if bt128.2.2 = true then ((fraction_digits.f bt128.1).bind fun bt131 => ((fraction_digits.f bt128.2.1).bind fun bt133 => (if bt128.1.size + bt128.2.1.size ≤ 9223372036854775807 then ((fraction_digits.f (bt128.1 ++ bt128.2.1)).bind fun bt135 => (if bt135.2 = true then (if bt131.2 = true then (fraction_Parse.j0 k t118 bt119.2 bt135.1 1 bt133.2 bt128.2.1) else (fraction_Parse.j0 k t118 bt119.2 bt135.1 1 false bt128.2.1)) else (fraction_Parse.j0 k t118 bt119.2 bt135.1 1 false bt128.2.1))) else (none)))) else ((fraction_digits.f bt119.1).bind fun bt137 => (fraction_Parse.j2 k t118 bt119.2 bt137.1 1 bt137.2))))))) = some (r1, r2, r3) := H
    have A5 := Aside0.mk A50
    clear A50
    replace H := Option.bind_eq_some_iff.mp H
    obtain ⟨⟨t119, t120⟩, A60, H⟩ := H
    replace H : ((strings_Cut.f t119 (⟨#[47]⟩ : ByteArray)).bind fun bt121 => (if bt121.2.2 = true then ((fraction_digits.f bt121.1).bind fun bt124 => ((fraction_digits.f bt121.2.1).bind fun bt126 => (if bt124.2 = true then (if bt126.2 = true then (fraction_Parse.j2 k t118 t120 bt124.1 bt126.1 (!t120)) else (fraction_Parse.j2 k t118 t120 bt124.1 bt126.1 false)) else (fraction_Parse.j2 k t118 t120 bt124.1 bt126.1 false)))) else ((strings_Cut.f t119 (⟨#[46]⟩ : ByteArray)).bind fun bt128 => (if bt128.2.2 = true then ((fraction_digits.f bt128.1).bind fun bt131 => ((fraction_digits.f bt128.2.1).bind fun bt133 => (if bt128.1.size + bt128.2.1.size ≤ 9223372036854775807 then ((fraction_digits.f (bt128.1 ++ bt128.2.1)).bind fun bt135 => (if bt135.2 = true then (if bt131.2 = true then (fraction_Parse.j0 k t118 t120 bt135.1 1 bt133.2 bt128.2.1) else (fraction_Parse.j0 k t118 t120 bt135.1 1 false bt128.2.1)) else (fraction_Parse.j0 k t118 t120 bt135.1 1 false bt128.2.1))) else (none)))) else ((fraction_digits.f t119).bind fun bt137 => (fraction_Parse.j2 k t118 t120 bt137.1 1 bt137.2)))))) = some (r1, r2, r3) := H
    have A6 := Aside0.mk A60
    clear A60
    replace H := Option.bind_eq_some_iff.mp H
    obtain ⟨⟨t121, t122, t123⟩, A70, H⟩ := H
    replace H : (if t123 = true then ((fraction_digits.f t121).bind fun bt124 => ((fraction_digits.f t122).bind fun bt126 => (if bt124.2 = true then (if bt126.2 = true then (fraction_Parse.j2 k t118 t120 bt124.1 bt126.1 (!t120)) else (fraction_Parse.j2 k t118 t120 bt124.1 bt126.1 false)) else (fraction_Parse.j2 k t118 t120 bt124.1 bt126.1 false)))) else ((strings_Cut.f t119 (⟨#[46]⟩ : ByteArray)).bind fun bt128 => (if bt128.2.2 = true then ((fraction_digits.f bt128.1).bind fun bt131 => ((fraction_digits.f bt128.2.1).bind fun bt133 => (if bt128.1.size + bt128.2.1.size ≤ 9223372036854775807 then ((fraction_digits.f (bt128.1 ++ bt128.2.1)).bind fun bt135 => (if bt135.2 = true then (if bt131.2 = true then (fraction_Parse.j0 k t118 t120 bt135.1 1 bt133.2 bt128.2.1) else (fraction_Parse.j0 k t118 t120 bt135.1 1 false bt128.2.1)) else (fraction_Parse.j0 k t118 t120 bt135.1 1 false bt128.2.1))) else (none)))) else ((fraction_digits.f t119).bind fun bt137 => (fraction_Parse.j2 k t118 t120 bt137.1 1 bt137.2))))) = some (r1, r2, r3) := H
    have A7 := Aside0.mk A70
    clear A70
    have HC8 := Aside0.mk H
    clear H
    go_enter Tryd.func8, Tryd.ntmps8
    go_upto_if 40 with (first | ((with_reducible refine gate_dst (N := 2) rfl ?_); refine box_event ?hg (N := 2) ?hd (cs := #[.int .i64 0, .int .i64 0]) (t := 23) ?hr ?_; (case hd => rfl); (case hg => rfl); (case hr => first | (go_simp; done) | (go_simp; rfl)); intro gb116 hg w9 hbox hb; have n0_ := Aside0.mk (below_step (by repeat (first | (with_reducible first | exact HB.out | apply below_alloc | apply pw_below_drewN | apply below_drew1) | exact HB.out)) hb); have n1_ := Aside0.mk (hbox); have n2_ := Aside0.mk ((by rw [hg]; exact (below_size (by repeat (first | (with_reducible first | exact HB.out | apply below_alloc | apply pw_below_drewN | apply below_drew1) | exact HB.out))) : w.heap.size ≤ gb116)); have n3_ := Aside0.mk ((by rw [hg]; exact (below_size (by repeat (first | (with_reducible first | exact HB.out | apply below_alloc | apply pw_below_drewN | apply below_drew1) | exact HB.out))) : w.heap.size ≤ gb116)); clear HB; have HB := n0_; have BK116 := n1_; have GW116 := n2_; have GE116 := n3_; clear n0_ n1_ n2_ n3_; clear hb hbox hg) | ((with_reducible refine gate_callee (f := 19) rfl ?_); refine goesL_ (some 26) rfl rfl Tryd.func19 (by kernel_rfl) rfl #[.string a0, .string (⟨#[45]⟩ : ByteArray)] rfl (by (try simp only [List.map_toArray, List.map_cons, List.map_nil]); first | done | rfl | (simp only [List.length_drop, List.length_take]; rfl)) ?_; (with_reducible refine (strings_CutPrefix.calls a0 (⟨#[45]⟩ : ByteArray) t117 t118 _ A5.out).mono ?_); rintro e w' ⟨rfl, ⟨nd, rfl⟩⟩; refine ⟨_, rfl, ?_⟩) | ((with_reducible refine gate_callee (f := 20) rfl ?_); refine goesL_ (some 31) rfl rfl Tryd.func20 (by kernel_rfl) rfl #[.string t117, .string (⟨#[37]⟩ : ByteArray)] rfl (by (try simp only [List.map_toArray, List.map_cons, List.map_nil]); first | done | rfl | (simp only [List.length_drop, List.length_take]; rfl)) ?_; (with_reducible refine (strings_CutSuffix.calls t117 (⟨#[37]⟩ : ByteArray) t119 t120 _ A6.out).mono ?_); rintro e w' ⟨rfl, ⟨nd, rfl⟩⟩; refine ⟨_, rfl, ?_⟩) | ((with_reducible refine gate_callee (f := 21) rfl ?_); refine goesL_ (some 36) rfl rfl Tryd.func21 (by kernel_rfl) rfl #[.string t119, .string (⟨#[47]⟩ : ByteArray)] rfl (by (try simp only [List.map_toArray, List.map_cons, List.map_nil]); first | done | rfl | (simp only [List.length_drop, List.length_take]; rfl)) ?_; (with_reducible refine (strings_Cut.calls t119 (⟨#[47]⟩ : ByteArray) t121 t122 t123 _ A7.out).mono ?_); rintro e w' ⟨rfl, ⟨nd, rfl⟩⟩; refine ⟨_, rfl, ?_⟩))
    (try simp only [Act.put, List.setIfInBounds_toArray, List.set_cons_zero, List.set_cons_succ])
    go_cut [6, 7, 8] (fun v6 v7 v8 wc => ∃ (kq : Nat) (x6_7 : Int) (x7_7 : Int) (x8_7 : Bool), v6 = .int .i64 x6_7 ∧ v7 = .int .i64 x7_7 ∧ v8 = .bool x8_7 ∧ Aside0 (fraction_Parse.j2 kq t118 t120 x6_7 x7_7 x8_7 = some (r1, r2, r3)) ∧ Aside0 (kq ≤ k) ∧ Aside0 (wc.heap[gb116]? = some (.cells #[.int .i64 0, .int .i64 0] 23 (0, 0))) ∧ Aside0 (Below w.heap.size w wc))
    case first =>
      have H := HC8.out
      clear HC8
      by_cases c10 : t123 = true
      · subst c10
        have H1 : ((fraction_digits.f t121).bind fun bt124 => ((fraction_digits.f t122).bind fun bt126 => (if bt124.2 = true then (if bt126.2 = true then (fraction_Parse.j2 k t118 t120 bt124.1 bt126.1 (!t120)) else (fraction_Parse.j2 k t118 t120 bt124.1 bt126.1 false)) else (fraction_Parse.j2 k t118 t120 bt124.1 bt126.1 false)))) = some (r1, r2, r3) := by rw [if_pos rfl] at H; exact H
        clear H
        have H := H1
        clear H1
        replace H := Option.bind_eq_some_iff.mp H
        obtain ⟨⟨t124, t125⟩, A110, H⟩ := H
        replace H : ((fraction_digits.f t122).bind fun bt126 => (if t125 = true then (if bt126.2 = true then (fraction_Parse.j2 k t118 t120 t124 bt126.1 (!t120)) else (fraction_Parse.j2 k t118 t120 t124 bt126.1 false)) else (fraction_Parse.j2 k t118 t120 t124 bt126.1 false))) = some (r1, r2, r3) := H
        have A11 := Aside0.mk A110
        clear A110
        replace H := Option.bind_eq_some_iff.mp H
        obtain ⟨⟨t126, t127⟩, A120, H⟩ := H
        replace H : (if t125 = true then (if t127 = true then (fraction_Parse.j2 k t118 t120 t124 t126 (!t120)) else (fraction_Parse.j2 k t118 t120 t124 t126 false)) else (fraction_Parse.j2 k t118 t120 t124 t126 false)) = some (r1, r2, r3) := H
        have A12 := Aside0.mk A120
        clear A120
        by_cases c13 : t125 = true
        · subst c13
          have H1 : (if t127 = true then (fraction_Parse.j2 k t118 t120 t124 t126 (!t120)) else (fraction_Parse.j2 k t118 t120 t124 t126 false)) = some (r1, r2, r3) := by rw [if_pos rfl] at H; exact H
          clear H
          have H := H1
          clear H1
          by_cases c14 : t127 = true
          · subst c14
            have H1 : (fraction_Parse.j2 k t118 t120 t124 t126 (!t120)) = some (r1, r2, r3) := by rw [if_pos rfl] at H; exact H
            clear H
            have H := H1
            clear H1
            have H' := Aside0.mk H
            clear H
            go_wp2_with (first | ((with_reducible refine gate_callee (f := 22) rfl ?_); refine goesL_ (some 43) rfl rfl Tryd.func22 (by kernel_rfl) rfl #[.string t121] rfl (by (try simp only [List.map_toArray, List.map_cons, List.map_nil]); first | done | rfl | (simp only [List.length_drop, List.length_take]; rfl)) ?_; (with_reducible refine (fraction_digits.calls t121 t124 true _ A11.out).mono ?_); rintro e w15 ⟨rfl, hb⟩; refine ⟨_, rfl, ?_⟩; have n0_ := Aside0.mk (blk_below (g := gb116) (o := .cells #[.int .i64 0, .int .i64 0] 23 (0, 0)) (by (with_reducible repeat (first | refine blk_drewN ?_ _ | refine blk_drew ?_ | refine blk_alloc ?_ _)); exact BK116.out) hb); have n1_ := Aside0.mk (below_step (by repeat (first | (with_reducible first | exact HB.out | apply below_alloc | apply pw_below_drewN | apply below_drew1 | refine below_set ?_ GE116.out) | exact HB.out)) hb); clear BK116; clear HB; have BK116 := n0_; have HB := n1_; clear n0_ n1_; (try clear hb); (try clear hb2); (try clear hk); (try clear hi)) | ((with_reducible refine gate_callee (f := 22) rfl ?_); refine goesL_ (some 48) rfl rfl Tryd.func22 (by kernel_rfl) rfl #[.string t122] rfl (by (try simp only [List.map_toArray, List.map_cons, List.map_nil]); first | done | rfl | (simp only [List.length_drop, List.length_take]; rfl)) ?_; (with_reducible refine (fraction_digits.calls t122 t126 true _ A12.out).mono ?_); rintro e w16 ⟨rfl, hb⟩; refine ⟨_, rfl, ?_⟩; have n0_ := Aside0.mk (blk_below (g := gb116) (o := .cells #[.int .i64 0, .int .i64 0] 23 (0, 0)) (by (with_reducible repeat (first | refine blk_drewN ?_ _ | refine blk_drew ?_ | refine blk_alloc ?_ _)); exact BK116.out) hb); have n1_ := Aside0.mk (below_step (by repeat (first | (with_reducible first | exact HB.out | apply below_alloc | apply pw_below_drewN | apply below_drew1 | refine below_set ?_ GE116.out) | exact HB.out)) hb); clear BK116; clear HB; have BK116 := n0_; have HB := n1_; clear n0_ n1_; (try clear hb); (try clear hb2); (try clear hk); (try clear hi)))
            go_meet
            case rel => exact ⟨_, (t124), (t126), (!t120), (by first | rfl | (simp; done) | (simp [*]; done)), (by first | rfl | (simp; done) | (simp [*]; done)), (by first | rfl | (simp; done) | (simp [*]; done)), H', ⟨by first | omega | exact Nat.le_refl _⟩, ⟨by (with_reducible repeat (first | refine blk_drewN ?_ _ | refine blk_drew ?_ | refine blk_alloc ?_ _)); exact BK116.out⟩, ⟨by repeat (first | (with_reducible first | exact HB.out | apply below_alloc | apply pw_below_drewN | apply below_drew1 | refine below_set ?_ GE116.out) | exact HB.out)⟩⟩
          · replace c14 := Bool.eq_false_iff.mpr c14
            subst c14
            have H1 : (fraction_Parse.j2 k t118 t120 t124 t126 false) = some (r1, r2, r3) := by rw [if_neg (show ¬ (false = true) by decide)] at H; exact H
            clear H
            have H := H1
            clear H1
            have H' := Aside0.mk H
            clear H
            go_wp2_with (first | ((with_reducible refine gate_callee (f := 22) rfl ?_); refine goesL_ (some 43) rfl rfl Tryd.func22 (by kernel_rfl) rfl #[.string t121] rfl (by (try simp only [List.map_toArray, List.map_cons, List.map_nil]); first | done | rfl | (simp only [List.length_drop, List.length_take]; rfl)) ?_; (with_reducible refine (fraction_digits.calls t121 t124 true _ A11.out).mono ?_); rintro e w17 ⟨rfl, hb⟩; refine ⟨_, rfl, ?_⟩; have n0_ := Aside0.mk (blk_below (g := gb116) (o := .cells #[.int .i64 0, .int .i64 0] 23 (0, 0)) (by (with_reducible repeat (first | refine blk_drewN ?_ _ | refine blk_drew ?_ | refine blk_alloc ?_ _)); exact BK116.out) hb); have n1_ := Aside0.mk (below_step (by repeat (first | (with_reducible first | exact HB.out | apply below_alloc | apply pw_below_drewN | apply below_drew1 | refine below_set ?_ GE116.out) | exact HB.out)) hb); clear BK116; clear HB; have BK116 := n0_; have HB := n1_; clear n0_ n1_; (try clear hb); (try clear hb2); (try clear hk); (try clear hi)) | ((with_reducible refine gate_callee (f := 22) rfl ?_); refine goesL_ (some 48) rfl rfl Tryd.func22 (by kernel_rfl) rfl #[.string t122] rfl (by (try simp only [List.map_toArray, List.map_cons, List.map_nil]); first | done | rfl | (simp only [List.length_drop, List.length_take]; rfl)) ?_; (with_reducible refine (fraction_digits.calls t122 t126 false _ A12.out).mono ?_); rintro e w18 ⟨rfl, hb⟩; refine ⟨_, rfl, ?_⟩; have n0_ := Aside0.mk (blk_below (g := gb116) (o := .cells #[.int .i64 0, .int .i64 0] 23 (0, 0)) (by (with_reducible repeat (first | refine blk_drewN ?_ _ | refine blk_drew ?_ | refine blk_alloc ?_ _)); exact BK116.out) hb); have n1_ := Aside0.mk (below_step (by repeat (first | (with_reducible first | exact HB.out | apply below_alloc | apply pw_below_drewN | apply below_drew1 | refine below_set ?_ GE116.out) | exact HB.out)) hb); clear BK116; clear HB; have BK116 := n0_; have HB := n1_; clear n0_ n1_; (try clear hb); (try clear hb2); (try clear hk); (try clear hi)))
            go_meet
            case rel => exact ⟨_, (t124), (t126), (false), (by first | rfl | (simp; done) | (simp [*]; done)), (by first | rfl | (simp; done) | (simp [*]; done)), (by first | rfl | (simp; done) | (simp [*]; done)), H', ⟨by first | omega | exact Nat.le_refl _⟩, ⟨by (with_reducible repeat (first | refine blk_drewN ?_ _ | refine blk_drew ?_ | refine blk_alloc ?_ _)); exact BK116.out⟩, ⟨by repeat (first | (with_reducible first | exact HB.out | apply below_alloc | apply pw_below_drewN | apply below_drew1 | refine below_set ?_ GE116.out) | exact HB.out)⟩⟩
        · replace c13 := Bool.eq_false_iff.mpr c13
          subst c13
          have H1 : (fraction_Parse.j2 k t118 t120 t124 t126 false) = some (r1, r2, r3) := by rw [if_neg (show ¬ (false = true) by decide)] at H; exact H
          clear H
          have H := H1
          clear H1
          have H' := Aside0.mk H
          clear H
          go_wp2_with (first | ((with_reducible refine gate_callee (f := 22) rfl ?_); refine goesL_ (some 43) rfl rfl Tryd.func22 (by kernel_rfl) rfl #[.string t121] rfl (by (try simp only [List.map_toArray, List.map_cons, List.map_nil]); first | done | rfl | (simp only [List.length_drop, List.length_take]; rfl)) ?_; (with_reducible refine (fraction_digits.calls t121 t124 false _ A11.out).mono ?_); rintro e w19 ⟨rfl, hb⟩; refine ⟨_, rfl, ?_⟩; have n0_ := Aside0.mk (blk_below (g := gb116) (o := .cells #[.int .i64 0, .int .i64 0] 23 (0, 0)) (by (with_reducible repeat (first | refine blk_drewN ?_ _ | refine blk_drew ?_ | refine blk_alloc ?_ _)); exact BK116.out) hb); have n1_ := Aside0.mk (below_step (by repeat (first | (with_reducible first | exact HB.out | apply below_alloc | apply pw_below_drewN | apply below_drew1 | refine below_set ?_ GE116.out) | exact HB.out)) hb); clear BK116; clear HB; have BK116 := n0_; have HB := n1_; clear n0_ n1_; (try clear hb); (try clear hb2); (try clear hk); (try clear hi)) | ((with_reducible refine gate_callee (f := 22) rfl ?_); refine goesL_ (some 48) rfl rfl Tryd.func22 (by kernel_rfl) rfl #[.string t122] rfl (by (try simp only [List.map_toArray, List.map_cons, List.map_nil]); first | done | rfl | (simp only [List.length_drop, List.length_take]; rfl)) ?_; (with_reducible refine (fraction_digits.calls t122 t126 t127 _ A12.out).mono ?_); rintro e w20 ⟨rfl, hb⟩; refine ⟨_, rfl, ?_⟩; have n0_ := Aside0.mk (blk_below (g := gb116) (o := .cells #[.int .i64 0, .int .i64 0] 23 (0, 0)) (by (with_reducible repeat (first | refine blk_drewN ?_ _ | refine blk_drew ?_ | refine blk_alloc ?_ _)); exact BK116.out) hb); have n1_ := Aside0.mk (below_step (by repeat (first | (with_reducible first | exact HB.out | apply below_alloc | apply pw_below_drewN | apply below_drew1 | refine below_set ?_ GE116.out) | exact HB.out)) hb); clear BK116; clear HB; have BK116 := n0_; have HB := n1_; clear n0_ n1_; (try clear hb); (try clear hb2); (try clear hk); (try clear hi)))
          go_meet
          case rel => exact ⟨_, (t124), (t126), (false), (by first | rfl | (simp; done) | (simp [*]; done)), (by first | rfl | (simp; done) | (simp [*]; done)), (by first | rfl | (simp; done) | (simp [*]; done)), H', ⟨by first | omega | exact Nat.le_refl _⟩, ⟨by (with_reducible repeat (first | refine blk_drewN ?_ _ | refine blk_drew ?_ | refine blk_alloc ?_ _)); exact BK116.out⟩, ⟨by repeat (first | (with_reducible first | exact HB.out | apply below_alloc | apply pw_below_drewN | apply below_drew1 | refine below_set ?_ GE116.out) | exact HB.out)⟩⟩
      · replace c10 := Bool.eq_false_iff.mpr c10
        subst c10
        have H1 : ((strings_Cut.f t119 (⟨#[46]⟩ : ByteArray)).bind fun bt128 => (if bt128.2.2 = true then ((fraction_digits.f bt128.1).bind fun bt131 => ((fraction_digits.f bt128.2.1).bind fun bt133 => (if bt128.1.size + bt128.2.1.size ≤ 9223372036854775807 then ((fraction_digits.f (bt128.1 ++ bt128.2.1)).bind fun bt135 => (if bt135.2 = true then (if bt131.2 = true then (fraction_Parse.j0 k t118 t120 bt135.1 1 bt133.2 bt128.2.1) else (fraction_Parse.j0 k t118 t120 bt135.1 1 false bt128.2.1)) else (fraction_Parse.j0 k t118 t120 bt135.1 1 false bt128.2.1))) else (none)))) else ((fraction_digits.f t119).bind fun bt137 => (fraction_Parse.j2 k t118 t120 bt137.1 1 bt137.2)))) = some (r1, r2, r3) := by rw [if_neg (show ¬ (false = true) by decide)] at H; exact H
        clear H
        have H := H1
        clear H1
        replace H := Option.bind_eq_some_iff.mp H
        obtain ⟨⟨t128, t129, t130⟩, A210, H⟩ := H
        replace H : (if t130 = true then ((fraction_digits.f t128).bind fun bt131 => ((fraction_digits.f t129).bind fun bt133 => (if t128.size + t129.size ≤ 9223372036854775807 then ((fraction_digits.f (t128 ++ t129)).bind fun bt135 => (if bt135.2 = true then (if bt131.2 = true then (fraction_Parse.j0 k t118 t120 bt135.1 1 bt133.2 t129) else (fraction_Parse.j0 k t118 t120 bt135.1 1 false t129)) else (fraction_Parse.j0 k t118 t120 bt135.1 1 false t129))) else (none)))) else ((fraction_digits.f t119).bind fun bt137 => (fraction_Parse.j2 k t118 t120 bt137.1 1 bt137.2))) = some (r1, r2, r3) := H
        have A21 := Aside0.mk A210
        clear A210
        by_cases c22 : t130 = true
        · subst c22
          have H1 : ((fraction_digits.f t128).bind fun bt131 => ((fraction_digits.f t129).bind fun bt133 => (if t128.size + t129.size ≤ 9223372036854775807 then ((fraction_digits.f (t128 ++ t129)).bind fun bt135 => (if bt135.2 = true then (if bt131.2 = true then (fraction_Parse.j0 k t118 t120 bt135.1 1 bt133.2 t129) else (fraction_Parse.j0 k t118 t120 bt135.1 1 false t129)) else (fraction_Parse.j0 k t118 t120 bt135.1 1 false t129))) else (none)))) = some (r1, r2, r3) := by rw [if_pos rfl] at H; exact H
          clear H
          have H := H1
          clear H1
          replace H := Option.bind_eq_some_iff.mp H
          obtain ⟨⟨t131, t132⟩, A230, H⟩ := H
          replace H : ((fraction_digits.f t129).bind fun bt133 => (if t128.size + t129.size ≤ 9223372036854775807 then ((fraction_digits.f (t128 ++ t129)).bind fun bt135 => (if bt135.2 = true then (if t132 = true then (fraction_Parse.j0 k t118 t120 bt135.1 1 bt133.2 t129) else (fraction_Parse.j0 k t118 t120 bt135.1 1 false t129)) else (fraction_Parse.j0 k t118 t120 bt135.1 1 false t129))) else (none))) = some (r1, r2, r3) := H
          have A23 := Aside0.mk A230
          clear A230
          replace H := Option.bind_eq_some_iff.mp H
          obtain ⟨⟨t133, t134⟩, A240, H⟩ := H
          replace H : (if t128.size + t129.size ≤ 9223372036854775807 then ((fraction_digits.f (t128 ++ t129)).bind fun bt135 => (if bt135.2 = true then (if t132 = true then (fraction_Parse.j0 k t118 t120 bt135.1 1 t134 t129) else (fraction_Parse.j0 k t118 t120 bt135.1 1 false t129)) else (fraction_Parse.j0 k t118 t120 bt135.1 1 false t129))) else (none)) = some (r1, r2, r3) := H
          have A24 := Aside0.mk A240
          clear A240
          by_cases c25 : t128.size + t129.size ≤ 9223372036854775807
          · rw [if_pos c25] at H
            have c25b0 := eq_true c25
            have c25b1 : decide (t128.size + t129.size ≤ 9223372036854775807) = true := decide_eq_true c25
            try have c25b2 : (9223372036854775807 < t128.size + t129.size) = False := eq_false (Nat.not_lt.2 c25)
            replace H := Option.bind_eq_some_iff.mp H
            obtain ⟨⟨t135, t136⟩, A260, H⟩ := H
            replace H : (if t136 = true then (if t132 = true then (fraction_Parse.j0 k t118 t120 t135 1 t134 t129) else (fraction_Parse.j0 k t118 t120 t135 1 false t129)) else (fraction_Parse.j0 k t118 t120 t135 1 false t129)) = some (r1, r2, r3) := H
            have A26 := Aside0.mk A260
            clear A260
            have HC27 := Aside0.mk H
            clear H
            go_upto_region 17 with (first | ((with_reducible refine gate_callee (f := 21) rfl ?_); refine goesL_ (some 61) rfl rfl Tryd.func21 (by kernel_rfl) rfl #[.string t119, .string (⟨#[46]⟩ : ByteArray)] rfl (by (try simp only [List.map_toArray, List.map_cons, List.map_nil]); first | done | rfl | (simp only [List.length_drop, List.length_take]; rfl)) ?_; (with_reducible refine (strings_Cut.calls t119 (⟨#[46]⟩ : ByteArray) t128 t129 true _ A21.out).mono ?_); rintro e w' ⟨rfl, ⟨nd, rfl⟩⟩; refine ⟨_, rfl, ?_⟩) | ((with_reducible refine gate_callee (f := 22) rfl ?_); refine goesL_ (some 68) rfl rfl Tryd.func22 (by kernel_rfl) rfl #[.string t128] rfl (by (try simp only [List.map_toArray, List.map_cons, List.map_nil]); first | done | rfl | (simp only [List.length_drop, List.length_take]; rfl)) ?_; (with_reducible refine (fraction_digits.calls t128 t131 t132 _ A23.out).mono ?_); rintro e w28 ⟨rfl, hb⟩; refine ⟨_, rfl, ?_⟩; have n0_ := Aside0.mk (blk_below (g := gb116) (o := .cells #[.int .i64 0, .int .i64 0] 23 (0, 0)) (by (with_reducible repeat (first | refine blk_drewN ?_ _ | refine blk_drew ?_ | refine blk_alloc ?_ _)); exact BK116.out) hb); have n1_ := Aside0.mk (below_step (by repeat (first | (with_reducible first | exact HB.out | apply below_alloc | apply pw_below_drewN | apply below_drew1 | refine below_set ?_ GE116.out) | exact HB.out)) hb); clear BK116; clear HB; have BK116 := n0_; have HB := n1_; clear n0_ n1_; (try clear hb); (try clear hb2); (try clear hk); (try clear hi)) | ((with_reducible refine gate_callee (f := 22) rfl ?_); refine goesL_ (some 73) rfl rfl Tryd.func22 (by kernel_rfl) rfl #[.string t129] rfl (by (try simp only [List.map_toArray, List.map_cons, List.map_nil]); first | done | rfl | (simp only [List.length_drop, List.length_take]; rfl)) ?_; (with_reducible refine (fraction_digits.calls t129 t133 t134 _ A24.out).mono ?_); rintro e w29 ⟨rfl, hb⟩; refine ⟨_, rfl, ?_⟩; have n0_ := Aside0.mk (blk_below (g := gb116) (o := .cells #[.int .i64 0, .int .i64 0] 23 (0, 0)) (by (with_reducible repeat (first | refine blk_drewN ?_ _ | refine blk_drew ?_ | refine blk_alloc ?_ _)); exact BK116.out) hb); have n1_ := Aside0.mk (below_step (by repeat (first | (with_reducible first | exact HB.out | apply below_alloc | apply pw_below_drewN | apply below_drew1 | refine below_set ?_ GE116.out) | exact HB.out)) hb); clear BK116; clear HB; have BK116 := n0_; have HB := n1_; clear n0_ n1_; (try clear hb); (try clear hb2); (try clear hk); (try clear hi)) | ((with_reducible refine gate_callee (f := 22) rfl ?_); refine goesL_ (some 80) rfl rfl Tryd.func22 (by kernel_rfl) rfl #[.string (t128 ++ t129)] rfl (by (try simp only [List.map_toArray, List.map_cons, List.map_nil]); first | done | rfl | (simp only [List.length_drop, List.length_take]; rfl)) ?_; (with_reducible refine (fraction_digits.calls (t128 ++ t129) t135 t136 _ A26.out).mono ?_); rintro e w30 ⟨rfl, hb⟩; refine ⟨_, rfl, ?_⟩; have n0_ := Aside0.mk (blk_below (g := gb116) (o := .cells #[.int .i64 0, .int .i64 0] 23 (0, 0)) (by (with_reducible repeat (first | refine blk_drewN ?_ _ | refine blk_drew ?_ | refine blk_alloc ?_ _)); exact BK116.out) hb); have n1_ := Aside0.mk (below_step (by repeat (first | (with_reducible first | exact HB.out | apply below_alloc | apply pw_below_drewN | apply below_drew1 | refine below_set ?_ GE116.out) | exact HB.out)) hb); clear BK116; clear HB; have BK116 := n0_; have HB := n1_; clear n0_ n1_; (try clear hb); (try clear hb2); (try clear hk); (try clear hi)))
            (try simp only [Act.put, List.setIfInBounds_toArray, List.set_cons_zero, List.set_cons_succ])
            go_cut [8] (fun v8 wc => ∃ (kq : Nat) (x8_26 : Bool), v8 = .bool x8_26 ∧ Aside0 (fraction_Parse.j0 kq t118 t120 t135 1 x8_26 t129 = some (r1, r2, r3)) ∧ Aside0 (kq ≤ k) ∧ Aside0 (wc.heap[gb116]? = some (.cells #[.int .i64 0, .int .i64 0] 23 (0, 0))) ∧ Aside0 (Below w.heap.size w wc))
            case first =>
              have H := HC27.out
              clear HC27
              by_cases c31 : t136 = true
              · subst c31
                have H1 : (if t132 = true then (fraction_Parse.j0 k t118 t120 t135 1 t134 t129) else (fraction_Parse.j0 k t118 t120 t135 1 false t129)) = some (r1, r2, r3) := by rw [if_pos rfl] at H; exact H
                clear H
                have H := H1
                clear H1
                by_cases c32 : t132 = true
                · subst c32
                  have H1 : (fraction_Parse.j0 k t118 t120 t135 1 t134 t129) = some (r1, r2, r3) := by rw [if_pos rfl] at H; exact H
                  clear H
                  have H := H1
                  clear H1
                  have H' := Aside0.mk H
                  clear H
                  go_wp2
                  go_meet
                  case rel => exact ⟨_, (t134), (by first | rfl | (simp; done) | (simp [*]; done)), H', ⟨by first | omega | exact Nat.le_refl _⟩, ⟨by (with_reducible repeat (first | refine blk_drewN ?_ _ | refine blk_drew ?_ | refine blk_alloc ?_ _)); exact BK116.out⟩, ⟨by repeat (first | (with_reducible first | exact HB.out | apply below_alloc | apply pw_below_drewN | apply below_drew1 | refine below_set ?_ GE116.out) | exact HB.out)⟩⟩
                · replace c32 := Bool.eq_false_iff.mpr c32
                  subst c32
                  have H1 : (fraction_Parse.j0 k t118 t120 t135 1 false t129) = some (r1, r2, r3) := by rw [if_neg (show ¬ (false = true) by decide)] at H; exact H
                  clear H
                  have H := H1
                  clear H1
                  have H' := Aside0.mk H
                  clear H
                  go_wp2
                  go_meet
                  case rel => exact ⟨_, (false), (by first | rfl | (simp; done) | (simp [*]; done)), H', ⟨by first | omega | exact Nat.le_refl _⟩, ⟨by (with_reducible repeat (first | refine blk_drewN ?_ _ | refine blk_drew ?_ | refine blk_alloc ?_ _)); exact BK116.out⟩, ⟨by repeat (first | (with_reducible first | exact HB.out | apply below_alloc | apply pw_below_drewN | apply below_drew1 | refine below_set ?_ GE116.out) | exact HB.out)⟩⟩
              · replace c31 := Bool.eq_false_iff.mpr c31
                subst c31
                have H1 : (fraction_Parse.j0 k t118 t120 t135 1 false t129) = some (r1, r2, r3) := by rw [if_neg (show ¬ (false = true) by decide)] at H; exact H
                clear H
                have H := H1
                clear H1
                have H' := Aside0.mk H
                clear H
                go_wp2
                go_meet
                case rel => exact ⟨_, (false), (by first | rfl | (simp; done) | (simp [*]; done)), H', ⟨by first | omega | exact Nat.le_refl _⟩, ⟨by (with_reducible repeat (first | refine blk_drewN ?_ _ | refine blk_drew ?_ | refine blk_alloc ?_ _)); exact BK116.out⟩, ⟨by repeat (first | (with_reducible first | exact HB.out | apply below_alloc | apply pw_below_drewN | apply below_drew1 | refine below_set ?_ GE116.out) | exact HB.out)⟩⟩
            case rest =>
              clear HC27
              try clear c1
              try clear c2
              try clear c2b0
              try clear c2b1
              try clear p2
              try clear c3
              try clear c4
              try clear c10
              try clear c13
              try clear c14
              try clear c22
              try clear c25
              try clear c25b0
              try clear c25b1
              try clear c25b2
              try clear c31
              try clear c32
              try clear hcz4_0
              try clear hcz4_1
              try clear hfz4_0
              try clear hfz4_1
              obtain ⟨kq, x8_26, rfl, HA, HJ26, BK116, HB⟩ := hcut
              cases kq with
              | zero => exact absurd HA.out (by simp [fraction_Parse.j0])
              | succ kj26 =>
                have H := HA.out
                clear HA
                simp only [fraction_Parse.j0] at H
                have H' := Aside0.mk H
                clear H
                go_wp2
                have HBC := Aside0.mk HB.out
                have BKC := Aside0.mk BK116.out
                go_loopg [7] kj26 (fun kq v7 w' => ∃ (x7_2 : Int) (pos : Nat), v7 = .int .i64 x7_2 ∧ w' = wc.iter t129 pos ∧ Aside0 (fraction_Parse.l0 kq t118 t120 t135 x7_2 x8_26 t129 pos = some (r1, r2, r3)) ∧ Aside0 (kq ≤ kj26))
                case atStart => exact ⟨(1), 0, rfl, rfl, H', ⟨Nat.le_refl _⟩⟩
                case round =>
                  clear H' HB BK116
                  obtain ⟨x7_2, pos, rfl, rfl, HA, HK2⟩ := hrel
                  have HB := Aside0.mk (show Below w.heap.size w (wc.iter t129 pos) from by apply below_alloc; exact HBC.out)
                  have BK116 := Aside0.mk (show (wc.iter t129 pos).heap[gb116]? = some (.cells #[.int .i64 0, .int .i64 0] 23 (0, 0)) from by apply blk_alloc; exact BKC.out)
                  cases gk with
                  | zero => exact absurd HA.out (by simp [fraction_Parse.l0])
                  | succ k2 =>
                    have H := HA.out
                    clear HA
                    simp only [fraction_Parse.l0] at H
                    by_cases c33 : pos < t129.size
                    · rw [if_pos c33] at H
                      have hnx : ∀ ty, (Instr.next (.pointer (some ⟨wc.heap.size, 0, none⟩)) true ty).run Tryd.prog (wc.iter t129 pos) = _ := fun ty => run_next_any wc t129 pos ty c33
                      have H' := Aside0.mk H
                      clear H
                      go_wp2
                      go_roundg k2
                      case measure => have := HJ26.out; have := HK2.out; omega
                      case rel => exact ⟨(wrap64 (x7_2 * 10)), _, (by first | rfl | (simp; done) | (simp [*]; done)), rfl, H', ⟨by have := HJ26.out; have := HK2.out; omega⟩⟩
                    · rw [if_neg c33] at H
                      have hnx : ∀ ty, (Instr.next (.pointer (some ⟨wc.heap.size, 0, none⟩)) true ty).run Tryd.prog (wc.iter t129 pos) = _ := fun ty => run_next_end wc t129 pos ty c33
                      have H' := Aside0.mk H
                      clear H
                      go_wp2
                      go_meet
                      case rel => exact ⟨_, (t135), (x7_2), (x8_26), (by first | rfl | (simp; done) | (simp [*]; done)), (by first | rfl | (simp; done) | (simp [*]; done)), (by first | rfl | (simp; done) | (simp [*]; done)), H', ⟨by have := HJ26.out; have := HK2.out; first | omega | exact Nat.le_refl _⟩, ⟨BK116.out⟩, ⟨HB.out⟩⟩
          · rw [if_neg c25] at H
            exact absurd H (by simp)
        · replace c22 := Bool.eq_false_iff.mpr c22
          subst c22
          have H1 : ((fraction_digits.f t119).bind fun bt137 => (fraction_Parse.j2 k t118 t120 bt137.1 1 bt137.2)) = some (r1, r2, r3) := by rw [if_neg (show ¬ (false = true) by decide)] at H; exact H
          clear H
          have H := H1
          clear H1
          replace H := Option.bind_eq_some_iff.mp H
          obtain ⟨⟨t137, t138⟩, A340, H⟩ := H
          replace H : (fraction_Parse.j2 k t118 t120 t137 1 t138) = some (r1, r2, r3) := H
          have A34 := Aside0.mk A340
          clear A340
          have H' := Aside0.mk H
          clear H
          go_wp2_with (first | ((with_reducible refine gate_callee (f := 21) rfl ?_); refine goesL_ (some 61) rfl rfl Tryd.func21 (by kernel_rfl) rfl #[.string t119, .string (⟨#[46]⟩ : ByteArray)] rfl (by (try simp only [List.map_toArray, List.map_cons, List.map_nil]); first | done | rfl | (simp only [List.length_drop, List.length_take]; rfl)) ?_; (with_reducible refine (strings_Cut.calls t119 (⟨#[46]⟩ : ByteArray) t128 t129 false _ A21.out).mono ?_); rintro e w' ⟨rfl, ⟨nd, rfl⟩⟩; refine ⟨_, rfl, ?_⟩) | ((with_reducible refine gate_callee (f := 22) rfl ?_); refine goesL_ (some 98) rfl rfl Tryd.func22 (by kernel_rfl) rfl #[.string t119] rfl (by (try simp only [List.map_toArray, List.map_cons, List.map_nil]); first | done | rfl | (simp only [List.length_drop, List.length_take]; rfl)) ?_; (with_reducible refine (fraction_digits.calls t119 t137 t138 _ A34.out).mono ?_); rintro e w35 ⟨rfl, hb⟩; refine ⟨_, rfl, ?_⟩; have n0_ := Aside0.mk (blk_below (g := gb116) (o := .cells #[.int .i64 0, .int .i64 0] 23 (0, 0)) (by (with_reducible repeat (first | refine blk_drewN ?_ _ | refine blk_drew ?_ | refine blk_alloc ?_ _)); exact BK116.out) hb); have n1_ := Aside0.mk (below_step (by repeat (first | (with_reducible first | exact HB.out | apply below_alloc | apply pw_below_drewN | apply below_drew1 | refine below_set ?_ GE116.out) | exact HB.out)) hb); clear BK116; clear HB; have BK116 := n0_; have HB := n1_; clear n0_ n1_; (try clear hb); (try clear hb2); (try clear hk); (try clear hi)))
          go_meet
          case rel => exact ⟨_, (t137), (1), (t138), (by first | rfl | (simp; done) | (simp [*]; done)), (by first | rfl | (simp; done) | (simp [*]; done)), (by first | rfl | (simp; done) | (simp [*]; done)), H', ⟨by first | omega | exact Nat.le_refl _⟩, ⟨by (with_reducible repeat (first | refine blk_drewN ?_ _ | refine blk_drew ?_ | refine blk_alloc ?_ _)); exact BK116.out⟩, ⟨by repeat (first | (with_reducible first | exact HB.out | apply below_alloc | apply pw_below_drewN | apply below_drew1 | refine below_set ?_ GE116.out) | exact HB.out)⟩⟩
    case rest =>
      clear HC8
      try clear c1
      try clear c2
      try clear c2b0
      try clear c2b1
      try clear p2
      try clear c3
      try clear c4
      try clear p6
      try clear c10
      try clear c13
      try clear c14
      try clear c22
      try clear c25
      try clear c25b0
      try clear c25b1
      try clear c25b2
      try clear c31
      try clear c32
      try clear c33
      try clear c33b0
      try clear hcz4_0
      try clear hcz4_1
      try clear hfz4_0
      try clear hfz4_1
      try clear p2
      obtain ⟨kq, x6_7, x7_7, x8_7, rfl, rfl, rfl, HA, HJ7, BK116, HB⟩ := hcut
      cases kq with
      | zero => exact absurd HA.out (by simp [fraction_Parse.j2])
      | succ kj7 =>
        have H := HA.out
        clear HA
        simp only [fraction_Parse.j2] at H
        by_cases c36 : x8_7 = true
        · subst c36
          have H1 : (if t120 = true then (if t118 = true then ((fraction_Make.f kj7 (wrap64 (-x6_7)) (wrap64 (x7_7 * 100))).bind fun bt139 => (some (bt139.1, bt139.2.1, bt139.2.2))) else ((fraction_Make.f kj7 x6_7 (wrap64 (x7_7 * 100))).bind fun bt142 => (some (bt142.1, bt142.2.1, bt142.2.2)))) else (if t118 = true then ((fraction_Make.f kj7 (wrap64 (-x6_7)) x7_7).bind fun bt145 => (some (bt145.1, bt145.2.1, bt145.2.2))) else ((fraction_Make.f kj7 x6_7 x7_7).bind fun bt148 => (some (bt148.1, bt148.2.1, bt148.2.2))))) = some (r1, r2, r3) := by rw [if_pos rfl] at H; exact H
          clear H
          have H := H1
          clear H1
          by_cases c37 : t120 = true
          · subst c37
            have H1 : (if t118 = true then ((fraction_Make.f kj7 (wrap64 (-x6_7)) (wrap64 (x7_7 * 100))).bind fun bt139 => (some (bt139.1, bt139.2.1, bt139.2.2))) else ((fraction_Make.f kj7 x6_7 (wrap64 (x7_7 * 100))).bind fun bt142 => (some (bt142.1, bt142.2.1, bt142.2.2)))) = some (r1, r2, r3) := by rw [if_pos rfl] at H; exact H
            clear H
            have H := H1
            clear H1
            by_cases c38 : t118 = true
            · subst c38
              have H1 : ((fraction_Make.f kj7 (wrap64 (-x6_7)) (wrap64 (x7_7 * 100))).bind fun bt139 => (some (bt139.1, bt139.2.1, bt139.2.2))) = some (r1, r2, r3) := by rw [if_pos rfl] at H; exact H
              clear H
              have H := H1
              clear H1
              replace H := Option.bind_eq_some_iff.mp H
              obtain ⟨⟨t139, t140, t141⟩, A390, H⟩ := H
              replace H : (some (t139, t140, t141)) = some (r1, r2, r3) := H
              have A39 := Aside0.mk A390
              clear A390
              simp only [Option.some.injEq, Prod.mk.injEq] at H
              obtain ⟨rfl, rfl, rfl⟩ := H
              go_wp2_with (first | ((with_reducible refine gate_callee (f := 12) rfl ?_); refine goesL_ (some 112) rfl rfl Tryd.func12 (by kernel_rfl) rfl #[.int .i64 (wrap64 (-x6_7)), .int .i64 (wrap64 (x7_7 * 100))] rfl (by (try simp only [List.map_toArray, List.map_cons, List.map_nil]); first | done | rfl | (simp only [List.length_drop, List.length_take]; rfl)) ?_; (with_reducible refine (fraction_Make.calls kj7 (wrap64 (-x6_7)) (wrap64 (x7_7 * 100)) t139 t140 t141 _ A39.out).mono ?_); rintro e w40 ⟨rfl, hb⟩; refine ⟨_, rfl, ?_⟩; have n0_ := Aside0.mk (blk_below (g := gb116) (o := .cells #[.int .i64 0, .int .i64 0] 23 (0, 0)) (by (with_reducible repeat (first | refine blk_drewN ?_ _ | refine blk_drew ?_ | refine blk_alloc ?_ _)); exact BK116.out) hb); have n1_ := Aside0.mk (below_step (by repeat (first | (with_reducible first | exact HB.out | apply below_alloc | apply pw_below_drewN | apply below_drew1 | refine below_set ?_ GE116.out) | exact HB.out)) hb); clear BK116; clear HB; have BK116 := n0_; have HB := n1_; clear n0_ n1_; (try clear hb); (try clear hb2); (try clear hk); (try clear hi); have hcz41_0 : w40.cell? ⟨gb116, 0, none⟩ = some (.int .i64 0) := (blk_cell BK116.out 0).trans rfl; have hcz41_1 : w40.cell? ⟨gb116, 1, none⟩ = some (.int .i64 0) := (blk_cell BK116.out 1).trans rfl; have hfz41_0 := blk_frozen BK116.out 0; have hfz41_1 := blk_frozen BK116.out 1))
              refine bodyPost_ret (results_ct rfl _ _ gb116 23 #[.int .i64 t139, .int .i64 t140] (0, 0) _ rfl (by (with_reducible repeat (first | refine blk_drewN ?_ _ | refine blk_drew ?_ | refine blk_alloc ?_ _)); refine blk_put (cs := #[.int .i64 t139, .int .i64 0]) ?_ 1 _ rfl; (with_reducible repeat (first | refine blk_drewN ?_ _ | refine blk_drew ?_ | refine blk_alloc ?_ _)); refine blk_put (cs := #[.int .i64 0, .int .i64 0]) ?_ 0 _ rfl; (with_reducible repeat (first | refine blk_drewN ?_ _ | refine blk_drew ?_ | refine blk_alloc ?_ _)); exact BK116.out) Tryd.underlying23 rfl (by kernel_rfl)) rfl ?_
              exact ⟨by first | rfl | (simp [errW_none, errW_some] <;> rfl) | (simp [*, errW_none, errW_some] <;> rfl), by repeat (first | (with_reducible first | exact HB.out | apply below_alloc | apply pw_below_drewN | apply below_drew1 | refine below_set ?_ GE116.out) | exact HB.out)⟩
            · replace c38 := Bool.eq_false_iff.mpr c38
              subst c38
              have H1 : ((fraction_Make.f kj7 x6_7 (wrap64 (x7_7 * 100))).bind fun bt142 => (some (bt142.1, bt142.2.1, bt142.2.2))) = some (r1, r2, r3) := by rw [if_neg (show ¬ (false = true) by decide)] at H; exact H
              clear H
              have H := H1
              clear H1
              replace H := Option.bind_eq_some_iff.mp H
              obtain ⟨⟨t142, t143, t144⟩, A420, H⟩ := H
              replace H : (some (t142, t143, t144)) = some (r1, r2, r3) := H
              have A42 := Aside0.mk A420
              clear A420
              simp only [Option.some.injEq, Prod.mk.injEq] at H
              obtain ⟨rfl, rfl, rfl⟩ := H
              go_wp2_with (first | ((with_reducible refine gate_callee (f := 12) rfl ?_); refine goesL_ (some 112) rfl rfl Tryd.func12 (by kernel_rfl) rfl #[.int .i64 x6_7, .int .i64 (wrap64 (x7_7 * 100))] rfl (by (try simp only [List.map_toArray, List.map_cons, List.map_nil]); first | done | rfl | (simp only [List.length_drop, List.length_take]; rfl)) ?_; (with_reducible refine (fraction_Make.calls kj7 x6_7 (wrap64 (x7_7 * 100)) t142 t143 t144 _ A42.out).mono ?_); rintro e w43 ⟨rfl, hb⟩; refine ⟨_, rfl, ?_⟩; have n0_ := Aside0.mk (blk_below (g := gb116) (o := .cells #[.int .i64 0, .int .i64 0] 23 (0, 0)) (by (with_reducible repeat (first | refine blk_drewN ?_ _ | refine blk_drew ?_ | refine blk_alloc ?_ _)); exact BK116.out) hb); have n1_ := Aside0.mk (below_step (by repeat (first | (with_reducible first | exact HB.out | apply below_alloc | apply pw_below_drewN | apply below_drew1 | refine below_set ?_ GE116.out) | exact HB.out)) hb); clear BK116; clear HB; have BK116 := n0_; have HB := n1_; clear n0_ n1_; (try clear hb); (try clear hb2); (try clear hk); (try clear hi); have hcz44_0 : w43.cell? ⟨gb116, 0, none⟩ = some (.int .i64 0) := (blk_cell BK116.out 0).trans rfl; have hcz44_1 : w43.cell? ⟨gb116, 1, none⟩ = some (.int .i64 0) := (blk_cell BK116.out 1).trans rfl; have hfz44_0 := blk_frozen BK116.out 0; have hfz44_1 := blk_frozen BK116.out 1))
              refine bodyPost_ret (results_ct rfl _ _ gb116 23 #[.int .i64 t142, .int .i64 t143] (0, 0) _ rfl (by (with_reducible repeat (first | refine blk_drewN ?_ _ | refine blk_drew ?_ | refine blk_alloc ?_ _)); refine blk_put (cs := #[.int .i64 t142, .int .i64 0]) ?_ 1 _ rfl; (with_reducible repeat (first | refine blk_drewN ?_ _ | refine blk_drew ?_ | refine blk_alloc ?_ _)); refine blk_put (cs := #[.int .i64 0, .int .i64 0]) ?_ 0 _ rfl; (with_reducible repeat (first | refine blk_drewN ?_ _ | refine blk_drew ?_ | refine blk_alloc ?_ _)); exact BK116.out) Tryd.underlying23 rfl (by kernel_rfl)) rfl ?_
              exact ⟨by first | rfl | (simp [errW_none, errW_some] <;> rfl) | (simp [*, errW_none, errW_some] <;> rfl), by repeat (first | (with_reducible first | exact HB.out | apply below_alloc | apply pw_below_drewN | apply below_drew1 | refine below_set ?_ GE116.out) | exact HB.out)⟩
          · replace c37 := Bool.eq_false_iff.mpr c37
            subst c37
            have H1 : (if t118 = true then ((fraction_Make.f kj7 (wrap64 (-x6_7)) x7_7).bind fun bt145 => (some (bt145.1, bt145.2.1, bt145.2.2))) else ((fraction_Make.f kj7 x6_7 x7_7).bind fun bt148 => (some (bt148.1, bt148.2.1, bt148.2.2)))) = some (r1, r2, r3) := by rw [if_neg (show ¬ (false = true) by decide)] at H; exact H
            clear H
            have H := H1
            clear H1
            by_cases c45 : t118 = true
            · subst c45
              have H1 : ((fraction_Make.f kj7 (wrap64 (-x6_7)) x7_7).bind fun bt145 => (some (bt145.1, bt145.2.1, bt145.2.2))) = some (r1, r2, r3) := by rw [if_pos rfl] at H; exact H
              clear H
              have H := H1
              clear H1
              replace H := Option.bind_eq_some_iff.mp H
              obtain ⟨⟨t145, t146, t147⟩, A460, H⟩ := H
              replace H : (some (t145, t146, t147)) = some (r1, r2, r3) := H
              have A46 := Aside0.mk A460
              clear A460
              simp only [Option.some.injEq, Prod.mk.injEq] at H
              obtain ⟨rfl, rfl, rfl⟩ := H
              go_wp2_with (first | ((with_reducible refine gate_callee (f := 12) rfl ?_); refine goesL_ (some 112) rfl rfl Tryd.func12 (by kernel_rfl) rfl #[.int .i64 (wrap64 (-x6_7)), .int .i64 x7_7] rfl (by (try simp only [List.map_toArray, List.map_cons, List.map_nil]); first | done | rfl | (simp only [List.length_drop, List.length_take]; rfl)) ?_; (with_reducible refine (fraction_Make.calls kj7 (wrap64 (-x6_7)) x7_7 t145 t146 t147 _ A46.out).mono ?_); rintro e w47 ⟨rfl, hb⟩; refine ⟨_, rfl, ?_⟩; have n0_ := Aside0.mk (blk_below (g := gb116) (o := .cells #[.int .i64 0, .int .i64 0] 23 (0, 0)) (by (with_reducible repeat (first | refine blk_drewN ?_ _ | refine blk_drew ?_ | refine blk_alloc ?_ _)); exact BK116.out) hb); have n1_ := Aside0.mk (below_step (by repeat (first | (with_reducible first | exact HB.out | apply below_alloc | apply pw_below_drewN | apply below_drew1 | refine below_set ?_ GE116.out) | exact HB.out)) hb); clear BK116; clear HB; have BK116 := n0_; have HB := n1_; clear n0_ n1_; (try clear hb); (try clear hb2); (try clear hk); (try clear hi); have hcz48_0 : w47.cell? ⟨gb116, 0, none⟩ = some (.int .i64 0) := (blk_cell BK116.out 0).trans rfl; have hcz48_1 : w47.cell? ⟨gb116, 1, none⟩ = some (.int .i64 0) := (blk_cell BK116.out 1).trans rfl; have hfz48_0 := blk_frozen BK116.out 0; have hfz48_1 := blk_frozen BK116.out 1))
              refine bodyPost_ret (results_ct rfl _ _ gb116 23 #[.int .i64 t145, .int .i64 t146] (0, 0) _ rfl (by (with_reducible repeat (first | refine blk_drewN ?_ _ | refine blk_drew ?_ | refine blk_alloc ?_ _)); refine blk_put (cs := #[.int .i64 t145, .int .i64 0]) ?_ 1 _ rfl; (with_reducible repeat (first | refine blk_drewN ?_ _ | refine blk_drew ?_ | refine blk_alloc ?_ _)); refine blk_put (cs := #[.int .i64 0, .int .i64 0]) ?_ 0 _ rfl; (with_reducible repeat (first | refine blk_drewN ?_ _ | refine blk_drew ?_ | refine blk_alloc ?_ _)); exact BK116.out) Tryd.underlying23 rfl (by kernel_rfl)) rfl ?_
              exact ⟨by first | rfl | (simp [errW_none, errW_some] <;> rfl) | (simp [*, errW_none, errW_some] <;> rfl), by repeat (first | (with_reducible first | exact HB.out | apply below_alloc | apply pw_below_drewN | apply below_drew1 | refine below_set ?_ GE116.out) | exact HB.out)⟩
            · replace c45 := Bool.eq_false_iff.mpr c45
              subst c45
              have H1 : ((fraction_Make.f kj7 x6_7 x7_7).bind fun bt148 => (some (bt148.1, bt148.2.1, bt148.2.2))) = some (r1, r2, r3) := by rw [if_neg (show ¬ (false = true) by decide)] at H; exact H
              clear H
              have H := H1
              clear H1
              replace H := Option.bind_eq_some_iff.mp H
              obtain ⟨⟨t148, t149, t150⟩, A490, H⟩ := H
              replace H : (some (t148, t149, t150)) = some (r1, r2, r3) := H
              have A49 := Aside0.mk A490
              clear A490
              simp only [Option.some.injEq, Prod.mk.injEq] at H
              obtain ⟨rfl, rfl, rfl⟩ := H
              go_wp2_with (first | ((with_reducible refine gate_callee (f := 12) rfl ?_); refine goesL_ (some 112) rfl rfl Tryd.func12 (by kernel_rfl) rfl #[.int .i64 x6_7, .int .i64 x7_7] rfl (by (try simp only [List.map_toArray, List.map_cons, List.map_nil]); first | done | rfl | (simp only [List.length_drop, List.length_take]; rfl)) ?_; (with_reducible refine (fraction_Make.calls kj7 x6_7 x7_7 t148 t149 t150 _ A49.out).mono ?_); rintro e w50 ⟨rfl, hb⟩; refine ⟨_, rfl, ?_⟩; have n0_ := Aside0.mk (blk_below (g := gb116) (o := .cells #[.int .i64 0, .int .i64 0] 23 (0, 0)) (by (with_reducible repeat (first | refine blk_drewN ?_ _ | refine blk_drew ?_ | refine blk_alloc ?_ _)); exact BK116.out) hb); have n1_ := Aside0.mk (below_step (by repeat (first | (with_reducible first | exact HB.out | apply below_alloc | apply pw_below_drewN | apply below_drew1 | refine below_set ?_ GE116.out) | exact HB.out)) hb); clear BK116; clear HB; have BK116 := n0_; have HB := n1_; clear n0_ n1_; (try clear hb); (try clear hb2); (try clear hk); (try clear hi); have hcz51_0 : w50.cell? ⟨gb116, 0, none⟩ = some (.int .i64 0) := (blk_cell BK116.out 0).trans rfl; have hcz51_1 : w50.cell? ⟨gb116, 1, none⟩ = some (.int .i64 0) := (blk_cell BK116.out 1).trans rfl; have hfz51_0 := blk_frozen BK116.out 0; have hfz51_1 := blk_frozen BK116.out 1))
              refine bodyPost_ret (results_ct rfl _ _ gb116 23 #[.int .i64 t148, .int .i64 t149] (0, 0) _ rfl (by (with_reducible repeat (first | refine blk_drewN ?_ _ | refine blk_drew ?_ | refine blk_alloc ?_ _)); refine blk_put (cs := #[.int .i64 t148, .int .i64 0]) ?_ 1 _ rfl; (with_reducible repeat (first | refine blk_drewN ?_ _ | refine blk_drew ?_ | refine blk_alloc ?_ _)); refine blk_put (cs := #[.int .i64 0, .int .i64 0]) ?_ 0 _ rfl; (with_reducible repeat (first | refine blk_drewN ?_ _ | refine blk_drew ?_ | refine blk_alloc ?_ _)); exact BK116.out) Tryd.underlying23 rfl (by kernel_rfl)) rfl ?_
              exact ⟨by first | rfl | (simp [errW_none, errW_some] <;> rfl) | (simp [*, errW_none, errW_some] <;> rfl), by repeat (first | (with_reducible first | exact HB.out | apply below_alloc | apply pw_below_drewN | apply below_drew1 | refine below_set ?_ GE116.out) | exact HB.out)⟩
        · replace c36 := Bool.eq_false_iff.mpr c36
          subst c36
          have H1 : (some (0, 0, 14)) = some (r1, r2, r3) := by rw [if_neg (show ¬ (false = true) by decide)] at H; exact H
          clear H
          have H := H1
          clear H1
          simp only [Option.some.injEq, Prod.mk.injEq] at H
          obtain ⟨rfl, rfl, rfl⟩ := H
          have hcz52_0 : wc.cell? ⟨gb116, 0, none⟩ = some (.int .i64 0) := (blk_cell BK116.out 0).trans rfl
          have hcz52_1 : wc.cell? ⟨gb116, 1, none⟩ = some (.int .i64 0) := (blk_cell BK116.out 1).trans rfl
          have hfz52_0 := blk_frozen BK116.out 0
          have hfz52_1 := blk_frozen BK116.out 1
          go_wp2
          refine bodyPost_ret (results_ct rfl _ _ gb116 23 #[.int .i64 0, .int .i64 0] (0, 0) _ rfl (by (with_reducible repeat (first | refine blk_drewN ?_ _ | refine blk_drew ?_ | refine blk_alloc ?_ _)); refine blk_put (cs := #[.int .i64 0, .int .i64 0]) ?_ 1 _ rfl; (with_reducible repeat (first | refine blk_drewN ?_ _ | refine blk_drew ?_ | refine blk_alloc ?_ _)); refine blk_put (cs := #[.int .i64 0, .int .i64 0]) ?_ 0 _ rfl; (with_reducible repeat (first | refine blk_drewN ?_ _ | refine blk_drew ?_ | refine blk_alloc ?_ _)); exact BK116.out) Tryd.underlying23 rfl (by kernel_rfl)) rfl ?_
          exact ⟨by first | rfl | (simp [errW_none, errW_some] <;> rfl) | (simp [*, errW_none, errW_some] <;> rfl), by repeat (first | (with_reducible first | exact HB.out | apply below_alloc | apply pw_below_drewN | apply below_drew1 | refine below_set ?_ GE116.out) | exact HB.out)⟩

end Go.Proofs.YtikioicjhdhdpaaDoor.PD
