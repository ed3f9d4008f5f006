-- Written by a program of this session (gprint.py) out of Lean's own print of the program. Lean checks it.
import Derived.Test.YtfnhicmjdfeanaaPHx0
import Derived.Test.YtfnhicmjdfeanaaPHx11
import Derived.Test.YtfnhicmjdfeanaaPHx17
import Derived.Test.YtfnhicmjdfeanaaPHx18
import Derived.Test.YtfnhicmjdfeanaaPHx20
import Derived.Test.YtfnhicmjdfeanaaPHx22
import Derived.Test.YtfnhicmjdfeanaaPHx23
import Derived.Test.YtfnhicmjdfeanaaPHx25
namespace Go.Proofs.Ytfnhicmjdfeanaa.PH
open Go.RowKit Go.Proofs.YtfnhicmjdfeanaaW.PrintWords Go.Proofs.YtfnhicmjdfeanaaW.PrintLast Go.Proofs.YtfnhicmjdfeanaaW.PrintMore
attribute [local go_sem] max2_int min2_int max_two min_two max_three min_three max_four min_four   -- for this text's walks alone
set_option linter.unusedVariables false
set_option linter.unusedSimpArgs false

/-! ### sleuthlaw21_HistogramQuantiles: function 6 -/
mutual
def sleuthlaw21_HistogramQuantiles.j1 : Nat → List Int → Int → Int → Int → Int → Int → Int → Option (Bool)
  | 0, _, _, _, _, _, _, _ => none
  | k + 1, x6, x7, x8, x9, x10, x228000, x228001 => if x9 = x10 then (sleuthlaw21_HistogramQuantiles.j2 k x6 x7 x8 x9 x10 (x10 != 0) x228000 x228001) else (sleuthlaw21_HistogramQuantiles.j2 k x6 x7 x8 x9 x10 true x228000 x228001)
def sleuthlaw21_HistogramQuantiles.j2 : Nat → List Int → Int → Int → Int → Int → Bool → Int → Int → Option (Bool)
  | 0, _, _, _, _, _, _, _, _ => none
  | k + 1, x6, x7, x8, x9, x10, x51, x228000, x228001 => if x51 = true then (if x9 = x10 then (if x7 = 0 then (some (x8 == 0)) else (some false)) else (some false)) else (if x228001 = 0 then (none) else (sleuthlaw21_HistogramQuantiles.l0 k x6 x7 x8 (mx 1 (wrap64 (Int.tdiv (wrap64 ((wrap64 ((wrap64 (x228000 * (x6.length : Int))) + x228001)) - 1)) x228001))) 0))
def sleuthlaw21_HistogramQuantiles.l0 : Nat → List Int → Int → Int → Int → Int → Option (Bool)
  | 0, _, _, _, _, _ => none
  | k + 1, x6, x7, x8, x11, x12 => if x12 < (x6.length : Int) then (sleuthlaw21_HistogramQuantiles.l1 k x6 x7 x8 x11 x12 0 0 0) else (some (decide (x7 ≤ x8)))
def sleuthlaw21_HistogramQuantiles.l1 : Nat → List Int → Int → Int → Int → Int → Int → Int → Int → Option (Bool)
  | 0, _, _, _, _, _, _, _, _ => none
  | k + 1, x6, x7, x8, x11, x12, x13, x14, x15 => if x15 < (x6.length : Int) then (if 0 ≤ x15 then (if 0 ≤ x12 then (if x12 < (x6.length : Int) then (if (rd x6 x15) < (rd x6 x12) then (if (rd x6 x15) = (rd x6 x12) then (sleuthlaw21_HistogramQuantiles.l1 k x6 x7 x8 x11 x12 (wrap64 (x13 + 1)) (wrap64 (x14 + 1)) (wrap64 (x15 + 1))) else (sleuthlaw21_HistogramQuantiles.l1 k x6 x7 x8 x11 x12 (wrap64 (x13 + 1)) x14 (wrap64 (x15 + 1)))) else (if (rd x6 x15) = (rd x6 x12) then (sleuthlaw21_HistogramQuantiles.l1 k x6 x7 x8 x11 x12 x13 (wrap64 (x14 + 1)) (wrap64 (x15 + 1))) else (sleuthlaw21_HistogramQuantiles.l1 k x6 x7 x8 x11 x12 x13 x14 (wrap64 (x15 + 1))))) else (none)) else (none)) else (none)) else (if x13 < x11 then (if x11 ≤ (wrap64 (x13 + x14)) then (if 0 ≤ x12 then (if x12 < (x6.length : Int) then ((sleuthlaw21_index.f k (rd x6 x12)).bind fun t247 => ((sleuthlaw21_low.f t247).bind fun t248 => (if x7 = t248 then ((sleuthlaw21_index.f k (rd x6 x12)).bind fun t250 => ((sleuthlaw21_high.f t250).bind fun t251 => (if x8 = t251 then (sleuthlaw21_HistogramQuantiles.l0 k x6 x7 x8 x11 (wrap64 (x12 + 1))) else (some false)))) else (some false)))) else (none)) else (none)) else (sleuthlaw21_HistogramQuantiles.l0 k x6 x7 x8 x11 (wrap64 (x12 + 1)))) else (sleuthlaw21_HistogramQuantiles.l0 k x6 x7 x8 x11 (wrap64 (x12 + 1))))
def sleuthlaw21_HistogramQuantiles.j0 : Nat → List Int → Int → Int → Int → Int → Bool → Int → Int → Option (Bool)
  | 0, _, _, _, _, _, _, _, _ => none
  | k + 1, x6, x7, x8, x9, x10, x41, x228000, x228001 => if x41 = true then (sleuthlaw21_HistogramQuantiles.j1 k x6 x7 x8 x9 2 x228000 x228001) else (if (x6.length : Int) = 0 then (sleuthlaw21_HistogramQuantiles.j1 k x6 x7 x8 x9 7 x228000 x228001) else (sleuthlaw21_HistogramQuantiles.j1 k x6 x7 x8 x9 x10 x228000 x228001))
end
def sleuthlaw21_HistogramQuantiles.f (k : Nat) (l0 : List Int) (a1_0 : Int) (a1_1 : Int) : Option (Bool) := (sleuthlaw21_known.f k).bind fun t228 => (if t228 = true then ((sleuthlaw21_of.f k l0).bind fun t229 => ((sleuthlaw21_values.f k l0).bind fun t232 => ((histogram_Quantile.f k t229 a1_0 a1_1).bind fun bt236 => ((sleuthref02_Check.f k a1_0 a1_1).bind fun t239 => (if t239 = true then (if a1_0 < 0 then (sleuthlaw21_HistogramQuantiles.j0 k t232 bt236.1 bt236.2.1 bt236.2.2 0 true a1_0 a1_1) else (sleuthlaw21_HistogramQuantiles.j0 k t232 bt236.1 bt236.2.1 bt236.2.2 0 (decide (a1_0 > a1_1)) a1_0 a1_1)) else (sleuthlaw21_HistogramQuantiles.j1 k t232 bt236.1 bt236.2.1 bt236.2.2 3 a1_0 a1_1)))))) else (some false))
theorem sleuthlaw21_HistogramQuantiles.mono_l : ∀ k, (∀ y0 y1 y2 y3 y4 y5 y6, LeO (sleuthlaw21_HistogramQuantiles.j1 k y0 y1 y2 y3 y4 y5 y6) (sleuthlaw21_HistogramQuantiles.j1 (k + 1) y0 y1 y2 y3 y4 y5 y6)) ∧ (∀ y0 y1 y2 y3 y4 y5 y6 y7, LeO (sleuthlaw21_HistogramQuantiles.j2 k y0 y1 y2 y3 y4 y5 y6 y7) (sleuthlaw21_HistogramQuantiles.j2 (k + 1) y0 y1 y2 y3 y4 y5 y6 y7)) ∧ (∀ y0 y1 y2 y3 y4, LeO (sleuthlaw21_HistogramQuantiles.l0 k y0 y1 y2 y3 y4) (sleuthlaw21_HistogramQuantiles.l0 (k + 1) y0 y1 y2 y3 y4)) ∧ (∀ y0 y1 y2 y3 y4 y5 y6 y7, LeO (sleuthlaw21_HistogramQuantiles.l1 k y0 y1 y2 y3 y4 y5 y6 y7) (sleuthlaw21_HistogramQuantiles.l1 (k + 1) y0 y1 y2 y3 y4 y5 y6 y7)) ∧ (∀ y0 y1 y2 y3 y4 y5 y6 y7, LeO (sleuthlaw21_HistogramQuantiles.j0 k y0 y1 y2 y3 y4 y5 y6 y7) (sleuthlaw21_HistogramQuantiles.j0 (k + 1) y0 y1 y2 y3 y4 y5 y6 y7))
  | 0 => ⟨fun _ _ _ _ _ _ _ r h => by simp [sleuthlaw21_HistogramQuantiles.j1] at h, fun _ _ _ _ _ _ _ _ r h => by simp [sleuthlaw21_HistogramQuantiles.j2] at h, fun _ _ _ _ _ r h => by simp [sleuthlaw21_HistogramQuantiles.l0] at h, fun _ _ _ _ _ _ _ _ r h => by simp [sleuthlaw21_HistogramQuantiles.l1] at h, fun _ _ _ _ _ _ _ _ r h => by simp [sleuthlaw21_HistogramQuantiles.j0] at h⟩
  | k + 1 => by
    obtain ⟨ih0, ih1, ih2, ih3, ih4⟩ := sleuthlaw21_HistogramQuantiles.mono_l k
    refine ⟨?_, ?_, ?_, ?_, ?_⟩
    · intro y0 y1 y2 y3 y4 y5 y6
      unfold sleuthlaw21_HistogramQuantiles.j1
      repeat' first
      | (with_reducible exact ih0 _ _ _ _ _ _ _)
      | (with_reducible exact ih1 _ _ _ _ _ _ _ _)
      | (with_reducible exact ih2 _ _ _ _ _)
      | (with_reducible exact ih3 _ _ _ _ _ _ _ _)
      | (with_reducible exact ih4 _ _ _ _ _ _ _ _)
      | (with_reducible exact histogram_Quantile.mono _ _ _ _)
      | (with_reducible exact sleuthlaw21_index.mono _ _)
      | (with_reducible exact sleuthlaw21_known.mono _)
      | (with_reducible exact sleuthlaw21_of.mono _ _)
      | (with_reducible exact sleuthlaw21_values.mono _ _)
      | (with_reducible exact sleuthref02_Check.mono _ _ _)
      | (with_reducible exact LeO.refl _)
      | (with_reducible exact LeO.none _)
      | (with_reducible refine LeO.ite ?_ ?_)
      | (with_reducible refine LeO.bind ?_ (fun _ => ?_))
      | exact ih0 _ _ _ _ _ _ _
      | exact ih1 _ _ _ _ _ _ _ _
      | exact ih2 _ _ _ _ _
      | exact ih3 _ _ _ _ _ _ _ _
      | exact ih4 _ _ _ _ _ _ _ _
      | exact histogram_Quantile.mono _ _ _ _
      | exact sleuthlaw21_index.mono _ _
      | exact sleuthlaw21_known.mono _
      | exact sleuthlaw21_of.mono _ _
      | exact sleuthlaw21_values.mono _ _
      | exact sleuthref02_Check.mono _ _ _
      | exact LeO.none _
      | refine LeO.ite ?_ ?_
      | refine LeO.bind ?_ (fun _ => ?_)
    · intro y0 y1 y2 y3 y4 y5 y6 y7
      unfold sleuthlaw21_HistogramQuantiles.j2
      repeat' first
      | (with_reducible exact ih0 _ _ _ _ _ _ _)
      | (with_reducible exact ih1 _ _ _ _ _ _ _ _)
      | (with_reducible exact ih2 _ _ _ _ _)
      | (with_reducible exact ih3 _ _ _ _ _ _ _ _)
      | (with_reducible exact ih4 _ _ _ _ _ _ _ _)
      | (with_reducible exact histogram_Quantile.mono _ _ _ _)
      | (with_reducible exact sleuthlaw21_index.mono _ _)
      | (with_reducible exact sleuthlaw21_known.mono _)
      | (with_reducible exact sleuthlaw21_of.mono _ _)
      | (with_reducible exact sleuthlaw21_values.mono _ _)
      | (with_reducible exact sleuthref02_Check.mono _ _ _)
      | (with_reducible exact LeO.refl _)
      | (with_reducible exact LeO.none _)
      | (with_reducible refine LeO.ite ?_ ?_)
      | (with_reducible refine LeO.bind ?_ (fun _ => ?_))
      | exact ih0 _ _ _ _ _ _ _
      | exact ih1 _ _ _ _ _ _ _ _
      | exact ih2 _ _ _ _ _
      | exact ih3 _ _ _ _ _ _ _ _
      | exact ih4 _ _ _ _ _ _ _ _
      | exact histogram_Quantile.mono _ _ _ _
      | exact sleuthlaw21_index.mono _ _
      | exact sleuthlaw21_known.mono _
      | exact sleuthlaw21_of.mono _ _
      | exact sleuthlaw21_values.mono _ _
      | exact sleuthref02_Check.mono _ _ _
      | exact LeO.none _
      | refine LeO.ite ?_ ?_
      | refine LeO.bind ?_ (fun _ => ?_)
    · intro y0 y1 y2 y3 y4
      unfold sleuthlaw21_HistogramQuantiles.l0
      repeat' first
      | (with_reducible exact ih0 _ _ _ _ _ _ _)
      | (with_reducible exact ih1 _ _ _ _ _ _ _ _)
      | (with_reducible exact ih2 _ _ _ _ _)
      | (with_reducible exact ih3 _ _ _ _ _ _ _ _)
      | (with_reducible exact ih4 _ _ _ _ _ _ _ _)
      | (with_reducible exact histogram_Quantile.mono _ _ _ _)
      | (with_reducible exact sleuthlaw21_index.mono _ _)
      | (with_reducible exact sleuthlaw21_known.mono _)
      | (with_reducible exact sleuthlaw21_of.mono _ _)
      | (with_reducible exact sleuthlaw21_values.mono _ _)
      | (with_reducible exact sleuthref02_Check.mono _ _ _)
      | (with_reducible exact LeO.refl _)
      | (with_reducible exact LeO.none _)
      | (with_reducible refine LeO.ite ?_ ?_)
      | (with_reducible refine LeO.bind ?_ (fun _ => ?_))
      | exact ih0 _ _ _ _ _ _ _
      | exact ih1 _ _ _ _ _ _ _ _
      | exact ih2 _ _ _ _ _
      | exact ih3 _ _ _ _ _ _ _ _
      | exact ih4 _ _ _ _ _ _ _ _
      | exact histogram_Quantile.mono _ _ _ _
      | exact sleuthlaw21_index.mono _ _
      | exact sleuthlaw21_known.mono _
      | exact sleuthlaw21_of.mono _ _
      | exact sleuthlaw21_values.mono _ _
      | exact sleuthref02_Check.mono _ _ _
      | exact LeO.none _
      | refine LeO.ite ?_ ?_
      | refine LeO.bind ?_ (fun _ => ?_)
    · intro y0 y1 y2 y3 y4 y5 y6 y7
      unfold sleuthlaw21_HistogramQuantiles.l1
      repeat' first
      | (with_reducible exact ih0 _ _ _ _ _ _ _)
      | (with_reducible exact ih1 _ _ _ _ _ _ _ _)
      | (with_reducible exact ih2 _ _ _ _ _)
      | (with_reducible exact ih3 _ _ _ _ _ _ _ _)
      | (with_reducible exact ih4 _ _ _ _ _ _ _ _)
      | (with_reducible exact histogram_Quantile.mono _ _ _ _)
      | (with_reducible exact sleuthlaw21_index.mono _ _)
      | (with_reducible exact sleuthlaw21_known.mono _)
      | (with_reducible exact sleuthlaw21_of.mono _ _)
      | (with_reducible exact sleuthlaw21_values.mono _ _)
      | (with_reducible exact sleuthref02_Check.mono _ _ _)
      | (with_reducible exact LeO.refl _)
      | (with_reducible exact LeO.none _)
      | (with_reducible refine LeO.ite ?_ ?_)
      | (with_reducible refine LeO.bind ?_ (fun _ => ?_))
      | exact ih0 _ _ _ _ _ _ _
      | exact ih1 _ _ _ _ _ _ _ _
      | exact ih2 _ _ _ _ _
      | exact ih3 _ _ _ _ _ _ _ _
      | exact ih4 _ _ _ _ _ _ _ _
      | exact histogram_Quantile.mono _ _ _ _
      | exact sleuthlaw21_index.mono _ _
      | exact sleuthlaw21_known.mono _
      | exact sleuthlaw21_of.mono _ _
      | exact sleuthlaw21_values.mono _ _
      | exact sleuthref02_Check.mono _ _ _
      | exact LeO.none _
      | refine LeO.ite ?_ ?_
      | refine LeO.bind ?_ (fun _ => ?_)
    · intro y0 y1 y2 y3 y4 y5 y6 y7
      unfold sleuthlaw21_HistogramQuantiles.j0
      repeat' first
      | (with_reducible exact ih0 _ _ _ _ _ _ _)
      | (with_reducible exact ih1 _ _ _ _ _ _ _ _)
      | (with_reducible exact ih2 _ _ _ _ _)
      | (with_reducible exact ih3 _ _ _ _ _ _ _ _)
      | (with_reducible exact ih4 _ _ _ _ _ _ _ _)
      | (with_reducible exact histogram_Quantile.mono _ _ _ _)
      | (with_reducible exact sleuthlaw21_index.mono _ _)
      | (with_reducible exact sleuthlaw21_known.mono _)
      | (with_reducible exact sleuthlaw21_of.mono _ _)
      | (with_reducible exact sleuthlaw21_values.mono _ _)
      | (with_reducible exact sleuthref02_Check.mono _ _ _)
      | (with_reducible exact LeO.refl _)
      | (with_reducible exact LeO.none _)
      | (with_reducible refine LeO.ite ?_ ?_)
      | (with_reducible refine LeO.bind ?_ (fun _ => ?_))
      | exact ih0 _ _ _ _ _ _ _
      | exact ih1 _ _ _ _ _ _ _ _
      | exact ih2 _ _ _ _ _
      | exact ih3 _ _ _ _ _ _ _ _
      | exact ih4 _ _ _ _ _ _ _ _
      | exact histogram_Quantile.mono _ _ _ _
      | exact sleuthlaw21_index.mono _ _
      | exact sleuthlaw21_known.mono _
      | exact sleuthlaw21_of.mono _ _
      | exact sleuthlaw21_values.mono _ _
      | exact sleuthref02_Check.mono _ _ _
      | exact LeO.none _
      | refine LeO.ite ?_ ?_
      | refine LeO.bind ?_ (fun _ => ?_)
theorem sleuthlaw21_HistogramQuantiles.mono : ∀ a0 a1 a2 k, LeO (sleuthlaw21_HistogramQuantiles.f k a0 a1 a2) (sleuthlaw21_HistogramQuantiles.f (k + 1) a0 a1 a2) := by
  intro a0 a1 a2 k
  obtain ⟨ih0, ih1, ih2, ih3, ih4⟩ := sleuthlaw21_HistogramQuantiles.mono_l k
  unfold sleuthlaw21_HistogramQuantiles.f
  repeat' first
      | (with_reducible exact ih0 _ _ _ _ _ _ _)
      | (with_reducible exact ih1 _ _ _ _ _ _ _ _)
      | (with_reducible exact ih2 _ _ _ _ _)
      | (with_reducible exact ih3 _ _ _ _ _ _ _ _)
      | (with_reducible exact ih4 _ _ _ _ _ _ _ _)
      | (with_reducible exact histogram_Quantile.mono _ _ _ _)
      | (with_reducible exact sleuthlaw21_index.mono _ _)
      | (with_reducible exact sleuthlaw21_known.mono _)
      | (with_reducible exact sleuthlaw21_of.mono _ _)
      | (with_reducible exact sleuthlaw21_values.mono _ _)
      | (with_reducible exact sleuthref02_Check.mono _ _ _)
      | (with_reducible exact LeO.refl _)
      | (with_reducible exact LeO.none _)
      | (with_reducible refine LeO.ite ?_ ?_)
      | (with_reducible refine LeO.bind ?_ (fun _ => ?_))
      | exact ih0 _ _ _ _ _ _ _
      | exact ih1 _ _ _ _ _ _ _ _
      | exact ih2 _ _ _ _ _
      | exact ih3 _ _ _ _ _ _ _ _
      | exact ih4 _ _ _ _ _ _ _ _
      | exact histogram_Quantile.mono _ _ _ _
      | exact sleuthlaw21_index.mono _ _
      | exact sleuthlaw21_known.mono _
      | exact sleuthlaw21_of.mono _ _
      | exact sleuthlaw21_values.mono _ _
      | exact sleuthref02_Check.mono _ _ _
      | exact LeO.none _
      | refine LeO.ite ?_ ?_
      | refine LeO.bind ?_ (fun _ => ?_)
set_option maxHeartbeats 8000000 in
set_option maxRecDepth 100000 in
theorem sleuthlaw21_HistogramQuantiles.calls (k : Nat) (A0 : Option Addr) (c0 : Nat) (l0 : List Int) (a1_0 : Int) (a1_1 : Int) (r : Bool) (w : World) (hr0 : Kd.C (Kd.int .i64) w A0 l0.length l0) (hc0 : l0.length ≤ c0) (h : sleuthlaw21_HistogramQuantiles.f k l0 a1_0 a1_1 = some r) (hr_ : r = true) :
    Calls Try.prog 6 #[.slice A0 l0.length c0, .agg #[.int .i64 a1_0, .int .i64 a1_1]] w fun e w' => e = .returned (.bool r) ∧ Below w.heap.size w w' := by
  have hu41 := Try.underlying41
  have hu33 := Try.underlying33
  have HR0 := Aside0.mk hr0
  have HC0 := Aside0.mk hc0
  clear hr0 hc0
  have HB := Aside0.mk (Below.refl w.heap.size w)
  have H : ((sleuthlaw21_known.f k).bind fun t228 => (if t228 = true then ((sleuthlaw21_of.f k l0).bind fun t229 => ((sleuthlaw21_values.f k l0).bind fun t232 => ((histogram_Quantile.f k t229 a1_0 a1_1).bind fun bt236 => ((sleuthref02_Check.f k a1_0 a1_1).bind fun t239 => (if t239 = true then (if a1_0 < 0 then (sleuthlaw21_HistogramQuantiles.j0 k t232 bt236.1 bt236.2.1 bt236.2.2 0 true a1_0 a1_1) else (sleuthlaw21_HistogramQuantiles.j0 k t232 bt236.1 bt236.2.1 bt236.2.2 0 (decide (a1_0 > a1_1)) a1_0 a1_1)) else (sleuthlaw21_HistogramQuantiles.j1 k t232 bt236.1 bt236.2.1 bt236.2.2 3 a1_0 a1_1)))))) else (some false))) = some r := h
  clear h
  replace H := Option.bind_eq_some_iff.mp H
  obtain ⟨t228, A30, H⟩ := H
  replace H : (if t228 = true then ((sleuthlaw21_of.f k l0).bind fun t229 => ((sleuthlaw21_values.f k l0).bind fun t232 => ((histogram_Quantile.f k t229 a1_0 a1_1).bind fun bt236 => ((sleuthref02_Check.f k a1_0 a1_1).bind fun t239 => (if t239 = true then (if a1_0 < 0 then (sleuthlaw21_HistogramQuantiles.j0 k t232 bt236.1 bt236.2.1 bt236.2.2 0 true a1_0 a1_1) else (sleuthlaw21_HistogramQuantiles.j0 k t232 bt236.1 bt236.2.1 bt236.2.2 0 (decide (a1_0 > a1_1)) a1_0 a1_1)) else (sleuthlaw21_HistogramQuantiles.j1 k t232 bt236.1 bt236.2.1 bt236.2.2 3 a1_0 a1_1)))))) else (some false)) = some r := H
  have A3 := Aside0.mk A30
  clear A30
  by_cases c4 : t228 = true
  · subst c4
    have H1 : ((sleuthlaw21_of.f k l0).bind fun t229 => ((sleuthlaw21_values.f k l0).bind fun t232 => ((histogram_Quantile.f k t229 a1_0 a1_1).bind fun bt236 => ((sleuthref02_Check.f k a1_0 a1_1).bind fun t239 => (if t239 = true then (if a1_0 < 0 then (sleuthlaw21_HistogramQuantiles.j0 k t232 bt236.1 bt236.2.1 bt236.2.2 0 true a1_0 a1_1) else (sleuthlaw21_HistogramQuantiles.j0 k t232 bt236.1 bt236.2.1 bt236.2.2 0 (decide (a1_0 > a1_1)) a1_0 a1_1)) else (sleuthlaw21_HistogramQuantiles.j1 k t232 bt236.1 bt236.2.1 bt236.2.2 3 a1_0 a1_1)))))) = some r := by rw [if_pos rfl] at H; exact H
    clear H
    have H := H1
    clear H1
    replace H := Option.bind_eq_some_iff.mp H
    obtain ⟨t229, A50, H⟩ := H
    replace H : ((sleuthlaw21_values.f k l0).bind fun t232 => ((histogram_Quantile.f k t229 a1_0 a1_1).bind fun bt236 => ((sleuthref02_Check.f k a1_0 a1_1).bind fun t239 => (if t239 = true then (if a1_0 < 0 then (sleuthlaw21_HistogramQuantiles.j0 k t232 bt236.1 bt236.2.1 bt236.2.2 0 true a1_0 a1_1) else (sleuthlaw21_HistogramQuantiles.j0 k t232 bt236.1 bt236.2.1 bt236.2.2 0 (decide (a1_0 > a1_1)) a1_0 a1_1)) else (sleuthlaw21_HistogramQuantiles.j1 k t232 bt236.1 bt236.2.1 bt236.2.2 3 a1_0 a1_1))))) = some r := H
    have A5 := Aside0.mk A50
    clear A50
    replace H := Option.bind_eq_some_iff.mp H
    obtain ⟨t232, A60, H⟩ := H
    replace H : ((histogram_Quantile.f k t229 a1_0 a1_1).bind fun bt236 => ((sleuthref02_Check.f k a1_0 a1_1).bind fun t239 => (if t239 = true then (if a1_0 < 0 then (sleuthlaw21_HistogramQuantiles.j0 k t232 bt236.1 bt236.2.1 bt236.2.2 0 true a1_0 a1_1) else (sleuthlaw21_HistogramQuantiles.j0 k t232 bt236.1 bt236.2.1 bt236.2.2 0 (decide (a1_0 > a1_1)) a1_0 a1_1)) else (sleuthlaw21_HistogramQuantiles.j1 k t232 bt236.1 bt236.2.1 bt236.2.2 3 a1_0 a1_1)))) = some r := H
    have A6 := Aside0.mk A60
    clear A60
    replace H := Option.bind_eq_some_iff.mp H
    obtain ⟨⟨t236, t237, t238⟩, A70, H⟩ := H
    replace H : ((sleuthref02_Check.f k a1_0 a1_1).bind fun t239 => (if t239 = true then (if a1_0 < 0 then (sleuthlaw21_HistogramQuantiles.j0 k t232 t236 t237 t238 0 true a1_0 a1_1) else (sleuthlaw21_HistogramQuantiles.j0 k t232 t236 t237 t238 0 (decide (a1_0 > a1_1)) a1_0 a1_1)) else (sleuthlaw21_HistogramQuantiles.j1 k t232 t236 t237 t238 3 a1_0 a1_1))) = some r := H
    have A7 := Aside0.mk A70
    clear A70
    replace H := Option.bind_eq_some_iff.mp H
    obtain ⟨t239, A80, H⟩ := H
    replace H : (if t239 = true then (if a1_0 < 0 then (sleuthlaw21_HistogramQuantiles.j0 k t232 t236 t237 t238 0 true a1_0 a1_1) else (sleuthlaw21_HistogramQuantiles.j0 k t232 t236 t237 t238 0 (decide (a1_0 > a1_1)) a1_0 a1_1)) else (sleuthlaw21_HistogramQuantiles.j1 k t232 t236 t237 t238 3 a1_0 a1_1)) = some r := H
    have A8 := Aside0.mk A80
    clear A80
    have HC9 := Aside0.mk H
    clear H
    go_enter Try.func6, Try.ntmps6
    go_upto_if 31 with (first | ((with_reducible refine gate_dst (N := 3) rfl ?_); refine box_event ?hg (N := 3) ?hd (cs := #[.int .i64 a1_0, .int .i64 a1_1]) (t := 41) ?hr ?_; (case hd => rfl); (case hg => rfl); (case hr => first | (go_simp; done) | (go_simp; rfl)); intro gb227 hg w10 hbox hb; have n0_ := Aside0.mk (below_step (by repeat (first | (with_reducible first | exact HB.out | apply below_alloc | apply pw_below_drewN | apply below_drew1) | exact HB.out)) hb); have n1_ := Aside0.mk (hbox); have n2_ := Aside0.mk ((by rw [hg]; exact (below_size (by repeat (first | (with_reducible first | exact HB.out | apply below_alloc | apply pw_below_drewN | apply below_drew1) | exact HB.out))) : w.heap.size ≤ gb227)); have n3_ := Aside0.mk ((by rw [hg]; exact (below_size (by repeat (first | (with_reducible first | exact HB.out | apply below_alloc | apply pw_below_drewN | apply below_drew1) | exact HB.out))) : w.heap.size ≤ gb227)); clear HB; have HB := n0_; have BK227 := n1_; have GW227 := n2_; have GE227 := n3_; clear n0_ n1_ n2_ n3_; clear hb hbox hg) | (go_at_call 12; (with_reducible refine (sleuthlaw21_known.calls k  true _ A3.out (by first | rfl | assumption)).mono ?_); rintro e w11 ⟨rfl, hb⟩; have n0_ := Aside0.mk (blk_below (g := gb227) (o := .cells #[.int .i64 a1_0, .int .i64 a1_1] 41 (0, 0)) (by (with_reducible repeat (first | refine blk_drewN ?_ _ | refine blk_drew ?_ | refine blk_alloc ?_ _)); exact BK227.out) hb); have n1_ := Aside0.mk (below_step (by repeat (first | (with_reducible first | exact HB.out | apply below_alloc | apply pw_below_drewN | apply below_drew1 | refine below_set ?_ GE227.out) | exact HB.out)) hb); clear BK227; clear HB; have BK227 := n0_; have HB := n1_; clear n0_ n1_; (try clear hb); (try clear hb2); (try clear hk); (try clear hi)) | (go_at_call 18; (with_reducible refine (sleuthlaw21_of.calls k _ _ l0 t229 _ ?side1 ?side2 A5.out).mono ?_); (case side1 => repeat (first | exact (Kd.C_below HR0.out HB.out) | (with_reducible refine Kd.C_alloc ?_ _) | (with_reducible refine Kd.C_drewN ?_ _) | (with_reducible refine Kd.C_drew ?_))); (case side2 => exact HC0.out); rintro e w12 ⟨v230, rfl, ho0, hb⟩; have n0_ := Aside0.mk (Kd.R_lower ho0 (below_size (by repeat (first | (with_reducible first | exact HB.out | apply below_alloc | apply pw_below_drewN | apply below_drew1 | refine below_set ?_ GE227.out) | exact HB.out)))); have n1_ := Aside0.mk (blk_below (g := gb227) (o := .cells #[.int .i64 a1_0, .int .i64 a1_1] 41 (0, 0)) (by (with_reducible repeat (first | refine blk_drewN ?_ _ | refine blk_drew ?_ | refine blk_alloc ?_ _)); exact BK227.out) hb); have n2_ := Aside0.mk (below_step (by repeat (first | (with_reducible first | exact HB.out | apply below_alloc | apply pw_below_drewN | apply below_drew1 | refine below_set ?_ GE227.out) | exact HB.out)) hb); clear BK227; clear HB; have HO231 := n0_; have BK227 := n1_; have HB := n2_; clear n0_ n1_ n2_; (try clear hb); (try clear hb2); (try clear hk); (try clear hi); (try clear ho0)) | (go_at_call 19; (with_reducible refine (sleuthlaw21_values.calls k _ _ l0 t232 _ ?side1 ?side2 A6.out).mono ?_); (case side1 => repeat (first | exact (Kd.C_below HR0.out HB.out) | (with_reducible refine Kd.C_alloc ?_ _) | (with_reducible refine Kd.C_drewN ?_ _) | (with_reducible refine Kd.C_drew ?_))); (case side2 => exact HC0.out); rintro e w13 ⟨v233, rfl, ho0, hb⟩; have n0_ := Aside0.mk (Kd.R_below (by (with_reducible repeat (first | apply Kd.R_alloc | apply Kd.R_drewN | apply Kd.R_drew)); exact HO231.out) hb); have n1_ := Aside0.mk (Kd.R_lower ho0 (below_size (by repeat (first | (with_reducible first | exact HB.out | apply below_alloc | apply pw_below_drewN | apply below_drew1 | refine below_set ?_ GE227.out) | exact HB.out)))); have n2_ := Aside0.mk (blk_below (g := gb227) (o := .cells #[.int .i64 a1_0, .int .i64 a1_1] 41 (0, 0)) (by (with_reducible repeat (first | refine blk_drewN ?_ _ | refine blk_drew ?_ | refine blk_alloc ?_ _)); exact BK227.out) hb); have n3_ := Aside0.mk (below_step (by repeat (first | (with_reducible first | exact HB.out | apply below_alloc | apply pw_below_drewN | apply below_drew1 | refine below_set ?_ GE227.out) | exact HB.out)) hb); clear HO231; clear BK227; clear HB; have HO231 := n0_; have HO234 := n1_; have BK227 := n2_; have HB := n3_; clear n0_ n1_ n2_ n3_; (try clear hb); (try clear hb2); (try clear hk); (try clear hi); (try clear ho0)) | ((with_reducible refine gate_dst (N := 5) rfl ?_); refine box_event ?hg (N := 5) ?hd (cs := #[.slice none 0 0]) (t := 33) ?hr ?_; (case hd => rfl); (case hg => rfl); (case hr => first | (go_simp; done) | (go_simp; rfl)); intro gb235 hg w14 hbox hb; have n0_ := Aside0.mk (Kd.R_below (by (with_reducible repeat (first | apply Kd.R_alloc | apply Kd.R_drewN | apply Kd.R_drew)); exact HO231.out) hb); have n1_ := Aside0.mk (Kd.R_below (by (with_reducible repeat (first | apply Kd.R_alloc | apply Kd.R_drewN | apply Kd.R_drew)); exact HO234.out) hb); have n2_ := Aside0.mk (blk_below (g := gb227) (o := .cells #[.int .i64 a1_0, .int .i64 a1_1] 41 (0, 0)) (by (with_reducible repeat (first | refine blk_drewN ?_ _ | refine blk_drew ?_ | refine blk_alloc ?_ _)); exact BK227.out) hb); have n3_ := Aside0.mk (below_step (by repeat (first | (with_reducible first | exact HB.out | apply below_alloc | apply pw_below_drewN | apply below_drew1 | refine below_set ?_ GE227.out) | exact HB.out)) hb); have n4_ := Aside0.mk (hbox); have n5_ := Aside0.mk ((by rw [hg]; exact (below_size (by repeat (first | (with_reducible first | exact HB.out | apply below_alloc | apply pw_below_drewN | apply below_drew1 | refine below_set ?_ GE227.out) | exact HB.out))) : w.heap.size ≤ gb235)); have n6_ := Aside0.mk ((by rw [hg]; exact (below_size (by repeat (first | (with_reducible first | exact HB.out | apply below_alloc | apply pw_below_drewN | apply below_drew1 | refine below_set ?_ GE227.out) | exact HB.out))) : w.heap.size ≤ gb235)); have n7_ := Aside0.mk ((by rw [hg]; exact Nat.ne_of_lt (blk_lt (g := gb227) (o := .cells #[.int .i64 a1_0, .int .i64 a1_1] 41 (0, 0)) (by (with_reducible repeat (first | refine blk_drewN ?_ _ | refine blk_drew ?_ | refine blk_alloc ?_ _)); exact BK227.out)) : gb227 ≠ gb235)); have n8_ := Aside0.mk ((by rw [hg]; exact Nat.ne_of_gt (blk_lt (g := gb227) (o := .cells #[.int .i64 a1_0, .int .i64 a1_1] 41 (0, 0)) (by (with_reducible repeat (first | refine blk_drewN ?_ _ | refine blk_drew ?_ | refine blk_alloc ?_ _)); exact BK227.out)) : gb235 ≠ gb227)); clear HO231; clear HO234; clear BK227; clear HB; have HO231 := n0_; have HO234 := n1_; have BK227 := n2_; have HB := n3_; have BK235 := n4_; have GW235 := n5_; have GE235 := n6_; have NB227_235 := n7_; have NB235_227 := n8_; clear n0_ n1_ n2_ n3_ n4_ n5_ n6_ n7_ n8_; clear hb hbox hg; obtain ⟨Ao15, co15, eo15⟩ := Kd.R_slice HO231.out; subst eo15; have hnb16 := NB235_227.out; have hnc16 := NB227_235.out; have hcz17_0 : w14.cell? ⟨gb235, 0, none⟩ = some (.slice none 0 0) := (blk_cell BK235.out 0).trans rfl; have hfz17_0 := blk_frozen BK235.out 0; have hcz18_0 : w14.cell? ⟨gb227, 0, none⟩ = some (.int .i64 a1_0) := (blk_cell BK227.out 0).trans rfl; have hcz18_1 : w14.cell? ⟨gb227, 1, none⟩ = some (.int .i64 a1_1) := (blk_cell BK227.out 1).trans rfl; have hfz18_0 := blk_frozen BK227.out 0; have hfz18_1 := blk_frozen BK227.out 1) | (go_at_call 22; (with_reducible refine (histogram_Quantile.calls k _ _ t229 a1_0 a1_1 t236 t237 t238 _ ?side1 ?side2 A7.out).mono ?_); (case side1 => refine (Kd.R_reads' (e := 67) (base := w.heap.size) (ok := fun k_ => True) (n := t229.length) (c := co15) ?_).2.2; exact (by (with_reducible repeat (first | apply Kd.R_alloc | apply Kd.R_drewN | apply Kd.R_drew)); exact (Kd.R_mono (Kd.R_far (p := ⟨gb235, 0, none⟩) (Kd.R_types HO231.out BK235.out (by decide)) (fun _ hk => hk.2) (.slice Ao15 t229.length co15)) (fun _ h_ => h_.1)))); (case side2 => exact (Kd.R_reads' HO231.out).2.1); rintro e w19 ⟨rfl, hb⟩; have n0_ := Aside0.mk (Kd.R_below (by (with_reducible repeat (first | apply Kd.R_alloc | apply Kd.R_drewN | apply Kd.R_drew)); exact (Kd.R_mono (Kd.R_far (p := ⟨gb235, 0, none⟩) (Kd.R_types HO231.out BK235.out (by decide)) (fun _ hk => hk.2) (.slice Ao15 t229.length co15)) (fun _ h_ => h_.1))) hb); have n1_ := Aside0.mk (Kd.R_below (by (with_reducible repeat (first | apply Kd.R_alloc | apply Kd.R_drewN | apply Kd.R_drew)); exact (Kd.R_mono (Kd.R_far (p := ⟨gb235, 0, none⟩) (Kd.R_types HO234.out BK235.out (by decide)) (fun _ hk => hk.2) (.slice Ao15 t229.length co15)) (fun _ h_ => h_.1))) hb); have n2_ := Aside0.mk (blk_below (g := gb227) (o := .cells #[.int .i64 a1_0, .int .i64 a1_1] 41 (0, 0)) (by (with_reducible repeat (first | refine blk_drewN ?_ _ | refine blk_drew ?_ | refine blk_alloc ?_ _)); refine blk_far ?_ NB227_235.out _; (with_reducible repeat (first | refine blk_drewN ?_ _ | refine blk_drew ?_ | refine blk_alloc ?_ _)); exact BK227.out) hb); have n3_ := Aside0.mk (blk_below (g := gb235) (o := .cells #[.slice Ao15 t229.length co15] 33 (0, 0)) (by (with_reducible repeat (first | refine blk_drewN ?_ _ | refine blk_drew ?_ | refine blk_alloc ?_ _)); refine blk_put (cs := #[.slice none 0 0]) ?_ 0 _ rfl; (with_reducible repeat (first | refine blk_drewN ?_ _ | refine blk_drew ?_ | refine blk_alloc ?_ _)); exact BK235.out) hb); have n4_ := Aside0.mk (below_step (by repeat (first | (with_reducible first | exact HB.out | apply below_alloc | apply pw_below_drewN | apply below_drew1 | refine below_set ?_ GE227.out | refine below_set ?_ GE235.out) | exact HB.out)) hb); clear HO231; clear HO234; clear BK227; clear BK235; clear HB; have HO231 := n0_; have HO234 := n1_; have BK227 := n2_; have BK235 := n3_; have HB := n4_; clear n0_ n1_ n2_ n3_ n4_; (try clear hb); (try clear hb2); (try clear hk); (try clear hi); have hcz20_0 : w19.cell? ⟨gb227, 0, none⟩ = some (.int .i64 a1_0) := (blk_cell BK227.out 0).trans rfl; have hcz20_1 : w19.cell? ⟨gb227, 1, none⟩ = some (.int .i64 a1_1) := (blk_cell BK227.out 1).trans rfl; have hfz20_0 := blk_frozen BK227.out 0; have hfz20_1 := blk_frozen BK227.out 1) | (go_at_call 23; (with_reducible refine (sleuthref02_Check.calls k a1_0 a1_1 t239 _ A8.out).mono ?_); rintro e w21 ⟨rfl, hb⟩; have n0_ := Aside0.mk (Kd.R_below (by (with_reducible repeat (first | apply Kd.R_alloc | apply Kd.R_drewN | apply Kd.R_drew)); exact HO231.out) hb); have n1_ := Aside0.mk (Kd.R_below (by (with_reducible repeat (first | apply Kd.R_alloc | apply Kd.R_drewN | apply Kd.R_drew)); exact HO234.out) hb); have n2_ := Aside0.mk (blk_below (g := gb227) (o := .cells #[.int .i64 a1_0, .int .i64 a1_1] 41 (0, 0)) (by (with_reducible repeat (first | refine blk_drewN ?_ _ | refine blk_drew ?_ | refine blk_alloc ?_ _)); exact BK227.out) hb); have n3_ := Aside0.mk (blk_below (g := gb235) (o := .cells #[.slice Ao15 t229.length co15] 33 (0, 0)) (by (with_reducible repeat (first | refine blk_drewN ?_ _ | refine blk_drew ?_ | refine blk_alloc ?_ _)); exact BK235.out) hb); have n4_ := Aside0.mk (below_step (by repeat (first | (with_reducible first | exact HB.out | apply below_alloc | apply pw_below_drewN | apply below_drew1 | refine below_set ?_ GE227.out | refine below_set ?_ GE235.out) | exact HB.out)) hb); clear HO231; clear HO234; clear BK227; clear BK235; clear HB; have HO231 := n0_; have HO234 := n1_; have BK227 := n2_; have BK235 := n3_; have HB := n4_; clear n0_ n1_ n2_ n3_ n4_; (try clear hb); (try clear hb2); (try clear hk); (try clear hi)))
    repeat (go_quiet (first | ((with_reducible refine gate_dst (N := 3) rfl ?_); refine box_event ?hg (N := 3) ?hd (cs := #[.int .i64 a1_0, .int .i64 a1_1]) (t := 41) ?hr ?_; (case hd => rfl); (case hg => rfl); (case hr => first | (go_simp; done) | (go_simp; rfl)); intro gb227 hg w10 hbox hb; have n0_ := Aside0.mk (below_step (by repeat (first | (with_reducible first | exact HB.out | apply below_alloc | apply pw_below_drewN | apply below_drew1) | exact HB.out)) hb); have n1_ := Aside0.mk (hbox); have n2_ := Aside0.mk ((by rw [hg]; exact (below_size (by repeat (first | (with_reducible first | exact HB.out | apply below_alloc | apply pw_below_drewN | apply below_drew1) | exact HB.out))) : w.heap.size ≤ gb227)); have n3_ := Aside0.mk ((by rw [hg]; exact (below_size (by repeat (first | (with_reducible first | exact HB.out | apply below_alloc | apply pw_below_drewN | apply below_drew1) | exact HB.out))) : w.heap.size ≤ gb227)); clear HB; have HB := n0_; have BK227 := n1_; have GW227 := n2_; have GE227 := n3_; clear n0_ n1_ n2_ n3_; clear hb hbox hg) | (go_at_call 12; (with_reducible refine (sleuthlaw21_known.calls k  true _ A3.out (by first | rfl | assumption)).mono ?_); rintro e w11 ⟨rfl, hb⟩; have n0_ := Aside0.mk (blk_below (g := gb227) (o := .cells #[.int .i64 a1_0, .int .i64 a1_1] 41 (0, 0)) (by (with_reducible repeat (first | refine blk_drewN ?_ _ | refine blk_drew ?_ | refine blk_alloc ?_ _)); exact BK227.out) hb); have n1_ := Aside0.mk (below_step (by repeat (first | (with_reducible first | exact HB.out | apply below_alloc | apply pw_below_drewN | apply below_drew1 | refine below_set ?_ GE227.out) | exact HB.out)) hb); clear BK227; clear HB; have BK227 := n0_; have HB := n1_; clear n0_ n1_; (try clear hb); (try clear hb2); (try clear hk); (try clear hi)) | (go_at_call 18; (with_reducible refine (sleuthlaw21_of.calls k _ _ l0 t229 _ ?side1 ?side2 A5.out).mono ?_); (case side1 => repeat (first | exact (Kd.C_below HR0.out HB.out) | (with_reducible refine Kd.C_alloc ?_ _) | (with_reducible refine Kd.C_drewN ?_ _) | (with_reducible refine Kd.C_drew ?_))); (case side2 => exact HC0.out); rintro e w12 ⟨v230, rfl, ho0, hb⟩; have n0_ := Aside0.mk (Kd.R_lower ho0 (below_size (by repeat (first | (with_reducible first | exact HB.out | apply below_alloc | apply pw_below_drewN | apply below_drew1 | refine below_set ?_ GE227.out) | exact HB.out)))); have n1_ := Aside0.mk (blk_below (g := gb227) (o := .cells #[.int .i64 a1_0, .int .i64 a1_1] 41 (0, 0)) (by (with_reducible repeat (first | refine blk_drewN ?_ _ | refine blk_drew ?_ | refine blk_alloc ?_ _)); exact BK227.out) hb); have n2_ := Aside0.mk (below_step (by repeat (first | (with_reducible first | exact HB.out | apply below_alloc | apply pw_below_drewN | apply below_drew1 | refine below_set ?_ GE227.out) | exact HB.out)) hb); clear BK227; clear HB; have HO231 := n0_; have BK227 := n1_; have HB := n2_; clear n0_ n1_ n2_; (try clear hb); (try clear hb2); (try clear hk); (try clear hi); (try clear ho0)) | (go_at_call 19; (with_reducible refine (sleuthlaw21_values.calls k _ _ l0 t232 _ ?side1 ?side2 A6.out).mono ?_); (case side1 => repeat (first | exact (Kd.C_below HR0.out HB.out) | (with_reducible refine Kd.C_alloc ?_ _) | (with_reducible refine Kd.C_drewN ?_ _) | (with_reducible refine Kd.C_drew ?_))); (case side2 => exact HC0.out); rintro e w13 ⟨v233, rfl, ho0, hb⟩; have n0_ := Aside0.mk (Kd.R_below (by (with_reducible repeat (first | apply Kd.R_alloc | apply Kd.R_drewN | apply Kd.R_drew)); exact HO231.out) hb); have n1_ := Aside0.mk (Kd.R_lower ho0 (below_size (by repeat (first | (with_reducible first | exact HB.out | apply below_alloc | apply pw_below_drewN | apply below_drew1 | refine below_set ?_ GE227.out) | exact HB.out)))); have n2_ := Aside0.mk (blk_below (g := gb227) (o := .cells #[.int .i64 a1_0, .int .i64 a1_1] 41 (0, 0)) (by (with_reducible repeat (first | refine blk_drewN ?_ _ | refine blk_drew ?_ | refine blk_alloc ?_ _)); exact BK227.out) hb); have n3_ := Aside0.mk (below_step (by repeat (first | (with_reducible first | exact HB.out | apply below_alloc | apply pw_below_drewN | apply below_drew1 | refine below_set ?_ GE227.out) | exact HB.out)) hb); clear HO231; clear BK227; clear HB; have HO231 := n0_; have HO234 := n1_; have BK227 := n2_; have HB := n3_; clear n0_ n1_ n2_ n3_; (try clear hb); (try clear hb2); (try clear hk); (try clear hi); (try clear ho0)) | ((with_reducible refine gate_dst (N := 5) rfl ?_); refine box_event ?hg (N := 5) ?hd (cs := #[.slice none 0 0]) (t := 33) ?hr ?_; (case hd => rfl); (case hg => rfl); (case hr => first | (go_simp; done) | (go_simp; rfl)); intro gb235 hg w14 hbox hb; have n0_ := Aside0.mk (Kd.R_below (by (with_reducible repeat (first | apply Kd.R_alloc | apply Kd.R_drewN | apply Kd.R_drew)); exact HO231.out) hb); have n1_ := Aside0.mk (Kd.R_below (by (with_reducible repeat (first | apply Kd.R_alloc | apply Kd.R_drewN | apply Kd.R_drew)); exact HO234.out) hb); have n2_ := Aside0.mk (blk_below (g := gb227) (o := .cells #[.int .i64 a1_0, .int .i64 a1_1] 41 (0, 0)) (by (with_reducible repeat (first | refine blk_drewN ?_ _ | refine blk_drew ?_ | refine blk_alloc ?_ _)); exact BK227.out) hb); have n3_ := Aside0.mk (below_step (by repeat (first | (with_reducible first | exact HB.out | apply below_alloc | apply pw_below_drewN | apply below_drew1 | refine below_set ?_ GE227.out) | exact HB.out)) hb); have n4_ := Aside0.mk (hbox); have n5_ := Aside0.mk ((by rw [hg]; exact (below_size (by repeat (first | (with_reducible first | exact HB.out | apply below_alloc | apply pw_below_drewN | apply below_drew1 | refine below_set ?_ GE227.out) | exact HB.out))) : w.heap.size ≤ gb235)); have n6_ := Aside0.mk ((by rw [hg]; exact (below_size (by repeat (first | (with_reducible first | exact HB.out | apply below_alloc | apply pw_below_drewN | apply below_drew1 | refine below_set ?_ GE227.out) | exact HB.out))) : w.heap.size ≤ gb235)); have n7_ := Aside0.mk ((by rw [hg]; exact Nat.ne_of_lt (blk_lt (g := gb227) (o := .cells #[.int .i64 a1_0, .int .i64 a1_1] 41 (0, 0)) (by (with_reducible repeat (first | refine blk_drewN ?_ _ | refine blk_drew ?_ | refine blk_alloc ?_ _)); exact BK227.out)) : gb227 ≠ gb235)); have n8_ := Aside0.mk ((by rw [hg]; exact Nat.ne_of_gt (blk_lt (g := gb227) (o := .cells #[.int .i64 a1_0, .int .i64 a1_1] 41 (0, 0)) (by (with_reducible repeat (first | refine blk_drewN ?_ _ | refine blk_drew ?_ | refine blk_alloc ?_ _)); exact BK227.out)) : gb235 ≠ gb227)); clear HO231; clear HO234; clear BK227; clear HB; have HO231 := n0_; have HO234 := n1_; have BK227 := n2_; have HB := n3_; have BK235 := n4_; have GW235 := n5_; have GE235 := n6_; have NB227_235 := n7_; have NB235_227 := n8_; clear n0_ n1_ n2_ n3_ n4_ n5_ n6_ n7_ n8_; clear hb hbox hg; obtain ⟨Ao15, co15, eo15⟩ := Kd.R_slice HO231.out; subst eo15; have hnb16 := NB235_227.out; have hnc16 := NB227_235.out; have hcz17_0 : w14.cell? ⟨gb235, 0, none⟩ = some (.slice none 0 0) := (blk_cell BK235.out 0).trans rfl; have hfz17_0 := blk_frozen BK235.out 0; have hcz18_0 : w14.cell? ⟨gb227, 0, none⟩ = some (.int .i64 a1_0) := (blk_cell BK227.out 0).trans rfl; have hcz18_1 : w14.cell? ⟨gb227, 1, none⟩ = some (.int .i64 a1_1) := (blk_cell BK227.out 1).trans rfl; have hfz18_0 := blk_frozen BK227.out 0; have hfz18_1 := blk_frozen BK227.out 1) | (go_at_call 22; (with_reducible refine (histogram_Quantile.calls k _ _ t229 a1_0 a1_1 t236 t237 t238 _ ?side1 ?side2 A7.out).mono ?_); (case side1 => refine (Kd.R_reads' (e := 67) (base := w.heap.size) (ok := fun k_ => True) (n := t229.length) (c := co15) ?_).2.2; exact (by (with_reducible repeat (first | apply Kd.R_alloc | apply Kd.R_drewN | apply Kd.R_drew)); exact (Kd.R_mono (Kd.R_far (p := ⟨gb235, 0, none⟩) (Kd.R_types HO231.out BK235.out (by decide)) (fun _ hk => hk.2) (.slice Ao15 t229.length co15)) (fun _ h_ => h_.1)))); (case side2 => exact (Kd.R_reads' HO231.out).2.1); rintro e w19 ⟨rfl, hb⟩; have n0_ := Aside0.mk (Kd.R_below (by (with_reducible repeat (first | apply Kd.R_alloc | apply Kd.R_drewN | apply Kd.R_drew)); exact (Kd.R_mono (Kd.R_far (p := ⟨gb235, 0, none⟩) (Kd.R_types HO231.out BK235.out (by decide)) (fun _ hk => hk.2) (.slice Ao15 t229.length co15)) (fun _ h_ => h_.1))) hb); have n1_ := Aside0.mk (Kd.R_below (by (with_reducible repeat (first | apply Kd.R_alloc | apply Kd.R_drewN | apply Kd.R_drew)); exact (Kd.R_mono (Kd.R_far (p := ⟨gb235, 0, none⟩) (Kd.R_types HO234.out BK235.out (by decide)) (fun _ hk => hk.2) (.slice Ao15 t229.length co15)) (fun _ h_ => h_.1))) hb); have n2_ := Aside0.mk (blk_below (g := gb227) (o := .cells #[.int .i64 a1_0, .int .i64 a1_1] 41 (0, 0)) (by (with_reducible repeat (first | refine blk_drewN ?_ _ | refine blk_drew ?_ | refine blk_alloc ?_ _)); refine blk_far ?_ NB227_235.out _; (with_reducible repeat (first | refine blk_drewN ?_ _ | refine blk_drew ?_ | refine blk_alloc ?_ _)); exact BK227.out) hb); have n3_ := Aside0.mk (blk_below (g := gb235) (o := .cells #[.slice Ao15 t229.length co15] 33 (0, 0)) (by (with_reducible repeat (first | refine blk_drewN ?_ _ | refine blk_drew ?_ | refine blk_alloc ?_ _)); refine blk_put (cs := #[.slice none 0 0]) ?_ 0 _ rfl; (with_reducible repeat (first | refine blk_drewN ?_ _ | refine blk_drew ?_ | refine blk_alloc ?_ _)); exact BK235.out) hb); have n4_ := Aside0.mk (below_step (by repeat (first | (with_reducible first | exact HB.out | apply below_alloc | apply pw_below_drewN | apply below_drew1 | refine below_set ?_ GE227.out | refine below_set ?_ GE235.out) | exact HB.out)) hb); clear HO231; clear HO234; clear BK227; clear BK235; clear HB; have HO231 := n0_; have HO234 := n1_; have BK227 := n2_; have BK235 := n3_; have HB := n4_; clear n0_ n1_ n2_ n3_ n4_; (try clear hb); (try clear hb2); (try clear hk); (try clear hi); have hcz20_0 : w19.cell? ⟨gb227, 0, none⟩ = some (.int .i64 a1_0) := (blk_cell BK227.out 0).trans rfl; have hcz20_1 : w19.cell? ⟨gb227, 1, none⟩ = some (.int .i64 a1_1) := (blk_cell BK227.out 1).trans rfl; have hfz20_0 := blk_frozen BK227.out 0; have hfz20_1 := blk_frozen BK227.out 1) | (go_at_call 23; (with_reducible refine (sleuthref02_Check.calls k a1_0 a1_1 t239 _ A8.out).mono ?_); rintro e w21 ⟨rfl, hb⟩; have n0_ := Aside0.mk (Kd.R_below (by (with_reducible repeat (first | apply Kd.R_alloc | apply Kd.R_drewN | apply Kd.R_drew)); exact HO231.out) hb); have n1_ := Aside0.mk (Kd.R_below (by (with_reducible repeat (first | apply Kd.R_alloc | apply Kd.R_drewN | apply Kd.R_drew)); exact HO234.out) hb); have n2_ := Aside0.mk (blk_below (g := gb227) (o := .cells #[.int .i64 a1_0, .int .i64 a1_1] 41 (0, 0)) (by (with_reducible repeat (first | refine blk_drewN ?_ _ | refine blk_drew ?_ | refine blk_alloc ?_ _)); exact BK227.out) hb); have n3_ := Aside0.mk (blk_below (g := gb235) (o := .cells #[.slice Ao15 t229.length co15] 33 (0, 0)) (by (with_reducible repeat (first | refine blk_drewN ?_ _ | refine blk_drew ?_ | refine blk_alloc ?_ _)); exact BK235.out) hb); have n4_ := Aside0.mk (below_step (by repeat (first | (with_reducible first | exact HB.out | apply below_alloc | apply pw_below_drewN | apply below_drew1 | refine below_set ?_ GE227.out | refine below_set ?_ GE235.out) | exact HB.out)) hb); clear HO231; clear HO234; clear BK227; clear BK235; clear HB; have HO231 := n0_; have HO234 := n1_; have BK227 := n2_; have BK235 := n3_; have HB := n4_; clear n0_ n1_ n2_ n3_ n4_; (try clear hb); (try clear hb2); (try clear hk); (try clear hi))); go_upto_if 31 with (first | ((with_reducible refine gate_dst (N := 3) rfl ?_); refine box_event ?hg (N := 3) ?hd (cs := #[.int .i64 a1_0, .int .i64 a1_1]) (t := 41) ?hr ?_; (case hd => rfl); (case hg => rfl); (case hr => first | (go_simp; done) | (go_simp; rfl)); intro gb227 hg w10 hbox hb; have n0_ := Aside0.mk (below_step (by repeat (first | (with_reducible first | exact HB.out | apply below_alloc | apply pw_below_drewN | apply below_drew1) | exact HB.out)) hb); have n1_ := Aside0.mk (hbox); have n2_ := Aside0.mk ((by rw [hg]; exact (below_size (by repeat (first | (with_reducible first | exact HB.out | apply below_alloc | apply pw_below_drewN | apply below_drew1) | exact HB.out))) : w.heap.size ≤ gb227)); have n3_ := Aside0.mk ((by rw [hg]; exact (below_size (by repeat (first | (with_reducible first | exact HB.out | apply below_alloc | apply pw_below_drewN | apply below_drew1) | exact HB.out))) : w.heap.size ≤ gb227)); clear HB; have HB := n0_; have BK227 := n1_; have GW227 := n2_; have GE227 := n3_; clear n0_ n1_ n2_ n3_; clear hb hbox hg) | (go_at_call 12; (with_reducible refine (sleuthlaw21_known.calls k  true _ A3.out (by first | rfl | assumption)).mono ?_); rintro e w11 ⟨rfl, hb⟩; have n0_ := Aside0.mk (blk_below (g := gb227) (o := .cells #[.int .i64 a1_0, .int .i64 a1_1] 41 (0, 0)) (by (with_reducible repeat (first | refine blk_drewN ?_ _ | refine blk_drew ?_ | refine blk_alloc ?_ _)); exact BK227.out) hb); have n1_ := Aside0.mk (below_step (by repeat (first | (with_reducible first | exact HB.out | apply below_alloc | apply pw_below_drewN | apply below_drew1 | refine below_set ?_ GE227.out) | exact HB.out)) hb); clear BK227; clear HB; have BK227 := n0_; have HB := n1_; clear n0_ n1_; (try clear hb); (try clear hb2); (try clear hk); (try clear hi)) | (go_at_call 18; (with_reducible refine (sleuthlaw21_of.calls k _ _ l0 t229 _ ?side1 ?side2 A5.out).mono ?_); (case side1 => repeat (first | exact (Kd.C_below HR0.out HB.out) | (with_reducible refine Kd.C_alloc ?_ _) | (with_reducible refine Kd.C_drewN ?_ _) | (with_reducible refine Kd.C_drew ?_))); (case side2 => exact HC0.out); rintro e w12 ⟨v230, rfl, ho0, hb⟩; have n0_ := Aside0.mk (Kd.R_lower ho0 (below_size (by repeat (first | (with_reducible first | exact HB.out | apply below_alloc | apply pw_below_drewN | apply below_drew1 | refine below_set ?_ GE227.out) | exact HB.out)))); have n1_ := Aside0.mk (blk_below (g := gb227) (o := .cells #[.int .i64 a1_0, .int .i64 a1_1] 41 (0, 0)) (by (with_reducible repeat (first | refine blk_drewN ?_ _ | refine blk_drew ?_ | refine blk_alloc ?_ _)); exact BK227.out) hb); have n2_ := Aside0.mk (below_step (by repeat (first | (with_reducible first | exact HB.out | apply below_alloc | apply pw_below_drewN | apply below_drew1 | refine below_set ?_ GE227.out) | exact HB.out)) hb); clear BK227; clear HB; have HO231 := n0_; have BK227 := n1_; have HB := n2_; clear n0_ n1_ n2_; (try clear hb); (try clear hb2); (try clear hk); (try clear hi); (try clear ho0)) | (go_at_call 19; (with_reducible refine (sleuthlaw21_values.calls k _ _ l0 t232 _ ?side1 ?side2 A6.out).mono ?_); (case side1 => repeat (first | exact (Kd.C_below HR0.out HB.out) | (with_reducible refine Kd.C_alloc ?_ _) | (with_reducible refine Kd.C_drewN ?_ _) | (with_reducible refine Kd.C_drew ?_))); (case side2 => exact HC0.out); rintro e w13 ⟨v233, rfl, ho0, hb⟩; have n0_ := Aside0.mk (Kd.R_below (by (with_reducible repeat (first | apply Kd.R_alloc | apply Kd.R_drewN | apply Kd.R_drew)); exact HO231.out) hb); have n1_ := Aside0.mk (Kd.R_lower ho0 (below_size (by repeat (first | (with_reducible first | exact HB.out | apply below_alloc | apply pw_below_drewN | apply below_drew1 | refine below_set ?_ GE227.out) | exact HB.out)))); have n2_ := Aside0.mk (blk_below (g := gb227) (o := .cells #[.int .i64 a1_0, .int .i64 a1_1] 41 (0, 0)) (by (with_reducible repeat (first | refine blk_drewN ?_ _ | refine blk_drew ?_ | refine blk_alloc ?_ _)); exact BK227.out) hb); have n3_ := Aside0.mk (below_step (by repeat (first | (with_reducible first | exact HB.out | apply below_alloc | apply pw_below_drewN | apply below_drew1 | refine below_set ?_ GE227.out) | exact HB.out)) hb); clear HO231; clear BK227; clear HB; have HO231 := n0_; have HO234 := n1_; have BK227 := n2_; have HB := n3_; clear n0_ n1_ n2_ n3_; (try clear hb); (try clear hb2); (try clear hk); (try clear hi); (try clear ho0)) | ((with_reducible refine gate_dst (N := 5) rfl ?_); refine box_event ?hg (N := 5) ?hd (cs := #[.slice none 0 0]) (t := 33) ?hr ?_; (case hd => rfl); (case hg => rfl); (case hr => first | (go_simp; done) | (go_simp; rfl)); intro gb235 hg w14 hbox hb; have n0_ := Aside0.mk (Kd.R_below (by (with_reducible repeat (first | apply Kd.R_alloc | apply Kd.R_drewN | apply Kd.R_drew)); exact HO231.out) hb); have n1_ := Aside0.mk (Kd.R_below (by (with_reducible repeat (first | apply Kd.R_alloc | apply Kd.R_drewN | apply Kd.R_drew)); exact HO234.out) hb); have n2_ := Aside0.mk (blk_below (g := gb227) (o := .cells #[.int .i64 a1_0, .int .i64 a1_1] 41 (0, 0)) (by (with_reducible repeat (first | refine blk_drewN ?_ _ | refine blk_drew ?_ | refine blk_alloc ?_ _)); exact BK227.out) hb); have n3_ := Aside0.mk (below_step (by repeat (first | (with_reducible first | exact HB.out | apply below_alloc | apply pw_below_drewN | apply below_drew1 | refine below_set ?_ GE227.out) | exact HB.out)) hb); have n4_ := Aside0.mk (hbox); have n5_ := Aside0.mk ((by rw [hg]; exact (below_size (by repeat (first | (with_reducible first | exact HB.out | apply below_alloc | apply pw_below_drewN | apply below_drew1 | refine below_set ?_ GE227.out) | exact HB.out))) : w.heap.size ≤ gb235)); have n6_ := Aside0.mk ((by rw [hg]; exact (below_size (by repeat (first | (with_reducible first | exact HB.out | apply below_alloc | apply pw_below_drewN | apply below_drew1 | refine below_set ?_ GE227.out) | exact HB.out))) : w.heap.size ≤ gb235)); have n7_ := Aside0.mk ((by rw [hg]; exact Nat.ne_of_lt (blk_lt (g := gb227) (o := .cells #[.int .i64 a1_0, .int .i64 a1_1] 41 (0, 0)) (by (with_reducible repeat (first | refine blk_drewN ?_ _ | refine blk_drew ?_ | refine blk_alloc ?_ _)); exact BK227.out)) : gb227 ≠ gb235)); have n8_ := Aside0.mk ((by rw [hg]; exact Nat.ne_of_gt (blk_lt (g := gb227) (o := .cells #[.int .i64 a1_0, .int .i64 a1_1] 41 (0, 0)) (by (with_reducible repeat (first | refine blk_drewN ?_ _ | refine blk_drew ?_ | refine blk_alloc ?_ _)); exact BK227.out)) : gb235 ≠ gb227)); clear HO231; clear HO234; clear BK227; clear HB; have HO231 := n0_; have HO234 := n1_; have BK227 := n2_; have HB := n3_; have BK235 := n4_; have GW235 := n5_; have GE235 := n6_; have NB227_235 := n7_; have NB235_227 := n8_; clear n0_ n1_ n2_ n3_ n4_ n5_ n6_ n7_ n8_; clear hb hbox hg; obtain ⟨Ao15, co15, eo15⟩ := Kd.R_slice HO231.out; subst eo15; have hnb16 := NB235_227.out; have hnc16 := NB227_235.out; have hcz17_0 : w14.cell? ⟨gb235, 0, none⟩ = some (.slice none 0 0) := (blk_cell BK235.out 0).trans rfl; have hfz17_0 := blk_frozen BK235.out 0; have hcz18_0 : w14.cell? ⟨gb227, 0, none⟩ = some (.int .i64 a1_0) := (blk_cell BK227.out 0).trans rfl; have hcz18_1 : w14.cell? ⟨gb227, 1, none⟩ = some (.int .i64 a1_1) := (blk_cell BK227.out 1).trans rfl; have hfz18_0 := blk_frozen BK227.out 0; have hfz18_1 := blk_frozen BK227.out 1) | (go_at_call 22; (with_reducible refine (histogram_Quantile.calls k _ _ t229 a1_0 a1_1 t236 t237 t238 _ ?side1 ?side2 A7.out).mono ?_); (case side1 => refine (Kd.R_reads' (e := 67) (base := w.heap.size) (ok := fun k_ => True) (n := t229.length) (c := co15) ?_).2.2; exact (by (with_reducible repeat (first | apply Kd.R_alloc | apply Kd.R_drewN | apply Kd.R_drew)); exact (Kd.R_mono (Kd.R_far (p := ⟨gb235, 0, none⟩) (Kd.R_types HO231.out BK235.out (by decide)) (fun _ hk => hk.2) (.slice Ao15 t229.length co15)) (fun _ h_ => h_.1)))); (case side2 => exact (Kd.R_reads' HO231.out).2.1); rintro e w19 ⟨rfl, hb⟩; have n0_ := Aside0.mk (Kd.R_below (by (with_reducible repeat (first | apply Kd.R_alloc | apply Kd.R_drewN | apply Kd.R_drew)); exact (Kd.R_mono (Kd.R_far (p := ⟨gb235, 0, none⟩) (Kd.R_types HO231.out BK235.out (by decide)) (fun _ hk => hk.2) (.slice Ao15 t229.length co15)) (fun _ h_ => h_.1))) hb); have n1_ := Aside0.mk (Kd.R_below (by (with_reducible repeat (first | apply Kd.R_alloc | apply Kd.R_drewN | apply Kd.R_drew)); exact (Kd.R_mono (Kd.R_far (p := ⟨gb235, 0, none⟩) (Kd.R_types HO234.out BK235.out (by decide)) (fun _ hk => hk.2) (.slice Ao15 t229.length co15)) (fun _ h_ => h_.1))) hb); have n2_ := Aside0.mk (blk_below (g := gb227) (o := .cells #[.int .i64 a1_0, .int .i64 a1_1] 41 (0, 0)) (by (with_reducible repeat (first | refine blk_drewN ?_ _ | refine blk_drew ?_ | refine blk_alloc ?_ _)); refine blk_far ?_ NB227_235.out _; (with_reducible repeat (first | refine blk_drewN ?_ _ | refine blk_drew ?_ | refine blk_alloc ?_ _)); exact BK227.out) hb); have n3_ := Aside0.mk (blk_below (g := gb235) (o := .cells #[.slice Ao15 t229.length co15] 33 (0, 0)) (by (with_reducible repeat (first | refine blk_drewN ?_ _ | refine blk_drew ?_ | refine blk_alloc ?_ _)); refine blk_put (cs := #[.slice none 0 0]) ?_ 0 _ rfl; (with_reducible repeat (first | refine blk_drewN ?_ _ | refine blk_drew ?_ | refine blk_alloc ?_ _)); exact BK235.out) hb); have n4_ := Aside0.mk (below_step (by repeat (first | (with_reducible first | exact HB.out | apply below_alloc | apply pw_below_drewN | apply below_drew1 | refine below_set ?_ GE227.out | refine below_set ?_ GE235.out) | exact HB.out)) hb); clear HO231; clear HO234; clear BK227; clear BK235; clear HB; have HO231 := n0_; have HO234 := n1_; have BK227 := n2_; have BK235 := n3_; have HB := n4_; clear n0_ n1_ n2_ n3_ n4_; (try clear hb); (try clear hb2); (try clear hk); (try clear hi); have hcz20_0 : w19.cell? ⟨gb227, 0, none⟩ = some (.int .i64 a1_0) := (blk_cell BK227.out 0).trans rfl; have hcz20_1 : w19.cell? ⟨gb227, 1, none⟩ = some (.int .i64 a1_1) := (blk_cell BK227.out 1).trans rfl; have hfz20_0 := blk_frozen BK227.out 0; have hfz20_1 := blk_frozen BK227.out 1) | (go_at_call 23; (with_reducible refine (sleuthref02_Check.calls k a1_0 a1_1 t239 _ A8.out).mono ?_); rintro e w21 ⟨rfl, hb⟩; have n0_ := Aside0.mk (Kd.R_below (by (with_reducible repeat (first | apply Kd.R_alloc | apply Kd.R_drewN | apply Kd.R_drew)); exact HO231.out) hb); have n1_ := Aside0.mk (Kd.R_below (by (with_reducible repeat (first | apply Kd.R_alloc | apply Kd.R_drewN | apply Kd.R_drew)); exact HO234.out) hb); have n2_ := Aside0.mk (blk_below (g := gb227) (o := .cells #[.int .i64 a1_0, .int .i64 a1_1] 41 (0, 0)) (by (with_reducible repeat (first | refine blk_drewN ?_ _ | refine blk_drew ?_ | refine blk_alloc ?_ _)); exact BK227.out) hb); have n3_ := Aside0.mk (blk_below (g := gb235) (o := .cells #[.slice Ao15 t229.length co15] 33 (0, 0)) (by (with_reducible repeat (first | refine blk_drewN ?_ _ | refine blk_drew ?_ | refine blk_alloc ?_ _)); exact BK235.out) hb); have n4_ := Aside0.mk (below_step (by repeat (first | (with_reducible first | exact HB.out | apply below_alloc | apply pw_below_drewN | apply below_drew1 | refine below_set ?_ GE227.out | refine below_set ?_ GE235.out) | exact HB.out)) hb); clear HO231; clear HO234; clear BK227; clear BK235; clear HB; have HO231 := n0_; have HO234 := n1_; have BK227 := n2_; have BK235 := n3_; have HB := n4_; clear n0_ n1_ n2_ n3_ n4_; (try clear hb); (try clear hb2); (try clear hk); (try clear hi))))
    (try simp only [Act.put, List.setIfInBounds_toArray, List.set_cons_zero, List.set_cons_succ])
    go_cut [10] (fun v10 wc => ∃ (kq : Nat) (x10_8 : Int), v10 = .int .i64 x10_8 ∧ Aside0 (sleuthlaw21_HistogramQuantiles.j1 kq t232 t236 t237 t238 x10_8 a1_0 a1_1 = some r) ∧ Aside0 (kq ≤ k) ∧ Aside0 (Kd.R (Kd.int .i64) 3 wc w.heap.size (fun _ => True) v233 t232) ∧ Aside0 (Kd.R k67 67 wc w.heap.size (fun _ => True) (.slice Ao15 t229.length co15) t229) ∧ Aside0 (wc.heap[gb227]? = some (.cells #[.int .i64 a1_0, .int .i64 a1_1] 41 (0, 0))) ∧ Aside0 (wc.heap[gb235]? = some (.cells #[(.slice Ao15 t229.length co15)] 33 (0, 0))) ∧ Aside0 (Below w.heap.size w wc))
    case first =>
      have H := HC9.out
      clear HC9
      by_cases c22 : t239 = true
      · subst c22
        have H1 : (if a1_0 < 0 then (sleuthlaw21_HistogramQuantiles.j0 k t232 t236 t237 t238 0 true a1_0 a1_1) else (sleuthlaw21_HistogramQuantiles.j0 k t232 t236 t237 t238 0 (decide (a1_0 > a1_1)) a1_0 a1_1)) = some r := by rw [if_pos rfl] at H; exact H
        clear H
        have H := H1
        clear H1
        have HC23 := Aside0.mk H
        clear H
        go_upto_region 8 with (fail)
        repeat (go_quiet (fail); go_upto_region 8 with (fail))
        go_cut [41] (fun v41 wc => ∃ (kq : Nat) (x41_22 : Bool), v41 = .bool x41_22 ∧ Aside0 (sleuthlaw21_HistogramQuantiles.j0 kq t232 t236 t237 t238 0 x41_22 a1_0 a1_1 = some r) ∧ Aside0 (kq ≤ k) ∧ Aside0 (Kd.R (Kd.int .i64) 3 wc w.heap.size (fun _ => True) v233 t232) ∧ Aside0 (Kd.R k67 67 wc w.heap.size (fun _ => True) (.slice Ao15 t229.length co15) t229) ∧ Aside0 (wc.heap[gb227]? = some (.cells #[.int .i64 a1_0, .int .i64 a1_1] 41 (0, 0))) ∧ Aside0 (wc.heap[gb235]? = some (.cells #[(.slice Ao15 t229.length co15)] 33 (0, 0))) ∧ Aside0 (Below w.heap.size w wc))
        case first =>
          have H := HC23.out
          clear HC23
          by_cases c24 : a1_0 < 0
          · rw [if_pos c24] at H
            have c24b0 : decide (a1_0 < 0) = true := decide_eq_true c24
            clear c24
            (first | rw [c24b0] | (simp only [i64_w, i32_w]; rw [c24b0]) | skip)
            have H' := Aside0.mk H
            clear H
            have hnb25 := NB227_235.out
            have hnc25 := NB235_227.out
            have hcz26_0 : w21.cell? ⟨gb227, 0, none⟩ = some (.int .i64 a1_0) := (blk_cell BK227.out 0).trans rfl
            have hcz26_1 : w21.cell? ⟨gb227, 1, none⟩ = some (.int .i64 a1_1) := (blk_cell BK227.out 1).trans rfl
            have hfz26_0 := blk_frozen BK227.out 0
            have hfz26_1 := blk_frozen BK227.out 1
            go_wp2
            repeat (go_quiet (fail); try go_wp2)
            go_meet
            case rel => exact ⟨_, (true), (by first | rfl | (simp; done) | (simp [*]; done)), H', ⟨by first | omega | exact Nat.le_refl _⟩, ⟨by (with_reducible repeat (first | apply Kd.R_alloc | apply Kd.R_drewN | apply Kd.R_drew)); exact HO234.out⟩, ⟨by (with_reducible repeat (first | apply Kd.R_alloc | apply Kd.R_drewN | apply Kd.R_drew)); exact HO231.out⟩, ⟨by (with_reducible repeat (first | refine blk_drewN ?_ _ | refine blk_drew ?_ | refine blk_alloc ?_ _)); exact BK227.out⟩, ⟨by (with_reducible repeat (first | refine blk_drewN ?_ _ | refine blk_drew ?_ | refine blk_alloc ?_ _)); exact BK235.out⟩, ⟨by repeat (first | (with_reducible first | exact HB.out | apply below_alloc | apply pw_below_drewN | apply below_drew1 | refine below_set ?_ GE227.out | refine below_set ?_ GE235.out) | exact HB.out)⟩⟩
          · rw [if_neg c24] at H
            have c24b0 : decide (a1_0 < 0) = false := decide_eq_false c24
            clear c24
            (first | rw [c24b0] | (simp only [i64_w, i32_w]; rw [c24b0]) | skip)
            have H' := Aside0.mk H
            clear H
            have hnb27 := NB227_235.out
            have hnc27 := NB235_227.out
            have hcz28_0 : w21.cell? ⟨gb227, 0, none⟩ = some (.int .i64 a1_0) := (blk_cell BK227.out 0).trans rfl
            have hcz28_1 : w21.cell? ⟨gb227, 1, none⟩ = some (.int .i64 a1_1) := (blk_cell BK227.out 1).trans rfl
            have hfz28_0 := blk_frozen BK227.out 0
            have hfz28_1 := blk_frozen BK227.out 1
            go_wp2
            repeat (go_quiet (fail); try go_wp2)
            go_meet
            case rel => exact ⟨_, (decide (a1_0 > a1_1)), (by first | rfl | (simp; done) | (simp [*]; done)), H', ⟨by first | omega | exact Nat.le_refl _⟩, ⟨by (with_reducible repeat (first | apply Kd.R_alloc | apply Kd.R_drewN | apply Kd.R_drew)); exact HO234.out⟩, ⟨by (with_reducible repeat (first | apply Kd.R_alloc | apply Kd.R_drewN | apply Kd.R_drew)); exact HO231.out⟩, ⟨by (with_reducible repeat (first | refine blk_drewN ?_ _ | refine blk_drew ?_ | refine blk_alloc ?_ _)); exact BK227.out⟩, ⟨by (with_reducible repeat (first | refine blk_drewN ?_ _ | refine blk_drew ?_ | refine blk_alloc ?_ _)); exact BK235.out⟩, ⟨by repeat (first | (with_reducible first | exact HB.out | apply below_alloc | apply pw_below_drewN | apply below_drew1 | refine below_set ?_ GE227.out | refine below_set ?_ GE235.out) | exact HB.out)⟩⟩
        case rest =>
          clear HC23
          try clear c1
          try clear c2
          try clear p2
          try clear c4
          try clear c6
          try clear c16
          try clear c22
          try clear c24
          try clear c24b0
          try clear c25
          try clear c27
          try clear hcz17_0
          try clear hcz18_0
          try clear hcz18_1
          try clear hcz20_0
          try clear hcz20_1
          try clear hcz26_0
          try clear hcz26_1
          try clear hcz28_0
          try clear hcz28_1
          try clear hfz17_0
          try clear hfz18_0
          try clear hfz18_1
          try clear hfz20_0
          try clear hfz20_1
          try clear hfz26_0
          try clear hfz26_1
          try clear hfz28_0
          try clear hfz28_1
          obtain ⟨kq, x41_22, rfl, HA, HJ22, HO_6, HO_236000, BK227, BK235, HB⟩ := hcut
          cases kq with
          | zero => exact absurd HA.out (by simp [sleuthlaw21_HistogramQuantiles.j0])
          | succ kj22 =>
            have H := HA.out
            clear HA
            simp only [sleuthlaw21_HistogramQuantiles.j0] at H
            by_cases c29 : x41_22 = true
            · subst c29
              have H1 : (sleuthlaw21_HistogramQuantiles.j1 kj22 t232 t236 t237 t238 2 a1_0 a1_1) = some r := by rw [if_pos rfl] at H; exact H
              clear H
              have H := H1
              clear H1
              have H' := Aside0.mk H
              clear H
              go_wp2
              repeat (go_quiet (fail); try go_wp2)
              go_meet
              case rel => exact ⟨_, (2), (by first | rfl | (simp; done) | (simp [*]; done)), H', ⟨by have := HJ22.out; first | omega | exact Nat.le_refl _⟩, ⟨by (with_reducible repeat (first | apply Kd.R_alloc | apply Kd.R_drewN | apply Kd.R_drew)); exact HO_6.out⟩, ⟨by (with_reducible repeat (first | apply Kd.R_alloc | apply Kd.R_drewN | apply Kd.R_drew)); exact HO_236000.out⟩, ⟨by (with_reducible repeat (first | refine blk_drewN ?_ _ | refine blk_drew ?_ | refine blk_alloc ?_ _)); exact BK227.out⟩, ⟨by (with_reducible repeat (first | refine blk_drewN ?_ _ | refine blk_drew ?_ | refine blk_alloc ?_ _)); exact BK235.out⟩, ⟨by repeat (first | (with_reducible first | exact HB.out | apply below_alloc | apply pw_below_drewN | apply below_drew1 | refine below_set ?_ GE227.out | refine below_set ?_ GE235.out) | exact HB.out)⟩⟩
            · replace c29 := Bool.eq_false_iff.mpr c29
              subst c29
              have H1 : (if (t232.length : Int) = 0 then (sleuthlaw21_HistogramQuantiles.j1 kj22 t232 t236 t237 t238 7 a1_0 a1_1) else (sleuthlaw21_HistogramQuantiles.j1 kj22 t232 t236 t237 t238 0 a1_0 a1_1)) = some r := by rw [if_neg (show ¬ (false = true) by decide)] at H; exact H
              clear H
              have H := H1
              clear H1
              by_cases c30 : (t232.length : Int) = 0
              · rw [if_pos c30] at H
                have c30b0 : ((t232.length : Int) == 0) = true := beq_iff_eq.mpr c30
                have c30b1 : ((t232.length : Int) != 0) = false := bne_eq_false_iff_eq.mpr c30
                clear c30
                have H' := Aside0.mk H
                clear H
                obtain ⟨Ao31, co31, eo31⟩ := Kd.R_slice HO_6.out
                subst eo31
                go_wp2
                repeat (go_quiet (fail); try go_wp2)
                go_meet
                case rel => exact ⟨_, (7), (by first | rfl | (simp; done) | (simp [*]; done)), H', ⟨by have := HJ22.out; first | omega | exact Nat.le_refl _⟩, ⟨by (with_reducible repeat (first | apply Kd.R_alloc | apply Kd.R_drewN | apply Kd.R_drew)); exact HO_6.out⟩, ⟨by (with_reducible repeat (first | apply Kd.R_alloc | apply Kd.R_drewN | apply Kd.R_drew)); exact HO_236000.out⟩, ⟨by (with_reducible repeat (first | refine blk_drewN ?_ _ | refine blk_drew ?_ | refine blk_alloc ?_ _)); exact BK227.out⟩, ⟨by (with_reducible repeat (first | refine blk_drewN ?_ _ | refine blk_drew ?_ | refine blk_alloc ?_ _)); exact BK235.out⟩, ⟨by repeat (first | (with_reducible first | exact HB.out | apply below_alloc | apply pw_below_drewN | apply below_drew1 | refine below_set ?_ GE227.out | refine below_set ?_ GE235.out) | exact HB.out)⟩⟩
              · rw [if_neg c30] at H
                have c30b0 : ((t232.length : Int) == 0) = false := beq_eq_false_iff_ne.mpr c30
                have c30b1 : ((t232.length : Int) != 0) = true := bne_iff_ne.mpr c30
                have c30b2 : ¬ (t232 = []) := fun h_ => c30 (by rw [h_]; rfl)
                have H' := Aside0.mk H
                clear H
                obtain ⟨Ao32, co32, eo32⟩ := Kd.R_slice HO_6.out
                subst eo32
                go_wp2
                repeat (go_quiet (fail); try go_wp2)
                go_meet
                case rel => exact ⟨_, (0), (by first | rfl | (simp; done) | (simp [*]; done)), H', ⟨by have := HJ22.out; first | omega | exact Nat.le_refl _⟩, ⟨by (with_reducible repeat (first | apply Kd.R_alloc | apply Kd.R_drewN | apply Kd.R_drew)); exact HO_6.out⟩, ⟨by (with_reducible repeat (first | apply Kd.R_alloc | apply Kd.R_drewN | apply Kd.R_drew)); exact HO_236000.out⟩, ⟨by (with_reducible repeat (first | refine blk_drewN ?_ _ | refine blk_drew ?_ | refine blk_alloc ?_ _)); exact BK227.out⟩, ⟨by (with_reducible repeat (first | refine blk_drewN ?_ _ | refine blk_drew ?_ | refine blk_alloc ?_ _)); exact BK235.out⟩, ⟨by repeat (first | (with_reducible first | exact HB.out | apply below_alloc | apply pw_below_drewN | apply below_drew1 | refine below_set ?_ GE227.out | refine below_set ?_ GE235.out) | exact HB.out)⟩⟩
      · replace c22 := Bool.eq_false_iff.mpr c22
        subst c22
        have H1 : (sleuthlaw21_HistogramQuantiles.j1 k t232 t236 t237 t238 3 a1_0 a1_1) = some r := by rw [if_neg (show ¬ (false = true) by decide)] at H; exact H
        clear H
        have H := H1
        clear H1
        have H' := Aside0.mk H
        clear H
        go_wp2
        repeat (go_quiet (fail); try go_wp2)
        go_meet
        case rel => exact ⟨_, (3), (by first | rfl | (simp; done) | (simp [*]; done)), H', ⟨by first | omega | exact Nat.le_refl _⟩, ⟨by (with_reducible repeat (first | apply Kd.R_alloc | apply Kd.R_drewN | apply Kd.R_drew)); exact HO234.out⟩, ⟨by (with_reducible repeat (first | apply Kd.R_alloc | apply Kd.R_drewN | apply Kd.R_drew)); exact HO231.out⟩, ⟨by (with_reducible repeat (first | refine blk_drewN ?_ _ | refine blk_drew ?_ | refine blk_alloc ?_ _)); exact BK227.out⟩, ⟨by (with_reducible repeat (first | refine blk_drewN ?_ _ | refine blk_drew ?_ | refine blk_alloc ?_ _)); exact BK235.out⟩, ⟨by repeat (first | (with_reducible first | exact HB.out | apply below_alloc | apply pw_below_drewN | apply below_drew1 | refine below_set ?_ GE227.out | refine below_set ?_ GE235.out) | exact HB.out)⟩⟩
    case rest =>
      clear HC9
      try clear c1
      try clear c2
      try clear p2
      try clear c3
      try clear c4
      try clear c6
      try clear c16
      try clear c22
      try clear c24
      try clear c24b0
      try clear c25
      try clear c27
      try clear c29
      try clear c30
      try clear c30b0
      try clear c30b1
      try clear c30b2
      try clear hcz17_0
      try clear hcz18_0
      try clear hcz18_1
      try clear hcz20_0
      try clear hcz20_1
      try clear hcz26_0
      try clear hcz26_1
      try clear hcz28_0
      try clear hcz28_1
      try clear hfz17_0
      try clear hfz18_0
      try clear hfz18_1
      try clear hfz20_0
      try clear hfz20_1
      try clear hfz26_0
      try clear hfz26_1
      try clear hfz28_0
      try clear hfz28_1
      try clear p2
      obtain ⟨kq, x10_8, rfl, HA, HJ8, HO_6, HO_236000, BK227, BK235, HB⟩ := hcut
      cases kq with
      | zero => exact absurd HA.out (by simp [sleuthlaw21_HistogramQuantiles.j1])
      | succ kj8 =>
        have H := HA.out
        clear HA
        simp only [sleuthlaw21_HistogramQuantiles.j1] at H
        have HC33 := Aside0.mk H
        clear H
        go_upto_region 12 with (fail)
        repeat (go_quiet (fail); go_upto_region 12 with (fail))
        go_cut [51] (fun v51 wc => ∃ (kq : Nat) (x51_32 : Bool), v51 = .bool x51_32 ∧ Aside0 (sleuthlaw21_HistogramQuantiles.j2 kq t232 t236 t237 t238 x10_8 x51_32 a1_0 a1_1 = some r) ∧ Aside0 (kq ≤ kj8) ∧ Aside0 (Kd.R (Kd.int .i64) 3 wc w.heap.size (fun _ => True) v233 t232) ∧ Aside0 (Kd.R k67 67 wc w.heap.size (fun _ => True) (.slice Ao15 t229.length co15) t229) ∧ Aside0 (wc.heap[gb227]? = some (.cells #[.int .i64 a1_0, .int .i64 a1_1] 41 (0, 0))) ∧ Aside0 (wc.heap[gb235]? = some (.cells #[(.slice Ao15 t229.length co15)] 33 (0, 0))) ∧ Aside0 (Below w.heap.size w wc))
        case first =>
          have H := HC33.out
          clear HC33
          by_cases c34 : t238 = x10_8
          · rw [if_pos c34] at H
            have c34b0 : (t238 == x10_8) = true := beq_iff_eq.mpr c34
            have c34b1 : (t238 != x10_8) = false := bne_eq_false_iff_eq.mpr c34
            clear c34
            (first | rw [c34b0] | (simp only [i64_w, i32_w]; rw [c34b0]) | skip)
            have H' := Aside0.mk H
            clear H
            go_wp2
            repeat (go_quiet (fail); try go_wp2)
            go_meet
            case rel => exact ⟨_, ((x10_8 != 0)), (by first | rfl | (simp; done) | (simp [*]; done)), H', ⟨by have := HJ8.out; first | omega | exact Nat.le_refl _⟩, ⟨by (with_reducible repeat (first | apply Kd.R_alloc | apply Kd.R_drewN | apply Kd.R_drew)); exact HO_6.out⟩, ⟨by (with_reducible repeat (first | apply Kd.R_alloc | apply Kd.R_drewN | apply Kd.R_drew)); exact HO_236000.out⟩, ⟨by (with_reducible repeat (first | refine blk_drewN ?_ _ | refine blk_drew ?_ | refine blk_alloc ?_ _)); exact BK227.out⟩, ⟨by (with_reducible repeat (first | refine blk_drewN ?_ _ | refine blk_drew ?_ | refine blk_alloc ?_ _)); exact BK235.out⟩, ⟨by repeat (first | (with_reducible first | exact HB.out | apply below_alloc | apply pw_below_drewN | apply below_drew1 | refine below_set ?_ GE227.out | refine below_set ?_ GE235.out) | exact HB.out)⟩⟩
          · rw [if_neg c34] at H
            have c34b0 : (t238 == x10_8) = false := beq_eq_false_iff_ne.mpr c34
            have c34b1 : (t238 != x10_8) = true := bne_iff_ne.mpr c34
            (first | rw [c34b0] | (simp only [i64_w, i32_w]; rw [c34b0]) | skip)
            have H' := Aside0.mk H
            clear H
            go_wp2
            repeat (go_quiet (fail); try go_wp2)
            go_meet
            case rel => exact ⟨_, (true), (by first | rfl | (simp; done) | (simp [*]; done)), H', ⟨by have := HJ8.out; first | omega | exact Nat.le_refl _⟩, ⟨by (with_reducible repeat (first | apply Kd.R_alloc | apply Kd.R_drewN | apply Kd.R_drew)); exact HO_6.out⟩, ⟨by (with_reducible repeat (first | apply Kd.R_alloc | apply Kd.R_drewN | apply Kd.R_drew)); exact HO_236000.out⟩, ⟨by (with_reducible repeat (first | refine blk_drewN ?_ _ | refine blk_drew ?_ | refine blk_alloc ?_ _)); exact BK227.out⟩, ⟨by (with_reducible repeat (first | refine blk_drewN ?_ _ | refine blk_drew ?_ | refine blk_alloc ?_ _)); exact BK235.out⟩, ⟨by repeat (first | (with_reducible first | exact HB.out | apply below_alloc | apply pw_below_drewN | apply below_drew1 | refine below_set ?_ GE227.out | refine below_set ?_ GE235.out) | exact HB.out)⟩⟩
        case rest =>
          clear HC33
          try clear c1
          try clear c2
          try clear p2
          try clear c3
          try clear c4
          try clear c6
          try clear c16
          try clear c22
          try clear c24
          try clear c24b0
          try clear c25
          try clear c27
          try clear c29
          try clear c30
          try clear c30b0
          try clear c30b1
          try clear c30b2
          try clear c34
          try clear c34b0
          try clear c34b1
          try clear hcz17_0
          try clear hcz18_0
          try clear hcz18_1
          try clear hcz20_0
          try clear hcz20_1
          try clear hcz26_0
          try clear hcz26_1
          try clear hcz28_0
          try clear hcz28_1
          try clear hfz17_0
          try clear hfz18_0
          try clear hfz18_1
          try clear hfz20_0
          try clear hfz20_1
          try clear hfz26_0
          try clear hfz26_1
          try clear hfz28_0
          try clear hfz28_1
          try clear p2
          obtain ⟨kq, x51_32, rfl, HA, HJ32, HO_6, HO_236000, BK227, BK235, HB⟩ := hcut
          cases kq with
          | zero => exact absurd HA.out (by simp [sleuthlaw21_HistogramQuantiles.j2])
          | succ kj32 =>
            have H := HA.out
            clear HA
            simp only [sleuthlaw21_HistogramQuantiles.j2] at H
            by_cases c35 : x51_32 = true
            · subst c35
              have H1 : (if t238 = x10_8 then (if t236 = 0 then (some (t237 == 0)) else (some false)) else (some false)) = some r := by rw [if_pos rfl] at H; exact H
              clear H
              have H := H1
              clear H1
              by_cases c36 : t238 = x10_8
              · rw [if_pos c36] at H
                have c36b0 : (t238 == x10_8) = true := beq_iff_eq.mpr c36
                have c36b1 : (t238 != x10_8) = false := bne_eq_false_iff_eq.mpr c36
                clear c36
                by_cases c37 : t236 = 0
                · rw [if_pos c37] at H
                  have c37b0 : (t236 == 0) = true := beq_iff_eq.mpr c37
                  have c37b1 : (t236 != 0) = false := bne_eq_false_iff_eq.mpr c37
                  clear c37
                  obtain rfl := Option.some.inj H
                  go_wp2
                  repeat (go_quiet (fail); try go_wp2)
                  go_ret
                  exact ⟨by first | rfl | (simp [errW_none, errW_some] <;> rfl) | (simp [*, errW_none, errW_some] <;> rfl), by repeat (first | (with_reducible first | exact HB.out | apply below_alloc | apply pw_below_drewN | apply below_drew1 | refine below_set ?_ GE227.out | refine below_set ?_ GE235.out) | exact HB.out)⟩
                · rw [if_neg c37] at H
                  have c37b0 : (t236 == 0) = false := beq_eq_false_iff_ne.mpr c37
                  have c37b1 : (t236 != 0) = true := bne_iff_ne.mpr c37
                  exact absurd (H.trans (congrArg some hr_)) (by decide)
              · rw [if_neg c36] at H
                have c36b0 : (t238 == x10_8) = false := beq_eq_false_iff_ne.mpr c36
                have c36b1 : (t238 != x10_8) = true := bne_iff_ne.mpr c36
                exact absurd (H.trans (congrArg some hr_)) (by decide)
            · replace c35 := Bool.eq_false_iff.mpr c35
              subst c35
              have H1 : (if a1_1 = 0 then (none) else (sleuthlaw21_HistogramQuantiles.l0 kj32 t232 t236 t237 (mx 1 (wrap64 (Int.tdiv (wrap64 ((wrap64 ((wrap64 (a1_0 * (t232.length : Int))) + a1_1)) - 1)) a1_1))) 0)) = some r := by rw [if_neg (show ¬ (false = true) by decide)] at H; exact H
              clear H
              have H := H1
              clear H1
              by_cases c38 : a1_1 = 0
              · rw [if_pos c38] at H
                exact absurd H (by simp)
              · rw [if_neg c38] at H
                have c38b0 : (a1_1 == 0) = false := beq_eq_false_iff_ne.mpr c38
                have c38b1 : (a1_1 != 0) = true := bne_iff_ne.mpr c38
                obtain ⟨ji39, hji39⟩ : ∃ j_ : Int, (mx 1 (wrap64 (Int.tdiv (wrap64 ((wrap64 ((wrap64 (a1_0 * (t232.length : Int))) + a1_1)) - 1)) a1_1))) = j_ := ⟨_, rfl⟩
                replace H : (sleuthlaw21_HistogramQuantiles.l0 kj32 t232 t236 t237 ji39 0) = some r := by first | (rw [hji39] at H; exact H) | (simp only [hji39] at H ⊢; exact H)
                have hji39_ : (if 1 < (wrap64 (Int.tdiv (wrap64 ((wrap64 ((wrap64 (a1_0 * (t232.length : Int))) + a1_1)) - 1)) a1_1)) then (wrap64 (Int.tdiv (wrap64 ((wrap64 ((wrap64 (a1_0 * (t232.length : Int))) + a1_1)) - 1)) a1_1)) else 1) = ji39 := hji39
                have H' := Aside0.mk H
                clear H
                have hnb40 := NB227_235.out
                have hnc40 := NB235_227.out
                have hcz41_0 : wc.cell? ⟨gb227, 0, none⟩ = some (.int .i64 a1_0) := (blk_cell BK227.out 0).trans rfl
                have hcz41_1 : wc.cell? ⟨gb227, 1, none⟩ = some (.int .i64 a1_1) := (blk_cell BK227.out 1).trans rfl
                have hfz41_0 := blk_frozen BK227.out 0
                have hfz41_1 := blk_frozen BK227.out 1
                obtain ⟨Ao42, co42, eo42⟩ := Kd.R_slice HO_6.out
                subst eo42
                go_wp2
                repeat (go_quiet (fail); try go_wp2)
                go_loopg [12] kj32 (fun kq v12 w' => ∃ (x12_3 : Int), v12 = .int .i64 x12_3 ∧ Aside0 (sleuthlaw21_HistogramQuantiles.l0 kq t232 t236 t237 ji39 x12_3 = some r) ∧ Aside0 (kq ≤ kj32) ∧ Aside0 (Kd.R (Kd.int .i64) 3 w' w.heap.size (fun _ => True) (.slice Ao42 t232.length co42) t232) ∧ Aside0 (Kd.R k67 67 w' w.heap.size (fun _ => True) (.slice Ao15 t229.length co15) t229) ∧ Aside0 (w'.heap[gb227]? = some (.cells #[.int .i64 a1_0, .int .i64 a1_1] 41 (0, 0))) ∧ Aside0 (w'.heap[gb235]? = some (.cells #[(.slice Ao15 t229.length co15)] 33 (0, 0))) ∧ Aside0 (Below w.heap.size w w'))
                case atStart => exact ⟨(0), (by first | rfl | (simp; done) | (simp [*]; done)), H', ⟨Nat.le_refl _⟩, ⟨by (with_reducible repeat (first | apply Kd.R_alloc | apply Kd.R_drewN | apply Kd.R_drew)); exact HO_6.out⟩, ⟨by (with_reducible repeat (first | apply Kd.R_alloc | apply Kd.R_drewN | apply Kd.R_drew)); exact HO_236000.out⟩, ⟨by (with_reducible repeat (first | refine blk_drewN ?_ _ | refine blk_drew ?_ | refine blk_alloc ?_ _)); exact BK227.out⟩, ⟨by (with_reducible repeat (first | refine blk_drewN ?_ _ | refine blk_drew ?_ | refine blk_alloc ?_ _)); exact BK235.out⟩, ⟨by repeat (first | (with_reducible first | exact HB.out | apply below_alloc | apply pw_below_drewN | apply below_drew1 | refine below_set ?_ GE227.out | refine below_set ?_ GE235.out) | exact HB.out)⟩⟩
                case round =>
                  clear H'
                  try clear c1
                  try clear c2
                  try clear p2
                  try clear c3
                  try clear c4
                  try clear c6
                  try clear p6
                  try clear c16
                  try clear c22
                  try clear c24
                  try clear c24b0
                  try clear c25
                  try clear c27
                  try clear c29
                  try clear c30
                  try clear c30b0
                  try clear c30b1
                  try clear c30b2
                  try clear c34
                  try clear c34b0
                  try clear c34b1
                  try clear c35
                  try clear c36
                  try clear c36b0
                  try clear c36b1
                  try clear c37
                  try clear c37b0
                  try clear c37b1
                  try clear c38
                  try clear c38b0
                  try clear c38b1
                  try clear c40
                  try clear hcz17_0
                  try clear hcz18_0
                  try clear hcz18_1
                  try clear hcz20_0
                  try clear hcz20_1
                  try clear hcz26_0
                  try clear hcz26_1
                  try clear hcz28_0
                  try clear hcz28_1
                  try clear hcz41_0
                  try clear hcz41_1
                  try clear hfz17_0
                  try clear hfz18_0
                  try clear hfz18_1
                  try clear hfz20_0
                  try clear hfz20_1
                  try clear hfz26_0
                  try clear hfz26_1
                  try clear hfz28_0
                  try clear hfz28_1
                  try clear hfz41_0
                  try clear hfz41_1
                  try clear p2
                  obtain ⟨x12_3, rfl, HA, HK3, HO_6, HO_236000, BK227, BK235, HB⟩ := hrel
                  cases gk with
                  | zero => exact absurd HA.out (by simp [sleuthlaw21_HistogramQuantiles.l0])
                  | succ k3 =>
                    have H := HA.out
                    clear HA
                    simp only [sleuthlaw21_HistogramQuantiles.l0] at H
                    by_cases c43 : x12_3 < (t232.length : Int)
                    · rw [if_pos c43] at H
                      have c43b0 : decide (x12_3 < (t232.length : Int)) = true := decide_eq_true c43
                      clear c43
                      have H' := Aside0.mk H
                      clear H
                      go_wp2
                      repeat (go_quiet (fail); try go_wp2)
                      go_loopg [13, 14, 15] k3 (fun kq v13 v14 v15 w' => ∃ (x13_4 : Int) (x14_4 : Int) (x15_4 : Int), v13 = .int .i64 x13_4 ∧ v14 = .int .i64 x14_4 ∧ v15 = .int .i64 x15_4 ∧ Aside0 (sleuthlaw21_HistogramQuantiles.l1 kq t232 t236 t237 ji39 x12_3 x13_4 x14_4 x15_4 = some r) ∧ Aside0 (kq ≤ k3) ∧ Aside0 (Kd.R (Kd.int .i64) 3 w' w.heap.size (fun _ => True) (.slice Ao42 t232.length co42) t232) ∧ Aside0 (Kd.R k67 67 w' w.heap.size (fun _ => True) (.slice Ao15 t229.length co15) t229) ∧ Aside0 (w'.heap[gb227]? = some (.cells #[.int .i64 a1_0, .int .i64 a1_1] 41 (0, 0))) ∧ Aside0 (w'.heap[gb235]? = some (.cells #[(.slice Ao15 t229.length co15)] 33 (0, 0))) ∧ Aside0 (Below w.heap.size w w'))
                      case atStart => exact ⟨(0), (0), (0), (by first | rfl | (simp; done) | (simp [*]; done)), (by first | rfl | (simp; done) | (simp [*]; done)), (by first | rfl | (simp; done) | (simp [*]; done)), H', ⟨Nat.le_refl _⟩, ⟨by (with_reducible repeat (first | apply Kd.R_alloc | apply Kd.R_drewN | apply Kd.R_drew)); exact HO_6.out⟩, ⟨by (with_reducible repeat (first | apply Kd.R_alloc | apply Kd.R_drewN | apply Kd.R_drew)); exact HO_236000.out⟩, ⟨by (with_reducible repeat (first | refine blk_drewN ?_ _ | refine blk_drew ?_ | refine blk_alloc ?_ _)); exact BK227.out⟩, ⟨by (with_reducible repeat (first | refine blk_drewN ?_ _ | refine blk_drew ?_ | refine blk_alloc ?_ _)); exact BK235.out⟩, ⟨by repeat (first | (with_reducible first | exact HB.out | apply below_alloc | apply pw_below_drewN | apply below_drew1 | refine below_set ?_ GE227.out | refine below_set ?_ GE235.out) | exact HB.out)⟩⟩
                      case round =>
                        clear H'
                        try clear c1
                        try clear c2
                        try clear p2
                        try clear c3
                        try clear c4
                        try clear c6
                        try clear p6
                        try clear c16
                        try clear c22
                        try clear c24
                        try clear c24b0
                        try clear c25
                        try clear c27
                        try clear c29
                        try clear c30
                        try clear c30b0
                        try clear c30b1
                        try clear c30b2
                        try clear c34
                        try clear c34b0
                        try clear c34b1
                        try clear c35
                        try clear c36
                        try clear c36b0
                        try clear c36b1
                        try clear c37
                        try clear c37b0
                        try clear c37b1
                        try clear c38
                        try clear c38b0
                        try clear c38b1
                        try clear c40
                        try clear c43
                        try clear c43b0
                        try clear hcz17_0
                        try clear hcz18_0
                        try clear hcz18_1
                        try clear hcz20_0
                        try clear hcz20_1
                        try clear hcz26_0
                        try clear hcz26_1
                        try clear hcz28_0
                        try clear hcz28_1
                        try clear hcz41_0
                        try clear hcz41_1
                        try clear hfz17_0
                        try clear hfz18_0
                        try clear hfz18_1
                        try clear hfz20_0
                        try clear hfz20_1
                        try clear hfz26_0
                        try clear hfz26_1
                        try clear hfz28_0
                        try clear hfz28_1
                        try clear hfz41_0
                        try clear hfz41_1
                        try clear p2
                        try clear p6
                        obtain ⟨x13_4, x14_4, x15_4, rfl, rfl, rfl, HA, HK4, HO_6, HO_236000, BK227, BK235, HB⟩ := hrel
                        cases gk with
                        | zero => exact absurd HA.out (by simp [sleuthlaw21_HistogramQuantiles.l1])
                        | succ k4 =>
                          have H := HA.out
                          clear HA
                          simp only [sleuthlaw21_HistogramQuantiles.l1] at H
                          by_cases c44 : x15_4 < (t232.length : Int)
                          · rw [if_pos c44] at H
                            have c44b0 : decide (x15_4 < (t232.length : Int)) = true := decide_eq_true c44
                            clear c44
                            by_cases c45 : 0 ≤ x15_4
                            · rw [if_pos c45] at H
                              have c45b0 : decide (0 ≤ x15_4) = true := decide_eq_true c45
                              clear c45
                              by_cases c46 : 0 ≤ x12_3
                              · rw [if_pos c46] at H
                                have c46b0 : decide (0 ≤ x12_3) = true := decide_eq_true c46
                                clear c46
                                by_cases c47 : x12_3 < (t232.length : Int)
                                · rw [if_pos c47] at H
                                  have c47b0 : decide (x12_3 < (t232.length : Int)) = true := decide_eq_true c47
                                  clear c47
                                  by_cases c48 : (rd t232 x15_4) < (rd t232 x12_3)
                                  · rw [if_pos c48] at H
                                    have c48b0 : decide ((rd t232 x15_4) < (rd t232 x12_3)) = true := decide_eq_true c48
                                    clear c48
                                    by_cases c49 : (rd t232 x15_4) = (rd t232 x12_3)
                                    · rw [if_pos c49] at H
                                      have c49b0 : ((rd t232 x15_4) == (rd t232 x12_3)) = true := beq_iff_eq.mpr c49
                                      have c49b1 : ((rd t232 x15_4) != (rd t232 x12_3)) = false := bne_eq_false_iff_eq.mpr c49
                                      clear c49
                                      have H' := Aside0.mk H
                                      clear H
                                      have p240 : 0 ≤ (x15_4 : Int) := of_decide_eq_true (by first | (with_reducible assumption) | assumption)
                                      have q240 : x15_4 < (t232.length : Int) := of_decide_eq_true (by first | (with_reducible assumption) | assumption)
                                      obtain ⟨ad240, e240, hx240_0⟩ := Kd.at_int (Kd.R_reads' HO_6.out).2.2 x15_4 p240 q240
                                      cases e240
                                      replace p240 := eq_true p240
                                      replace q240 := eq_true q240
                                      have p241 : 0 ≤ (x12_3 : Int) := of_decide_eq_true (by first | (with_reducible assumption) | assumption)
                                      have q241 : x12_3 < (t232.length : Int) := of_decide_eq_true (by first | (with_reducible assumption) | assumption)
                                      obtain ⟨ad241, e241, hx241_0⟩ := Kd.at_int (Kd.R_reads' HO_6.out).2.2 x12_3 p241 q241
                                      obtain rfl : ad240 = ad241 := (by injection e241)
                                      replace p241 := eq_true p241
                                      replace q241 := eq_true q241
                                      have p242 : 0 ≤ (x15_4 : Int) := of_decide_eq_true (by first | (with_reducible assumption) | assumption)
                                      have q242 : x15_4 < (t232.length : Int) := of_decide_eq_true (by first | (with_reducible assumption) | assumption)
                                      obtain ⟨ad242, e242, hx242_0⟩ := Kd.at_int (Kd.R_reads' HO_6.out).2.2 x15_4 p242 q242
                                      obtain rfl : ad240 = ad242 := (by injection e242)
                                      replace p242 := eq_true p242
                                      replace q242 := eq_true q242
                                      have p243 : 0 ≤ (x12_3 : Int) := of_decide_eq_true (by first | (with_reducible assumption) | assumption)
                                      have q243 : x12_3 < (t232.length : Int) := of_decide_eq_true (by first | (with_reducible assumption) | assumption)
                                      obtain ⟨ad243, e243, hx243_0⟩ := Kd.at_int (Kd.R_reads' HO_6.out).2.2 x12_3 p243 q243
                                      obtain rfl : ad240 = ad243 := (by injection e243)
                                      replace p243 := eq_true p243
                                      replace q243 := eq_true q243
                                      go_wp2
                                      repeat (go_quiet (fail); try go_wp2)
                                      go_roundg k4
                                      case measure => have := HJ8.out; have := HJ32.out; have := HK3.out; have := HK4.out; omega
                                      case rel => exact ⟨(wrap64 (x13_4 + 1)), (wrap64 (x14_4 + 1)), (wrap64 (x15_4 + 1)), (by first | rfl | (simp; done) | (simp [*]; done)), (by first | rfl | (simp; done) | (simp [*]; done)), (by first | rfl | (simp; done) | (simp [*]; done)), H', ⟨by have := HJ8.out; have := HJ32.out; have := HK3.out; have := HK4.out; omega⟩, ⟨by (with_reducible repeat (first | apply Kd.R_alloc | apply Kd.R_drewN | apply Kd.R_drew)); exact HO_6.out⟩, ⟨by (with_reducible repeat (first | apply Kd.R_alloc | apply Kd.R_drewN | apply Kd.R_drew)); exact HO_236000.out⟩, ⟨by (with_reducible repeat (first | refine blk_drewN ?_ _ | refine blk_drew ?_ | refine blk_alloc ?_ _)); exact BK227.out⟩, ⟨by (with_reducible repeat (first | refine blk_drewN ?_ _ | refine blk_drew ?_ | refine blk_alloc ?_ _)); exact BK235.out⟩, ⟨by repeat (first | (with_reducible first | exact HB.out | apply below_alloc | apply pw_below_drewN | apply below_drew1 | refine below_set ?_ GE227.out | refine below_set ?_ GE235.out) | exact HB.out)⟩⟩
                                    · rw [if_neg c49] at H
                                      have c49b0 : ((rd t232 x15_4) == (rd t232 x12_3)) = false := beq_eq_false_iff_ne.mpr c49
                                      have c49b1 : ((rd t232 x15_4) != (rd t232 x12_3)) = true := bne_iff_ne.mpr c49
                                      have H' := Aside0.mk H
                                      clear H
                                      have p240 : 0 ≤ (x15_4 : Int) := of_decide_eq_true (by first | (with_reducible assumption) | assumption)
                                      have q240 : x15_4 < (t232.length : Int) := of_decide_eq_true (by first | (with_reducible assumption) | assumption)
                                      obtain ⟨ad240, e240, hx240_0⟩ := Kd.at_int (Kd.R_reads' HO_6.out).2.2 x15_4 p240 q240
                                      cases e240
                                      replace p240 := eq_true p240
                                      replace q240 := eq_true q240
                                      have p241 : 0 ≤ (x12_3 : Int) := of_decide_eq_true (by first | (with_reducible assumption) | assumption)
                                      have q241 : x12_3 < (t232.length : Int) := of_decide_eq_true (by first | (with_reducible assumption) | assumption)
                                      obtain ⟨ad241, e241, hx241_0⟩ := Kd.at_int (Kd.R_reads' HO_6.out).2.2 x12_3 p241 q241
                                      obtain rfl : ad240 = ad241 := (by injection e241)
                                      replace p241 := eq_true p241
                                      replace q241 := eq_true q241
                                      have p242 : 0 ≤ (x15_4 : Int) := of_decide_eq_true (by first | (with_reducible assumption) | assumption)
                                      have q242 : x15_4 < (t232.length : Int) := of_decide_eq_true (by first | (with_reducible assumption) | assumption)
                                      obtain ⟨ad242, e242, hx242_0⟩ := Kd.at_int (Kd.R_reads' HO_6.out).2.2 x15_4 p242 q242
                                      obtain rfl : ad240 = ad242 := (by injection e242)
                                      replace p242 := eq_true p242
                                      replace q242 := eq_true q242
                                      have p243 : 0 ≤ (x12_3 : Int) := of_decide_eq_true (by first | (with_reducible assumption) | assumption)
                                      have q243 : x12_3 < (t232.length : Int) := of_decide_eq_true (by first | (with_reducible assumption) | assumption)
                                      obtain ⟨ad243, e243, hx243_0⟩ := Kd.at_int (Kd.R_reads' HO_6.out).2.2 x12_3 p243 q243
                                      obtain rfl : ad240 = ad243 := (by injection e243)
                                      replace p243 := eq_true p243
                                      replace q243 := eq_true q243
                                      go_wp2
                                      repeat (go_quiet (fail); try go_wp2)
                                      go_roundg k4
                                      case measure => have := HJ8.out; have := HJ32.out; have := HK3.out; have := HK4.out; omega
                                      case rel => exact ⟨(wrap64 (x13_4 + 1)), (x14_4), (wrap64 (x15_4 + 1)), (by first | rfl | (simp; done) | (simp [*]; done)), (by first | rfl | (simp; done) | (simp [*]; done)), (by first | rfl | (simp; done) | (simp [*]; done)), H', ⟨by have := HJ8.out; have := HJ32.out; have := HK3.out; have := HK4.out; omega⟩, ⟨by (with_reducible repeat (first | apply Kd.R_alloc | apply Kd.R_drewN | apply Kd.R_drew)); exact HO_6.out⟩, ⟨by (with_reducible repeat (first | apply Kd.R_alloc | apply Kd.R_drewN | apply Kd.R_drew)); exact HO_236000.out⟩, ⟨by (with_reducible repeat (first | refine blk_drewN ?_ _ | refine blk_drew ?_ | refine blk_alloc ?_ _)); exact BK227.out⟩, ⟨by (with_reducible repeat (first | refine blk_drewN ?_ _ | refine blk_drew ?_ | refine blk_alloc ?_ _)); exact BK235.out⟩, ⟨by repeat (first | (with_reducible first | exact HB.out | apply below_alloc | apply pw_below_drewN | apply below_drew1 | refine below_set ?_ GE227.out | refine below_set ?_ GE235.out) | exact HB.out)⟩⟩
                                  · rw [if_neg c48] at H
                                    have c48b0 : decide ((rd t232 x15_4) < (rd t232 x12_3)) = false := decide_eq_false c48
                                    clear c48
                                    by_cases c50 : (rd t232 x15_4) = (rd t232 x12_3)
                                    · rw [if_pos c50] at H
                                      have c50b0 : ((rd t232 x15_4) == (rd t232 x12_3)) = true := beq_iff_eq.mpr c50
                                      have c50b1 : ((rd t232 x15_4) != (rd t232 x12_3)) = false := bne_eq_false_iff_eq.mpr c50
                                      clear c50
                                      have H' := Aside0.mk H
                                      clear H
                                      have p240 : 0 ≤ (x15_4 : Int) := of_decide_eq_true (by first | (with_reducible assumption) | assumption)
                                      have q240 : x15_4 < (t232.length : Int) := of_decide_eq_true (by first | (with_reducible assumption) | assumption)
                                      obtain ⟨ad240, e240, hx240_0⟩ := Kd.at_int (Kd.R_reads' HO_6.out).2.2 x15_4 p240 q240
                                      cases e240
                                      replace p240 := eq_true p240
                                      replace q240 := eq_true q240
                                      have p241 : 0 ≤ (x12_3 : Int) := of_decide_eq_true (by first | (with_reducible assumption) | assumption)
                                      have q241 : x12_3 < (t232.length : Int) := of_decide_eq_true (by first | (with_reducible assumption) | assumption)
                                      obtain ⟨ad241, e241, hx241_0⟩ := Kd.at_int (Kd.R_reads' HO_6.out).2.2 x12_3 p241 q241
                                      obtain rfl : ad240 = ad241 := (by injection e241)
                                      replace p241 := eq_true p241
                                      replace q241 := eq_true q241
                                      have p244 : 0 ≤ (x15_4 : Int) := of_decide_eq_true (by first | (with_reducible assumption) | assumption)
                                      have q244 : x15_4 < (t232.length : Int) := of_decide_eq_true (by first | (with_reducible assumption) | assumption)
                                      obtain ⟨ad244, e244, hx244_0⟩ := Kd.at_int (Kd.R_reads' HO_6.out).2.2 x15_4 p244 q244
                                      obtain rfl : ad240 = ad244 := (by injection e244)
                                      replace p244 := eq_true p244
                                      replace q244 := eq_true q244
                                      have p245 : 0 ≤ (x12_3 : Int) := of_decide_eq_true (by first | (with_reducible assumption) | assumption)
                                      have q245 : x12_3 < (t232.length : Int) := of_decide_eq_true (by first | (with_reducible assumption) | assumption)
                                      obtain ⟨ad245, e245, hx245_0⟩ := Kd.at_int (Kd.R_reads' HO_6.out).2.2 x12_3 p245 q245
                                      obtain rfl : ad240 = ad245 := (by injection e245)
                                      replace p245 := eq_true p245
                                      replace q245 := eq_true q245
                                      go_wp2
                                      repeat (go_quiet (fail); try go_wp2)
                                      go_roundg k4
                                      case measure => have := HJ8.out; have := HJ32.out; have := HK3.out; have := HK4.out; omega
                                      case rel => exact ⟨(x13_4), (wrap64 (x14_4 + 1)), (wrap64 (x15_4 + 1)), (by first | rfl | (simp; done) | (simp [*]; done)), (by first | rfl | (simp; done) | (simp [*]; done)), (by first | rfl | (simp; done) | (simp [*]; done)), H', ⟨by have := HJ8.out; have := HJ32.out; have := HK3.out; have := HK4.out; omega⟩, ⟨by (with_reducible repeat (first | apply Kd.R_alloc | apply Kd.R_drewN | apply Kd.R_drew)); exact HO_6.out⟩, ⟨by (with_reducible repeat (first | apply Kd.R_alloc | apply Kd.R_drewN | apply Kd.R_drew)); exact HO_236000.out⟩, ⟨by (with_reducible repeat (first | refine blk_drewN ?_ _ | refine blk_drew ?_ | refine blk_alloc ?_ _)); exact BK227.out⟩, ⟨by (with_reducible repeat (first | refine blk_drewN ?_ _ | refine blk_drew ?_ | refine blk_alloc ?_ _)); exact BK235.out⟩, ⟨by repeat (first | (with_reducible first | exact HB.out | apply below_alloc | apply pw_below_drewN | apply below_drew1 | refine below_set ?_ GE227.out | refine below_set ?_ GE235.out) | exact HB.out)⟩⟩
                                    · rw [if_neg c50] at H
                                      have c50b0 : ((rd t232 x15_4) == (rd t232 x12_3)) = false := beq_eq_false_iff_ne.mpr c50
                                      have c50b1 : ((rd t232 x15_4) != (rd t232 x12_3)) = true := bne_iff_ne.mpr c50
                                      have H' := Aside0.mk H
                                      clear H
                                      have p240 : 0 ≤ (x15_4 : Int) := of_decide_eq_true (by first | (with_reducible assumption) | assumption)
                                      have q240 : x15_4 < (t232.length : Int) := of_decide_eq_true (by first | (with_reducible assumption) | assumption)
                                      obtain ⟨ad240, e240, hx240_0⟩ := Kd.at_int (Kd.R_reads' HO_6.out).2.2 x15_4 p240 q240
                                      cases e240
                                      replace p240 := eq_true p240
                                      replace q240 := eq_true q240
                                      have p241 : 0 ≤ (x12_3 : Int) := of_decide_eq_true (by first | (with_reducible assumption) | assumption)
                                      have q241 : x12_3 < (t232.length : Int) := of_decide_eq_true (by first | (with_reducible assumption) | assumption)
                                      obtain ⟨ad241, e241, hx241_0⟩ := Kd.at_int (Kd.R_reads' HO_6.out).2.2 x12_3 p241 q241
                                      obtain rfl : ad240 = ad241 := (by injection e241)
                                      replace p241 := eq_true p241
                                      replace q241 := eq_true q241
                                      have p244 : 0 ≤ (x15_4 : Int) := of_decide_eq_true (by first | (with_reducible assumption) | assumption)
                                      have q244 : x15_4 < (t232.length : Int) := of_decide_eq_true (by first | (with_reducible assumption) | assumption)
                                      obtain ⟨ad244, e244, hx244_0⟩ := Kd.at_int (Kd.R_reads' HO_6.out).2.2 x15_4 p244 q244
                                      obtain rfl : ad240 = ad244 := (by injection e244)
                                      replace p244 := eq_true p244
                                      replace q244 := eq_true q244
                                      have p245 : 0 ≤ (x12_3 : Int) := of_decide_eq_true (by first | (with_reducible assumption) | assumption)
                                      have q245 : x12_3 < (t232.length : Int) := of_decide_eq_true (by first | (with_reducible assumption) | assumption)
                                      obtain ⟨ad245, e245, hx245_0⟩ := Kd.at_int (Kd.R_reads' HO_6.out).2.2 x12_3 p245 q245
                                      obtain rfl : ad240 = ad245 := (by injection e245)
                                      replace p245 := eq_true p245
                                      replace q245 := eq_true q245
                                      go_wp2
                                      repeat (go_quiet (fail); try go_wp2)
                                      go_roundg k4
                                      case measure => have := HJ8.out; have := HJ32.out; have := HK3.out; have := HK4.out; omega
                                      case rel => exact ⟨(x13_4), (x14_4), (wrap64 (x15_4 + 1)), (by first | rfl | (simp; done) | (simp [*]; done)), (by first | rfl | (simp; done) | (simp [*]; done)), (by first | rfl | (simp; done) | (simp [*]; done)), H', ⟨by have := HJ8.out; have := HJ32.out; have := HK3.out; have := HK4.out; omega⟩, ⟨by (with_reducible repeat (first | apply Kd.R_alloc | apply Kd.R_drewN | apply Kd.R_drew)); exact HO_6.out⟩, ⟨by (with_reducible repeat (first | apply Kd.R_alloc | apply Kd.R_drewN | apply Kd.R_drew)); exact HO_236000.out⟩, ⟨by (with_reducible repeat (first | refine blk_drewN ?_ _ | refine blk_drew ?_ | refine blk_alloc ?_ _)); exact BK227.out⟩, ⟨by (with_reducible repeat (first | refine blk_drewN ?_ _ | refine blk_drew ?_ | refine blk_alloc ?_ _)); exact BK235.out⟩, ⟨by repeat (first | (with_reducible first | exact HB.out | apply below_alloc | apply pw_below_drewN | apply below_drew1 | refine below_set ?_ GE227.out | refine below_set ?_ GE235.out) | exact HB.out)⟩⟩
                                · rw [if_neg c47] at H
                                  exact absurd H (by simp)
                              · rw [if_neg c46] at H
                                exact absurd H (by simp)
                            · rw [if_neg c45] at H
                              exact absurd H (by simp)
                          · rw [if_neg c44] at H
                            have c44b0 : decide (x15_4 < (t232.length : Int)) = false := decide_eq_false c44
                            clear c44
                            by_cases c51 : x13_4 < ji39
                            · rw [if_pos c51] at H
                              have c51b0 : decide (x13_4 < ji39) = true := decide_eq_true c51
                              clear c51
                              by_cases c52 : ji39 ≤ (wrap64 (x13_4 + x14_4))
                              · rw [if_pos c52] at H
                                have c52b0 : decide (ji39 ≤ (wrap64 (x13_4 + x14_4))) = true := decide_eq_true c52
                                clear c52
                                by_cases c53 : 0 ≤ x12_3
                                · rw [if_pos c53] at H
                                  have c53b0 : decide (0 ≤ x12_3) = true := decide_eq_true c53
                                  clear c53
                                  by_cases c54 : x12_3 < (t232.length : Int)
                                  · rw [if_pos c54] at H
                                    have c54b0 : decide (x12_3 < (t232.length : Int)) = true := decide_eq_true c54
                                    clear c54
                                    replace H := Option.bind_eq_some_iff.mp H
                                    obtain ⟨t247, A550, H⟩ := H
                                    replace H : ((sleuthlaw21_low.f t247).bind fun t248 => (if t236 = t248 then ((sleuthlaw21_index.f k4 (rd t232 x12_3)).bind fun t250 => ((sleuthlaw21_high.f t250).bind fun t251 => (if t237 = t251 then (sleuthlaw21_HistogramQuantiles.l0 k4 t232 t236 t237 ji39 (wrap64 (x12_3 + 1))) else (some false)))) else (some false))) = some r := H
                                    have A55 := Aside0.mk A550
                                    clear A550
                                    replace H := Option.bind_eq_some_iff.mp H
                                    obtain ⟨t248, A560, H⟩ := H
                                    replace H : (if t236 = t248 then ((sleuthlaw21_index.f k4 (rd t232 x12_3)).bind fun t250 => ((sleuthlaw21_high.f t250).bind fun t251 => (if t237 = t251 then (sleuthlaw21_HistogramQuantiles.l0 k4 t232 t236 t237 ji39 (wrap64 (x12_3 + 1))) else (some false)))) else (some false)) = some r := H
                                    have A56 := Aside0.mk A560
                                    clear A560
                                    by_cases c57 : t236 = t248
                                    · rw [if_pos c57] at H
                                      have c57b0 : (t236 == t248) = true := beq_iff_eq.mpr c57
                                      have c57b1 : (t236 != t248) = false := bne_eq_false_iff_eq.mpr c57
                                      clear c57
                                      replace H := Option.bind_eq_some_iff.mp H
                                      obtain ⟨t250, A580, H⟩ := H
                                      obtain rfl : t247 = t250 := Option.some.inj (A55.out.symm.trans A580)
                                      replace H : ((sleuthlaw21_high.f t247).bind fun t251 => (if t237 = t251 then (sleuthlaw21_HistogramQuantiles.l0 k4 t232 t236 t237 ji39 (wrap64 (x12_3 + 1))) else (some false))) = some r := H
                                      have A58 := Aside0.mk A580
                                      clear A580
                                      replace H := Option.bind_eq_some_iff.mp H
                                      obtain ⟨t251, A590, H⟩ := H
                                      replace H : (if t237 = t251 then (sleuthlaw21_HistogramQuantiles.l0 k4 t232 t236 t237 ji39 (wrap64 (x12_3 + 1))) else (some false)) = some r := H
                                      have A59 := Aside0.mk A590
                                      clear A590
                                      by_cases c60 : t237 = t251
                                      · rw [if_pos c60] at H
                                        have c60b0 : (t237 == t251) = true := beq_iff_eq.mpr c60
                                        have c60b1 : (t237 != t251) = false := bne_eq_false_iff_eq.mpr c60
                                        clear c60
                                        have H' := Aside0.mk H
                                        clear H
                                        have p246 : 0 ≤ (x12_3 : Int) := of_decide_eq_true (by first | (with_reducible assumption) | assumption)
                                        have q246 : x12_3 < (t232.length : Int) := of_decide_eq_true (by first | (with_reducible assumption) | assumption)
                                        obtain ⟨ad246, e246, hx246_0⟩ := Kd.at_int (Kd.R_reads' HO_6.out).2.2 x12_3 p246 q246
                                        cases e246
                                        replace p246 := eq_true p246
                                        replace q246 := eq_true q246
                                        go_wp2_with (first | (go_at_call 15; (with_reducible refine (sleuthlaw21_index.calls k4 (rd t232 x12_3) t247 _ A55.out).mono ?_); rintro e w' ⟨rfl, ⟨nd, rfl⟩⟩; (try first | exact ⟨rfl, _, World.drewN_drewN _ _ _⟩ | exact ⟨rfl, _, Eq.trans (World.drewN_drewN _ _ _) (congrArg (World.drewN _) (Nat.add_assoc _ _ _))⟩)) | (go_at_call 16; (with_reducible refine (sleuthlaw21_low.calls t247 t248 _ A56.out).mono ?_); rintro e w' ⟨rfl, ⟨nd, rfl⟩⟩; (try first | exact ⟨rfl, _, World.drewN_drewN _ _ _⟩ | exact ⟨rfl, _, Eq.trans (World.drewN_drewN _ _ _) (congrArg (World.drewN _) (Nat.add_assoc _ _ _))⟩); have p249 : 0 ≤ (x12_3 : Int) := of_decide_eq_true (by first | (with_reducible assumption) | assumption); have q249 : x12_3 < (t232.length : Int) := of_decide_eq_true (by first | (with_reducible assumption) | assumption); obtain ⟨ad249, e249, hx249_0⟩ := Kd.at_int (Kd.R_reads' HO_6.out).2.2 x12_3 p249 q249; obtain rfl : ad246 = ad249 := (by injection e249); replace p249 := eq_true p249; replace q249 := eq_true q249) | (go_at_call 15; (with_reducible refine (sleuthlaw21_index.calls k4 (rd t232 x12_3) t247 _ A58.out).mono ?_); rintro e w' ⟨rfl, ⟨nd, rfl⟩⟩; (try first | exact ⟨rfl, _, World.drewN_drewN _ _ _⟩ | exact ⟨rfl, _, Eq.trans (World.drewN_drewN _ _ _) (congrArg (World.drewN _) (Nat.add_assoc _ _ _))⟩)) | (go_at_call 17; (with_reducible refine (sleuthlaw21_high.calls t247 t251 _ A59.out).mono ?_); rintro e w61 ⟨rfl, hb⟩; have n0_ := Aside0.mk (Kd.R_below (by (with_reducible repeat (first | apply Kd.R_alloc | apply Kd.R_drewN | apply Kd.R_drew)); exact HO_6.out) hb); have n1_ := Aside0.mk (Kd.R_below (by (with_reducible repeat (first | apply Kd.R_alloc | apply Kd.R_drewN | apply Kd.R_drew)); exact HO_236000.out) hb); have n2_ := Aside0.mk (blk_below (g := gb227) (o := .cells #[.int .i64 a1_0, .int .i64 a1_1] 41 (0, 0)) (by (with_reducible repeat (first | refine blk_drewN ?_ _ | refine blk_drew ?_ | refine blk_alloc ?_ _)); exact BK227.out) hb); have n3_ := Aside0.mk (blk_below (g := gb235) (o := .cells #[.slice Ao15 t229.length co15] 33 (0, 0)) (by (with_reducible repeat (first | refine blk_drewN ?_ _ | refine blk_drew ?_ | refine blk_alloc ?_ _)); exact BK235.out) hb); have n4_ := Aside0.mk (below_step (by repeat (first | (with_reducible first | exact HB.out | apply below_alloc | apply pw_below_drewN | apply below_drew1 | refine below_set ?_ GE227.out | refine below_set ?_ GE235.out) | exact HB.out)) hb); clear HO_6; clear HO_236000; clear BK227; clear BK235; clear HB; have HO_6 := n0_; have HO_236000 := n1_; have BK227 := n2_; have BK235 := n3_; have HB := n4_; clear n0_ n1_ n2_ n3_ n4_; (try clear hb); (try clear hb2); (try clear hk); (try clear hi)))
                                        repeat (go_quiet (first | (go_at_call 15; (with_reducible refine (sleuthlaw21_index.calls k4 (rd t232 x12_3) t247 _ A55.out).mono ?_); rintro e w' ⟨rfl, ⟨nd, rfl⟩⟩; (try first | exact ⟨rfl, _, World.drewN_drewN _ _ _⟩ | exact ⟨rfl, _, Eq.trans (World.drewN_drewN _ _ _) (congrArg (World.drewN _) (Nat.add_assoc _ _ _))⟩)) | (go_at_call 16; (with_reducible refine (sleuthlaw21_low.calls t247 t248 _ A56.out).mono ?_); rintro e w' ⟨rfl, ⟨nd, rfl⟩⟩; (try first | exact ⟨rfl, _, World.drewN_drewN _ _ _⟩ | exact ⟨rfl, _, Eq.trans (World.drewN_drewN _ _ _) (congrArg (World.drewN _) (Nat.add_assoc _ _ _))⟩); have p249 : 0 ≤ (x12_3 : Int) := of_decide_eq_true (by first | (with_reducible assumption) | assumption); have q249 : x12_3 < (t232.length : Int) := of_decide_eq_true (by first | (with_reducible assumption) | assumption); obtain ⟨ad249, e249, hx249_0⟩ := Kd.at_int (Kd.R_reads' HO_6.out).2.2 x12_3 p249 q249; obtain rfl : ad246 = ad249 := (by injection e249); replace p249 := eq_true p249; replace q249 := eq_true q249) | (go_at_call 15; (with_reducible refine (sleuthlaw21_index.calls k4 (rd t232 x12_3) t247 _ A58.out).mono ?_); rintro e w' ⟨rfl, ⟨nd, rfl⟩⟩; (try first | exact ⟨rfl, _, World.drewN_drewN _ _ _⟩ | exact ⟨rfl, _, Eq.trans (World.drewN_drewN _ _ _) (congrArg (World.drewN _) (Nat.add_assoc _ _ _))⟩)) | (go_at_call 17; (with_reducible refine (sleuthlaw21_high.calls t247 t251 _ A59.out).mono ?_); rintro e w61 ⟨rfl, hb⟩; have n0_ := Aside0.mk (Kd.R_below (by (with_reducible repeat (first | apply Kd.R_alloc | apply Kd.R_drewN | apply Kd.R_drew)); exact HO_6.out) hb); have n1_ := Aside0.mk (Kd.R_below (by (with_reducible repeat (first | apply Kd.R_alloc | apply Kd.R_drewN | apply Kd.R_drew)); exact HO_236000.out) hb); have n2_ := Aside0.mk (blk_below (g := gb227) (o := .cells #[.int .i64 a1_0, .int .i64 a1_1] 41 (0, 0)) (by (with_reducible repeat (first | refine blk_drewN ?_ _ | refine blk_drew ?_ | refine blk_alloc ?_ _)); exact BK227.out) hb); have n3_ := Aside0.mk (blk_below (g := gb235) (o := .cells #[.slice Ao15 t229.length co15] 33 (0, 0)) (by (with_reducible repeat (first | refine blk_drewN ?_ _ | refine blk_drew ?_ | refine blk_alloc ?_ _)); exact BK235.out) hb); have n4_ := Aside0.mk (below_step (by repeat (first | (with_reducible first | exact HB.out | apply below_alloc | apply pw_below_drewN | apply below_drew1 | refine below_set ?_ GE227.out | refine below_set ?_ GE235.out) | exact HB.out)) hb); clear HO_6; clear HO_236000; clear BK227; clear BK235; clear HB; have HO_6 := n0_; have HO_236000 := n1_; have BK227 := n2_; have BK235 := n3_; have HB := n4_; clear n0_ n1_ n2_ n3_ n4_; (try clear hb); (try clear hb2); (try clear hk); (try clear hi))); try go_wp2_with (first | (go_at_call 15; (with_reducible refine (sleuthlaw21_index.calls k4 (rd t232 x12_3) t247 _ A55.out).mono ?_); rintro e w' ⟨rfl, ⟨nd, rfl⟩⟩; (try first | exact ⟨rfl, _, World.drewN_drewN _ _ _⟩ | exact ⟨rfl, _, Eq.trans (World.drewN_drewN _ _ _) (congrArg (World.drewN _) (Nat.add_assoc _ _ _))⟩)) | (go_at_call 16; (with_reducible refine (sleuthlaw21_low.calls t247 t248 _ A56.out).mono ?_); rintro e w' ⟨rfl, ⟨nd, rfl⟩⟩; (try first | exact ⟨rfl, _, World.drewN_drewN _ _ _⟩ | exact ⟨rfl, _, Eq.trans (World.drewN_drewN _ _ _) (congrArg (World.drewN _) (Nat.add_assoc _ _ _))⟩); have p249 : 0 ≤ (x12_3 : Int) := of_decide_eq_true (by first | (with_reducible assumption) | assumption); have q249 : x12_3 < (t232.length : Int) := of_decide_eq_true (by first | (with_reducible assumption) | assumption); obtain ⟨ad249, e249, hx249_0⟩ := Kd.at_int (Kd.R_reads' HO_6.out).2.2 x12_3 p249 q249; obtain rfl : ad246 = ad249 := (by injection e249); replace p249 := eq_true p249; replace q249 := eq_true q249) | (go_at_call 15; (with_reducible refine (sleuthlaw21_index.calls k4 (rd t232 x12_3) t247 _ A58.out).mono ?_); rintro e w' ⟨rfl, ⟨nd, rfl⟩⟩; (try first | exact ⟨rfl, _, World.drewN_drewN _ _ _⟩ | exact ⟨rfl, _, Eq.trans (World.drewN_drewN _ _ _) (congrArg (World.drewN _) (Nat.add_assoc _ _ _))⟩)) | (go_at_call 17; (with_reducible refine (sleuthlaw21_high.calls t247 t251 _ A59.out).mono ?_); rintro e w61 ⟨rfl, hb⟩; have n0_ := Aside0.mk (Kd.R_below (by (with_reducible repeat (first | apply Kd.R_alloc | apply Kd.R_drewN | apply Kd.R_drew)); exact HO_6.out) hb); have n1_ := Aside0.mk (Kd.R_below (by (with_reducible repeat (first | apply Kd.R_alloc | apply Kd.R_drewN | apply Kd.R_drew)); exact HO_236000.out) hb); have n2_ := Aside0.mk (blk_below (g := gb227) (o := .cells #[.int .i64 a1_0, .int .i64 a1_1] 41 (0, 0)) (by (with_reducible repeat (first | refine blk_drewN ?_ _ | refine blk_drew ?_ | refine blk_alloc ?_ _)); exact BK227.out) hb); have n3_ := Aside0.mk (blk_below (g := gb235) (o := .cells #[.slice Ao15 t229.length co15] 33 (0, 0)) (by (with_reducible repeat (first | refine blk_drewN ?_ _ | refine blk_drew ?_ | refine blk_alloc ?_ _)); exact BK235.out) hb); have n4_ := Aside0.mk (below_step (by repeat (first | (with_reducible first | exact HB.out | apply below_alloc | apply pw_below_drewN | apply below_drew1 | refine below_set ?_ GE227.out | refine below_set ?_ GE235.out) | exact HB.out)) hb); clear HO_6; clear HO_236000; clear BK227; clear BK235; clear HB; have HO_6 := n0_; have HO_236000 := n1_; have BK227 := n2_; have BK235 := n3_; have HB := n4_; clear n0_ n1_ n2_ n3_ n4_; (try clear hb); (try clear hb2); (try clear hk); (try clear hi))))
                                        go_roundg k4
                                        case measure => have := HJ8.out; have := HJ32.out; have := HK3.out; have := HK4.out; omega
                                        case rel => exact ⟨(wrap64 (x12_3 + 1)), (by first | rfl | (simp; done) | (simp [*]; done)), H', ⟨by have := HJ8.out; have := HJ32.out; have := HK3.out; have := HK4.out; omega⟩, ⟨by (with_reducible repeat (first | apply Kd.R_alloc | apply Kd.R_drewN | apply Kd.R_drew)); exact HO_6.out⟩, ⟨by (with_reducible repeat (first | apply Kd.R_alloc | apply Kd.R_drewN | apply Kd.R_drew)); exact HO_236000.out⟩, ⟨by (with_reducible repeat (first | refine blk_drewN ?_ _ | refine blk_drew ?_ | refine blk_alloc ?_ _)); exact BK227.out⟩, ⟨by (with_reducible repeat (first | refine blk_drewN ?_ _ | refine blk_drew ?_ | refine blk_alloc ?_ _)); exact BK235.out⟩, ⟨by repeat (first | (with_reducible first | exact HB.out | apply below_alloc | apply pw_below_drewN | apply below_drew1 | refine below_set ?_ GE227.out | refine below_set ?_ GE235.out) | exact HB.out)⟩⟩
                                      · rw [if_neg c60] at H
                                        have c60b0 : (t237 == t251) = false := beq_eq_false_iff_ne.mpr c60
                                        have c60b1 : (t237 != t251) = true := bne_iff_ne.mpr c60
                                        exact absurd (H.trans (congrArg some hr_)) (by decide)
                                    · rw [if_neg c57] at H
                                      have c57b0 : (t236 == t248) = false := beq_eq_false_iff_ne.mpr c57
                                      have c57b1 : (t236 != t248) = true := bne_iff_ne.mpr c57
                                      exact absurd (H.trans (congrArg some hr_)) (by decide)
                                  · rw [if_neg c54] at H
                                    exact absurd H (by simp)
                                · rw [if_neg c53] at H
                                  exact absurd H (by simp)
                              · rw [if_neg c52] at H
                                have c52b0 : decide (ji39 ≤ (wrap64 (x13_4 + x14_4))) = false := decide_eq_false c52
                                clear c52
                                have H' := Aside0.mk H
                                clear H
                                go_wp2
                                repeat (go_quiet (fail); try go_wp2)
                                go_roundg k4
                                case measure => have := HJ8.out; have := HJ32.out; have := HK3.out; have := HK4.out; omega
                                case rel => exact ⟨(wrap64 (x12_3 + 1)), (by first | rfl | (simp; done) | (simp [*]; done)), H', ⟨by have := HJ8.out; have := HJ32.out; have := HK3.out; have := HK4.out; omega⟩, ⟨by (with_reducible repeat (first | apply Kd.R_alloc | apply Kd.R_drewN | apply Kd.R_drew)); exact HO_6.out⟩, ⟨by (with_reducible repeat (first | apply Kd.R_alloc | apply Kd.R_drewN | apply Kd.R_drew)); exact HO_236000.out⟩, ⟨by (with_reducible repeat (first | refine blk_drewN ?_ _ | refine blk_drew ?_ | refine blk_alloc ?_ _)); exact BK227.out⟩, ⟨by (with_reducible repeat (first | refine blk_drewN ?_ _ | refine blk_drew ?_ | refine blk_alloc ?_ _)); exact BK235.out⟩, ⟨by repeat (first | (with_reducible first | exact HB.out | apply below_alloc | apply pw_below_drewN | apply below_drew1 | refine below_set ?_ GE227.out | refine below_set ?_ GE235.out) | exact HB.out)⟩⟩
                            · rw [if_neg c51] at H
                              have c51b0 : decide (x13_4 < ji39) = false := decide_eq_false c51
                              clear c51
                              have H' := Aside0.mk H
                              clear H
                              go_wp2
                              repeat (go_quiet (fail); try go_wp2)
                              go_roundg k4
                              case measure => have := HJ8.out; have := HJ32.out; have := HK3.out; have := HK4.out; omega
                              case rel => exact ⟨(wrap64 (x12_3 + 1)), (by first | rfl | (simp; done) | (simp [*]; done)), H', ⟨by have := HJ8.out; have := HJ32.out; have := HK3.out; have := HK4.out; omega⟩, ⟨by (with_reducible repeat (first | apply Kd.R_alloc | apply Kd.R_drewN | apply Kd.R_drew)); exact HO_6.out⟩, ⟨by (with_reducible repeat (first | apply Kd.R_alloc | apply Kd.R_drewN | apply Kd.R_drew)); exact HO_236000.out⟩, ⟨by (with_reducible repeat (first | refine blk_drewN ?_ _ | refine blk_drew ?_ | refine blk_alloc ?_ _)); exact BK227.out⟩, ⟨by (with_reducible repeat (first | refine blk_drewN ?_ _ | refine blk_drew ?_ | refine blk_alloc ?_ _)); exact BK235.out⟩, ⟨by repeat (first | (with_reducible first | exact HB.out | apply below_alloc | apply pw_below_drewN | apply below_drew1 | refine below_set ?_ GE227.out | refine below_set ?_ GE235.out) | exact HB.out)⟩⟩
                    · rw [if_neg c43] at H
                      have c43b0 : decide (x12_3 < (t232.length : Int)) = false := decide_eq_false c43
                      clear c43
                      obtain rfl := Option.some.inj H
                      go_wp2
                      repeat (go_quiet (fail); try go_wp2)
                      go_ret
                      exact ⟨by first | rfl | (simp [errW_none, errW_some] <;> rfl) | (simp only [← hji39]; first | rfl | (simp [errW_none, errW_some] <;> rfl)) | (simp [*, errW_none, errW_some] <;> rfl), by repeat (first | (with_reducible first | exact HB.out | apply below_alloc | apply pw_below_drewN | apply below_drew1 | refine below_set ?_ GE227.out | refine below_set ?_ GE235.out) | exact HB.out)⟩
  · replace c4 := Bool.eq_false_iff.mpr c4
    subst c4
    have H1 : (some false) = some r := by rw [if_neg (show ¬ (false = true) by decide)] at H; exact H
    clear H
    have H := H1
    clear H1
    exact absurd A3.out (sleuthlaw21_known.never _)

/-- THE ONE PURE STATEMENT of sleuthlaw21_HistogramQuantiles: yours. -/
def sleuthlaw21_HistogramQuantiles.Pure : Prop := ∀ (l0 : List Int) (a1_0 : Int) (a1_1 : Int), l0.length ≤ maxLen → l0.length * 8 ≤ 140737488351232 → (∀ x ∈ l0, (Lit.int .i64 x).wf = true) → (Lit.int .i64 a1_0).wf = true → (Lit.int .i64 a1_1).wf = true → ∃ k, sleuthlaw21_HistogramQuantiles.f k l0 a1_0 a1_1 = some true
theorem sleuthlaw21_HistogramQuantiles.walk (P : sleuthlaw21_HistogramQuantiles.Pure) (a0 : Option Addr) (len0 cap0 : Nat) (z0 : List Int) (a1_0 : Int) (a1_1 : Int) (w : World) (w0 : (a0 = none ∧ len0 = 0 ∧ cap0 = 0 ∧ z0 = []) ∨ ∃ x, a0 = some x ∧ len0 ≤ cap0 ∧ cap0 ≤ maxLen ∧ z0.length = cap0 ∧ (∀ i, i < z0.length → w.cell? (x.add i) = some (.int .i64 (z0.getD i 0))) ∧ ∀ n ∈ z0, (Lit.int .i64 n).wf = true) (y0 : len0 * 8 ≤ 140737488351232) (w1_0 : (Lit.int .i64 a1_0).wf = true) (w1_1 : (Lit.int .i64 a1_1).wf = true) :
    Calls Try.prog 6 #[.slice a0 len0 cap0, .agg #[.int .i64 a1_0, .int .i64 a1_1]] w fun e w' => e = .returned (.bool true) ∧ Below w.heap.size w w' := by
  obtain ⟨l0, rfl, hr0, hm0, hw0, hc0⟩ := ReadsInt.ofRowC w0
  obtain ⟨k, h⟩ := P l0 a1_0 a1_1 hm0 y0 hw0 w1_0 w1_1
  refine (sleuthlaw21_HistogramQuantiles.calls k _ _ l0 a1_0 a1_1 true w (Kd.C_of_reads (d := (0 : Int)) (h1 := fun _ => rfl) hr0) hc0 h rfl).mono ?_
  rintro e w' ⟨rfl, hd⟩
  exact ⟨rfl, hd⟩

end Go.Proofs.Ytfnhicmjdfeanaa.PH
