-- Written by a program of this session (gprint.py) out of Lean's own print of the program. Lean checks it.
import Derived.Test.YtfnhicmjdfeanaaPHx0
import Derived.Test.YtfnhicmjdfeanaaPHx5
import Derived.Test.YtfnhicmjdfeanaaPHx15
import Derived.Test.YtfnhicmjdfeanaaPHx16
import Derived.Test.YtfnhicmjdfeanaaPHx17
import Derived.Test.YtfnhicmjdfeanaaPHx21
import Derived.Test.YtfnhicmjdfeanaaPHx22
import Derived.Test.YtfnhicmjdfeanaaPHx26
import Derived.Test.YtfnhicmjdfeanaaPHx30
import Derived.Test.YtfnhicmjdfeanaaPHx32
import Derived.Test.YtfnhicmjdfeanaaPHx33
namespace Go.Proofs.Ytfnhicmjdfeanaa.PH
open Go.RowKit Go.Proofs.YtfnhicmjdfeanaaW.PrintWords Go.Proofs.YtfnhicmjdfeanaaW.PrintLast Go.Proofs.YtfnhicmjdfeanaaW.PrintMore
attribute [local go_sem] max2_int min2_int max_two min_two max_three min_three max_four min_four   -- for this text's walks alone
set_option linter.unusedVariables false
set_option linter.unusedSimpArgs false

/-! ### sleuthlaw21_HistogramAdds: function 9 -/
mutual
def sleuthlaw21_HistogramAdds.j1 : Nat → List Int → Int → Int → Int → Int → List (S67) → List (S67) → Option (Bool)
  | 0, _, _, _, _, _, _, _ => none
  | k + 1, x0, x1, x2, x9, x10, x299000, x304000 => if x9 = x10 then (sleuthlaw21_HistogramAdds.j2 k x0 x1 x2 x9 x10 (x10 != 0) x299000 x304000) else (sleuthlaw21_HistogramAdds.j2 k x0 x1 x2 x9 x10 true x299000 x304000)
def sleuthlaw21_HistogramAdds.j2 : Nat → List Int → Int → Int → Int → Int → Bool → List (S67) → List (S67) → Option (Bool)
  | 0, _, _, _, _, _, _, _, _ => none
  | k + 1, x0, x1, x2, x9, x10, x51, x299000, x304000 => if x51 = true then (if x9 = x10 then (some ((x304000.length : Int) == 0)) else (some false)) else ((histogram_Check.f k x304000).bind fun t305 => (if t305 = 0 then ((histogram_Total.f k x304000).bind fun t306 => ((histogram_Total.f k x299000).bind fun t307 => (if t306 = (wrap64 (t307 + x2)) then ((sleuthlaw21_values.f k x0).bind fun t308 => ((sleuthlaw21_count.f k t308).bind fun t311 => ((sleuthlaw21_same.f k x299000 t311).bind fun t314 => (sleuthlaw21_HistogramAdds.j3 k x1 x2 (!t314) x299000 x304000)))) else (sleuthlaw21_HistogramAdds.j3 k x1 x2 true x299000 x304000)))) else (sleuthlaw21_HistogramAdds.j3 k x1 x2 true x299000 x304000)))
def sleuthlaw21_HistogramAdds.j3 : Nat → Int → Int → Bool → List (S67) → List (S67) → Option (Bool)
  | 0, _, _, _, _, _ => none
  | k + 1, x1, x2, x80, x299000, x304000 => if x80 = true then (some false) else (sleuthlaw21_HistogramAdds.l0 k x1 x2 0 x299000 x304000)
def sleuthlaw21_HistogramAdds.l0 : Nat → Int → Int → Int → List (S67) → List (S67) → Option (Bool)
  | 0, _, _, _, _, _ => none
  | k + 1, x1, x2, x11, x299000, x304000 => if x11 < 305 then ((sleuthlaw21_index.f k x1).bind fun t315 => (if x11 = t315 then (sleuthlaw21_HistogramAdds.j5 k x1 x2 x11 x2 x299000 x304000) else (sleuthlaw21_HistogramAdds.j5 k x1 x2 x11 0 x299000 x304000))) else (some true)
def sleuthlaw21_HistogramAdds.j5 : Nat → Int → Int → Int → Int → List (S67) → List (S67) → Option (Bool)
  | 0, _, _, _, _, _, _ => none
  | k + 1, x1, x2, x11, x12, x299000, x304000 => (sleuthlaw21_at.f k x304000 x11).bind fun t316 => ((sleuthlaw21_at.f k x299000 x11).bind fun t317 => (if t316 = (wrap64 (t317 + x12)) then (sleuthlaw21_HistogramAdds.l0 k x1 x2 (wrap64 (x11 + 1)) x299000 x304000) else (some false)))
def sleuthlaw21_HistogramAdds.j0 : Nat → List Int → Int → Int → Int → Int → Bool → List (S67) → List (S67) → Option (Bool)
  | 0, _, _, _, _, _, _, _, _ => none
  | k + 1, x0, x1, x2, x9, x10, x24, x299000, x304000 => if x24 = true then (sleuthlaw21_HistogramAdds.j1 k x0 x1 x2 x9 2 x299000 x304000) else ((histogram_Total.f k x299000).bind fun t304 => (if x2 > (wrap64 (1048576 - t304)) then (sleuthlaw21_HistogramAdds.j1 k x0 x1 x2 x9 20 x299000 x304000) else (sleuthlaw21_HistogramAdds.j1 k x0 x1 x2 x9 x10 x299000 x304000)))
end
def sleuthlaw21_HistogramAdds.f (k : Nat) (l0 : List Int) (a1 : Int) (a2 : Int) : Option (Bool) := (sleuthlaw21_known.f k).bind fun t294 => (if t294 = true then ((sleuthlaw21_of.f k l0).bind fun t295 => ((histogram_Add.f k t295 a1 a2).bind fun bt299 => (if a1 < 0 then (sleuthlaw21_HistogramAdds.j0 k l0 a1 a2 bt299.2 0 true t295 bt299.1) else (if a1 > 1099511627776 then (sleuthlaw21_HistogramAdds.j0 k l0 a1 a2 bt299.2 0 true t295 bt299.1) else (if a2 < 0 then (sleuthlaw21_HistogramAdds.j0 k l0 a1 a2 bt299.2 0 true t295 bt299.1) else (sleuthlaw21_HistogramAdds.j0 k l0 a1 a2 bt299.2 0 (decide (a2 > 1048576)) t295 bt299.1)))))) else (some false))
theorem sleuthlaw21_HistogramAdds.mono_l : ∀ k, (∀ y0 y1 y2 y3 y4 y5 y6, LeO (sleuthlaw21_HistogramAdds.j1 k y0 y1 y2 y3 y4 y5 y6) (sleuthlaw21_HistogramAdds.j1 (k + 1) y0 y1 y2 y3 y4 y5 y6)) ∧ (∀ y0 y1 y2 y3 y4 y5 y6 y7, LeO (sleuthlaw21_HistogramAdds.j2 k y0 y1 y2 y3 y4 y5 y6 y7) (sleuthlaw21_HistogramAdds.j2 (k + 1) y0 y1 y2 y3 y4 y5 y6 y7)) ∧ (∀ y0 y1 y2 y3 y4, LeO (sleuthlaw21_HistogramAdds.j3 k y0 y1 y2 y3 y4) (sleuthlaw21_HistogramAdds.j3 (k + 1) y0 y1 y2 y3 y4)) ∧ (∀ y0 y1 y2 y3 y4, LeO (sleuthlaw21_HistogramAdds.l0 k y0 y1 y2 y3 y4) (sleuthlaw21_HistogramAdds.l0 (k + 1) y0 y1 y2 y3 y4)) ∧ (∀ y0 y1 y2 y3 y4 y5, LeO (sleuthlaw21_HistogramAdds.j5 k y0 y1 y2 y3 y4 y5) (sleuthlaw21_HistogramAdds.j5 (k + 1) y0 y1 y2 y3 y4 y5)) ∧ (∀ y0 y1 y2 y3 y4 y5 y6 y7, LeO (sleuthlaw21_HistogramAdds.j0 k y0 y1 y2 y3 y4 y5 y6 y7) (sleuthlaw21_HistogramAdds.j0 (k + 1) y0 y1 y2 y3 y4 y5 y6 y7))
  | 0 => ⟨fun _ _ _ _ _ _ _ r h => by simp [sleuthlaw21_HistogramAdds.j1] at h, fun _ _ _ _ _ _ _ _ r h => by simp [sleuthlaw21_HistogramAdds.j2] at h, fun _ _ _ _ _ r h => by simp [sleuthlaw21_HistogramAdds.j3] at h, fun _ _ _ _ _ r h => by simp [sleuthlaw21_HistogramAdds.l0] at h, fun _ _ _ _ _ _ r h => by simp [sleuthlaw21_HistogramAdds.j5] at h, fun _ _ _ _ _ _ _ _ r h => by simp [sleuthlaw21_HistogramAdds.j0] at h⟩
  | k + 1 => by
    obtain ⟨ih0, ih1, ih2, ih3, ih4, ih5⟩ := sleuthlaw21_HistogramAdds.mono_l k
    refine ⟨?_, ?_, ?_, ?_, ?_, ?_⟩
    · intro y0 y1 y2 y3 y4 y5 y6
      unfold sleuthlaw21_HistogramAdds.j1
      repeat' first
      | (with_reducible exact ih0 _ _ _ _ _ _ _)
      | (with_reducible exact ih1 _ _ _ _ _ _ _ _)
      | (with_reducible exact ih2 _ _ _ _ _)
      | (with_reducible exact ih3 _ _ _ _ _)
      | (with_reducible exact ih4 _ _ _ _ _ _)
      | (with_reducible exact ih5 _ _ _ _ _ _ _ _)
      | (with_reducible exact histogram_Add.mono _ _ _ _)
      | (with_reducible exact histogram_Check.mono _ _)
      | (with_reducible exact histogram_Total.mono _ _)
      | (with_reducible exact sleuthlaw21_at.mono _ _ _)
      | (with_reducible exact sleuthlaw21_count.mono _ _)
      | (with_reducible exact sleuthlaw21_index.mono _ _)
      | (with_reducible exact sleuthlaw21_known.mono _)
      | (with_reducible exact sleuthlaw21_of.mono _ _)
      | (with_reducible exact sleuthlaw21_same.mono _ _ _)
      | (with_reducible exact sleuthlaw21_values.mono _ _)
      | (with_reducible exact LeO.refl _)
      | (with_reducible exact LeO.none _)
      | (with_reducible refine LeO.ite ?_ ?_)
      | (with_reducible refine LeO.bind ?_ (fun _ => ?_))
      | exact ih0 _ _ _ _ _ _ _
      | exact ih1 _ _ _ _ _ _ _ _
      | exact ih2 _ _ _ _ _
      | exact ih3 _ _ _ _ _
      | exact ih4 _ _ _ _ _ _
      | exact ih5 _ _ _ _ _ _ _ _
      | exact histogram_Add.mono _ _ _ _
      | exact histogram_Check.mono _ _
      | exact histogram_Total.mono _ _
      | exact sleuthlaw21_at.mono _ _ _
      | exact sleuthlaw21_count.mono _ _
      | exact sleuthlaw21_index.mono _ _
      | exact sleuthlaw21_known.mono _
      | exact sleuthlaw21_of.mono _ _
      | exact sleuthlaw21_same.mono _ _ _
      | exact sleuthlaw21_values.mono _ _
      | exact LeO.none _
      | refine LeO.ite ?_ ?_
      | refine LeO.bind ?_ (fun _ => ?_)
    · intro y0 y1 y2 y3 y4 y5 y6 y7
      unfold sleuthlaw21_HistogramAdds.j2
      repeat' first
      | (with_reducible exact ih0 _ _ _ _ _ _ _)
      | (with_reducible exact ih1 _ _ _ _ _ _ _ _)
      | (with_reducible exact ih2 _ _ _ _ _)
      | (with_reducible exact ih3 _ _ _ _ _)
      | (with_reducible exact ih4 _ _ _ _ _ _)
      | (with_reducible exact ih5 _ _ _ _ _ _ _ _)
      | (with_reducible exact histogram_Add.mono _ _ _ _)
      | (with_reducible exact histogram_Check.mono _ _)
      | (with_reducible exact histogram_Total.mono _ _)
      | (with_reducible exact sleuthlaw21_at.mono _ _ _)
      | (with_reducible exact sleuthlaw21_count.mono _ _)
      | (with_reducible exact sleuthlaw21_index.mono _ _)
      | (with_reducible exact sleuthlaw21_known.mono _)
      | (with_reducible exact sleuthlaw21_of.mono _ _)
      | (with_reducible exact sleuthlaw21_same.mono _ _ _)
      | (with_reducible exact sleuthlaw21_values.mono _ _)
      | (with_reducible exact LeO.refl _)
      | (with_reducible exact LeO.none _)
      | (with_reducible refine LeO.ite ?_ ?_)
      | (with_reducible refine LeO.bind ?_ (fun _ => ?_))
      | exact ih0 _ _ _ _ _ _ _
      | exact ih1 _ _ _ _ _ _ _ _
      | exact ih2 _ _ _ _ _
      | exact ih3 _ _ _ _ _
      | exact ih4 _ _ _ _ _ _
      | exact ih5 _ _ _ _ _ _ _ _
      | exact histogram_Add.mono _ _ _ _
      | exact histogram_Check.mono _ _
      | exact histogram_Total.mono _ _
      | exact sleuthlaw21_at.mono _ _ _
      | exact sleuthlaw21_count.mono _ _
      | exact sleuthlaw21_index.mono _ _
      | exact sleuthlaw21_known.mono _
      | exact sleuthlaw21_of.mono _ _
      | exact sleuthlaw21_same.mono _ _ _
      | exact sleuthlaw21_values.mono _ _
      | exact LeO.none _
      | refine LeO.ite ?_ ?_
      | refine LeO.bind ?_ (fun _ => ?_)
    · intro y0 y1 y2 y3 y4
      unfold sleuthlaw21_HistogramAdds.j3
      repeat' first
      | (with_reducible exact ih0 _ _ _ _ _ _ _)
      | (with_reducible exact ih1 _ _ _ _ _ _ _ _)
      | (with_reducible exact ih2 _ _ _ _ _)
      | (with_reducible exact ih3 _ _ _ _ _)
      | (with_reducible exact ih4 _ _ _ _ _ _)
      | (with_reducible exact ih5 _ _ _ _ _ _ _ _)
      | (with_reducible exact histogram_Add.mono _ _ _ _)
      | (with_reducible exact histogram_Check.mono _ _)
      | (with_reducible exact histogram_Total.mono _ _)
      | (with_reducible exact sleuthlaw21_at.mono _ _ _)
      | (with_reducible exact sleuthlaw21_count.mono _ _)
      | (with_reducible exact sleuthlaw21_index.mono _ _)
      | (with_reducible exact sleuthlaw21_known.mono _)
      | (with_reducible exact sleuthlaw21_of.mono _ _)
      | (with_reducible exact sleuthlaw21_same.mono _ _ _)
      | (with_reducible exact sleuthlaw21_values.mono _ _)
      | (with_reducible exact LeO.refl _)
      | (with_reducible exact LeO.none _)
      | (with_reducible refine LeO.ite ?_ ?_)
      | (with_reducible refine LeO.bind ?_ (fun _ => ?_))
      | exact ih0 _ _ _ _ _ _ _
      | exact ih1 _ _ _ _ _ _ _ _
      | exact ih2 _ _ _ _ _
      | exact ih3 _ _ _ _ _
      | exact ih4 _ _ _ _ _ _
      | exact ih5 _ _ _ _ _ _ _ _
      | exact histogram_Add.mono _ _ _ _
      | exact histogram_Check.mono _ _
      | exact histogram_Total.mono _ _
      | exact sleuthlaw21_at.mono _ _ _
      | exact sleuthlaw21_count.mono _ _
      | exact sleuthlaw21_index.mono _ _
      | exact sleuthlaw21_known.mono _
      | exact sleuthlaw21_of.mono _ _
      | exact sleuthlaw21_same.mono _ _ _
      | exact sleuthlaw21_values.mono _ _
      | exact LeO.none _
      | refine LeO.ite ?_ ?_
      | refine LeO.bind ?_ (fun _ => ?_)
    · intro y0 y1 y2 y3 y4
      unfold sleuthlaw21_HistogramAdds.l0
      repeat' first
      | (with_reducible exact ih0 _ _ _ _ _ _ _)
      | (with_reducible exact ih1 _ _ _ _ _ _ _ _)
      | (with_reducible exact ih2 _ _ _ _ _)
      | (with_reducible exact ih3 _ _ _ _ _)
      | (with_reducible exact ih4 _ _ _ _ _ _)
      | (with_reducible exact ih5 _ _ _ _ _ _ _ _)
      | (with_reducible exact histogram_Add.mono _ _ _ _)
      | (with_reducible exact histogram_Check.mono _ _)
      | (with_reducible exact histogram_Total.mono _ _)
      | (with_reducible exact sleuthlaw21_at.mono _ _ _)
      | (with_reducible exact sleuthlaw21_count.mono _ _)
      | (with_reducible exact sleuthlaw21_index.mono _ _)
      | (with_reducible exact sleuthlaw21_known.mono _)
      | (with_reducible exact sleuthlaw21_of.mono _ _)
      | (with_reducible exact sleuthlaw21_same.mono _ _ _)
      | (with_reducible exact sleuthlaw21_values.mono _ _)
      | (with_reducible exact LeO.refl _)
      | (with_reducible exact LeO.none _)
      | (with_reducible refine LeO.ite ?_ ?_)
      | (with_reducible refine LeO.bind ?_ (fun _ => ?_))
      | exact ih0 _ _ _ _ _ _ _
      | exact ih1 _ _ _ _ _ _ _ _
      | exact ih2 _ _ _ _ _
      | exact ih3 _ _ _ _ _
      | exact ih4 _ _ _ _ _ _
      | exact ih5 _ _ _ _ _ _ _ _
      | exact histogram_Add.mono _ _ _ _
      | exact histogram_Check.mono _ _
      | exact histogram_Total.mono _ _
      | exact sleuthlaw21_at.mono _ _ _
      | exact sleuthlaw21_count.mono _ _
      | exact sleuthlaw21_index.mono _ _
      | exact sleuthlaw21_known.mono _
      | exact sleuthlaw21_of.mono _ _
      | exact sleuthlaw21_same.mono _ _ _
      | exact sleuthlaw21_values.mono _ _
      | exact LeO.none _
      | refine LeO.ite ?_ ?_
      | refine LeO.bind ?_ (fun _ => ?_)
    · intro y0 y1 y2 y3 y4 y5
      unfold sleuthlaw21_HistogramAdds.j5
      repeat' first
      | (with_reducible exact ih0 _ _ _ _ _ _ _)
      | (with_reducible exact ih1 _ _ _ _ _ _ _ _)
      | (with_reducible exact ih2 _ _ _ _ _)
      | (with_reducible exact ih3 _ _ _ _ _)
      | (with_reducible exact ih4 _ _ _ _ _ _)
      | (with_reducible exact ih5 _ _ _ _ _ _ _ _)
      | (with_reducible exact histogram_Add.mono _ _ _ _)
      | (with_reducible exact histogram_Check.mono _ _)
      | (with_reducible exact histogram_Total.mono _ _)
      | (with_reducible exact sleuthlaw21_at.mono _ _ _)
      | (with_reducible exact sleuthlaw21_count.mono _ _)
      | (with_reducible exact sleuthlaw21_index.mono _ _)
      | (with_reducible exact sleuthlaw21_known.mono _)
      | (with_reducible exact sleuthlaw21_of.mono _ _)
      | (with_reducible exact sleuthlaw21_same.mono _ _ _)
      | (with_reducible exact sleuthlaw21_values.mono _ _)
      | (with_reducible exact LeO.refl _)
      | (with_reducible exact LeO.none _)
      | (with_reducible refine LeO.ite ?_ ?_)
      | (with_reducible refine LeO.bind ?_ (fun _ => ?_))
      | exact ih0 _ _ _ _ _ _ _
      | exact ih1 _ _ _ _ _ _ _ _
      | exact ih2 _ _ _ _ _
      | exact ih3 _ _ _ _ _
      | exact ih4 _ _ _ _ _ _
      | exact ih5 _ _ _ _ _ _ _ _
      | exact histogram_Add.mono _ _ _ _
      | exact histogram_Check.mono _ _
      | exact histogram_Total.mono _ _
      | exact sleuthlaw21_at.mono _ _ _
      | exact sleuthlaw21_count.mono _ _
      | exact sleuthlaw21_index.mono _ _
      | exact sleuthlaw21_known.mono _
      | exact sleuthlaw21_of.mono _ _
      | exact sleuthlaw21_same.mono _ _ _
      | exact sleuthlaw21_values.mono _ _
      | exact LeO.none _
      | refine LeO.ite ?_ ?_
      | refine LeO.bind ?_ (fun _ => ?_)
    · intro y0 y1 y2 y3 y4 y5 y6 y7
      unfold sleuthlaw21_HistogramAdds.j0
      repeat' first
      | (with_reducible exact ih0 _ _ _ _ _ _ _)
      | (with_reducible exact ih1 _ _ _ _ _ _ _ _)
      | (with_reducible exact ih2 _ _ _ _ _)
      | (with_reducible exact ih3 _ _ _ _ _)
      | (with_reducible exact ih4 _ _ _ _ _ _)
      | (with_reducible exact ih5 _ _ _ _ _ _ _ _)
      | (with_reducible exact histogram_Add.mono _ _ _ _)
      | (with_reducible exact histogram_Check.mono _ _)
      | (with_reducible exact histogram_Total.mono _ _)
      | (with_reducible exact sleuthlaw21_at.mono _ _ _)
      | (with_reducible exact sleuthlaw21_count.mono _ _)
      | (with_reducible exact sleuthlaw21_index.mono _ _)
      | (with_reducible exact sleuthlaw21_known.mono _)
      | (with_reducible exact sleuthlaw21_of.mono _ _)
      | (with_reducible exact sleuthlaw21_same.mono _ _ _)
      | (with_reducible exact sleuthlaw21_values.mono _ _)
      | (with_reducible exact LeO.refl _)
      | (with_reducible exact LeO.none _)
      | (with_reducible refine LeO.ite ?_ ?_)
      | (with_reducible refine LeO.bind ?_ (fun _ => ?_))
      | exact ih0 _ _ _ _ _ _ _
      | exact ih1 _ _ _ _ _ _ _ _
      | exact ih2 _ _ _ _ _
      | exact ih3 _ _ _ _ _
      | exact ih4 _ _ _ _ _ _
      | exact ih5 _ _ _ _ _ _ _ _
      | exact histogram_Add.mono _ _ _ _
      | exact histogram_Check.mono _ _
      | exact histogram_Total.mono _ _
      | exact sleuthlaw21_at.mono _ _ _
      | exact sleuthlaw21_count.mono _ _
      | exact sleuthlaw21_index.mono _ _
      | exact sleuthlaw21_known.mono _
      | exact sleuthlaw21_of.mono _ _
      | exact sleuthlaw21_same.mono _ _ _
      | exact sleuthlaw21_values.mono _ _
      | exact LeO.none _
      | refine LeO.ite ?_ ?_
      | refine LeO.bind ?_ (fun _ => ?_)
theorem sleuthlaw21_HistogramAdds.mono : ∀ a0 a1 a2 k, LeO (sleuthlaw21_HistogramAdds.f k a0 a1 a2) (sleuthlaw21_HistogramAdds.f (k + 1) a0 a1 a2) := by
  intro a0 a1 a2 k
  obtain ⟨ih0, ih1, ih2, ih3, ih4, ih5⟩ := sleuthlaw21_HistogramAdds.mono_l k
  unfold sleuthlaw21_HistogramAdds.f
  repeat' first
      | (with_reducible exact ih0 _ _ _ _ _ _ _)
      | (with_reducible exact ih1 _ _ _ _ _ _ _ _)
      | (with_reducible exact ih2 _ _ _ _ _)
      | (with_reducible exact ih3 _ _ _ _ _)
      | (with_reducible exact ih4 _ _ _ _ _ _)
      | (with_reducible exact ih5 _ _ _ _ _ _ _ _)
      | (with_reducible exact histogram_Add.mono _ _ _ _)
      | (with_reducible exact histogram_Check.mono _ _)
      | (with_reducible exact histogram_Total.mono _ _)
      | (with_reducible exact sleuthlaw21_at.mono _ _ _)
      | (with_reducible exact sleuthlaw21_count.mono _ _)
      | (with_reducible exact sleuthlaw21_index.mono _ _)
      | (with_reducible exact sleuthlaw21_known.mono _)
      | (with_reducible exact sleuthlaw21_of.mono _ _)
      | (with_reducible exact sleuthlaw21_same.mono _ _ _)
      | (with_reducible exact sleuthlaw21_values.mono _ _)
      | (with_reducible exact LeO.refl _)
      | (with_reducible exact LeO.none _)
      | (with_reducible refine LeO.ite ?_ ?_)
      | (with_reducible refine LeO.bind ?_ (fun _ => ?_))
      | exact ih0 _ _ _ _ _ _ _
      | exact ih1 _ _ _ _ _ _ _ _
      | exact ih2 _ _ _ _ _
      | exact ih3 _ _ _ _ _
      | exact ih4 _ _ _ _ _ _
      | exact ih5 _ _ _ _ _ _ _ _
      | exact histogram_Add.mono _ _ _ _
      | exact histogram_Check.mono _ _
      | exact histogram_Total.mono _ _
      | exact sleuthlaw21_at.mono _ _ _
      | exact sleuthlaw21_count.mono _ _
      | exact sleuthlaw21_index.mono _ _
      | exact sleuthlaw21_known.mono _
      | exact sleuthlaw21_of.mono _ _
      | exact sleuthlaw21_same.mono _ _ _
      | exact sleuthlaw21_values.mono _ _
      | exact LeO.none _
      | refine LeO.ite ?_ ?_
      | refine LeO.bind ?_ (fun _ => ?_)
def sleuthlaw21_HistogramAdds.T12 : Bool × List (List Nat × List Nat) := (true, [([], []), ([0], [0]), ([1], [1]), ([2, 1], [2]), ([3], [3]), ([4, 3, 3], [3, 4]), ([3], [3]), ([6, 5, 3], [3, 6]), ([3], [3]), ([7, 8, 3], [3, 7, 8]), ([5, 9, 3], [3, 5, 9]), ([3, 10], [3, 10]), ([11, 7], [11]), ([12], [12]), ([12], [12]), ([14, 12, 12], [12, 14]), ([15, 15, 12], [12, 15]), ([13, 16, 16, 12], [12, 13, 16]), ([17, 12], [12, 17]), ([12, 18], [12, 18])])
def sleuthlaw21_HistogramAdds.B12 : List Nat := [0, 1, 3, 7, 15, 31, 15, 127, 15, 511, 1023, 2047, 4095, 8191, 8191, 24575, 57343, 131071, 262143, 524287]
theorem sleuthlaw21_HistogramAdds.tab12 : rtab .any (opsOf Try.f9 12) = sleuthlaw21_HistogramAdds.T12 := by kernel_rfl
theorem sleuthlaw21_HistogramAdds.bits12 : waitsOk sleuthlaw21_HistogramAdds.T12.2 sleuthlaw21_HistogramAdds.B12 = true := by kernel_rfl
def sleuthlaw21_HistogramAdds.T20 : Bool × List (List Nat × List Nat) := (true, [([], []), ([], []), ([0, 1], [0, 1]), ([], []), ([], []), ([3, 4, 2], [3, 4]), ([], []), ([5, 6], [5, 6]), ([2, 7], [2, 7])])
def sleuthlaw21_HistogramAdds.B20 : List Nat := [0, 0, 3, 0, 0, 31, 0, 127, 255]
theorem sleuthlaw21_HistogramAdds.tab20 : rtab .any (opsOf Try.f9 20) = sleuthlaw21_HistogramAdds.T20 := by kernel_rfl
theorem sleuthlaw21_HistogramAdds.bits20 : waitsOk sleuthlaw21_HistogramAdds.T20.2 sleuthlaw21_HistogramAdds.B20 = true := by kernel_rfl
set_option maxHeartbeats 8000000 in
set_option maxRecDepth 100000 in
theorem sleuthlaw21_HistogramAdds.calls (k : Nat) (A0 : Option Addr) (c0 : Nat) (l0 : List Int) (a1 : Int) (a2 : Int) (r : Bool) (w : World) (hr0 : Kd.C (Kd.int .i64) w A0 l0.length l0) (hc0 : l0.length ≤ c0) (h : sleuthlaw21_HistogramAdds.f k l0 a1 a2 = some r) :
    Calls Try.prog 9 #[.slice A0 l0.length c0, .int .i64 a1, .int .i64 a2] w fun e w' => e = .returned (.bool r) ∧ Below w.heap.size w w' := by
  have hu33 := Try.underlying33
  have HR0 := Aside0.mk hr0
  have HC0 := Aside0.mk hc0
  clear hr0 hc0
  have HB := Aside0.mk (Below.refl w.heap.size w)
  have H : ((sleuthlaw21_known.f k).bind fun t294 => (if t294 = true then ((sleuthlaw21_of.f k l0).bind fun t295 => ((histogram_Add.f k t295 a1 a2).bind fun bt299 => (if a1 < 0 then (sleuthlaw21_HistogramAdds.j0 k l0 a1 a2 bt299.2 0 true t295 bt299.1) else (if a1 > 1099511627776 then (sleuthlaw21_HistogramAdds.j0 k l0 a1 a2 bt299.2 0 true t295 bt299.1) else (if a2 < 0 then (sleuthlaw21_HistogramAdds.j0 k l0 a1 a2 bt299.2 0 true t295 bt299.1) else (sleuthlaw21_HistogramAdds.j0 k l0 a1 a2 bt299.2 0 (decide (a2 > 1048576)) t295 bt299.1)))))) else (some false))) = some r := h
  clear h
  replace H := Option.bind_eq_some_iff.mp H
  obtain ⟨t294, A40, H⟩ := H
  replace H : (if t294 = true then ((sleuthlaw21_of.f k l0).bind fun t295 => ((histogram_Add.f k t295 a1 a2).bind fun bt299 => (if a1 < 0 then (sleuthlaw21_HistogramAdds.j0 k l0 a1 a2 bt299.2 0 true t295 bt299.1) else (if a1 > 1099511627776 then (sleuthlaw21_HistogramAdds.j0 k l0 a1 a2 bt299.2 0 true t295 bt299.1) else (if a2 < 0 then (sleuthlaw21_HistogramAdds.j0 k l0 a1 a2 bt299.2 0 true t295 bt299.1) else (sleuthlaw21_HistogramAdds.j0 k l0 a1 a2 bt299.2 0 (decide (a2 > 1048576)) t295 bt299.1)))))) else (some false)) = some r := H
  have A4 := Aside0.mk A40
  clear A40
  by_cases c5 : t294 = true
  · subst c5
    have H1 : ((sleuthlaw21_of.f k l0).bind fun t295 => ((histogram_Add.f k t295 a1 a2).bind fun bt299 => (if a1 < 0 then (sleuthlaw21_HistogramAdds.j0 k l0 a1 a2 bt299.2 0 true t295 bt299.1) else (if a1 > 1099511627776 then (sleuthlaw21_HistogramAdds.j0 k l0 a1 a2 bt299.2 0 true t295 bt299.1) else (if a2 < 0 then (sleuthlaw21_HistogramAdds.j0 k l0 a1 a2 bt299.2 0 true t295 bt299.1) else (sleuthlaw21_HistogramAdds.j0 k l0 a1 a2 bt299.2 0 (decide (a2 > 1048576)) t295 bt299.1)))))) = some r := by rw [if_pos rfl] at H; exact H
    clear H
    have H := H1
    clear H1
    replace H := Option.bind_eq_some_iff.mp H
    obtain ⟨t295, A60, H⟩ := H
    replace H : ((histogram_Add.f k t295 a1 a2).bind fun bt299 => (if a1 < 0 then (sleuthlaw21_HistogramAdds.j0 k l0 a1 a2 bt299.2 0 true t295 bt299.1) else (if a1 > 1099511627776 then (sleuthlaw21_HistogramAdds.j0 k l0 a1 a2 bt299.2 0 true t295 bt299.1) else (if a2 < 0 then (sleuthlaw21_HistogramAdds.j0 k l0 a1 a2 bt299.2 0 true t295 bt299.1) else (sleuthlaw21_HistogramAdds.j0 k l0 a1 a2 bt299.2 0 (decide (a2 > 1048576)) t295 bt299.1))))) = some r := H
    have A6 := Aside0.mk A60
    clear A60
    replace H := Option.bind_eq_some_iff.mp H
    obtain ⟨⟨t299, t302⟩, A70, H⟩ := H
    replace H : (if a1 < 0 then (sleuthlaw21_HistogramAdds.j0 k l0 a1 a2 t302 0 true t295 t299) else (if a1 > 1099511627776 then (sleuthlaw21_HistogramAdds.j0 k l0 a1 a2 t302 0 true t295 t299) else (if a2 < 0 then (sleuthlaw21_HistogramAdds.j0 k l0 a1 a2 t302 0 true t295 t299) else (sleuthlaw21_HistogramAdds.j0 k l0 a1 a2 t302 0 (decide (a2 > 1048576)) t295 t299)))) = some r := H
    have A7 := Aside0.mk A70
    clear A70
    have HC8 := Aside0.mk H
    clear H
    go_enter Try.func9, Try.ntmps9
    go_upto_block 0 with (first | ((with_reducible refine gate_callee (f := 12) rfl ?_); refine goesL_ (some 13) rfl rfl Try.func12 (by kernel_rfl) rfl #[] rfl (by (try simp only [List.map_toArray, List.map_cons, List.map_nil]); first | done | rfl | (simp only [List.length_drop, List.length_take]; rfl)) ?_; (with_reducible refine (sleuthlaw21_known.calls k  true _ A4.out).mono ?_); rintro e w9 ⟨rfl, hb⟩; refine ⟨_, rfl, ?_⟩; have n0_ := Aside0.mk (below_step (by repeat (first | (with_reducible first | exact HB.out | apply below_alloc | apply pw_below_drewN | apply below_drew1) | exact HB.out)) hb); clear HB; have HB := n0_; clear n0_; (try clear hb); (try clear hb2); (try clear hk); (try clear hi)) | ((with_reducible refine gate_callee (f := 18) rfl ?_); refine goesL_ (some 16) rfl rfl Try.func18 (by kernel_rfl) rfl #[.slice A0 l0.length c0] rfl (by (try simp only [List.map_toArray, List.map_cons, List.map_nil]); first | done | rfl | (simp only [List.length_drop, List.length_take]; rfl)) ?_; (with_reducible refine (sleuthlaw21_of.calls k _ _ l0 t295 _ ?side1 ?side2 A6.out).mono ?_); (case side1 => repeat (first | exact (Kd.C_below HR0.out HB.out) | (with_reducible refine Kd.C_alloc ?_ _) | (with_reducible refine Kd.C_drewN ?_ _) | (with_reducible refine Kd.C_drew ?_))); (case side2 => exact HC0.out); rintro e w10 ⟨v296, rfl, ho0, hb⟩; refine ⟨_, rfl, ?_⟩; have n0_ := Aside0.mk (Kd.R_lower ho0 (below_size (by repeat (first | (with_reducible first | exact HB.out | apply below_alloc | apply pw_below_drewN | apply below_drew1) | exact HB.out)))); have n1_ := Aside0.mk (below_step (by repeat (first | (with_reducible first | exact HB.out | apply below_alloc | apply pw_below_drewN | apply below_drew1) | exact HB.out)) hb); clear HB; have HO297 := n0_; have HB := n1_; clear n0_ n1_; (try clear hb); (try clear hb2); (try clear hk); (try clear hi); (try clear ho0)) | ((with_reducible refine gate_dst (N := 7) rfl ?_); (try (refine gate_guard (by rfl) ?_; dsimp only)); refine box_event ?hg (N := 7) ?hd (cs := #[.slice none 0 0]) (t := 33) ?hr ?_; (case hd => rfl); (case hg => rfl); (case hr => first | (go_simp; done) | (go_simp; rfl)); intro gb298 hg w11 hbox hb; have n0_ := Aside0.mk (Kd.R_below (by (with_reducible repeat (first | apply Kd.R_alloc | apply Kd.R_drewN | apply Kd.R_drew)); exact HO297.out) hb); have n1_ := Aside0.mk (below_step (by repeat (first | (with_reducible first | exact HB.out | apply below_alloc | apply pw_below_drewN | apply below_drew1) | exact HB.out)) hb); have n2_ := Aside0.mk (hbox); have n3_ := Aside0.mk ((by rw [hg]; exact (below_size (by repeat (first | (with_reducible first | exact HB.out | apply below_alloc | apply pw_below_drewN | apply below_drew1) | exact HB.out))) : w.heap.size ≤ gb298)); have n4_ := Aside0.mk ((by rw [hg]; exact (below_size (by repeat (first | (with_reducible first | exact HB.out | apply below_alloc | apply pw_below_drewN | apply below_drew1) | exact HB.out))) : w.heap.size ≤ gb298)); clear HO297; clear HB; have HO297 := n0_; have HB := n1_; have BK298 := n2_; have GW298 := n3_; have GE298 := n4_; clear n0_ n1_ n2_ n3_ n4_; clear hb hbox hg; obtain ⟨Ao12, co12, eo12⟩ := Kd.R_slice HO297.out; subst eo12; have hcz13_0 : w11.cell? ⟨gb298, 0, none⟩ = some (.slice none 0 0) := (blk_cell BK298.out 0).trans rfl; have hfz13_0 := blk_frozen BK298.out 0) | ((with_reducible refine gate_callee (f := 31) rfl ?_); refine goesL_ (some 21) rfl rfl Try.func31 (by kernel_rfl) rfl #[.agg #[.slice Ao12 t295.length co12], .int .i64 a1, .int .i64 a2] rfl (by (try simp only [List.map_toArray, List.map_cons, List.map_nil]); first | done | rfl | (simp only [List.length_drop, List.length_take]; rfl)) ?_; (with_reducible refine (histogram_Add.calls k _ _ t295 a1 a2 t299 t302 _ ?side1 ?side2 A7.out).mono ?_); (case side1 => refine (Kd.R_reads' (e := 67) (base := w.heap.size) (ok := fun k_ => True) (n := t295.length) (c := co12) ?_).2.2; exact (by (with_reducible repeat (first | apply Kd.R_alloc | apply Kd.R_drewN | apply Kd.R_drew)); exact (Kd.R_mono (Kd.R_far (p := ⟨gb298, 0, none⟩) (Kd.R_types HO297.out BK298.out (by decide)) (fun _ hk => hk.2) (.slice Ao12 t295.length co12)) (fun _ h_ => h_.1)))); (case side2 => exact (Kd.R_reads' HO297.out).2.1); rintro e w14 ⟨v300, rfl, ho0, hb⟩; refine ⟨_, rfl, ?_⟩; have n0_ := Aside0.mk (Kd.R_elder' (by (with_reducible repeat (first | apply Kd.R_alloc | apply Kd.R_drewN | apply Kd.R_drew)); exact (Kd.R_mono (Kd.R_far (p := ⟨gb298, 0, none⟩) (Kd.R_types HO297.out BK298.out (by decide)) (fun _ hk => hk.2) (.slice Ao12 t295.length co12)) (fun _ h_ => h_.1))) (Kd.R_base ho0) hb); have n1_ := Aside0.mk (Kd.R_lower (Kd.R_new' ho0 (Kd.R_lt (by (with_reducible repeat (first | apply Kd.R_alloc | apply Kd.R_drewN | apply Kd.R_drew)); exact (Kd.R_mono (Kd.R_far (p := ⟨gb298, 0, none⟩) (Kd.R_types HO297.out BK298.out (by decide)) (fun _ hk => hk.2) (.slice Ao12 t295.length co12)) (fun _ h_ => h_.1))))) (below_size (by repeat (first | (with_reducible first | exact HB.out | apply below_alloc | apply pw_below_drewN | apply below_drew1 | refine below_set ?_ GE298.out) | exact HB.out)))); have n2_ := Aside0.mk (blk_below (g := gb298) (o := .cells #[.slice Ao12 t295.length co12] 33 (0, 0)) (by (with_reducible repeat (first | refine blk_drewN ?_ _ | refine blk_drew ?_ | refine blk_alloc ?_ _)); refine blk_put (cs := #[.slice none 0 0]) ?_ 0 _ rfl; (with_reducible repeat (first | refine blk_drewN ?_ _ | refine blk_drew ?_ | refine blk_alloc ?_ _)); exact BK298.out) hb); have n3_ := Aside0.mk (below_step (by repeat (first | (with_reducible first | exact HB.out | apply below_alloc | apply pw_below_drewN | apply below_drew1 | refine below_set ?_ GE298.out) | exact HB.out)) hb); clear HO297; clear BK298; clear HB; have HO297 := n0_; have HO301 := n1_; have BK298 := n2_; have HB := n3_; clear n0_ n1_ n2_ n3_; (try clear hb); (try clear hb2); (try clear hk); (try clear hi); (try clear ho0)) | ((with_reducible refine gate_dst (N := 8) rfl ?_); (try (refine gate_guard (by rfl) ?_; dsimp only)); refine box_event ?hg (N := 8) ?hd (cs := #[.slice none 0 0]) (t := 33) ?hr ?_; (case hd => rfl); (case hg => rfl); (case hr => first | (go_simp; done) | (go_simp; rfl)); intro gb303 hg w15 hbox hb; have n0_ := Aside0.mk (Kd.R_below (by (with_reducible repeat (first | apply Kd.R_alloc | apply Kd.R_drewN | apply Kd.R_drew)); exact HO297.out) hb); have n1_ := Aside0.mk (Kd.R_below (by (with_reducible repeat (first | apply Kd.R_alloc | apply Kd.R_drewN | apply Kd.R_drew)); exact HO301.out) hb); have n2_ := Aside0.mk (blk_below (g := gb298) (o := .cells #[.slice Ao12 t295.length co12] 33 (0, 0)) (by (with_reducible repeat (first | refine blk_drewN ?_ _ | refine blk_drew ?_ | refine blk_alloc ?_ _)); exact BK298.out) hb); have n3_ := Aside0.mk (below_step (by repeat (first | (with_reducible first | exact HB.out | apply below_alloc | apply pw_below_drewN | apply below_drew1 | refine below_set ?_ GE298.out) | exact HB.out)) hb); have n4_ := Aside0.mk (hbox); have n5_ := Aside0.mk ((by rw [hg]; exact (below_size (by repeat (first | (with_reducible first | exact HB.out | apply below_alloc | apply pw_below_drewN | apply below_drew1 | refine below_set ?_ GE298.out) | exact HB.out))) : w.heap.size ≤ gb303)); have n6_ := Aside0.mk ((by rw [hg]; exact (below_size (by repeat (first | (with_reducible first | exact HB.out | apply below_alloc | apply pw_below_drewN | apply below_drew1 | refine below_set ?_ GE298.out) | exact HB.out))) : w.heap.size ≤ gb303)); have n7_ := Aside0.mk ((by rw [hg]; exact Nat.ne_of_lt (blk_lt (g := gb298) (o := .cells #[.slice Ao12 t295.length co12] 33 (0, 0)) (by (with_reducible repeat (first | refine blk_drewN ?_ _ | refine blk_drew ?_ | refine blk_alloc ?_ _)); exact BK298.out)) : gb298 ≠ gb303)); have n8_ := Aside0.mk ((by rw [hg]; exact Nat.ne_of_gt (blk_lt (g := gb298) (o := .cells #[.slice Ao12 t295.length co12] 33 (0, 0)) (by (with_reducible repeat (first | refine blk_drewN ?_ _ | refine blk_drew ?_ | refine blk_alloc ?_ _)); exact BK298.out)) : gb303 ≠ gb298)); clear HO297; clear HO301; clear BK298; clear HB; have HO297 := n0_; have HO301 := n1_; have BK298 := n2_; have HB := n3_; have BK303 := n4_; have GW303 := n5_; have GE303 := n6_; have NB298_303 := n7_; have NB303_298 := n8_; clear n0_ n1_ n2_ n3_ n4_ n5_ n6_ n7_ n8_; clear hb hbox hg; obtain ⟨Ao16, co16, eo16⟩ := Kd.R_slice HO301.out; subst eo16; have hnb17 := NB303_298.out; have hnc17 := NB298_303.out; have hcz18_0 : w15.cell? ⟨gb303, 0, none⟩ = some (.slice none 0 0) := (blk_cell BK303.out 0).trans rfl; have hfz18_0 := blk_frozen BK303.out 0))
    (try simp only [Act.put, List.setIfInBounds_toArray, List.set_cons_zero, List.set_cons_succ])
    go_cut [10] (fun v10 wc => ∃ (kq : Nat) (x10_7 : Int), v10 = .int .i64 x10_7 ∧ Aside0 (sleuthlaw21_HistogramAdds.j1 kq l0 a1 a2 t302 x10_7 t295 t299 = some r) ∧ Aside0 (kq ≤ k) ∧ Aside0 (Kd.R k67 67 wc w.heap.size (fun k_ => some k_ ≠ ((.slice Ao16 t299.length co16) : Value).ownBlock) (.slice Ao12 t295.length co12) t295) ∧ Aside0 (Kd.R k67 67 wc w.heap.size (fun k_ => some k_ ≠ ((.slice Ao12 t295.length co12) : Value).ownBlock) (.slice Ao16 t299.length co16) t299) ∧ Aside0 (wc.heap[gb298]? = some (.cells #[(.slice Ao12 t295.length co12)] 33 (0, 0))) ∧ Aside0 (wc.heap[gb303]? = some (.cells #[(.slice Ao16 t299.length co16)] 33 (0, 0))) ∧ Aside0 (Below w.heap.size w wc))
    case first =>
      have H := HC8.out
      clear HC8
      have HC19 := Aside0.mk H
      clear H
      go_upto_region 6 with (fail)
      go_cut [24] (fun v24 wc => ∃ (kq : Nat) (x24_18 : Bool), v24 = .bool x24_18 ∧ Aside0 (sleuthlaw21_HistogramAdds.j0 kq l0 a1 a2 t302 0 x24_18 t295 t299 = some r) ∧ Aside0 (kq ≤ k) ∧ Aside0 (Kd.R k67 67 wc w.heap.size (fun k_ => some k_ ≠ ((.slice Ao16 t299.length co16) : Value).ownBlock) (.slice Ao12 t295.length co12) t295) ∧ Aside0 (Kd.R k67 67 wc w.heap.size (fun k_ => some k_ ≠ ((.slice Ao12 t295.length co12) : Value).ownBlock) (.slice Ao16 t299.length co16) t299) ∧ Aside0 (wc.heap[gb298]? = some (.cells #[(.slice Ao12 t295.length co12)] 33 (0, 0))) ∧ Aside0 (wc.heap[gb303]? = some (.cells #[(.slice Ao16 t299.length co16)] 33 (0, 0))) ∧ Aside0 (Below w.heap.size w wc))
      case first =>
        have H := HC19.out
        clear HC19
        by_cases c20 : a1 < 0
        · rw [if_pos c20] at H
          have c20b0 : decide (a1 < 0) = true := decide_eq_true c20
          clear c20
          (first | rw [c20b0] | (simp only [i64_w, i32_w]; rw [c20b0]) | skip)
          have H' := Aside0.mk H
          clear H
          go_wp2
          go_meet
          case rel => exact ⟨_, (true), (by first | rfl | (simp; done) | (simp [*]; done)), H', ⟨by first | omega | exact Nat.le_refl _⟩, ⟨by (with_reducible repeat (first | apply Kd.R_alloc | apply Kd.R_drewN | apply Kd.R_drew)); exact Kd.R_mono (Kd.R_far (p := ⟨gb303, 0, none⟩) (Kd.R_types HO297.out BK303.out (by decide)) (fun _ hk => hk.2) (.slice Ao16 t299.length co16)) (fun _ hk => hk.1.2)⟩, ⟨by (with_reducible repeat (first | apply Kd.R_alloc | apply Kd.R_drewN | apply Kd.R_drew)); exact Kd.R_mono (Kd.R_far (p := ⟨gb303, 0, none⟩) (Kd.R_types HO301.out BK303.out (by decide)) (fun _ hk => hk.2) (.slice Ao16 t299.length co16)) (fun _ hk => hk.1.2)⟩, ⟨by (with_reducible repeat (first | refine blk_drewN ?_ _ | refine blk_drew ?_ | refine blk_alloc ?_ _)); refine blk_far ?_ NB298_303.out _; (with_reducible repeat (first | refine blk_drewN ?_ _ | refine blk_drew ?_ | refine blk_alloc ?_ _)); exact BK298.out⟩, ⟨by (with_reducible repeat (first | refine blk_drewN ?_ _ | refine blk_drew ?_ | refine blk_alloc ?_ _)); refine blk_put (cs := #[.slice none 0 0]) ?_ 0 _ rfl; (with_reducible repeat (first | refine blk_drewN ?_ _ | refine blk_drew ?_ | refine blk_alloc ?_ _)); exact BK303.out⟩, ⟨by repeat (first | (with_reducible first | exact HB.out | apply below_alloc | apply pw_below_drewN | apply below_drew1 | refine below_set ?_ GE298.out | refine below_set ?_ GE303.out) | exact HB.out)⟩⟩
        · rw [if_neg c20] at H
          have c20b0 : decide (a1 < 0) = false := decide_eq_false c20
          clear c20
          (first | rw [c20b0] | (simp only [i64_w, i32_w]; rw [c20b0]) | skip)
          by_cases c21 : a1 > 1099511627776
          · rw [if_pos c21] at H
            have c21b0 : decide (1099511627776 < a1) = true := decide_eq_true c21
            clear c21
            have H' := Aside0.mk H
            clear H
            go_wp2
            go_meet
            case rel => exact ⟨_, (true), (by first | rfl | (simp; done) | (simp [*]; done)), H', ⟨by first | omega | exact Nat.le_refl _⟩, ⟨by (with_reducible repeat (first | apply Kd.R_alloc | apply Kd.R_drewN | apply Kd.R_drew)); exact Kd.R_mono (Kd.R_far (p := ⟨gb303, 0, none⟩) (Kd.R_types HO297.out BK303.out (by decide)) (fun _ hk => hk.2) (.slice Ao16 t299.length co16)) (fun _ hk => hk.1.2)⟩, ⟨by (with_reducible repeat (first | apply Kd.R_alloc | apply Kd.R_drewN | apply Kd.R_drew)); exact Kd.R_mono (Kd.R_far (p := ⟨gb303, 0, none⟩) (Kd.R_types HO301.out BK303.out (by decide)) (fun _ hk => hk.2) (.slice Ao16 t299.length co16)) (fun _ hk => hk.1.2)⟩, ⟨by (with_reducible repeat (first | refine blk_drewN ?_ _ | refine blk_drew ?_ | refine blk_alloc ?_ _)); refine blk_far ?_ NB298_303.out _; (with_reducible repeat (first | refine blk_drewN ?_ _ | refine blk_drew ?_ | refine blk_alloc ?_ _)); exact BK298.out⟩, ⟨by (with_reducible repeat (first | refine blk_drewN ?_ _ | refine blk_drew ?_ | refine blk_alloc ?_ _)); refine blk_put (cs := #[.slice none 0 0]) ?_ 0 _ rfl; (with_reducible repeat (first | refine blk_drewN ?_ _ | refine blk_drew ?_ | refine blk_alloc ?_ _)); exact BK303.out⟩, ⟨by repeat (first | (with_reducible first | exact HB.out | apply below_alloc | apply pw_below_drewN | apply below_drew1 | refine below_set ?_ GE298.out | refine below_set ?_ GE303.out) | exact HB.out)⟩⟩
          · rw [if_neg c21] at H
            have c21b0 : decide (1099511627776 < a1) = false := decide_eq_false c21
            clear c21
            by_cases c22 : a2 < 0
            · rw [if_pos c22] at H
              have c22b0 : decide (a2 < 0) = true := decide_eq_true c22
              clear c22
              have H' := Aside0.mk H
              clear H
              go_wp2
              go_meet
              case rel => exact ⟨_, (true), (by first | rfl | (simp; done) | (simp [*]; done)), H', ⟨by first | omega | exact Nat.le_refl _⟩, ⟨by (with_reducible repeat (first | apply Kd.R_alloc | apply Kd.R_drewN | apply Kd.R_drew)); exact Kd.R_mono (Kd.R_far (p := ⟨gb303, 0, none⟩) (Kd.R_types HO297.out BK303.out (by decide)) (fun _ hk => hk.2) (.slice Ao16 t299.length co16)) (fun _ hk => hk.1.2)⟩, ⟨by (with_reducible repeat (first | apply Kd.R_alloc | apply Kd.R_drewN | apply Kd.R_drew)); exact Kd.R_mono (Kd.R_far (p := ⟨gb303, 0, none⟩) (Kd.R_types HO301.out BK303.out (by decide)) (fun _ hk => hk.2) (.slice Ao16 t299.length co16)) (fun _ hk => hk.1.2)⟩, ⟨by (with_reducible repeat (first | refine blk_drewN ?_ _ | refine blk_drew ?_ | refine blk_alloc ?_ _)); refine blk_far ?_ NB298_303.out _; (with_reducible repeat (first | refine blk_drewN ?_ _ | refine blk_drew ?_ | refine blk_alloc ?_ _)); exact BK298.out⟩, ⟨by (with_reducible repeat (first | refine blk_drewN ?_ _ | refine blk_drew ?_ | refine blk_alloc ?_ _)); refine blk_put (cs := #[.slice none 0 0]) ?_ 0 _ rfl; (with_reducible repeat (first | refine blk_drewN ?_ _ | refine blk_drew ?_ | refine blk_alloc ?_ _)); exact BK303.out⟩, ⟨by repeat (first | (with_reducible first | exact HB.out | apply below_alloc | apply pw_below_drewN | apply below_drew1 | refine below_set ?_ GE298.out | refine below_set ?_ GE303.out) | exact HB.out)⟩⟩
            · rw [if_neg c22] at H
              have c22b0 : decide (a2 < 0) = false := decide_eq_false c22
              clear c22
              have H' := Aside0.mk H
              clear H
              go_wp2
              go_meet
              case rel => exact ⟨_, (decide (a2 > 1048576)), (by first | rfl | (simp; done) | (simp [*]; done)), H', ⟨by first | omega | exact Nat.le_refl _⟩, ⟨by (with_reducible repeat (first | apply Kd.R_alloc | apply Kd.R_drewN | apply Kd.R_drew)); exact Kd.R_mono (Kd.R_far (p := ⟨gb303, 0, none⟩) (Kd.R_types HO297.out BK303.out (by decide)) (fun _ hk => hk.2) (.slice Ao16 t299.length co16)) (fun _ hk => hk.1.2)⟩, ⟨by (with_reducible repeat (first | apply Kd.R_alloc | apply Kd.R_drewN | apply Kd.R_drew)); exact Kd.R_mono (Kd.R_far (p := ⟨gb303, 0, none⟩) (Kd.R_types HO301.out BK303.out (by decide)) (fun _ hk => hk.2) (.slice Ao16 t299.length co16)) (fun _ hk => hk.1.2)⟩, ⟨by (with_reducible repeat (first | refine blk_drewN ?_ _ | refine blk_drew ?_ | refine blk_alloc ?_ _)); refine blk_far ?_ NB298_303.out _; (with_reducible repeat (first | refine blk_drewN ?_ _ | refine blk_drew ?_ | refine blk_alloc ?_ _)); exact BK298.out⟩, ⟨by (with_reducible repeat (first | refine blk_drewN ?_ _ | refine blk_drew ?_ | refine blk_alloc ?_ _)); refine blk_put (cs := #[.slice none 0 0]) ?_ 0 _ rfl; (with_reducible repeat (first | refine blk_drewN ?_ _ | refine blk_drew ?_ | refine blk_alloc ?_ _)); exact BK303.out⟩, ⟨by repeat (first | (with_reducible first | exact HB.out | apply below_alloc | apply pw_below_drewN | apply below_drew1 | refine below_set ?_ GE298.out | refine below_set ?_ GE303.out) | exact HB.out)⟩⟩
      case rest =>
        clear HC19
        try clear c1
        try clear c2
        try clear p2
        try clear c3
        try clear c5
        try clear c9
        try clear c12
        try clear c17
        try clear c18
        try clear c20
        try clear c20b0
        try clear c21
        try clear c21b0
        try clear c22
        try clear c22b0
        try clear hcz13_0
        try clear hcz18_0
        try clear hfz13_0
        try clear hfz18_0
        obtain ⟨kq, x24_18, rfl, HA, HJ18, HO_299000, HO_304000, BK298, BK303, HB⟩ := hcut
        cases kq with
        | zero => exact absurd HA.out (by simp [sleuthlaw21_HistogramAdds.j0])
        | succ kj18 =>
          have H := HA.out
          clear HA
          simp only [sleuthlaw21_HistogramAdds.j0] at H
          by_cases c23 : x24_18 = true
          · subst c23
            have H1 : (sleuthlaw21_HistogramAdds.j1 kj18 l0 a1 a2 t302 2 t295 t299) = some r := by rw [if_pos rfl] at H; exact H
            clear H
            have H := H1
            clear H1
            have H' := Aside0.mk H
            clear H
            go_wp2
            go_meet
            case rel => exact ⟨_, (2), (by first | rfl | (simp; done) | (simp [*]; done)), H', ⟨by have := HJ18.out; first | omega | exact Nat.le_refl _⟩, ⟨by (with_reducible repeat (first | apply Kd.R_alloc | apply Kd.R_drewN | apply Kd.R_drew)); exact HO_299000.out⟩, ⟨by (with_reducible repeat (first | apply Kd.R_alloc | apply Kd.R_drewN | apply Kd.R_drew)); exact HO_304000.out⟩, ⟨by (with_reducible repeat (first | refine blk_drewN ?_ _ | refine blk_drew ?_ | refine blk_alloc ?_ _)); exact BK298.out⟩, ⟨by (with_reducible repeat (first | refine blk_drewN ?_ _ | refine blk_drew ?_ | refine blk_alloc ?_ _)); exact BK303.out⟩, ⟨by repeat (first | (with_reducible first | exact HB.out | apply below_alloc | apply pw_below_drewN | apply below_drew1 | refine below_set ?_ GE298.out | refine below_set ?_ GE303.out) | exact HB.out)⟩⟩
          · replace c23 := Bool.eq_false_iff.mpr c23
            subst c23
            have H1 : ((histogram_Total.f kj18 t295).bind fun t304 => (if a2 > (wrap64 (1048576 - t304)) then (sleuthlaw21_HistogramAdds.j1 kj18 l0 a1 a2 t302 20 t295 t299) else (sleuthlaw21_HistogramAdds.j1 kj18 l0 a1 a2 t302 0 t295 t299))) = some r := by rw [if_neg (show ¬ (false = true) by decide)] at H; exact H
            clear H
            have H := H1
            clear H1
            replace H := Option.bind_eq_some_iff.mp H
            obtain ⟨t304, A240, H⟩ := H
            replace H : (if a2 > (wrap64 (1048576 - t304)) then (sleuthlaw21_HistogramAdds.j1 kj18 l0 a1 a2 t302 20 t295 t299) else (sleuthlaw21_HistogramAdds.j1 kj18 l0 a1 a2 t302 0 t295 t299)) = some r := H
            have A24 := Aside0.mk A240
            clear A240
            by_cases c25 : a2 > (wrap64 (1048576 - t304))
            · rw [if_pos c25] at H
              have c25b0 : decide ((wrap64 (1048576 - t304)) < a2) = true := decide_eq_true c25
              clear c25
              have H' := Aside0.mk H
              clear H
              have hnb26 := NB298_303.out
              have hnc26 := NB303_298.out
              have hcz27_0 : wc.cell? ⟨gb298, 0, none⟩ = some (.slice Ao12 t295.length co12) := (blk_cell BK298.out 0).trans rfl
              have hfz27_0 := blk_frozen BK298.out 0
              go_wp2_with (first | ((with_reducible refine gate_callee (f := 30) rfl ?_); refine goesL_ (some 42) rfl rfl Try.func30 (by kernel_rfl) rfl #[.agg #[.slice Ao12 t295.length co12]] rfl (by (try simp only [List.map_toArray, List.map_cons, List.map_nil]); first | done | rfl | (simp only [List.length_drop, List.length_take]; rfl)) ?_; (with_reducible refine (histogram_Total.calls kj18 _ _ t295 t304 _ ?side1 ?side2 A24.out).mono ?_); (case side1 => repeat (first | exact (Kd.R_reads' HO_299000.out).2.2 | (with_reducible refine Kd.C_alloc ?_ _) | (with_reducible refine Kd.C_drewN ?_ _) | (with_reducible refine Kd.C_drew ?_))); (case side2 => exact (Kd.R_reads' HO_299000.out).2.1); rintro e w28 ⟨rfl, hb⟩; refine ⟨_, rfl, ?_⟩; have n0_ := Aside0.mk (Kd.R_below (by (with_reducible repeat (first | apply Kd.R_alloc | apply Kd.R_drewN | apply Kd.R_drew)); exact HO_299000.out) hb); have n1_ := Aside0.mk (Kd.R_below (by (with_reducible repeat (first | apply Kd.R_alloc | apply Kd.R_drewN | apply Kd.R_drew)); exact HO_304000.out) hb); have n2_ := Aside0.mk (blk_below (g := gb298) (o := .cells #[.slice Ao12 t295.length co12] 33 (0, 0)) (by (with_reducible repeat (first | refine blk_drewN ?_ _ | refine blk_drew ?_ | refine blk_alloc ?_ _)); exact BK298.out) hb); have n3_ := Aside0.mk (blk_below (g := gb303) (o := .cells #[.slice Ao16 t299.length co16] 33 (0, 0)) (by (with_reducible repeat (first | refine blk_drewN ?_ _ | refine blk_drew ?_ | refine blk_alloc ?_ _)); exact BK303.out) hb); have n4_ := Aside0.mk (below_step (by repeat (first | (with_reducible first | exact HB.out | apply below_alloc | apply pw_below_drewN | apply below_drew1 | refine below_set ?_ GE298.out | refine below_set ?_ GE303.out) | exact HB.out)) hb); clear HO_299000; clear HO_304000; clear BK298; clear BK303; clear HB; have HO_299000 := n0_; have HO_304000 := n1_; have BK298 := n2_; have BK303 := n3_; have HB := n4_; clear n0_ n1_ n2_ n3_ n4_; (try clear hb); (try clear hb2); (try clear hk); (try clear hi)))
              go_meet
              case rel => exact ⟨_, (20), (by first | rfl | (simp; done) | (simp [*]; done)), H', ⟨by have := HJ18.out; first | omega | exact Nat.le_refl _⟩, ⟨by (with_reducible repeat (first | apply Kd.R_alloc | apply Kd.R_drewN | apply Kd.R_drew)); exact HO_299000.out⟩, ⟨by (with_reducible repeat (first | apply Kd.R_alloc | apply Kd.R_drewN | apply Kd.R_drew)); exact HO_304000.out⟩, ⟨by (with_reducible repeat (first | refine blk_drewN ?_ _ | refine blk_drew ?_ | refine blk_alloc ?_ _)); exact BK298.out⟩, ⟨by (with_reducible repeat (first | refine blk_drewN ?_ _ | refine blk_drew ?_ | refine blk_alloc ?_ _)); exact BK303.out⟩, ⟨by repeat (first | (with_reducible first | exact HB.out | apply below_alloc | apply pw_below_drewN | apply below_drew1 | refine below_set ?_ GE298.out | refine below_set ?_ GE303.out) | exact HB.out)⟩⟩
            · rw [if_neg c25] at H
              have c25b0 : decide ((wrap64 (1048576 - t304)) < a2) = false := decide_eq_false c25
              clear c25
              have H' := Aside0.mk H
              clear H
              have hnb29 := NB298_303.out
              have hnc29 := NB303_298.out
              have hcz30_0 : wc.cell? ⟨gb298, 0, none⟩ = some (.slice Ao12 t295.length co12) := (blk_cell BK298.out 0).trans rfl
              have hfz30_0 := blk_frozen BK298.out 0
              go_wp2_with (first | ((with_reducible refine gate_callee (f := 30) rfl ?_); refine goesL_ (some 42) rfl rfl Try.func30 (by kernel_rfl) rfl #[.agg #[.slice Ao12 t295.length co12]] rfl (by (try simp only [List.map_toArray, List.map_cons, List.map_nil]); first | done | rfl | (simp only [List.length_drop, List.length_take]; rfl)) ?_; (with_reducible refine (histogram_Total.calls kj18 _ _ t295 t304 _ ?side1 ?side2 A24.out).mono ?_); (case side1 => repeat (first | exact (Kd.R_reads' HO_299000.out).2.2 | (with_reducible refine Kd.C_alloc ?_ _) | (with_reducible refine Kd.C_drewN ?_ _) | (with_reducible refine Kd.C_drew ?_))); (case side2 => exact (Kd.R_reads' HO_299000.out).2.1); rintro e w31 ⟨rfl, hb⟩; refine ⟨_, rfl, ?_⟩; have n0_ := Aside0.mk (Kd.R_below (by (with_reducible repeat (first | apply Kd.R_alloc | apply Kd.R_drewN | apply Kd.R_drew)); exact HO_299000.out) hb); have n1_ := Aside0.mk (Kd.R_below (by (with_reducible repeat (first | apply Kd.R_alloc | apply Kd.R_drewN | apply Kd.R_drew)); exact HO_304000.out) hb); have n2_ := Aside0.mk (blk_below (g := gb298) (o := .cells #[.slice Ao12 t295.length co12] 33 (0, 0)) (by (with_reducible repeat (first | refine blk_drewN ?_ _ | refine blk_drew ?_ | refine blk_alloc ?_ _)); exact BK298.out) hb); have n3_ := Aside0.mk (blk_below (g := gb303) (o := .cells #[.slice Ao16 t299.length co16] 33 (0, 0)) (by (with_reducible repeat (first | refine blk_drewN ?_ _ | refine blk_drew ?_ | refine blk_alloc ?_ _)); exact BK303.out) hb); have n4_ := Aside0.mk (below_step (by repeat (first | (with_reducible first | exact HB.out | apply below_alloc | apply pw_below_drewN | apply below_drew1 | refine below_set ?_ GE298.out | refine below_set ?_ GE303.out) | exact HB.out)) hb); clear HO_299000; clear HO_304000; clear BK298; clear BK303; clear HB; have HO_299000 := n0_; have HO_304000 := n1_; have BK298 := n2_; have BK303 := n3_; have HB := n4_; clear n0_ n1_ n2_ n3_ n4_; (try clear hb); (try clear hb2); (try clear hk); (try clear hi)))
              go_meet
              case rel => exact ⟨_, (0), (by first | rfl | (simp; done) | (simp [*]; done)), H', ⟨by have := HJ18.out; first | omega | exact Nat.le_refl _⟩, ⟨by (with_reducible repeat (first | apply Kd.R_alloc | apply Kd.R_drewN | apply Kd.R_drew)); exact HO_299000.out⟩, ⟨by (with_reducible repeat (first | apply Kd.R_alloc | apply Kd.R_drewN | apply Kd.R_drew)); exact HO_304000.out⟩, ⟨by (with_reducible repeat (first | refine blk_drewN ?_ _ | refine blk_drew ?_ | refine blk_alloc ?_ _)); exact BK298.out⟩, ⟨by (with_reducible repeat (first | refine blk_drewN ?_ _ | refine blk_drew ?_ | refine blk_alloc ?_ _)); exact BK303.out⟩, ⟨by repeat (first | (with_reducible first | exact HB.out | apply below_alloc | apply pw_below_drewN | apply below_drew1 | refine below_set ?_ GE298.out | refine below_set ?_ GE303.out) | exact HB.out)⟩⟩
    case rest =>
      clear HC8
      try clear c1
      try clear c2
      try clear p2
      try clear c3
      try clear c5
      try clear p6
      try clear c9
      try clear c12
      try clear c17
      try clear c18
      try clear c20
      try clear c20b0
      try clear c21
      try clear c21b0
      try clear c22
      try clear c22b0
      try clear c23
      try clear c25
      try clear c25b0
      try clear c26
      try clear c29
      try clear c30
      try clear c31
      try clear hcz13_0
      try clear hcz18_0
      try clear hcz27_0
      try clear hcz30_0
      try clear hfz13_0
      try clear hfz18_0
      try clear hfz27_0
      try clear hfz30_0
      try clear p2
      obtain ⟨kq, x10_7, rfl, HA, HJ7, HO_299000, HO_304000, BK298, BK303, HB⟩ := hcut
      cases kq with
      | zero => exact absurd HA.out (by simp [sleuthlaw21_HistogramAdds.j1])
      | succ kj7 =>
        have H := HA.out
        clear HA
        simp only [sleuthlaw21_HistogramAdds.j1] at H
        have HC32 := Aside0.mk H
        clear H
        go_upto_region 10 with (fail)
        go_cut [51] (fun v51 wc => ∃ (kq : Nat) (x51_31 : Bool), v51 = .bool x51_31 ∧ Aside0 (sleuthlaw21_HistogramAdds.j2 kq l0 a1 a2 t302 x10_7 x51_31 t295 t299 = some r) ∧ Aside0 (kq ≤ kj7) ∧ Aside0 (Kd.R k67 67 wc w.heap.size (fun k_ => some k_ ≠ ((.slice Ao16 t299.length co16) : Value).ownBlock) (.slice Ao12 t295.length co12) t295) ∧ Aside0 (Kd.R k67 67 wc w.heap.size (fun k_ => some k_ ≠ ((.slice Ao12 t295.length co12) : Value).ownBlock) (.slice Ao16 t299.length co16) t299) ∧ Aside0 (wc.heap[gb298]? = some (.cells #[(.slice Ao12 t295.length co12)] 33 (0, 0))) ∧ Aside0 (wc.heap[gb303]? = some (.cells #[(.slice Ao16 t299.length co16)] 33 (0, 0))) ∧ Aside0 (Below w.heap.size w wc))
        case first =>
          have H := HC32.out
          clear HC32
          by_cases c33 : t302 = x10_7
          · rw [if_pos c33] at H
            have c33b0 : (t302 == x10_7) = true := beq_iff_eq.mpr c33
            have c33b1 : (t302 != x10_7) = false := bne_eq_false_iff_eq.mpr c33
            clear c33
            (first | rw [c33b0] | (simp only [i64_w, i32_w]; rw [c33b0]) | skip)
            have H' := Aside0.mk H
            clear H
            go_wp2
            go_meet
            case rel => exact ⟨_, ((x10_7 != 0)), (by first | rfl | (simp; done) | (simp [*]; done)), H', ⟨by have := HJ7.out; first | omega | exact Nat.le_refl _⟩, ⟨by (with_reducible repeat (first | apply Kd.R_alloc | apply Kd.R_drewN | apply Kd.R_drew)); exact HO_299000.out⟩, ⟨by (with_reducible repeat (first | apply Kd.R_alloc | apply Kd.R_drewN | apply Kd.R_drew)); exact HO_304000.out⟩, ⟨by (with_reducible repeat (first | refine blk_drewN ?_ _ | refine blk_drew ?_ | refine blk_alloc ?_ _)); exact BK298.out⟩, ⟨by (with_reducible repeat (first | refine blk_drewN ?_ _ | refine blk_drew ?_ | refine blk_alloc ?_ _)); exact BK303.out⟩, ⟨by repeat (first | (with_reducible first | exact HB.out | apply below_alloc | apply pw_below_drewN | apply below_drew1 | refine below_set ?_ GE298.out | refine below_set ?_ GE303.out) | exact HB.out)⟩⟩
          · rw [if_neg c33] at H
            have c33b0 : (t302 == x10_7) = false := beq_eq_false_iff_ne.mpr c33
            have c33b1 : (t302 != x10_7) = true := bne_iff_ne.mpr c33
            (first | rw [c33b0] | (simp only [i64_w, i32_w]; rw [c33b0]) | skip)
            have H' := Aside0.mk H
            clear H
            go_wp2
            go_meet
            case rel => exact ⟨_, (true), (by first | rfl | (simp; done) | (simp [*]; done)), H', ⟨by have := HJ7.out; first | omega | exact Nat.le_refl _⟩, ⟨by (with_reducible repeat (first | apply Kd.R_alloc | apply Kd.R_drewN | apply Kd.R_drew)); exact HO_299000.out⟩, ⟨by (with_reducible repeat (first | apply Kd.R_alloc | apply Kd.R_drewN | apply Kd.R_drew)); exact HO_304000.out⟩, ⟨by (with_reducible repeat (first | refine blk_drewN ?_ _ | refine blk_drew ?_ | refine blk_alloc ?_ _)); exact BK298.out⟩, ⟨by (with_reducible repeat (first | refine blk_drewN ?_ _ | refine blk_drew ?_ | refine blk_alloc ?_ _)); exact BK303.out⟩, ⟨by repeat (first | (with_reducible first | exact HB.out | apply below_alloc | apply pw_below_drewN | apply below_drew1 | refine below_set ?_ GE298.out | refine below_set ?_ GE303.out) | exact HB.out)⟩⟩
        case rest =>
          clear HC32
          try clear c1
          try clear c2
          try clear p2
          try clear c3
          try clear c5
          try clear p6
          try clear c9
          try clear c12
          try clear c17
          try clear c18
          try clear c20
          try clear c20b0
          try clear c21
          try clear c21b0
          try clear c22
          try clear c22b0
          try clear c23
          try clear c25
          try clear c25b0
          try clear c26
          try clear c29
          try clear c30
          try clear c31
          try clear c33
          try clear c33b0
          try clear c33b1
          try clear hcz13_0
          try clear hcz18_0
          try clear hcz27_0
          try clear hcz30_0
          try clear hfz13_0
          try clear hfz18_0
          try clear hfz27_0
          try clear hfz30_0
          try clear p2
          try clear p6
          obtain ⟨kq, x51_31, rfl, HA, HJ31, HO_299000, HO_304000, BK298, BK303, HB⟩ := hcut
          cases kq with
          | zero => exact absurd HA.out (by simp [sleuthlaw21_HistogramAdds.j2])
          | succ kj31 =>
            have H := HA.out
            clear HA
            simp only [sleuthlaw21_HistogramAdds.j2] at H
            by_cases c34 : x51_31 = true
            · subst c34
              have H1 : (if t302 = x10_7 then (some ((t299.length : Int) == 0)) else (some false)) = some r := by rw [if_pos rfl] at H; exact H
              clear H
              have H := H1
              clear H1
              by_cases c35 : t302 = x10_7
              · rw [if_pos c35] at H
                have c35b0 : (t302 == x10_7) = true := beq_iff_eq.mpr c35
                have c35b1 : (t302 != x10_7) = false := bne_eq_false_iff_eq.mpr c35
                clear c35
                obtain rfl := Option.some.inj H
                have hnb36 := NB303_298.out
                have hnc36 := NB298_303.out
                have hcz37_0 : wc.cell? ⟨gb303, 0, none⟩ = some (.slice Ao16 t299.length co16) := (blk_cell BK303.out 0).trans rfl
                have hfz37_0 := blk_frozen BK303.out 0
                go_wp2
                go_ret
                exact ⟨by first | rfl | (simp [errW_none, errW_some] <;> rfl) | (simp [*, errW_none, errW_some] <;> rfl), by repeat (first | (with_reducible first | exact HB.out | apply below_alloc | apply pw_below_drewN | apply below_drew1 | refine below_set ?_ GE298.out | refine below_set ?_ GE303.out) | exact HB.out)⟩
              · rw [if_neg c35] at H
                have c35b0 : (t302 == x10_7) = false := beq_eq_false_iff_ne.mpr c35
                have c35b1 : (t302 != x10_7) = true := bne_iff_ne.mpr c35
                obtain rfl := Option.some.inj H
                go_wp2
                go_ret
                exact ⟨by first | rfl | (simp [errW_none, errW_some] <;> rfl) | (simp [*, errW_none, errW_some] <;> rfl), by repeat (first | (with_reducible first | exact HB.out | apply below_alloc | apply pw_below_drewN | apply below_drew1 | refine below_set ?_ GE298.out | refine below_set ?_ GE303.out) | exact HB.out)⟩
            · replace c34 := Bool.eq_false_iff.mpr c34
              subst c34
              have H1 : ((histogram_Check.f kj31 t299).bind fun t305 => (if t305 = 0 then ((histogram_Total.f kj31 t299).bind fun t306 => ((histogram_Total.f kj31 t295).bind fun t307 => (if t306 = (wrap64 (t307 + a2)) then ((sleuthlaw21_values.f kj31 l0).bind fun t308 => ((sleuthlaw21_count.f kj31 t308).bind fun t311 => ((sleuthlaw21_same.f kj31 t295 t311).bind fun t314 => (sleuthlaw21_HistogramAdds.j3 kj31 a1 a2 (!t314) t295 t299)))) else (sleuthlaw21_HistogramAdds.j3 kj31 a1 a2 true t295 t299)))) else (sleuthlaw21_HistogramAdds.j3 kj31 a1 a2 true t295 t299))) = some r := by rw [if_neg (show ¬ (false = true) by decide)] at H; exact H
              clear H
              have H := H1
              clear H1
              have HC38 := Aside0.mk H
              clear H
              go_upto_region 12 with (fail)
              go_cut [80] (fun v80 wc => ∃ (kq : Nat) (x80_37 : Bool), v80 = .bool x80_37 ∧ Aside0 (sleuthlaw21_HistogramAdds.j3 kq a1 a2 x80_37 t295 t299 = some r) ∧ Aside0 (kq ≤ kj31) ∧ Aside0 (Kd.R k67 67 wc w.heap.size (fun k_ => some k_ ≠ ((.slice Ao16 t299.length co16) : Value).ownBlock) (.slice Ao12 t295.length co12) t295) ∧ Aside0 (Kd.R k67 67 wc w.heap.size (fun k_ => some k_ ≠ ((.slice Ao12 t295.length co12) : Value).ownBlock) (.slice Ao16 t299.length co16) t299) ∧ Aside0 (wc.heap[gb298]? = some (.cells #[(.slice Ao12 t295.length co12)] 33 (0, 0))) ∧ Aside0 (wc.heap[gb303]? = some (.cells #[(.slice Ao16 t299.length co16)] 33 (0, 0))) ∧ Aside0 (Below w.heap.size w wc))
              case first =>
                have H := HC38.out
                clear HC38
                replace H := Option.bind_eq_some_iff.mp H
                obtain ⟨t305, A390, H⟩ := H
                replace H : (if t305 = 0 then ((histogram_Total.f kj31 t299).bind fun t306 => ((histogram_Total.f kj31 t295).bind fun t307 => (if t306 = (wrap64 (t307 + a2)) then ((sleuthlaw21_values.f kj31 l0).bind fun t308 => ((sleuthlaw21_count.f kj31 t308).bind fun t311 => ((sleuthlaw21_same.f kj31 t295 t311).bind fun t314 => (sleuthlaw21_HistogramAdds.j3 kj31 a1 a2 (!t314) t295 t299)))) else (sleuthlaw21_HistogramAdds.j3 kj31 a1 a2 true t295 t299)))) else (sleuthlaw21_HistogramAdds.j3 kj31 a1 a2 true t295 t299)) = some r := H
                have A39 := Aside0.mk A390
                clear A390
                by_cases c40 : t305 = 0
                · rw [if_pos c40] at H
                  have c40b0 : (t305 == 0) = true := beq_iff_eq.mpr c40
                  have c40b1 : (t305 != 0) = false := bne_eq_false_iff_eq.mpr c40
                  clear c40
                  (first | rw [c40b0] | (simp only [i64_w, i32_w]; rw [c40b0]) | skip)
                  replace H := Option.bind_eq_some_iff.mp H
                  obtain ⟨t306, A410, H⟩ := H
                  replace H : ((histogram_Total.f kj31 t295).bind fun t307 => (if t306 = (wrap64 (t307 + a2)) then ((sleuthlaw21_values.f kj31 l0).bind fun t308 => ((sleuthlaw21_count.f kj31 t308).bind fun t311 => ((sleuthlaw21_same.f kj31 t295 t311).bind fun t314 => (sleuthlaw21_HistogramAdds.j3 kj31 a1 a2 (!t314) t295 t299)))) else (sleuthlaw21_HistogramAdds.j3 kj31 a1 a2 true t295 t299))) = some r := H
                  have A41 := Aside0.mk A410
                  clear A410
                  replace H := Option.bind_eq_some_iff.mp H
                  obtain ⟨t307, A420, H⟩ := H
                  replace H : (if t306 = (wrap64 (t307 + a2)) then ((sleuthlaw21_values.f kj31 l0).bind fun t308 => ((sleuthlaw21_count.f kj31 t308).bind fun t311 => ((sleuthlaw21_same.f kj31 t295 t311).bind fun t314 => (sleuthlaw21_HistogramAdds.j3 kj31 a1 a2 (!t314) t295 t299)))) else (sleuthlaw21_HistogramAdds.j3 kj31 a1 a2 true t295 t299)) = some r := H
                  have A42 := Aside0.mk A420
                  clear A420
                  by_cases c43 : t306 = (wrap64 (t307 + a2))
                  · rw [if_pos c43] at H
                    have c43b0 : (t306 == (wrap64 (t307 + a2))) = true := beq_iff_eq.mpr c43
                    have c43b1 : (t306 != (wrap64 (t307 + a2))) = false := bne_eq_false_iff_eq.mpr c43
                    clear c43
                    replace H := Option.bind_eq_some_iff.mp H
                    obtain ⟨t308, A440, H⟩ := H
                    replace H : ((sleuthlaw21_count.f kj31 t308).bind fun t311 => ((sleuthlaw21_same.f kj31 t295 t311).bind fun t314 => (sleuthlaw21_HistogramAdds.j3 kj31 a1 a2 (!t314) t295 t299))) = some r := H
                    have A44 := Aside0.mk A440
                    clear A440
                    replace H := Option.bind_eq_some_iff.mp H
                    obtain ⟨t311, A450, H⟩ := H
                    replace H : ((sleuthlaw21_same.f kj31 t295 t311).bind fun t314 => (sleuthlaw21_HistogramAdds.j3 kj31 a1 a2 (!t314) t295 t299)) = some r := H
                    have A45 := Aside0.mk A450
                    clear A450
                    replace H := Option.bind_eq_some_iff.mp H
                    obtain ⟨t314, A460, H⟩ := H
                    replace H : (sleuthlaw21_HistogramAdds.j3 kj31 a1 a2 (!t314) t295 t299) = some r := H
                    have A46 := Aside0.mk A460
                    clear A460
                    have H' := Aside0.mk H
                    clear H
                    try go_wp2
                    have n0_ := Aside0.mk (Kd.R_drew HO_299000.out)
                    have n1_ := Aside0.mk (Kd.R_drew HO_304000.out)
                    have n2_ := Aside0.mk (blk_drew BK298.out)
                    have n3_ := Aside0.mk (blk_drew BK303.out)
                    have n4_ := Aside0.mk (below_drew1 HB.out)
                    clear HO_299000
                    clear HO_304000
                    clear BK298
                    clear BK303
                    clear HB
                    have HO_299000 := n0_
                    have HO_304000 := n1_
                    have BK298 := n2_
                    have BK303 := n3_
                    have HB := n4_
                    clear n0_ n1_ n2_ n3_ n4_
                    refine start_ (n := 20) (S := fun w' => w'.cell? ⟨gb303, 0, none⟩ = some (.slice Ao16 t299.length co16) ∧ w'.cell? ⟨gb298, 0, none⟩ = some (.slice Ao12 t295.length co12)) (ds := []) #[false, false, false, false, false, false, false, false, false, false, false, false, false, false, false, false, false, false, false, false] (by kernel_rfl) rfl rfl ⟨(blk_cell BK303.out 0).trans rfl, (blk_cell BK298.out 0).trans rfl⟩ (fun hHeld => ?_); refine with_tabW sleuthlaw21_HistogramAdds.tab12 sleuthlaw21_HistogramAdds.bits12 (fun HT_ HW_ => ?_)
                    generalize wc.drew = w47 at HO_299000 HO_304000 BK298 BK303 HB hHeld ⊢
                    refine take_ (i := 0) (N := some 61) (v := ?_) (a' := ?_) #[true, false, false, false, false, false, false, false, false, false, false, false, false, false, false, false, false, false, false, false] rfl rfl (take_ofW HT_.out HW_.out (by kernel_rfl)) (fun _ _ _ h => h) (Or.inl ⟨by rfl, ?_⟩) hHeld ?_ ?_
                    rotate_left
                    · rintro w' ⟨s0, s1⟩
                      go_simp
                      with_reducible rfl
                    rotate_left
                    · simp only [Act.put, List.setIfInBounds_toArray, List.set_cons_zero, List.set_cons_succ, i64_w, i32_w]
                      rfl
                    refine one_ (i := 1) (N := some 62) #[true, true, false, false, false, false, false, false, false, false, false, false, false, false, false, false, false, false, false, false] rfl rfl (one_of HT_.out (by kernel_rfl)) (by decide) (fun K hK => ?_)
                    refine goes_ Try.func24 (by kernel_rfl) rfl #[.agg #[.slice Ao16 t299.length co16]] (by rfl) rfl rfl (by (try simp only [List.map_toArray, List.map_cons, List.map_nil]); first | done | rfl | (simp only [List.length_drop, List.length_take]; rfl)) ?_
                    with_reducible refine (histogram_Check.calls kj31 _ _ t299 t305 _ ?side1 ?side2 A39.out).mono ?_
                    (case side1 => repeat (first | exact (Kd.R_reads' HO_304000.out).2.2 | (with_reducible refine Kd.C_alloc ?_ _) | (with_reducible refine Kd.C_drewN ?_ _) | (with_reducible refine Kd.C_drew ?_)))
                    (case side2 => exact (Kd.R_reads' HO_304000.out).2.1)
                    rintro e w48 ⟨rfl, hb⟩
                    refine ⟨_, rfl, ?_⟩
                    have n0_ := Aside0.mk (Kd.R_below (by (with_reducible repeat (first | apply Kd.R_alloc | apply Kd.R_drewN | apply Kd.R_drew)); exact HO_299000.out) hb)
                    have n1_ := Aside0.mk (Kd.R_below (by (with_reducible repeat (first | apply Kd.R_alloc | apply Kd.R_drewN | apply Kd.R_drew)); exact HO_304000.out) hb)
                    have n2_ := Aside0.mk (blk_below (g := gb298) (o := .cells #[.slice Ao12 t295.length co12] 33 (0, 0)) (by (with_reducible repeat (first | refine blk_drewN ?_ _ | refine blk_drew ?_ | refine blk_alloc ?_ _)); exact BK298.out) hb)
                    have n3_ := Aside0.mk (blk_below (g := gb303) (o := .cells #[.slice Ao16 t299.length co16] 33 (0, 0)) (by (with_reducible repeat (first | refine blk_drewN ?_ _ | refine blk_drew ?_ | refine blk_alloc ?_ _)); exact BK303.out) hb)
                    have n4_ := Aside0.mk (below_step (by repeat (first | (with_reducible first | exact HB.out | apply below_alloc | apply pw_below_drewN | apply below_drew1 | refine below_set ?_ GE298.out | refine below_set ?_ GE303.out) | exact HB.out)) hb)
                    clear HO_299000
                    clear HO_304000
                    clear BK298
                    clear BK303
                    clear HB
                    have HO_299000 := n0_
                    have HO_304000 := n1_
                    have BK298 := n2_
                    have BK303 := n3_
                    have HB := n4_
                    clear n0_ n1_ n2_ n3_ n4_
                    (try clear hb)
                    (try clear hb2)
                    (try clear hk)
                    (try clear hi)
                    refine hK.out _ _ ⟨(blk_cell BK303.out 0).trans rfl, (blk_cell BK298.out 0).trans rfl⟩ (fun hHeld => ?_)
                    clear hK K
                    refine norm_ (a' := ?_) ?_ ?_
                    rotate_left
                    · show Act.put _ (some 62) _ = _
                      simp only [Act.put, List.setIfInBounds_toArray, List.set_cons_zero, List.set_cons_succ, i64_w, i32_w]
                      rfl
                    refine pure_ (i := 2) (N := some 63) (v := ?_) (a' := ?_) #[true, true, true, false, false, false, false, false, false, false, false, false, false, false, false, false, false, false, false, false] rfl rfl (any_of HT_.out (by kernel_rfl)) (fun _ _ _ h => h) (Or.inl ⟨by rfl, ?_⟩) ?_ ?_
                    rotate_left
                    · intro w'
                      go_simp
                      with_reducible rfl
                    rotate_left
                    · simp only [Act.put, List.setIfInBounds_toArray, List.set_cons_zero, List.set_cons_succ, i64_w, i32_w]
                      rfl
                    refine pure_ (i := 3) (N := some 64) (v := ?_) (a' := ?_) #[true, true, true, true, false, false, false, false, false, false, false, false, false, false, false, false, false, false, false, false] rfl rfl (any_of HT_.out (by kernel_rfl)) (fun _ _ _ h => h) (Or.inl ⟨by rfl, ?_⟩) ?_ ?_
                    rotate_left
                    · intro w'
                      go_simp
                      with_reducible rfl
                    rotate_left
                    · simp only [Act.put, List.setIfInBounds_toArray, List.set_cons_zero, List.set_cons_succ, i64_w, i32_w]
                      rfl
                    refine pure_ (i := 8) (N := some 69) (v := ?_) (a' := ?_) #[true, true, true, true, false, false, false, false, true, false, false, false, false, false, false, false, false, false, false, false] rfl rfl (any_of HT_.out (by kernel_rfl)) (fun _ _ _ h => h) (Or.inl ⟨by rfl, ?_⟩) ?_ ?_
                    rotate_left
                    · intro w'
                      go_simp
                      with_reducible rfl
                    rotate_left
                    · simp only [Act.put, List.setIfInBounds_toArray, List.set_cons_zero, List.set_cons_succ, i64_w, i32_w]
                      rfl
                    refine take_ (i := 4) (N := some 65) (v := ?_) (a' := ?_) #[true, true, true, true, true, false, false, false, true, false, false, false, false, false, false, false, false, false, false, false] rfl rfl (take_ofW HT_.out HW_.out (by kernel_rfl)) (fun _ _ _ h => h) (Or.inl ⟨by rfl, ?_⟩) hHeld ?_ ?_
                    rotate_left
                    · rintro w' ⟨s0, s1⟩
                      go_simp
                      with_reducible rfl
                    rotate_left
                    · simp only [Act.put, List.setIfInBounds_toArray, List.set_cons_zero, List.set_cons_succ, i64_w, i32_w]
                      rfl
                    refine take_ (i := 6) (N := some 67) (v := ?_) (a' := ?_) #[true, true, true, true, true, false, true, false, true, false, false, false, false, false, false, false, false, false, false, false] rfl rfl (take_ofW HT_.out HW_.out (by kernel_rfl)) (fun _ _ _ h => h) (Or.inl ⟨by rfl, ?_⟩) hHeld ?_ ?_
                    rotate_left
                    · rintro w' ⟨s0, s1⟩
                      go_simp
                      with_reducible rfl
                    rotate_left
                    · simp only [Act.put, List.setIfInBounds_toArray, List.set_cons_zero, List.set_cons_succ, i64_w, i32_w]
                      rfl
                    refine one_ (i := 5) (N := some 66) #[true, true, true, true, true, true, true, false, true, false, false, false, false, false, false, false, false, false, false, false] rfl rfl (one_of HT_.out (by kernel_rfl)) (by decide) (fun K hK => ?_)
                    refine goes_ Try.func30 (by kernel_rfl) rfl #[.agg #[.slice Ao16 t299.length co16]] (by rfl) rfl rfl (by (try simp only [List.map_toArray, List.map_cons, List.map_nil]); first | done | rfl | (simp only [List.length_drop, List.length_take]; rfl)) ?_
                    with_reducible refine (histogram_Total.calls kj31 _ _ t299 t306 _ ?side1 ?side2 A41.out).mono ?_
                    (case side1 => repeat (first | exact (Kd.R_reads' HO_304000.out).2.2 | (with_reducible refine Kd.C_alloc ?_ _) | (with_reducible refine Kd.C_drewN ?_ _) | (with_reducible refine Kd.C_drew ?_)))
                    (case side2 => exact (Kd.R_reads' HO_304000.out).2.1)
                    rintro e w49 ⟨rfl, hb⟩
                    refine ⟨_, rfl, ?_⟩
                    have n0_ := Aside0.mk (Kd.R_below (by (with_reducible repeat (first | apply Kd.R_alloc | apply Kd.R_drewN | apply Kd.R_drew)); exact HO_299000.out) hb)
                    have n1_ := Aside0.mk (Kd.R_below (by (with_reducible repeat (first | apply Kd.R_alloc | apply Kd.R_drewN | apply Kd.R_drew)); exact HO_304000.out) hb)
                    have n2_ := Aside0.mk (blk_below (g := gb298) (o := .cells #[.slice Ao12 t295.length co12] 33 (0, 0)) (by (with_reducible repeat (first | refine blk_drewN ?_ _ | refine blk_drew ?_ | refine blk_alloc ?_ _)); exact BK298.out) hb)
                    have n3_ := Aside0.mk (blk_below (g := gb303) (o := .cells #[.slice Ao16 t299.length co16] 33 (0, 0)) (by (with_reducible repeat (first | refine blk_drewN ?_ _ | refine blk_drew ?_ | refine blk_alloc ?_ _)); exact BK303.out) hb)
                    have n4_ := Aside0.mk (below_step (by repeat (first | (with_reducible first | exact HB.out | apply below_alloc | apply pw_below_drewN | apply below_drew1 | refine below_set ?_ GE298.out | refine below_set ?_ GE303.out) | exact HB.out)) hb)
                    clear HO_299000
                    clear HO_304000
                    clear BK298
                    clear BK303
                    clear HB
                    have HO_299000 := n0_
                    have HO_304000 := n1_
                    have BK298 := n2_
                    have BK303 := n3_
                    have HB := n4_
                    clear n0_ n1_ n2_ n3_ n4_
                    (try clear hb)
                    (try clear hb2)
                    (try clear hk)
                    (try clear hi)
                    refine hK.out _ _ ⟨(blk_cell BK303.out 0).trans rfl, (blk_cell BK298.out 0).trans rfl⟩ (fun hHeld => ?_)
                    clear hK K
                    refine norm_ (a' := ?_) ?_ ?_
                    rotate_left
                    · show Act.put _ (some 66) _ = _
                      simp only [Act.put, List.setIfInBounds_toArray, List.set_cons_zero, List.set_cons_succ, i64_w, i32_w]
                      rfl
                    refine one_ (i := 7) (N := some 68) #[true, true, true, true, true, true, true, true, true, false, false, false, false, false, false, false, false, false, false, false] rfl rfl (one_of HT_.out (by kernel_rfl)) (by decide) (fun K hK => ?_)
                    refine goes_ Try.func30 (by kernel_rfl) rfl #[.agg #[.slice Ao12 t295.length co12]] (by rfl) rfl rfl (by (try simp only [List.map_toArray, List.map_cons, List.map_nil]); first | done | rfl | (simp only [List.length_drop, List.length_take]; rfl)) ?_
                    with_reducible refine (histogram_Total.calls kj31 _ _ t295 t307 _ ?side1 ?side2 A42.out).mono ?_
                    (case side1 => repeat (first | exact (Kd.R_reads' HO_299000.out).2.2 | (with_reducible refine Kd.C_alloc ?_ _) | (with_reducible refine Kd.C_drewN ?_ _) | (with_reducible refine Kd.C_drew ?_)))
                    (case side2 => exact (Kd.R_reads' HO_299000.out).2.1)
                    rintro e w50 ⟨rfl, hb⟩
                    refine ⟨_, rfl, ?_⟩
                    have n0_ := Aside0.mk (Kd.R_below (by (with_reducible repeat (first | apply Kd.R_alloc | apply Kd.R_drewN | apply Kd.R_drew)); exact HO_299000.out) hb)
                    have n1_ := Aside0.mk (Kd.R_below (by (with_reducible repeat (first | apply Kd.R_alloc | apply Kd.R_drewN | apply Kd.R_drew)); exact HO_304000.out) hb)
                    have n2_ := Aside0.mk (blk_below (g := gb298) (o := .cells #[.slice Ao12 t295.length co12] 33 (0, 0)) (by (with_reducible repeat (first | refine blk_drewN ?_ _ | refine blk_drew ?_ | refine blk_alloc ?_ _)); exact BK298.out) hb)
                    have n3_ := Aside0.mk (blk_below (g := gb303) (o := .cells #[.slice Ao16 t299.length co16] 33 (0, 0)) (by (with_reducible repeat (first | refine blk_drewN ?_ _ | refine blk_drew ?_ | refine blk_alloc ?_ _)); exact BK303.out) hb)
                    have n4_ := Aside0.mk (below_step (by repeat (first | (with_reducible first | exact HB.out | apply below_alloc | apply pw_below_drewN | apply below_drew1 | refine below_set ?_ GE298.out | refine below_set ?_ GE303.out) | exact HB.out)) hb)
                    clear HO_299000
                    clear HO_304000
                    clear BK298
                    clear BK303
                    clear HB
                    have HO_299000 := n0_
                    have HO_304000 := n1_
                    have BK298 := n2_
                    have BK303 := n3_
                    have HB := n4_
                    clear n0_ n1_ n2_ n3_ n4_
                    (try clear hb)
                    (try clear hb2)
                    (try clear hk)
                    (try clear hi)
                    refine hK.out _ _ ⟨(blk_cell BK303.out 0).trans rfl, (blk_cell BK298.out 0).trans rfl⟩ (fun hHeld => ?_)
                    clear hK K
                    refine norm_ (a' := ?_) ?_ ?_
                    rotate_left
                    · show Act.put _ (some 68) _ = _
                      simp only [Act.put, List.setIfInBounds_toArray, List.set_cons_zero, List.set_cons_succ, i64_w, i32_w]
                      rfl
                    refine pure_ (i := 9) (N := some 70) (v := ?_) (a' := ?_) #[true, true, true, true, true, true, true, true, true, true, false, false, false, false, false, false, false, false, false, false] rfl rfl (any_of HT_.out (by kernel_rfl)) (fun _ _ _ h => h) (Or.inl ⟨by rfl, ?_⟩) ?_ ?_
                    rotate_left
                    · intro w'
                      go_simp
                      with_reducible rfl
                    rotate_left
                    · simp only [Act.put, List.setIfInBounds_toArray, List.set_cons_zero, List.set_cons_succ, i64_w, i32_w]
                      rfl
                    refine pure_ (i := 10) (N := some 71) (v := ?_) (a' := ?_) #[true, true, true, true, true, true, true, true, true, true, true, false, false, false, false, false, false, false, false, false] rfl rfl (any_of HT_.out (by kernel_rfl)) (fun _ _ _ h => h) (Or.inl ⟨by rfl, ?_⟩) ?_ ?_
                    rotate_left
                    · intro w'
                      go_simp
                      with_reducible rfl
                    rotate_left
                    · simp only [Act.put, List.setIfInBounds_toArray, List.set_cons_zero, List.set_cons_succ, i64_w, i32_w]
                      rfl
                    refine pure_ (i := 11) (N := some 72) (v := ?_) (a' := ?_) #[true, true, true, true, true, true, true, true, true, true, true, true, false, false, false, false, false, false, false, false] rfl rfl (any_of HT_.out (by kernel_rfl)) (fun _ _ _ h => h) (Or.inl ⟨by rfl, ?_⟩) ?_ ?_
                    rotate_left
                    · intro w'
                      go_simp
                      with_reducible rfl
                    rotate_left
                    · simp only [Act.put, List.setIfInBounds_toArray, List.set_cons_zero, List.set_cons_succ, i64_w, i32_w]
                      rfl
                    refine pure_ (i := 12) (N := some 73) (v := ?_) (a' := ?_) #[true, true, true, true, true, true, true, true, true, true, true, true, true, false, false, false, false, false, false, false] rfl rfl (any_of HT_.out (by kernel_rfl)) (fun _ _ _ h => h) (Or.inl ⟨by rfl, ?_⟩) ?_ ?_
                    rotate_left
                    · intro w'
                      go_simp
                      with_reducible rfl
                    rotate_left
                    · simp only [Act.put, List.setIfInBounds_toArray, List.set_cons_zero, List.set_cons_succ, i64_w, i32_w]
                      rfl
                    refine pure_ (i := 14) (N := some 75) (v := ?_) (a' := ?_) #[true, true, true, true, true, true, true, true, true, true, true, true, true, false, true, false, false, false, false, false] rfl rfl (any_of HT_.out (by kernel_rfl)) (fun _ _ _ h => h) (Or.inl ⟨by rfl, ?_⟩) ?_ ?_
                    rotate_left
                    · intro w'
                      go_simp
                      with_reducible rfl
                    rotate_left
                    · simp only [Act.put, List.setIfInBounds_toArray, List.set_cons_zero, List.set_cons_succ, i64_w, i32_w]
                      rfl
                    refine take_ (i := 13) (N := some 74) (v := ?_) (a' := ?_) #[true, true, true, true, true, true, true, true, true, true, true, true, true, true, true, false, false, false, false, false] rfl rfl (take_ofW HT_.out HW_.out (by kernel_rfl)) (fun _ _ _ h => h) (Or.inl ⟨by rfl, ?_⟩) hHeld ?_ ?_
                    rotate_left
                    · rintro w' ⟨s0, s1⟩
                      go_simp
                      with_reducible rfl
                    rotate_left
                    · simp only [Act.put, List.setIfInBounds_toArray, List.set_cons_zero, List.set_cons_succ, i64_w, i32_w]
                      rfl
                    refine one_ (i := 15) (N := some 76) #[true, true, true, true, true, true, true, true, true, true, true, true, true, true, true, true, false, false, false, false] rfl rfl (one_of HT_.out (by kernel_rfl)) (by decide) (fun K hK => ?_)
                    refine goes_ Try.func19 (by kernel_rfl) rfl #[.slice A0 l0.length c0] (by rfl) rfl rfl (by (try simp only [List.map_toArray, List.map_cons, List.map_nil]); first | done | rfl | (simp only [List.length_drop, List.length_take]; rfl)) ?_
                    with_reducible refine (sleuthlaw21_values.calls kj31 _ _ l0 t308 _ ?side1 ?side2 A44.out).mono ?_
                    (case side1 => repeat (first | exact (Kd.C_below HR0.out HB.out) | (with_reducible refine Kd.C_alloc ?_ _) | (with_reducible refine Kd.C_drewN ?_ _) | (with_reducible refine Kd.C_drew ?_)))
                    (case side2 => exact HC0.out)
                    rintro e w51 ⟨v309, rfl, ho0, hb⟩
                    refine ⟨_, rfl, ?_⟩
                    have n0_ := Aside0.mk (Kd.R_below (by (with_reducible repeat (first | apply Kd.R_alloc | apply Kd.R_drewN | apply Kd.R_drew)); exact HO_299000.out) hb)
                    have n1_ := Aside0.mk (Kd.R_below (by (with_reducible repeat (first | apply Kd.R_alloc | apply Kd.R_drewN | apply Kd.R_drew)); exact HO_304000.out) hb)
                    have n2_ := Aside0.mk (Kd.R_lower ho0 (below_size (by repeat (first | (with_reducible first | exact HB.out | apply below_alloc | apply pw_below_drewN | apply below_drew1 | refine below_set ?_ GE298.out | refine below_set ?_ GE303.out) | exact HB.out))))
                    have n3_ := Aside0.mk (blk_below (g := gb298) (o := .cells #[.slice Ao12 t295.length co12] 33 (0, 0)) (by (with_reducible repeat (first | refine blk_drewN ?_ _ | refine blk_drew ?_ | refine blk_alloc ?_ _)); exact BK298.out) hb)
                    have n4_ := Aside0.mk (blk_below (g := gb303) (o := .cells #[.slice Ao16 t299.length co16] 33 (0, 0)) (by (with_reducible repeat (first | refine blk_drewN ?_ _ | refine blk_drew ?_ | refine blk_alloc ?_ _)); exact BK303.out) hb)
                    have n5_ := Aside0.mk (below_step (by repeat (first | (with_reducible first | exact HB.out | apply below_alloc | apply pw_below_drewN | apply below_drew1 | refine below_set ?_ GE298.out | refine below_set ?_ GE303.out) | exact HB.out)) hb)
                    clear HO_299000
                    clear HO_304000
                    clear BK298
                    clear BK303
                    clear HB
                    have HO_299000 := n0_
                    have HO_304000 := n1_
                    have HO310 := n2_
                    have BK298 := n3_
                    have BK303 := n4_
                    have HB := n5_
                    clear n0_ n1_ n2_ n3_ n4_ n5_
                    (try clear hb)
                    (try clear hb2)
                    (try clear hk)
                    (try clear hi)
                    (try clear ho0)
                    obtain ⟨Ao52, co52, eo52⟩ := Kd.R_slice HO310.out
                    (first | subst eo52 | (injection eo52 with f1_ f2_ f3_; have f4_ := f1_.symm; have f5_ := f3_.symm; clear f1_ f2_ f3_; subst f4_; subst f5_))
                    refine hK.out _ _ ⟨(blk_cell BK303.out 0).trans rfl, (blk_cell BK298.out 0).trans rfl⟩ (fun hHeld => ?_)
                    clear hK K
                    refine norm_ (a' := ?_) ?_ ?_
                    rotate_left
                    · show Act.put _ (some 76) _ = _
                      simp only [Act.put, List.setIfInBounds_toArray, List.set_cons_zero, List.set_cons_succ, i64_w, i32_w]
                      rfl
                    refine one_ (i := 16) (N := some 77) #[true, true, true, true, true, true, true, true, true, true, true, true, true, true, true, true, true, false, false, false] rfl rfl (one_of HT_.out (by kernel_rfl)) (by decide) (fun K hK => ?_)
                    refine goes_ Try.func29 (by kernel_rfl) rfl #[.slice Ao52 t308.length co52] (by rfl) rfl rfl (by (try simp only [List.map_toArray, List.map_cons, List.map_nil]); first | done | rfl | (simp only [List.length_drop, List.length_take]; rfl)) ?_
                    with_reducible refine (sleuthlaw21_count.calls kj31 _ _ t308 t311 _ ?side1 ?side2 A45.out).mono ?_
                    (case side1 => repeat (first | exact (Kd.R_reads' HO310.out).2.2 | (with_reducible refine Kd.C_alloc ?_ _) | (with_reducible refine Kd.C_drewN ?_ _) | (with_reducible refine Kd.C_drew ?_)))
                    (case side2 => exact (Kd.R_reads' HO310.out).2.1)
                    rintro e w53 ⟨v312, rfl, ho0, hb⟩
                    refine ⟨_, rfl, ?_⟩
                    have n0_ := Aside0.mk (Kd.R_below (by (with_reducible repeat (first | apply Kd.R_alloc | apply Kd.R_drewN | apply Kd.R_drew)); exact HO_299000.out) hb)
                    have n1_ := Aside0.mk (Kd.R_below (by (with_reducible repeat (first | apply Kd.R_alloc | apply Kd.R_drewN | apply Kd.R_drew)); exact HO_304000.out) hb)
                    have n2_ := Aside0.mk (Kd.R_below (by (with_reducible repeat (first | apply Kd.R_alloc | apply Kd.R_drewN | apply Kd.R_drew)); exact HO310.out) hb)
                    have n3_ := Aside0.mk (Kd.R_lower ho0 (below_size (by repeat (first | (with_reducible first | exact HB.out | apply below_alloc | apply pw_below_drewN | apply below_drew1 | refine below_set ?_ GE298.out | refine below_set ?_ GE303.out) | exact HB.out))))
                    have n4_ := Aside0.mk (blk_below (g := gb298) (o := .cells #[.slice Ao12 t295.length co12] 33 (0, 0)) (by (with_reducible repeat (first | refine blk_drewN ?_ _ | refine blk_drew ?_ | refine blk_alloc ?_ _)); exact BK298.out) hb)
                    have n5_ := Aside0.mk (blk_below (g := gb303) (o := .cells #[.slice Ao16 t299.length co16] 33 (0, 0)) (by (with_reducible repeat (first | refine blk_drewN ?_ _ | refine blk_drew ?_ | refine blk_alloc ?_ _)); exact BK303.out) hb)
                    have n6_ := Aside0.mk (below_step (by repeat (first | (with_reducible first | exact HB.out | apply below_alloc | apply pw_below_drewN | apply below_drew1 | refine below_set ?_ GE298.out | refine below_set ?_ GE303.out) | exact HB.out)) hb)
                    clear HO_299000
                    clear HO_304000
                    clear HO310
                    clear BK298
                    clear BK303
                    clear HB
                    have HO_299000 := n0_
                    have HO_304000 := n1_
                    have HO310 := n2_
                    have HO313 := n3_
                    have BK298 := n4_
                    have BK303 := n5_
                    have HB := n6_
                    clear n0_ n1_ n2_ n3_ n4_ n5_ n6_
                    (try clear hb)
                    (try clear hb2)
                    (try clear hk)
                    (try clear hi)
                    (try clear ho0)
                    obtain ⟨Ao54, co54, eo54⟩ := Kd.R_slice HO313.out
                    (first | subst eo54 | (injection eo54 with f1_ f2_ f3_; have f4_ := f1_.symm; have f5_ := f3_.symm; clear f1_ f2_ f3_; subst f4_; subst f5_))
                    refine hK.out _ _ ⟨(blk_cell BK303.out 0).trans rfl, (blk_cell BK298.out 0).trans rfl⟩ (fun hHeld => ?_)
                    clear hK K
                    refine norm_ (a' := ?_) ?_ ?_
                    rotate_left
                    · show Act.put _ (some 77) _ = _
                      simp only [Act.put, List.setIfInBounds_toArray, List.set_cons_zero, List.set_cons_succ, i64_w, i32_w]
                      rfl
                    refine one_ (i := 17) (N := some 78) #[true, true, true, true, true, true, true, true, true, true, true, true, true, true, true, true, true, true, false, false] rfl rfl (one_of HT_.out (by kernel_rfl)) (by decide) (fun K hK => ?_)
                    refine goes_ Try.func28 (by kernel_rfl) rfl #[.agg #[.slice Ao12 t295.length co12], .slice Ao54 t311.length co54] (by rfl) rfl rfl (by (try simp only [List.map_toArray, List.map_cons, List.map_nil]); first | done | rfl | (simp only [List.length_drop, List.length_take]; rfl)) ?_
                    with_reducible refine (sleuthlaw21_same.calls kj31 _ _ t295 _ _ t311 t314 _ ?side1 ?side2 ?side3 ?side4 A46.out).mono ?_
                    (case side1 => repeat (first | exact (Kd.R_reads' HO_299000.out).2.2 | (with_reducible refine Kd.C_alloc ?_ _) | (with_reducible refine Kd.C_drewN ?_ _) | (with_reducible refine Kd.C_drew ?_)))
                    (case side2 => exact (Kd.R_reads' HO_299000.out).2.1)
                    (case side3 => repeat (first | exact (Kd.R_reads' HO313.out).2.2 | (with_reducible refine Kd.C_alloc ?_ _) | (with_reducible refine Kd.C_drewN ?_ _) | (with_reducible refine Kd.C_drew ?_)))
                    (case side4 => exact (Kd.R_reads' HO313.out).2.1)
                    rintro e w55 ⟨rfl, hb⟩
                    refine ⟨_, rfl, ?_⟩
                    have n0_ := Aside0.mk (Kd.R_below (by (with_reducible repeat (first | apply Kd.R_alloc | apply Kd.R_drewN | apply Kd.R_drew)); exact HO_299000.out) hb)
                    have n1_ := Aside0.mk (Kd.R_below (by (with_reducible repeat (first | apply Kd.R_alloc | apply Kd.R_drewN | apply Kd.R_drew)); exact HO_304000.out) hb)
                    have n2_ := Aside0.mk (Kd.R_below (by (with_reducible repeat (first | apply Kd.R_alloc | apply Kd.R_drewN | apply Kd.R_drew)); exact HO310.out) hb)
                    have n3_ := Aside0.mk (Kd.R_below (by (with_reducible repeat (first | apply Kd.R_alloc | apply Kd.R_drewN | apply Kd.R_drew)); exact HO313.out) hb)
                    have n4_ := Aside0.mk (blk_below (g := gb298) (o := .cells #[.slice Ao12 t295.length co12] 33 (0, 0)) (by (with_reducible repeat (first | refine blk_drewN ?_ _ | refine blk_drew ?_ | refine blk_alloc ?_ _)); exact BK298.out) hb)
                    have n5_ := Aside0.mk (blk_below (g := gb303) (o := .cells #[.slice Ao16 t299.length co16] 33 (0, 0)) (by (with_reducible repeat (first | refine blk_drewN ?_ _ | refine blk_drew ?_ | refine blk_alloc ?_ _)); exact BK303.out) hb)
                    have n6_ := Aside0.mk (below_step (by repeat (first | (with_reducible first | exact HB.out | apply below_alloc | apply pw_below_drewN | apply below_drew1 | refine below_set ?_ GE298.out | refine below_set ?_ GE303.out) | exact HB.out)) hb)
                    clear HO_299000
                    clear HO_304000
                    clear HO310
                    clear HO313
                    clear BK298
                    clear BK303
                    clear HB
                    have HO_299000 := n0_
                    have HO_304000 := n1_
                    have HO310 := n2_
                    have HO313 := n3_
                    have BK298 := n4_
                    have BK303 := n5_
                    have HB := n6_
                    clear n0_ n1_ n2_ n3_ n4_ n5_ n6_
                    (try clear hb)
                    (try clear hb2)
                    (try clear hk)
                    (try clear hi)
                    refine hK.out _ _ ⟨(blk_cell BK303.out 0).trans rfl, (blk_cell BK298.out 0).trans rfl⟩ (fun hHeld => ?_)
                    clear hK K
                    refine norm_ (a' := ?_) ?_ ?_
                    rotate_left
                    · show Act.put _ (some 78) _ = _
                      simp only [Act.put, List.setIfInBounds_toArray, List.set_cons_zero, List.set_cons_succ, i64_w, i32_w]
                      rfl
                    refine pure_ (i := 18) (N := some 79) (v := ?_) (a' := ?_) #[true, true, true, true, true, true, true, true, true, true, true, true, true, true, true, true, true, true, true, false] rfl rfl (any_of HT_.out (by kernel_rfl)) (fun _ _ _ h => h) (Or.inl ⟨by rfl, ?_⟩) ?_ ?_
                    rotate_left
                    · intro w'
                      go_simp
                      with_reducible rfl
                    rotate_left
                    · simp only [Act.put, List.setIfInBounds_toArray, List.set_cons_zero, List.set_cons_succ, i64_w, i32_w]
                      rfl
                    refine pure_ (i := 19) (N := some 80) (v := ?_) (a' := ?_) #[true, true, true, true, true, true, true, true, true, true, true, true, true, true, true, true, true, true, true, true] rfl rfl (any_of HT_.out (by kernel_rfl)) (fun _ _ _ h => h) (Or.inl ⟨by rfl, ?_⟩) ?_ ?_
                    rotate_left
                    · intro w'
                      go_simp
                      with_reducible rfl
                    rotate_left
                    · simp only [Act.put, List.setIfInBounds_toArray, List.set_cons_zero, List.set_cons_succ, i64_w, i32_w]
                      rfl
                    refine done_ (done_of HT_.out (by kernel_rfl)) ?_
                    try go_wp2
                    go_meet
                    case rel => exact ⟨_, (!t314), (by first | rfl | (simp; done) | (simp [*]; done)), H', ⟨by have := HJ7.out; have := HJ31.out; first | omega | exact Nat.le_refl _⟩, ⟨by (with_reducible repeat (first | apply Kd.R_alloc | apply Kd.R_drewN | apply Kd.R_drew)); exact HO_299000.out⟩, ⟨by (with_reducible repeat (first | apply Kd.R_alloc | apply Kd.R_drewN | apply Kd.R_drew)); exact HO_304000.out⟩, ⟨by (with_reducible repeat (first | refine blk_drewN ?_ _ | refine blk_drew ?_ | refine blk_alloc ?_ _)); exact BK298.out⟩, ⟨by (with_reducible repeat (first | refine blk_drewN ?_ _ | refine blk_drew ?_ | refine blk_alloc ?_ _)); exact BK303.out⟩, ⟨by repeat (first | (with_reducible first | exact HB.out | apply below_alloc | apply pw_below_drewN | apply below_drew1 | refine below_set ?_ GE298.out | refine below_set ?_ GE303.out) | exact HB.out)⟩⟩
                  · rw [if_neg c43] at H
                    have c43b0 : (t306 == (wrap64 (t307 + a2))) = false := beq_eq_false_iff_ne.mpr c43
                    have c43b1 : (t306 != (wrap64 (t307 + a2))) = true := bne_iff_ne.mpr c43
                    have H' := Aside0.mk H
                    clear H
                    try go_wp2
                    have n0_ := Aside0.mk (Kd.R_drew HO_299000.out)
                    have n1_ := Aside0.mk (Kd.R_drew HO_304000.out)
                    have n2_ := Aside0.mk (blk_drew BK298.out)
                    have n3_ := Aside0.mk (blk_drew BK303.out)
                    have n4_ := Aside0.mk (below_drew1 HB.out)
                    clear HO_299000
                    clear HO_304000
                    clear BK298
                    clear BK303
                    clear HB
                    have HO_299000 := n0_
                    have HO_304000 := n1_
                    have BK298 := n2_
                    have BK303 := n3_
                    have HB := n4_
                    clear n0_ n1_ n2_ n3_ n4_
                    refine start_ (n := 20) (S := fun w' => w'.cell? ⟨gb303, 0, none⟩ = some (.slice Ao16 t299.length co16) ∧ w'.cell? ⟨gb298, 0, none⟩ = some (.slice Ao12 t295.length co12)) (ds := []) #[false, false, false, false, false, false, false, false, false, false, false, false, false, false, false, false, false, false, false, false] (by kernel_rfl) rfl rfl ⟨(blk_cell BK303.out 0).trans rfl, (blk_cell BK298.out 0).trans rfl⟩ (fun hHeld => ?_); refine with_tabW sleuthlaw21_HistogramAdds.tab12 sleuthlaw21_HistogramAdds.bits12 (fun HT_ HW_ => ?_)
                    generalize wc.drew = w56 at HO_299000 HO_304000 BK298 BK303 HB hHeld ⊢
                    refine take_ (i := 0) (N := some 61) (v := ?_) (a' := ?_) #[true, false, false, false, false, false, false, false, false, false, false, false, false, false, false, false, false, false, false, false] rfl rfl (take_ofW HT_.out HW_.out (by kernel_rfl)) (fun _ _ _ h => h) (Or.inl ⟨by rfl, ?_⟩) hHeld ?_ ?_
                    rotate_left
                    · rintro w' ⟨s0, s1⟩
                      go_simp
                      with_reducible rfl
                    rotate_left
                    · simp only [Act.put, List.setIfInBounds_toArray, List.set_cons_zero, List.set_cons_succ, i64_w, i32_w]
                      rfl
                    refine one_ (i := 1) (N := some 62) #[true, true, false, false, false, false, false, false, false, false, false, false, false, false, false, false, false, false, false, false] rfl rfl (one_of HT_.out (by kernel_rfl)) (by decide) (fun K hK => ?_)
                    refine goes_ Try.func24 (by kernel_rfl) rfl #[.agg #[.slice Ao16 t299.length co16]] (by rfl) rfl rfl (by (try simp only [List.map_toArray, List.map_cons, List.map_nil]); first | done | rfl | (simp only [List.length_drop, List.length_take]; rfl)) ?_
                    with_reducible refine (histogram_Check.calls kj31 _ _ t299 t305 _ ?side1 ?side2 A39.out).mono ?_
                    (case side1 => repeat (first | exact (Kd.R_reads' HO_304000.out).2.2 | (with_reducible refine Kd.C_alloc ?_ _) | (with_reducible refine Kd.C_drewN ?_ _) | (with_reducible refine Kd.C_drew ?_)))
                    (case side2 => exact (Kd.R_reads' HO_304000.out).2.1)
                    rintro e w57 ⟨rfl, hb⟩
                    refine ⟨_, rfl, ?_⟩
                    have n0_ := Aside0.mk (Kd.R_below (by (with_reducible repeat (first | apply Kd.R_alloc | apply Kd.R_drewN | apply Kd.R_drew)); exact HO_299000.out) hb)
                    have n1_ := Aside0.mk (Kd.R_below (by (with_reducible repeat (first | apply Kd.R_alloc | apply Kd.R_drewN | apply Kd.R_drew)); exact HO_304000.out) hb)
                    have n2_ := Aside0.mk (blk_below (g := gb298) (o := .cells #[.slice Ao12 t295.length co12] 33 (0, 0)) (by (with_reducible repeat (first | refine blk_drewN ?_ _ | refine blk_drew ?_ | refine blk_alloc ?_ _)); exact BK298.out) hb)
                    have n3_ := Aside0.mk (blk_below (g := gb303) (o := .cells #[.slice Ao16 t299.length co16] 33 (0, 0)) (by (with_reducible repeat (first | refine blk_drewN ?_ _ | refine blk_drew ?_ | refine blk_alloc ?_ _)); exact BK303.out) hb)
                    have n4_ := Aside0.mk (below_step (by repeat (first | (with_reducible first | exact HB.out | apply below_alloc | apply pw_below_drewN | apply below_drew1 | refine below_set ?_ GE298.out | refine below_set ?_ GE303.out) | exact HB.out)) hb)
                    clear HO_299000
                    clear HO_304000
                    clear BK298
                    clear BK303
                    clear HB
                    have HO_299000 := n0_
                    have HO_304000 := n1_
                    have BK298 := n2_
                    have BK303 := n3_
                    have HB := n4_
                    clear n0_ n1_ n2_ n3_ n4_
                    (try clear hb)
                    (try clear hb2)
                    (try clear hk)
                    (try clear hi)
                    refine hK.out _ _ ⟨(blk_cell BK303.out 0).trans rfl, (blk_cell BK298.out 0).trans rfl⟩ (fun hHeld => ?_)
                    clear hK K
                    refine norm_ (a' := ?_) ?_ ?_
                    rotate_left
                    · show Act.put _ (some 62) _ = _
                      simp only [Act.put, List.setIfInBounds_toArray, List.set_cons_zero, List.set_cons_succ, i64_w, i32_w]
                      rfl
                    refine pure_ (i := 2) (N := some 63) (v := ?_) (a' := ?_) #[true, true, true, false, false, false, false, false, false, false, false, false, false, false, false, false, false, false, false, false] rfl rfl (any_of HT_.out (by kernel_rfl)) (fun _ _ _ h => h) (Or.inl ⟨by rfl, ?_⟩) ?_ ?_
                    rotate_left
                    · intro w'
                      go_simp
                      with_reducible rfl
                    rotate_left
                    · simp only [Act.put, List.setIfInBounds_toArray, List.set_cons_zero, List.set_cons_succ, i64_w, i32_w]
                      rfl
                    refine pure_ (i := 3) (N := some 64) (v := ?_) (a' := ?_) #[true, true, true, true, false, false, false, false, false, false, false, false, false, false, false, false, false, false, false, false] rfl rfl (any_of HT_.out (by kernel_rfl)) (fun _ _ _ h => h) (Or.inl ⟨by rfl, ?_⟩) ?_ ?_
                    rotate_left
                    · intro w'
                      go_simp
                      with_reducible rfl
                    rotate_left
                    · simp only [Act.put, List.setIfInBounds_toArray, List.set_cons_zero, List.set_cons_succ, i64_w, i32_w]
                      rfl
                    refine pure_ (i := 8) (N := some 69) (v := ?_) (a' := ?_) #[true, true, true, true, false, false, false, false, true, false, false, false, false, false, false, false, false, false, false, false] rfl rfl (any_of HT_.out (by kernel_rfl)) (fun _ _ _ h => h) (Or.inl ⟨by rfl, ?_⟩) ?_ ?_
                    rotate_left
                    · intro w'
                      go_simp
                      with_reducible rfl
                    rotate_left
                    · simp only [Act.put, List.setIfInBounds_toArray, List.set_cons_zero, List.set_cons_succ, i64_w, i32_w]
                      rfl
                    refine take_ (i := 4) (N := some 65) (v := ?_) (a' := ?_) #[true, true, true, true, true, false, false, false, true, false, false, false, false, false, false, false, false, false, false, false] rfl rfl (take_ofW HT_.out HW_.out (by kernel_rfl)) (fun _ _ _ h => h) (Or.inl ⟨by rfl, ?_⟩) hHeld ?_ ?_
                    rotate_left
                    · rintro w' ⟨s0, s1⟩
                      go_simp
                      with_reducible rfl
                    rotate_left
                    · simp only [Act.put, List.setIfInBounds_toArray, List.set_cons_zero, List.set_cons_succ, i64_w, i32_w]
                      rfl
                    refine take_ (i := 6) (N := some 67) (v := ?_) (a' := ?_) #[true, true, true, true, true, false, true, false, true, false, false, false, false, false, false, false, false, false, false, false] rfl rfl (take_ofW HT_.out HW_.out (by kernel_rfl)) (fun _ _ _ h => h) (Or.inl ⟨by rfl, ?_⟩) hHeld ?_ ?_
                    rotate_left
                    · rintro w' ⟨s0, s1⟩
                      go_simp
                      with_reducible rfl
                    rotate_left
                    · simp only [Act.put, List.setIfInBounds_toArray, List.set_cons_zero, List.set_cons_succ, i64_w, i32_w]
                      rfl
                    refine one_ (i := 5) (N := some 66) #[true, true, true, true, true, true, true, false, true, false, false, false, false, false, false, false, false, false, false, false] rfl rfl (one_of HT_.out (by kernel_rfl)) (by decide) (fun K hK => ?_)
                    refine goes_ Try.func30 (by kernel_rfl) rfl #[.agg #[.slice Ao16 t299.length co16]] (by rfl) rfl rfl (by (try simp only [List.map_toArray, List.map_cons, List.map_nil]); first | done | rfl | (simp only [List.length_drop, List.length_take]; rfl)) ?_
                    with_reducible refine (histogram_Total.calls kj31 _ _ t299 t306 _ ?side1 ?side2 A41.out).mono ?_
                    (case side1 => repeat (first | exact (Kd.R_reads' HO_304000.out).2.2 | (with_reducible refine Kd.C_alloc ?_ _) | (with_reducible refine Kd.C_drewN ?_ _) | (with_reducible refine Kd.C_drew ?_)))
                    (case side2 => exact (Kd.R_reads' HO_304000.out).2.1)
                    rintro e w58 ⟨rfl, hb⟩
                    refine ⟨_, rfl, ?_⟩
                    have n0_ := Aside0.mk (Kd.R_below (by (with_reducible repeat (first | apply Kd.R_alloc | apply Kd.R_drewN | apply Kd.R_drew)); exact HO_299000.out) hb)
                    have n1_ := Aside0.mk (Kd.R_below (by (with_reducible repeat (first | apply Kd.R_alloc | apply Kd.R_drewN | apply Kd.R_drew)); exact HO_304000.out) hb)
                    have n2_ := Aside0.mk (blk_below (g := gb298) (o := .cells #[.slice Ao12 t295.length co12] 33 (0, 0)) (by (with_reducible repeat (first | refine blk_drewN ?_ _ | refine blk_drew ?_ | refine blk_alloc ?_ _)); exact BK298.out) hb)
                    have n3_ := Aside0.mk (blk_below (g := gb303) (o := .cells #[.slice Ao16 t299.length co16] 33 (0, 0)) (by (with_reducible repeat (first | refine blk_drewN ?_ _ | refine blk_drew ?_ | refine blk_alloc ?_ _)); exact BK303.out) hb)
                    have n4_ := Aside0.mk (below_step (by repeat (first | (with_reducible first | exact HB.out | apply below_alloc | apply pw_below_drewN | apply below_drew1 | refine below_set ?_ GE298.out | refine below_set ?_ GE303.out) | exact HB.out)) hb)
                    clear HO_299000
                    clear HO_304000
                    clear BK298
                    clear BK303
                    clear HB
                    have HO_299000 := n0_
                    have HO_304000 := n1_
                    have BK298 := n2_
                    have BK303 := n3_
                    have HB := n4_
                    clear n0_ n1_ n2_ n3_ n4_
                    (try clear hb)
                    (try clear hb2)
                    (try clear hk)
                    (try clear hi)
                    refine hK.out _ _ ⟨(blk_cell BK303.out 0).trans rfl, (blk_cell BK298.out 0).trans rfl⟩ (fun hHeld => ?_)
                    clear hK K
                    refine norm_ (a' := ?_) ?_ ?_
                    rotate_left
                    · show Act.put _ (some 66) _ = _
                      simp only [Act.put, List.setIfInBounds_toArray, List.set_cons_zero, List.set_cons_succ, i64_w, i32_w]
                      rfl
                    refine one_ (i := 7) (N := some 68) #[true, true, true, true, true, true, true, true, true, false, false, false, false, false, false, false, false, false, false, false] rfl rfl (one_of HT_.out (by kernel_rfl)) (by decide) (fun K hK => ?_)
                    refine goes_ Try.func30 (by kernel_rfl) rfl #[.agg #[.slice Ao12 t295.length co12]] (by rfl) rfl rfl (by (try simp only [List.map_toArray, List.map_cons, List.map_nil]); first | done | rfl | (simp only [List.length_drop, List.length_take]; rfl)) ?_
                    with_reducible refine (histogram_Total.calls kj31 _ _ t295 t307 _ ?side1 ?side2 A42.out).mono ?_
                    (case side1 => repeat (first | exact (Kd.R_reads' HO_299000.out).2.2 | (with_reducible refine Kd.C_alloc ?_ _) | (with_reducible refine Kd.C_drewN ?_ _) | (with_reducible refine Kd.C_drew ?_)))
                    (case side2 => exact (Kd.R_reads' HO_299000.out).2.1)
                    rintro e w59 ⟨rfl, hb⟩
                    refine ⟨_, rfl, ?_⟩
                    have n0_ := Aside0.mk (Kd.R_below (by (with_reducible repeat (first | apply Kd.R_alloc | apply Kd.R_drewN | apply Kd.R_drew)); exact HO_299000.out) hb)
                    have n1_ := Aside0.mk (Kd.R_below (by (with_reducible repeat (first | apply Kd.R_alloc | apply Kd.R_drewN | apply Kd.R_drew)); exact HO_304000.out) hb)
                    have n2_ := Aside0.mk (blk_below (g := gb298) (o := .cells #[.slice Ao12 t295.length co12] 33 (0, 0)) (by (with_reducible repeat (first | refine blk_drewN ?_ _ | refine blk_drew ?_ | refine blk_alloc ?_ _)); exact BK298.out) hb)
                    have n3_ := Aside0.mk (blk_below (g := gb303) (o := .cells #[.slice Ao16 t299.length co16] 33 (0, 0)) (by (with_reducible repeat (first | refine blk_drewN ?_ _ | refine blk_drew ?_ | refine blk_alloc ?_ _)); exact BK303.out) hb)
                    have n4_ := Aside0.mk (below_step (by repeat (first | (with_reducible first | exact HB.out | apply below_alloc | apply pw_below_drewN | apply below_drew1 | refine below_set ?_ GE298.out | refine below_set ?_ GE303.out) | exact HB.out)) hb)
                    clear HO_299000
                    clear HO_304000
                    clear BK298
                    clear BK303
                    clear HB
                    have HO_299000 := n0_
                    have HO_304000 := n1_
                    have BK298 := n2_
                    have BK303 := n3_
                    have HB := n4_
                    clear n0_ n1_ n2_ n3_ n4_
                    (try clear hb)
                    (try clear hb2)
                    (try clear hk)
                    (try clear hi)
                    refine hK.out _ _ ⟨(blk_cell BK303.out 0).trans rfl, (blk_cell BK298.out 0).trans rfl⟩ (fun hHeld => ?_)
                    clear hK K
                    refine norm_ (a' := ?_) ?_ ?_
                    rotate_left
                    · show Act.put _ (some 68) _ = _
                      simp only [Act.put, List.setIfInBounds_toArray, List.set_cons_zero, List.set_cons_succ, i64_w, i32_w]
                      rfl
                    refine pure_ (i := 9) (N := some 70) (v := ?_) (a' := ?_) #[true, true, true, true, true, true, true, true, true, true, false, false, false, false, false, false, false, false, false, false] rfl rfl (any_of HT_.out (by kernel_rfl)) (fun _ _ _ h => h) (Or.inl ⟨by rfl, ?_⟩) ?_ ?_
                    rotate_left
                    · intro w'
                      go_simp
                      with_reducible rfl
                    rotate_left
                    · simp only [Act.put, List.setIfInBounds_toArray, List.set_cons_zero, List.set_cons_succ, i64_w, i32_w]
                      rfl
                    refine pure_ (i := 10) (N := some 71) (v := ?_) (a' := ?_) #[true, true, true, true, true, true, true, true, true, true, true, false, false, false, false, false, false, false, false, false] rfl rfl (any_of HT_.out (by kernel_rfl)) (fun _ _ _ h => h) (Or.inl ⟨by rfl, ?_⟩) ?_ ?_
                    rotate_left
                    · intro w'
                      go_simp
                      with_reducible rfl
                    rotate_left
                    · simp only [Act.put, List.setIfInBounds_toArray, List.set_cons_zero, List.set_cons_succ, i64_w, i32_w]
                      rfl
                    refine pure_ (i := 11) (N := some 72) (v := ?_) (a' := ?_) #[true, true, true, true, true, true, true, true, true, true, true, true, false, false, false, false, false, false, false, false] rfl rfl (any_of HT_.out (by kernel_rfl)) (fun _ _ _ h => h) (Or.inl ⟨by rfl, ?_⟩) ?_ ?_
                    rotate_left
                    · intro w'
                      go_simp
                      with_reducible rfl
                    rotate_left
                    · simp only [Act.put, List.setIfInBounds_toArray, List.set_cons_zero, List.set_cons_succ, i64_w, i32_w]
                      rfl
                    refine pure_ (i := 12) (N := some 73) (v := ?_) (a' := ?_) #[true, true, true, true, true, true, true, true, true, true, true, true, true, false, false, false, false, false, false, false] rfl rfl (any_of HT_.out (by kernel_rfl)) (fun _ _ _ h => h) (Or.inl ⟨by rfl, ?_⟩) ?_ ?_
                    rotate_left
                    · intro w'
                      go_simp
                      with_reducible rfl
                    rotate_left
                    · simp only [Act.put, List.setIfInBounds_toArray, List.set_cons_zero, List.set_cons_succ, i64_w, i32_w]
                      rfl
                    refine pure_ (i := 13) (N := some 74) (v := undef) (a' := ?_) #[true, true, true, true, true, true, true, true, true, true, true, true, true, true, false, false, false, false, false, false] rfl rfl (any_of HT_.out (by kernel_rfl)) (fun _ _ _ h => h) (Or.inr ⟨by rfl, rfl⟩) ?_ ?_
                    rotate_left
                    · simp only [Act.put, List.setIfInBounds_toArray, List.set_cons_zero, List.set_cons_succ, i64_w, i32_w]
                      rfl
                    refine pure_ (i := 14) (N := some 75) (v := undef) (a' := ?_) #[true, true, true, true, true, true, true, true, true, true, true, true, true, true, true, false, false, false, false, false] rfl rfl (any_of HT_.out (by kernel_rfl)) (fun _ _ _ h => h) (Or.inr ⟨by rfl, rfl⟩) ?_ ?_
                    rotate_left
                    · simp only [Act.put, List.setIfInBounds_toArray, List.set_cons_zero, List.set_cons_succ, i64_w, i32_w]
                      rfl
                    refine pure_ (i := 15) (N := some 76) (v := undef) (a' := ?_) #[true, true, true, true, true, true, true, true, true, true, true, true, true, true, true, true, false, false, false, false] rfl rfl (any_of HT_.out (by kernel_rfl)) (fun _ _ _ h => h) (Or.inr ⟨by rfl, rfl⟩) ?_ ?_
                    rotate_left
                    · simp only [Act.put, List.setIfInBounds_toArray, List.set_cons_zero, List.set_cons_succ, i64_w, i32_w]
                      rfl
                    refine pure_ (i := 16) (N := some 77) (v := undef) (a' := ?_) #[true, true, true, true, true, true, true, true, true, true, true, true, true, true, true, true, true, false, false, false] rfl rfl (any_of HT_.out (by kernel_rfl)) (fun _ _ _ h => h) (Or.inr ⟨by rfl, rfl⟩) ?_ ?_
                    rotate_left
                    · simp only [Act.put, List.setIfInBounds_toArray, List.set_cons_zero, List.set_cons_succ, i64_w, i32_w]
                      rfl
                    refine pure_ (i := 17) (N := some 78) (v := undef) (a' := ?_) #[true, true, true, true, true, true, true, true, true, true, true, true, true, true, true, true, true, true, false, false] rfl rfl (any_of HT_.out (by kernel_rfl)) (fun _ _ _ h => h) (Or.inr ⟨by rfl, rfl⟩) ?_ ?_
                    rotate_left
                    · simp only [Act.put, List.setIfInBounds_toArray, List.set_cons_zero, List.set_cons_succ, i64_w, i32_w]
                      rfl
                    refine pure_ (i := 18) (N := some 79) (v := undef) (a' := ?_) #[true, true, true, true, true, true, true, true, true, true, true, true, true, true, true, true, true, true, true, false] rfl rfl (any_of HT_.out (by kernel_rfl)) (fun _ _ _ h => h) (Or.inr ⟨by rfl, rfl⟩) ?_ ?_
                    rotate_left
                    · simp only [Act.put, List.setIfInBounds_toArray, List.set_cons_zero, List.set_cons_succ, i64_w, i32_w]
                      rfl
                    refine pure_ (i := 19) (N := some 80) (v := ?_) (a' := ?_) #[true, true, true, true, true, true, true, true, true, true, true, true, true, true, true, true, true, true, true, true] rfl rfl (any_of HT_.out (by kernel_rfl)) (fun _ _ _ h => h) (Or.inl ⟨by rfl, ?_⟩) ?_ ?_
                    rotate_left
                    · intro w'
                      go_simp
                      with_reducible rfl
                    rotate_left
                    · simp only [Act.put, List.setIfInBounds_toArray, List.set_cons_zero, List.set_cons_succ, i64_w, i32_w]
                      rfl
                    refine done_ (done_of HT_.out (by kernel_rfl)) ?_
                    try go_wp2
                    go_meet
                    case rel => exact ⟨_, (true), (by first | rfl | (simp; done) | (simp [*]; done)), H', ⟨by have := HJ7.out; have := HJ31.out; first | omega | exact Nat.le_refl _⟩, ⟨by (with_reducible repeat (first | apply Kd.R_alloc | apply Kd.R_drewN | apply Kd.R_drew)); exact HO_299000.out⟩, ⟨by (with_reducible repeat (first | apply Kd.R_alloc | apply Kd.R_drewN | apply Kd.R_drew)); exact HO_304000.out⟩, ⟨by (with_reducible repeat (first | refine blk_drewN ?_ _ | refine blk_drew ?_ | refine blk_alloc ?_ _)); exact BK298.out⟩, ⟨by (with_reducible repeat (first | refine blk_drewN ?_ _ | refine blk_drew ?_ | refine blk_alloc ?_ _)); exact BK303.out⟩, ⟨by repeat (first | (with_reducible first | exact HB.out | apply below_alloc | apply pw_below_drewN | apply below_drew1 | refine below_set ?_ GE298.out | refine below_set ?_ GE303.out) | exact HB.out)⟩⟩
                · rw [if_neg c40] at H
                  have c40b0 : (t305 == 0) = false := beq_eq_false_iff_ne.mpr c40
                  have c40b1 : (t305 != 0) = true := bne_iff_ne.mpr c40
                  (first | rw [c40b0] | (simp only [i64_w, i32_w]; rw [c40b0]) | skip)
                  have H' := Aside0.mk H
                  clear H
                  try go_wp2
                  have n0_ := Aside0.mk (Kd.R_drew HO_299000.out)
                  have n1_ := Aside0.mk (Kd.R_drew HO_304000.out)
                  have n2_ := Aside0.mk (blk_drew BK298.out)
                  have n3_ := Aside0.mk (blk_drew BK303.out)
                  have n4_ := Aside0.mk (below_drew1 HB.out)
                  clear HO_299000
                  clear HO_304000
                  clear BK298
                  clear BK303
                  clear HB
                  have HO_299000 := n0_
                  have HO_304000 := n1_
                  have BK298 := n2_
                  have BK303 := n3_
                  have HB := n4_
                  clear n0_ n1_ n2_ n3_ n4_
                  refine start_ (n := 20) (S := fun w' => w'.cell? ⟨gb303, 0, none⟩ = some (.slice Ao16 t299.length co16)) (ds := []) #[false, false, false, false, false, false, false, false, false, false, false, false, false, false, false, false, false, false, false, false] (by kernel_rfl) rfl rfl ((blk_cell BK303.out 0).trans rfl) (fun hHeld => ?_); refine with_tabW sleuthlaw21_HistogramAdds.tab12 sleuthlaw21_HistogramAdds.bits12 (fun HT_ HW_ => ?_)
                  generalize wc.drew = w60 at HO_299000 HO_304000 BK298 BK303 HB hHeld ⊢
                  refine take_ (i := 0) (N := some 61) (v := ?_) (a' := ?_) #[true, false, false, false, false, false, false, false, false, false, false, false, false, false, false, false, false, false, false, false] rfl rfl (take_ofW HT_.out HW_.out (by kernel_rfl)) (fun _ _ _ h => h) (Or.inl ⟨by rfl, ?_⟩) hHeld ?_ ?_
                  rotate_left
                  · intro w' s0
                    go_simp
                    with_reducible rfl
                  rotate_left
                  · simp only [Act.put, List.setIfInBounds_toArray, List.set_cons_zero, List.set_cons_succ, i64_w, i32_w]
                    rfl
                  refine one_ (i := 1) (N := some 62) #[true, true, false, false, false, false, false, false, false, false, false, false, false, false, false, false, false, false, false, false] rfl rfl (one_of HT_.out (by kernel_rfl)) (by decide) (fun K hK => ?_)
                  refine goes_ Try.func24 (by kernel_rfl) rfl #[.agg #[.slice Ao16 t299.length co16]] (by rfl) rfl rfl (by (try simp only [List.map_toArray, List.map_cons, List.map_nil]); first | done | rfl | (simp only [List.length_drop, List.length_take]; rfl)) ?_
                  with_reducible refine (histogram_Check.calls kj31 _ _ t299 t305 _ ?side1 ?side2 A39.out).mono ?_
                  (case side1 => repeat (first | exact (Kd.R_reads' HO_304000.out).2.2 | (with_reducible refine Kd.C_alloc ?_ _) | (with_reducible refine Kd.C_drewN ?_ _) | (with_reducible refine Kd.C_drew ?_)))
                  (case side2 => exact (Kd.R_reads' HO_304000.out).2.1)
                  rintro e w61 ⟨rfl, hb⟩
                  refine ⟨_, rfl, ?_⟩
                  have n0_ := Aside0.mk (Kd.R_below (by (with_reducible repeat (first | apply Kd.R_alloc | apply Kd.R_drewN | apply Kd.R_drew)); exact HO_299000.out) hb)
                  have n1_ := Aside0.mk (Kd.R_below (by (with_reducible repeat (first | apply Kd.R_alloc | apply Kd.R_drewN | apply Kd.R_drew)); exact HO_304000.out) hb)
                  have n2_ := Aside0.mk (blk_below (g := gb298) (o := .cells #[.slice Ao12 t295.length co12] 33 (0, 0)) (by (with_reducible repeat (first | refine blk_drewN ?_ _ | refine blk_drew ?_ | refine blk_alloc ?_ _)); exact BK298.out) hb)
                  have n3_ := Aside0.mk (blk_below (g := gb303) (o := .cells #[.slice Ao16 t299.length co16] 33 (0, 0)) (by (with_reducible repeat (first | refine blk_drewN ?_ _ | refine blk_drew ?_ | refine blk_alloc ?_ _)); exact BK303.out) hb)
                  have n4_ := Aside0.mk (below_step (by repeat (first | (with_reducible first | exact HB.out | apply below_alloc | apply pw_below_drewN | apply below_drew1 | refine below_set ?_ GE298.out | refine below_set ?_ GE303.out) | exact HB.out)) hb)
                  clear HO_299000
                  clear HO_304000
                  clear BK298
                  clear BK303
                  clear HB
                  have HO_299000 := n0_
                  have HO_304000 := n1_
                  have BK298 := n2_
                  have BK303 := n3_
                  have HB := n4_
                  clear n0_ n1_ n2_ n3_ n4_
                  (try clear hb)
                  (try clear hb2)
                  (try clear hk)
                  (try clear hi)
                  refine hK.out _ _ ((blk_cell BK303.out 0).trans rfl) (fun hHeld => ?_)
                  clear hK K
                  refine norm_ (a' := ?_) ?_ ?_
                  rotate_left
                  · show Act.put _ (some 62) _ = _
                    simp only [Act.put, List.setIfInBounds_toArray, List.set_cons_zero, List.set_cons_succ, i64_w, i32_w]
                    rfl
                  refine pure_ (i := 2) (N := some 63) (v := ?_) (a' := ?_) #[true, true, true, false, false, false, false, false, false, false, false, false, false, false, false, false, false, false, false, false] rfl rfl (any_of HT_.out (by kernel_rfl)) (fun _ _ _ h => h) (Or.inl ⟨by rfl, ?_⟩) ?_ ?_
                  rotate_left
                  · intro w'
                    go_simp
                    with_reducible rfl
                  rotate_left
                  · simp only [Act.put, List.setIfInBounds_toArray, List.set_cons_zero, List.set_cons_succ, i64_w, i32_w]
                    rfl
                  refine pure_ (i := 3) (N := some 64) (v := ?_) (a' := ?_) #[true, true, true, true, false, false, false, false, false, false, false, false, false, false, false, false, false, false, false, false] rfl rfl (any_of HT_.out (by kernel_rfl)) (fun _ _ _ h => h) (Or.inl ⟨by rfl, ?_⟩) ?_ ?_
                  rotate_left
                  · intro w'
                    go_simp
                    with_reducible rfl
                  rotate_left
                  · simp only [Act.put, List.setIfInBounds_toArray, List.set_cons_zero, List.set_cons_succ, i64_w, i32_w]
                    rfl
                  refine pure_ (i := 4) (N := some 65) (v := undef) (a' := ?_) #[true, true, true, true, true, false, false, false, false, false, false, false, false, false, false, false, false, false, false, false] rfl rfl (any_of HT_.out (by kernel_rfl)) (fun _ _ _ h => h) (Or.inr ⟨by rfl, rfl⟩) ?_ ?_
                  rotate_left
                  · simp only [Act.put, List.setIfInBounds_toArray, List.set_cons_zero, List.set_cons_succ, i64_w, i32_w]
                    rfl
                  refine pure_ (i := 5) (N := some 66) (v := undef) (a' := ?_) #[true, true, true, true, true, true, false, false, false, false, false, false, false, false, false, false, false, false, false, false] rfl rfl (any_of HT_.out (by kernel_rfl)) (fun _ _ _ h => h) (Or.inr ⟨by rfl, rfl⟩) ?_ ?_
                  rotate_left
                  · simp only [Act.put, List.setIfInBounds_toArray, List.set_cons_zero, List.set_cons_succ, i64_w, i32_w]
                    rfl
                  refine pure_ (i := 6) (N := some 67) (v := undef) (a' := ?_) #[true, true, true, true, true, true, true, false, false, false, false, false, false, false, false, false, false, false, false, false] rfl rfl (any_of HT_.out (by kernel_rfl)) (fun _ _ _ h => h) (Or.inr ⟨by rfl, rfl⟩) ?_ ?_
                  rotate_left
                  · simp only [Act.put, List.setIfInBounds_toArray, List.set_cons_zero, List.set_cons_succ, i64_w, i32_w]
                    rfl
                  refine pure_ (i := 7) (N := some 68) (v := undef) (a' := ?_) #[true, true, true, true, true, true, true, true, false, false, false, false, false, false, false, false, false, false, false, false] rfl rfl (any_of HT_.out (by kernel_rfl)) (fun _ _ _ h => h) (Or.inr ⟨by rfl, rfl⟩) ?_ ?_
                  rotate_left
                  · simp only [Act.put, List.setIfInBounds_toArray, List.set_cons_zero, List.set_cons_succ, i64_w, i32_w]
                    rfl
                  refine pure_ (i := 8) (N := some 69) (v := undef) (a' := ?_) #[true, true, true, true, true, true, true, true, true, false, false, false, false, false, false, false, false, false, false, false] rfl rfl (any_of HT_.out (by kernel_rfl)) (fun _ _ _ h => h) (Or.inr ⟨by rfl, rfl⟩) ?_ ?_
                  rotate_left
                  · simp only [Act.put, List.setIfInBounds_toArray, List.set_cons_zero, List.set_cons_succ, i64_w, i32_w]
                    rfl
                  refine pure_ (i := 9) (N := some 70) (v := undef) (a' := ?_) #[true, true, true, true, true, true, true, true, true, true, false, false, false, false, false, false, false, false, false, false] rfl rfl (any_of HT_.out (by kernel_rfl)) (fun _ _ _ h => h) (Or.inr ⟨by rfl, rfl⟩) ?_ ?_
                  rotate_left
                  · simp only [Act.put, List.setIfInBounds_toArray, List.set_cons_zero, List.set_cons_succ, i64_w, i32_w]
                    rfl
                  refine pure_ (i := 10) (N := some 71) (v := undef) (a' := ?_) #[true, true, true, true, true, true, true, true, true, true, true, false, false, false, false, false, false, false, false, false] rfl rfl (any_of HT_.out (by kernel_rfl)) (fun _ _ _ h => h) (Or.inr ⟨by rfl, rfl⟩) ?_ ?_
                  rotate_left
                  · simp only [Act.put, List.setIfInBounds_toArray, List.set_cons_zero, List.set_cons_succ, i64_w, i32_w]
                    rfl
                  refine pure_ (i := 11) (N := some 72) (v := ?_) (a' := ?_) #[true, true, true, true, true, true, true, true, true, true, true, true, false, false, false, false, false, false, false, false] rfl rfl (any_of HT_.out (by kernel_rfl)) (fun _ _ _ h => h) (Or.inl ⟨by rfl, ?_⟩) ?_ ?_
                  rotate_left
                  · intro w'
                    go_simp
                    with_reducible rfl
                  rotate_left
                  · simp only [Act.put, List.setIfInBounds_toArray, List.set_cons_zero, List.set_cons_succ, i64_w, i32_w]
                    rfl
                  refine pure_ (i := 12) (N := some 73) (v := ?_) (a' := ?_) #[true, true, true, true, true, true, true, true, true, true, true, true, true, false, false, false, false, false, false, false] rfl rfl (any_of HT_.out (by kernel_rfl)) (fun _ _ _ h => h) (Or.inl ⟨by rfl, ?_⟩) ?_ ?_
                  rotate_left
                  · intro w'
                    go_simp
                    with_reducible rfl
                  rotate_left
                  · simp only [Act.put, List.setIfInBounds_toArray, List.set_cons_zero, List.set_cons_succ, i64_w, i32_w]
                    rfl
                  refine pure_ (i := 13) (N := some 74) (v := undef) (a' := ?_) #[true, true, true, true, true, true, true, true, true, true, true, true, true, true, false, false, false, false, false, false] rfl rfl (any_of HT_.out (by kernel_rfl)) (fun _ _ _ h => h) (Or.inr ⟨by rfl, rfl⟩) ?_ ?_
                  rotate_left
                  · simp only [Act.put, List.setIfInBounds_toArray, List.set_cons_zero, List.set_cons_succ, i64_w, i32_w]
                    rfl
                  refine pure_ (i := 14) (N := some 75) (v := undef) (a' := ?_) #[true, true, true, true, true, true, true, true, true, true, true, true, true, true, true, false, false, false, false, false] rfl rfl (any_of HT_.out (by kernel_rfl)) (fun _ _ _ h => h) (Or.inr ⟨by rfl, rfl⟩) ?_ ?_
                  rotate_left
                  · simp only [Act.put, List.setIfInBounds_toArray, List.set_cons_zero, List.set_cons_succ, i64_w, i32_w]
                    rfl
                  refine pure_ (i := 15) (N := some 76) (v := undef) (a' := ?_) #[true, true, true, true, true, true, true, true, true, true, true, true, true, true, true, true, false, false, false, false] rfl rfl (any_of HT_.out (by kernel_rfl)) (fun _ _ _ h => h) (Or.inr ⟨by rfl, rfl⟩) ?_ ?_
                  rotate_left
                  · simp only [Act.put, List.setIfInBounds_toArray, List.set_cons_zero, List.set_cons_succ, i64_w, i32_w]
                    rfl
                  refine pure_ (i := 16) (N := some 77) (v := undef) (a' := ?_) #[true, true, true, true, true, true, true, true, true, true, true, true, true, true, true, true, true, false, false, false] rfl rfl (any_of HT_.out (by kernel_rfl)) (fun _ _ _ h => h) (Or.inr ⟨by rfl, rfl⟩) ?_ ?_
                  rotate_left
                  · simp only [Act.put, List.setIfInBounds_toArray, List.set_cons_zero, List.set_cons_succ, i64_w, i32_w]
                    rfl
                  refine pure_ (i := 17) (N := some 78) (v := undef) (a' := ?_) #[true, true, true, true, true, true, true, true, true, true, true, true, true, true, true, true, true, true, false, false] rfl rfl (any_of HT_.out (by kernel_rfl)) (fun _ _ _ h => h) (Or.inr ⟨by rfl, rfl⟩) ?_ ?_
                  rotate_left
                  · simp only [Act.put, List.setIfInBounds_toArray, List.set_cons_zero, List.set_cons_succ, i64_w, i32_w]
                    rfl
                  refine pure_ (i := 18) (N := some 79) (v := undef) (a' := ?_) #[true, true, true, true, true, true, true, true, true, true, true, true, true, true, true, true, true, true, true, false] rfl rfl (any_of HT_.out (by kernel_rfl)) (fun _ _ _ h => h) (Or.inr ⟨by rfl, rfl⟩) ?_ ?_
                  rotate_left
                  · simp only [Act.put, List.setIfInBounds_toArray, List.set_cons_zero, List.set_cons_succ, i64_w, i32_w]
                    rfl
                  refine pure_ (i := 19) (N := some 80) (v := ?_) (a' := ?_) #[true, true, true, true, true, true, true, true, true, true, true, true, true, true, true, true, true, true, true, true] rfl rfl (any_of HT_.out (by kernel_rfl)) (fun _ _ _ h => h) (Or.inl ⟨by rfl, ?_⟩) ?_ ?_
                  rotate_left
                  · intro w'
                    go_simp
                    with_reducible rfl
                  rotate_left
                  · simp only [Act.put, List.setIfInBounds_toArray, List.set_cons_zero, List.set_cons_succ, i64_w, i32_w]
                    rfl
                  refine done_ (done_of HT_.out (by kernel_rfl)) ?_
                  try go_wp2
                  go_meet
                  case rel => exact ⟨_, (true), (by first | rfl | (simp; done) | (simp [*]; done)), H', ⟨by have := HJ7.out; have := HJ31.out; first | omega | exact Nat.le_refl _⟩, ⟨by (with_reducible repeat (first | apply Kd.R_alloc | apply Kd.R_drewN | apply Kd.R_drew)); exact HO_299000.out⟩, ⟨by (with_reducible repeat (first | apply Kd.R_alloc | apply Kd.R_drewN | apply Kd.R_drew)); exact HO_304000.out⟩, ⟨by (with_reducible repeat (first | refine blk_drewN ?_ _ | refine blk_drew ?_ | refine blk_alloc ?_ _)); exact BK298.out⟩, ⟨by (with_reducible repeat (first | refine blk_drewN ?_ _ | refine blk_drew ?_ | refine blk_alloc ?_ _)); exact BK303.out⟩, ⟨by repeat (first | (with_reducible first | exact HB.out | apply below_alloc | apply pw_below_drewN | apply below_drew1 | refine below_set ?_ GE298.out | refine below_set ?_ GE303.out) | exact HB.out)⟩⟩
              case rest =>
                clear HC38
                try clear c1
                try clear c2
                try clear p2
                try clear c3
                try clear c4
                try clear p6
                try clear c19
                try clear c24
                try clear c28
                try clear c29
                try clear c30
                try clear c40
                try clear c40b0
                try clear c40b1
                try clear c43
                try clear c43b0
                try clear c43b1
                obtain ⟨kq, x80_37, rfl, HA, HJ37, HO_299000, HO_304000, BK298, BK303, HB⟩ := hcut
                cases kq with
                | zero => exact absurd HA.out (by simp [sleuthlaw21_HistogramAdds.j3])
                | succ kj37 =>
                  have H := HA.out
                  clear HA
                  simp only [sleuthlaw21_HistogramAdds.j3] at H
                  by_cases c62 : x80_37 = true
                  · subst c62
                    have H1 : (some false) = some r := by rw [if_pos rfl] at H; exact H
                    clear H
                    have H := H1
                    clear H1
                    obtain rfl := Option.some.inj H
                    go_wp2
                    go_ret
                    exact ⟨by first | rfl | (simp [errW_none, errW_some] <;> rfl) | (simp [*, errW_none, errW_some] <;> rfl), by repeat (first | (with_reducible first | exact HB.out | apply below_alloc | apply pw_below_drewN | apply below_drew1 | refine below_set ?_ GE298.out | refine below_set ?_ GE303.out) | exact HB.out)⟩
                  · replace c62 := Bool.eq_false_iff.mpr c62
                    subst c62
                    have H1 : (sleuthlaw21_HistogramAdds.l0 kj37 a1 a2 0 t295 t299) = some r := by rw [if_neg (show ¬ (false = true) by decide)] at H; exact H
                    clear H
                    have H := H1
                    clear H1
                    have H' := Aside0.mk H
                    clear H
                    go_wp2
                    go_loopg [11] kj37 (fun kq v11 w' => ∃ (x11_4 : Int), v11 = .int .i64 x11_4 ∧ Aside0 (sleuthlaw21_HistogramAdds.l0 kq a1 a2 x11_4 t295 t299 = some r) ∧ Aside0 (kq ≤ kj37) ∧ Aside0 (Kd.R k67 67 w' w.heap.size (fun k_ => some k_ ≠ ((.slice Ao16 t299.length co16) : Value).ownBlock) (.slice Ao12 t295.length co12) t295) ∧ Aside0 (Kd.R k67 67 w' w.heap.size (fun k_ => some k_ ≠ ((.slice Ao12 t295.length co12) : Value).ownBlock) (.slice Ao16 t299.length co16) t299) ∧ Aside0 (w'.heap[gb298]? = some (.cells #[(.slice Ao12 t295.length co12)] 33 (0, 0))) ∧ Aside0 (w'.heap[gb303]? = some (.cells #[(.slice Ao16 t299.length co16)] 33 (0, 0))) ∧ Aside0 (Below w.heap.size w w'))
                    case atStart => exact ⟨(0), (by first | rfl | (simp; done) | (simp [*]; done)), H', ⟨Nat.le_refl _⟩, ⟨by (with_reducible repeat (first | apply Kd.R_alloc | apply Kd.R_drewN | apply Kd.R_drew)); exact HO_299000.out⟩, ⟨by (with_reducible repeat (first | apply Kd.R_alloc | apply Kd.R_drewN | apply Kd.R_drew)); exact HO_304000.out⟩, ⟨by (with_reducible repeat (first | refine blk_drewN ?_ _ | refine blk_drew ?_ | refine blk_alloc ?_ _)); exact BK298.out⟩, ⟨by (with_reducible repeat (first | refine blk_drewN ?_ _ | refine blk_drew ?_ | refine blk_alloc ?_ _)); exact BK303.out⟩, ⟨by repeat (first | (with_reducible first | exact HB.out | apply below_alloc | apply pw_below_drewN | apply below_drew1 | refine below_set ?_ GE298.out | refine below_set ?_ GE303.out) | exact HB.out)⟩⟩
                    case round =>
                      clear H'
                      try clear c1
                      try clear c2
                      try clear p2
                      try clear c3
                      try clear c4
                      try clear c6
                      try clear p6
                      try clear c19
                      try clear c24
                      try clear c28
                      try clear c29
                      try clear c30
                      try clear c40
                      try clear c40b0
                      try clear c40b1
                      try clear c43
                      try clear c43b0
                      try clear c43b1
                      try clear c62
                      try clear p2
                      try clear p6
                      obtain ⟨x11_4, rfl, HA, HK4, HO_299000, HO_304000, BK298, BK303, HB⟩ := hrel
                      cases gk with
                      | zero => exact absurd HA.out (by simp [sleuthlaw21_HistogramAdds.l0])
                      | succ k4 =>
                        have H := HA.out
                        clear HA
                        simp only [sleuthlaw21_HistogramAdds.l0] at H
                        by_cases c63 : x11_4 < 305
                        · rw [if_pos c63] at H
                          have c63b0 : decide (x11_4 < 305) = true := decide_eq_true c63
                          clear c63
                          replace H := Option.bind_eq_some_iff.mp H
                          obtain ⟨t315, A640, H⟩ := H
                          replace H : (if x11_4 = t315 then (sleuthlaw21_HistogramAdds.j5 k4 a1 a2 x11_4 a2 t295 t299) else (sleuthlaw21_HistogramAdds.j5 k4 a1 a2 x11_4 0 t295 t299)) = some r := H
                          have A64 := Aside0.mk A640
                          clear A640
                          have HC65 := Aside0.mk H
                          clear H
                          go_upto_if 88 with (first | ((with_reducible refine gate_callee (f := 15) rfl ?_); refine goesL_ (some 87) rfl rfl Try.func15 (by kernel_rfl) rfl #[.int .i64 a1] rfl (by (try simp only [List.map_toArray, List.map_cons, List.map_nil]); first | done | rfl | (simp only [List.length_drop, List.length_take]; rfl)) ?_; (with_reducible refine (sleuthlaw21_index.calls k4 a1 t315 _ A64.out).mono ?_); rintro e w' ⟨rfl, ⟨nd, rfl⟩⟩; refine ⟨_, rfl, ?_⟩))
                          (try simp only [Act.put, List.setIfInBounds_toArray, List.set_cons_zero, List.set_cons_succ])
                          go_cut [12] (fun v12 wc => ∃ (kq : Nat) (x12_64 : Int), v12 = .int .i64 x12_64 ∧ Aside0 (sleuthlaw21_HistogramAdds.j5 kq a1 a2 x11_4 x12_64 t295 t299 = some r) ∧ Aside0 (kq ≤ k4) ∧ Aside0 (Kd.R k67 67 wc w.heap.size (fun k_ => some k_ ≠ ((.slice Ao16 t299.length co16) : Value).ownBlock) (.slice Ao12 t295.length co12) t295) ∧ Aside0 (Kd.R k67 67 wc w.heap.size (fun k_ => some k_ ≠ ((.slice Ao12 t295.length co12) : Value).ownBlock) (.slice Ao16 t299.length co16) t299) ∧ Aside0 (wc.heap[gb298]? = some (.cells #[(.slice Ao12 t295.length co12)] 33 (0, 0))) ∧ Aside0 (wc.heap[gb303]? = some (.cells #[(.slice Ao16 t299.length co16)] 33 (0, 0))) ∧ Aside0 (Below w.heap.size w wc))
                          case first =>
                            have H := HC65.out
                            clear HC65
                            by_cases c66 : x11_4 = t315
                            · rw [if_pos c66] at H
                              have c66b0 : (x11_4 == t315) = true := beq_iff_eq.mpr c66
                              have c66b1 : (x11_4 != t315) = false := bne_eq_false_iff_eq.mpr c66
                              clear c66
                              (first | rw [c66b0] | (simp only [i64_w, i32_w]; rw [c66b0]) | skip)
                              have H' := Aside0.mk H
                              clear H
                              go_wp2
                              go_meet
                              case rel => exact ⟨_, (a2), (by first | rfl | (simp; done) | (simp [*]; done)), H', ⟨by have := HJ7.out; have := HJ31.out; have := HJ37.out; have := HK4.out; first | omega | exact Nat.le_refl _⟩, ⟨by (with_reducible repeat (first | apply Kd.R_alloc | apply Kd.R_drewN | apply Kd.R_drew)); exact HO_299000.out⟩, ⟨by (with_reducible repeat (first | apply Kd.R_alloc | apply Kd.R_drewN | apply Kd.R_drew)); exact HO_304000.out⟩, ⟨by (with_reducible repeat (first | refine blk_drewN ?_ _ | refine blk_drew ?_ | refine blk_alloc ?_ _)); exact BK298.out⟩, ⟨by (with_reducible repeat (first | refine blk_drewN ?_ _ | refine blk_drew ?_ | refine blk_alloc ?_ _)); exact BK303.out⟩, ⟨by repeat (first | (with_reducible first | exact HB.out | apply below_alloc | apply pw_below_drewN | apply below_drew1 | refine below_set ?_ GE298.out | refine below_set ?_ GE303.out) | exact HB.out)⟩⟩
                            · rw [if_neg c66] at H
                              have c66b0 : (x11_4 == t315) = false := beq_eq_false_iff_ne.mpr c66
                              have c66b1 : (x11_4 != t315) = true := bne_iff_ne.mpr c66
                              (first | rw [c66b0] | (simp only [i64_w, i32_w]; rw [c66b0]) | skip)
                              have H' := Aside0.mk H
                              clear H
                              go_wp2
                              go_meet
                              case rel => exact ⟨_, (0), (by first | rfl | (simp; done) | (simp [*]; done)), H', ⟨by have := HJ7.out; have := HJ31.out; have := HJ37.out; have := HK4.out; first | omega | exact Nat.le_refl _⟩, ⟨by (with_reducible repeat (first | apply Kd.R_alloc | apply Kd.R_drewN | apply Kd.R_drew)); exact HO_299000.out⟩, ⟨by (with_reducible repeat (first | apply Kd.R_alloc | apply Kd.R_drewN | apply Kd.R_drew)); exact HO_304000.out⟩, ⟨by (with_reducible repeat (first | refine blk_drewN ?_ _ | refine blk_drew ?_ | refine blk_alloc ?_ _)); exact BK298.out⟩, ⟨by (with_reducible repeat (first | refine blk_drewN ?_ _ | refine blk_drew ?_ | refine blk_alloc ?_ _)); exact BK303.out⟩, ⟨by repeat (first | (with_reducible first | exact HB.out | apply below_alloc | apply pw_below_drewN | apply below_drew1 | refine below_set ?_ GE298.out | refine below_set ?_ GE303.out) | exact HB.out)⟩⟩
                          case rest =>
                            clear HC65
                            try clear c1
                            try clear c2
                            try clear p2
                            try clear c3
                            try clear c4
                            try clear c6
                            try clear p6
                            try clear c15
                            try clear c19
                            try clear c24
                            try clear c28
                            try clear c29
                            try clear c30
                            try clear c40
                            try clear c40b0
                            try clear c40b1
                            try clear c43
                            try clear c43b0
                            try clear c43b1
                            try clear c62
                            try clear c63
                            try clear c63b0
                            try clear p64
                            try clear c66
                            try clear c66b0
                            try clear c66b1
                            try clear p2
                            try clear p6
                            obtain ⟨kq, x12_64, rfl, HA, HJ64, HO_299000, HO_304000, BK298, BK303, HB⟩ := hcut
                            cases kq with
                            | zero => exact absurd HA.out (by simp [sleuthlaw21_HistogramAdds.j5])
                            | succ kj64 =>
                              have H := HA.out
                              clear HA
                              simp only [sleuthlaw21_HistogramAdds.j5] at H
                              replace H := Option.bind_eq_some_iff.mp H
                              obtain ⟨t316, A670, H⟩ := H
                              replace H : ((sleuthlaw21_at.f kj64 t295 x11_4).bind fun t317 => (if t316 = (wrap64 (t317 + x12_64)) then (sleuthlaw21_HistogramAdds.l0 kj64 a1 a2 (wrap64 (x11_4 + 1)) t295 t299) else (some false))) = some r := H
                              have A67 := Aside0.mk A670
                              clear A670
                              replace H := Option.bind_eq_some_iff.mp H
                              obtain ⟨t317, A680, H⟩ := H
                              replace H : (if t316 = (wrap64 (t317 + x12_64)) then (sleuthlaw21_HistogramAdds.l0 kj64 a1 a2 (wrap64 (x11_4 + 1)) t295 t299) else (some false)) = some r := H
                              have A68 := Aside0.mk A680
                              clear A680
                              by_cases c69 : t316 = (wrap64 (t317 + x12_64))
                              · rw [if_pos c69] at H
                                have c69b0 : (t316 == (wrap64 (t317 + x12_64))) = true := beq_iff_eq.mpr c69
                                have c69b1 : (t316 != (wrap64 (t317 + x12_64))) = false := bne_eq_false_iff_eq.mpr c69
                                clear c69
                                have H' := Aside0.mk H
                                clear H
                                try go_wp2
                                have n0_ := Aside0.mk (Kd.R_drew HO_299000.out)
                                have n1_ := Aside0.mk (Kd.R_drew HO_304000.out)
                                have n2_ := Aside0.mk (blk_drew BK298.out)
                                have n3_ := Aside0.mk (blk_drew BK303.out)
                                have n4_ := Aside0.mk (below_drew1 HB.out)
                                clear HO_299000
                                clear HO_304000
                                clear BK298
                                clear BK303
                                clear HB
                                have HO_299000 := n0_
                                have HO_304000 := n1_
                                have BK298 := n2_
                                have BK303 := n3_
                                have HB := n4_
                                clear n0_ n1_ n2_ n3_ n4_
                                refine start_ (n := 9) (S := fun w' => w'.cell? ⟨gb303, 0, none⟩ = some (.slice Ao16 t299.length co16) ∧ w'.cell? ⟨gb298, 0, none⟩ = some (.slice Ao12 t295.length co12)) (ds := []) #[false, false, false, false, false, false, false, false, false] (by kernel_rfl) rfl rfl ⟨(blk_cell BK303.out 0).trans rfl, (blk_cell BK298.out 0).trans rfl⟩ (fun hHeld => ?_); refine with_tabW sleuthlaw21_HistogramAdds.tab20 sleuthlaw21_HistogramAdds.bits20 (fun HT_ HW_ => ?_)
                                generalize wc.drew = w70 at HO_299000 HO_304000 BK298 BK303 HB hHeld ⊢
                                refine pure_ (i := 1) (N := some 91) (v := ?_) (a' := ?_) #[false, true, false, false, false, false, false, false, false] rfl rfl (any_of HT_.out (by kernel_rfl)) (fun _ _ _ h => h) (Or.inl ⟨by rfl, ?_⟩) ?_ ?_
                                rotate_left
                                · intro w'
                                  go_simp
                                  with_reducible rfl
                                rotate_left
                                · simp only [Act.put, List.setIfInBounds_toArray, List.set_cons_zero, List.set_cons_succ, i64_w, i32_w]
                                  rfl
                                refine pure_ (i := 4) (N := some 94) (v := ?_) (a' := ?_) #[false, true, false, false, true, false, false, false, false] rfl rfl (any_of HT_.out (by kernel_rfl)) (fun _ _ _ h => h) (Or.inl ⟨by rfl, ?_⟩) ?_ ?_
                                rotate_left
                                · intro w'
                                  go_simp
                                  with_reducible rfl
                                rotate_left
                                · simp only [Act.put, List.setIfInBounds_toArray, List.set_cons_zero, List.set_cons_succ, i64_w, i32_w]
                                  rfl
                                refine pure_ (i := 6) (N := some 96) (v := ?_) (a' := ?_) #[false, true, false, false, true, false, true, false, false] rfl rfl (any_of HT_.out (by kernel_rfl)) (fun _ _ _ h => h) (Or.inl ⟨by rfl, ?_⟩) ?_ ?_
                                rotate_left
                                · intro w'
                                  go_simp
                                  with_reducible rfl
                                rotate_left
                                · simp only [Act.put, List.setIfInBounds_toArray, List.set_cons_zero, List.set_cons_succ, i64_w, i32_w]
                                  rfl
                                refine take_ (i := 0) (N := some 90) (v := ?_) (a' := ?_) #[true, true, false, false, true, false, true, false, false] rfl rfl (take_ofW HT_.out HW_.out (by kernel_rfl)) (fun _ _ _ h => h) (Or.inl ⟨by rfl, ?_⟩) hHeld ?_ ?_
                                rotate_left
                                · rintro w' ⟨s0, s1⟩
                                  go_simp
                                  with_reducible rfl
                                rotate_left
                                · simp only [Act.put, List.setIfInBounds_toArray, List.set_cons_zero, List.set_cons_succ, i64_w, i32_w]
                                  rfl
                                refine take_ (i := 3) (N := some 93) (v := ?_) (a' := ?_) #[true, true, false, true, true, false, true, false, false] rfl rfl (take_ofW HT_.out HW_.out (by kernel_rfl)) (fun _ _ _ h => h) (Or.inl ⟨by rfl, ?_⟩) hHeld ?_ ?_
                                rotate_left
                                · rintro w' ⟨s0, s1⟩
                                  go_simp
                                  with_reducible rfl
                                rotate_left
                                · simp only [Act.put, List.setIfInBounds_toArray, List.set_cons_zero, List.set_cons_succ, i64_w, i32_w]
                                  rfl
                                refine one_ (i := 2) (N := some 92) #[true, true, true, true, true, false, true, false, false] rfl rfl (one_of HT_.out (by kernel_rfl)) (by decide) (fun K hK => ?_)
                                refine goes_ Try.func32 (by kernel_rfl) rfl #[.agg #[.slice Ao16 t299.length co16], .int .i64 x11_4] (by rfl) rfl rfl (by (try simp only [List.map_toArray, List.map_cons, List.map_nil]); first | done | rfl | (simp only [List.length_drop, List.length_take]; rfl)) ?_
                                with_reducible refine (sleuthlaw21_at.calls kj64 _ _ t299 x11_4 t316 _ ?side1 ?side2 A67.out).mono ?_
                                (case side1 => repeat (first | exact (Kd.R_reads' HO_304000.out).2.2 | (with_reducible refine Kd.C_alloc ?_ _) | (with_reducible refine Kd.C_drewN ?_ _) | (with_reducible refine Kd.C_drew ?_)))
                                (case side2 => exact (Kd.R_reads' HO_304000.out).2.1)
                                rintro e w71 ⟨rfl, hb⟩
                                refine ⟨_, rfl, ?_⟩
                                have n0_ := Aside0.mk (Kd.R_below (by (with_reducible repeat (first | apply Kd.R_alloc | apply Kd.R_drewN | apply Kd.R_drew)); exact HO_299000.out) hb)
                                have n1_ := Aside0.mk (Kd.R_below (by (with_reducible repeat (first | apply Kd.R_alloc | apply Kd.R_drewN | apply Kd.R_drew)); exact HO_304000.out) hb)
                                have n2_ := Aside0.mk (blk_below (g := gb298) (o := .cells #[.slice Ao12 t295.length co12] 33 (0, 0)) (by (with_reducible repeat (first | refine blk_drewN ?_ _ | refine blk_drew ?_ | refine blk_alloc ?_ _)); exact BK298.out) hb)
                                have n3_ := Aside0.mk (blk_below (g := gb303) (o := .cells #[.slice Ao16 t299.length co16] 33 (0, 0)) (by (with_reducible repeat (first | refine blk_drewN ?_ _ | refine blk_drew ?_ | refine blk_alloc ?_ _)); exact BK303.out) hb)
                                have n4_ := Aside0.mk (below_step (by repeat (first | (with_reducible first | exact HB.out | apply below_alloc | apply pw_below_drewN | apply below_drew1 | refine below_set ?_ GE298.out | refine below_set ?_ GE303.out) | exact HB.out)) hb)
                                clear HO_299000
                                clear HO_304000
                                clear BK298
                                clear BK303
                                clear HB
                                have HO_299000 := n0_
                                have HO_304000 := n1_
                                have BK298 := n2_
                                have BK303 := n3_
                                have HB := n4_
                                clear n0_ n1_ n2_ n3_ n4_
                                (try clear hb)
                                (try clear hb2)
                                (try clear hk)
                                (try clear hi)
                                refine hK.out _ _ ⟨(blk_cell BK303.out 0).trans rfl, (blk_cell BK298.out 0).trans rfl⟩ (fun hHeld => ?_)
                                clear hK K
                                refine norm_ (a' := ?_) ?_ ?_
                                rotate_left
                                · show Act.put _ (some 92) _ = _
                                  simp only [Act.put, List.setIfInBounds_toArray, List.set_cons_zero, List.set_cons_succ, i64_w, i32_w]
                                  rfl
                                refine one_ (i := 5) (N := some 95) #[true, true, true, true, true, true, true, false, false] rfl rfl (one_of HT_.out (by kernel_rfl)) (by decide) (fun K hK => ?_)
                                refine goes_ Try.func32 (by kernel_rfl) rfl #[.agg #[.slice Ao12 t295.length co12], .int .i64 x11_4] (by rfl) rfl rfl (by (try simp only [List.map_toArray, List.map_cons, List.map_nil]); first | done | rfl | (simp only [List.length_drop, List.length_take]; rfl)) ?_
                                with_reducible refine (sleuthlaw21_at.calls kj64 _ _ t295 x11_4 t317 _ ?side1 ?side2 A68.out).mono ?_
                                (case side1 => repeat (first | exact (Kd.R_reads' HO_299000.out).2.2 | (with_reducible refine Kd.C_alloc ?_ _) | (with_reducible refine Kd.C_drewN ?_ _) | (with_reducible refine Kd.C_drew ?_)))
                                (case side2 => exact (Kd.R_reads' HO_299000.out).2.1)
                                rintro e w72 ⟨rfl, hb⟩
                                refine ⟨_, rfl, ?_⟩
                                have n0_ := Aside0.mk (Kd.R_below (by (with_reducible repeat (first | apply Kd.R_alloc | apply Kd.R_drewN | apply Kd.R_drew)); exact HO_299000.out) hb)
                                have n1_ := Aside0.mk (Kd.R_below (by (with_reducible repeat (first | apply Kd.R_alloc | apply Kd.R_drewN | apply Kd.R_drew)); exact HO_304000.out) hb)
                                have n2_ := Aside0.mk (blk_below (g := gb298) (o := .cells #[.slice Ao12 t295.length co12] 33 (0, 0)) (by (with_reducible repeat (first | refine blk_drewN ?_ _ | refine blk_drew ?_ | refine blk_alloc ?_ _)); exact BK298.out) hb)
                                have n3_ := Aside0.mk (blk_below (g := gb303) (o := .cells #[.slice Ao16 t299.length co16] 33 (0, 0)) (by (with_reducible repeat (first | refine blk_drewN ?_ _ | refine blk_drew ?_ | refine blk_alloc ?_ _)); exact BK303.out) hb)
                                have n4_ := Aside0.mk (below_step (by repeat (first | (with_reducible first | exact HB.out | apply below_alloc | apply pw_below_drewN | apply below_drew1 | refine below_set ?_ GE298.out | refine below_set ?_ GE303.out) | exact HB.out)) hb)
                                clear HO_299000
                                clear HO_304000
                                clear BK298
                                clear BK303
                                clear HB
                                have HO_299000 := n0_
                                have HO_304000 := n1_
                                have BK298 := n2_
                                have BK303 := n3_
                                have HB := n4_
                                clear n0_ n1_ n2_ n3_ n4_
                                (try clear hb)
                                (try clear hb2)
                                (try clear hk)
                                (try clear hi)
                                refine hK.out _ _ ⟨(blk_cell BK303.out 0).trans rfl, (blk_cell BK298.out 0).trans rfl⟩ (fun hHeld => ?_)
                                clear hK K
                                refine norm_ (a' := ?_) ?_ ?_
                                rotate_left
                                · show Act.put _ (some 95) _ = _
                                  simp only [Act.put, List.setIfInBounds_toArray, List.set_cons_zero, List.set_cons_succ, i64_w, i32_w]
                                  rfl
                                refine pure_ (i := 7) (N := some 97) (v := ?_) (a' := ?_) #[true, true, true, true, true, true, true, true, false] rfl rfl (any_of HT_.out (by kernel_rfl)) (fun _ _ _ h => h) (Or.inl ⟨by rfl, ?_⟩) ?_ ?_
                                rotate_left
                                · intro w'
                                  go_simp
                                  with_reducible rfl
                                rotate_left
                                · simp only [Act.put, List.setIfInBounds_toArray, List.set_cons_zero, List.set_cons_succ, i64_w, i32_w]
                                  rfl
                                refine pure_ (i := 8) (N := some 98) (v := ?_) (a' := ?_) #[true, true, true, true, true, true, true, true, true] rfl rfl (any_of HT_.out (by kernel_rfl)) (fun _ _ _ h => h) (Or.inl ⟨by rfl, ?_⟩) ?_ ?_
                                rotate_left
                                · intro w'
                                  go_simp
                                  with_reducible rfl
                                rotate_left
                                · simp only [Act.put, List.setIfInBounds_toArray, List.set_cons_zero, List.set_cons_succ, i64_w, i32_w]
                                  rfl
                                refine done_ (done_of HT_.out (by kernel_rfl)) ?_
                                try go_wp2
                                go_roundg kj64
                                case measure => have := HJ7.out; have := HJ31.out; have := HJ37.out; have := HK4.out; have := HJ64.out; omega
                                case rel => exact ⟨(wrap64 (x11_4 + 1)), (by first | rfl | (simp; done) | (simp [*]; done)), H', ⟨by have := HJ7.out; have := HJ31.out; have := HJ37.out; have := HK4.out; have := HJ64.out; omega⟩, ⟨by (with_reducible repeat (first | apply Kd.R_alloc | apply Kd.R_drewN | apply Kd.R_drew)); exact HO_299000.out⟩, ⟨by (with_reducible repeat (first | apply Kd.R_alloc | apply Kd.R_drewN | apply Kd.R_drew)); exact HO_304000.out⟩, ⟨by (with_reducible repeat (first | refine blk_drewN ?_ _ | refine blk_drew ?_ | refine blk_alloc ?_ _)); exact BK298.out⟩, ⟨by (with_reducible repeat (first | refine blk_drewN ?_ _ | refine blk_drew ?_ | refine blk_alloc ?_ _)); exact BK303.out⟩, ⟨by repeat (first | (with_reducible first | exact HB.out | apply below_alloc | apply pw_below_drewN | apply below_drew1 | refine below_set ?_ GE298.out | refine below_set ?_ GE303.out) | exact HB.out)⟩⟩
                              · rw [if_neg c69] at H
                                have c69b0 : (t316 == (wrap64 (t317 + x12_64))) = false := beq_eq_false_iff_ne.mpr c69
                                have c69b1 : (t316 != (wrap64 (t317 + x12_64))) = true := bne_iff_ne.mpr c69
                                obtain rfl := Option.some.inj H
                                try go_wp2
                                have n0_ := Aside0.mk (Kd.R_drew HO_299000.out)
                                have n1_ := Aside0.mk (Kd.R_drew HO_304000.out)
                                have n2_ := Aside0.mk (blk_drew BK298.out)
                                have n3_ := Aside0.mk (blk_drew BK303.out)
                                have n4_ := Aside0.mk (below_drew1 HB.out)
                                clear HO_299000
                                clear HO_304000
                                clear BK298
                                clear BK303
                                clear HB
                                have HO_299000 := n0_
                                have HO_304000 := n1_
                                have BK298 := n2_
                                have BK303 := n3_
                                have HB := n4_
                                clear n0_ n1_ n2_ n3_ n4_
                                refine start_ (n := 9) (S := fun w' => w'.cell? ⟨gb303, 0, none⟩ = some (.slice Ao16 t299.length co16) ∧ w'.cell? ⟨gb298, 0, none⟩ = some (.slice Ao12 t295.length co12)) (ds := []) #[false, false, false, false, false, false, false, false, false] (by kernel_rfl) rfl rfl ⟨(blk_cell BK303.out 0).trans rfl, (blk_cell BK298.out 0).trans rfl⟩ (fun hHeld => ?_); refine with_tabW sleuthlaw21_HistogramAdds.tab20 sleuthlaw21_HistogramAdds.bits20 (fun HT_ HW_ => ?_)
                                generalize wc.drew = w73 at HO_299000 HO_304000 BK298 BK303 HB hHeld ⊢
                                refine pure_ (i := 1) (N := some 91) (v := ?_) (a' := ?_) #[false, true, false, false, false, false, false, false, false] rfl rfl (any_of HT_.out (by kernel_rfl)) (fun _ _ _ h => h) (Or.inl ⟨by rfl, ?_⟩) ?_ ?_
                                rotate_left
                                · intro w'
                                  go_simp
                                  with_reducible rfl
                                rotate_left
                                · simp only [Act.put, List.setIfInBounds_toArray, List.set_cons_zero, List.set_cons_succ, i64_w, i32_w]
                                  rfl
                                refine pure_ (i := 4) (N := some 94) (v := ?_) (a' := ?_) #[false, true, false, false, true, false, false, false, false] rfl rfl (any_of HT_.out (by kernel_rfl)) (fun _ _ _ h => h) (Or.inl ⟨by rfl, ?_⟩) ?_ ?_
                                rotate_left
                                · intro w'
                                  go_simp
                                  with_reducible rfl
                                rotate_left
                                · simp only [Act.put, List.setIfInBounds_toArray, List.set_cons_zero, List.set_cons_succ, i64_w, i32_w]
                                  rfl
                                refine pure_ (i := 6) (N := some 96) (v := ?_) (a' := ?_) #[false, true, false, false, true, false, true, false, false] rfl rfl (any_of HT_.out (by kernel_rfl)) (fun _ _ _ h => h) (Or.inl ⟨by rfl, ?_⟩) ?_ ?_
                                rotate_left
                                · intro w'
                                  go_simp
                                  with_reducible rfl
                                rotate_left
                                · simp only [Act.put, List.setIfInBounds_toArray, List.set_cons_zero, List.set_cons_succ, i64_w, i32_w]
                                  rfl
                                refine take_ (i := 0) (N := some 90) (v := ?_) (a' := ?_) #[true, true, false, false, true, false, true, false, false] rfl rfl (take_ofW HT_.out HW_.out (by kernel_rfl)) (fun _ _ _ h => h) (Or.inl ⟨by rfl, ?_⟩) hHeld ?_ ?_
                                rotate_left
                                · rintro w' ⟨s0, s1⟩
                                  go_simp
                                  with_reducible rfl
                                rotate_left
                                · simp only [Act.put, List.setIfInBounds_toArray, List.set_cons_zero, List.set_cons_succ, i64_w, i32_w]
                                  rfl
                                refine take_ (i := 3) (N := some 93) (v := ?_) (a' := ?_) #[true, true, false, true, true, false, true, false, false] rfl rfl (take_ofW HT_.out HW_.out (by kernel_rfl)) (fun _ _ _ h => h) (Or.inl ⟨by rfl, ?_⟩) hHeld ?_ ?_
                                rotate_left
                                · rintro w' ⟨s0, s1⟩
                                  go_simp
                                  with_reducible rfl
                                rotate_left
                                · simp only [Act.put, List.setIfInBounds_toArray, List.set_cons_zero, List.set_cons_succ, i64_w, i32_w]
                                  rfl
                                refine one_ (i := 2) (N := some 92) #[true, true, true, true, true, false, true, false, false] rfl rfl (one_of HT_.out (by kernel_rfl)) (by decide) (fun K hK => ?_)
                                refine goes_ Try.func32 (by kernel_rfl) rfl #[.agg #[.slice Ao16 t299.length co16], .int .i64 x11_4] (by rfl) rfl rfl (by (try simp only [List.map_toArray, List.map_cons, List.map_nil]); first | done | rfl | (simp only [List.length_drop, List.length_take]; rfl)) ?_
                                with_reducible refine (sleuthlaw21_at.calls kj64 _ _ t299 x11_4 t316 _ ?side1 ?side2 A67.out).mono ?_
                                (case side1 => repeat (first | exact (Kd.R_reads' HO_304000.out).2.2 | (with_reducible refine Kd.C_alloc ?_ _) | (with_reducible refine Kd.C_drewN ?_ _) | (with_reducible refine Kd.C_drew ?_)))
                                (case side2 => exact (Kd.R_reads' HO_304000.out).2.1)
                                rintro e w74 ⟨rfl, hb⟩
                                refine ⟨_, rfl, ?_⟩
                                have n0_ := Aside0.mk (Kd.R_below (by (with_reducible repeat (first | apply Kd.R_alloc | apply Kd.R_drewN | apply Kd.R_drew)); exact HO_299000.out) hb)
                                have n1_ := Aside0.mk (Kd.R_below (by (with_reducible repeat (first | apply Kd.R_alloc | apply Kd.R_drewN | apply Kd.R_drew)); exact HO_304000.out) hb)
                                have n2_ := Aside0.mk (blk_below (g := gb298) (o := .cells #[.slice Ao12 t295.length co12] 33 (0, 0)) (by (with_reducible repeat (first | refine blk_drewN ?_ _ | refine blk_drew ?_ | refine blk_alloc ?_ _)); exact BK298.out) hb)
                                have n3_ := Aside0.mk (blk_below (g := gb303) (o := .cells #[.slice Ao16 t299.length co16] 33 (0, 0)) (by (with_reducible repeat (first | refine blk_drewN ?_ _ | refine blk_drew ?_ | refine blk_alloc ?_ _)); exact BK303.out) hb)
                                have n4_ := Aside0.mk (below_step (by repeat (first | (with_reducible first | exact HB.out | apply below_alloc | apply pw_below_drewN | apply below_drew1 | refine below_set ?_ GE298.out | refine below_set ?_ GE303.out) | exact HB.out)) hb)
                                clear HO_299000
                                clear HO_304000
                                clear BK298
                                clear BK303
                                clear HB
                                have HO_299000 := n0_
                                have HO_304000 := n1_
                                have BK298 := n2_
                                have BK303 := n3_
                                have HB := n4_
                                clear n0_ n1_ n2_ n3_ n4_
                                (try clear hb)
                                (try clear hb2)
                                (try clear hk)
                                (try clear hi)
                                refine hK.out _ _ ⟨(blk_cell BK303.out 0).trans rfl, (blk_cell BK298.out 0).trans rfl⟩ (fun hHeld => ?_)
                                clear hK K
                                refine norm_ (a' := ?_) ?_ ?_
                                rotate_left
                                · show Act.put _ (some 92) _ = _
                                  simp only [Act.put, List.setIfInBounds_toArray, List.set_cons_zero, List.set_cons_succ, i64_w, i32_w]
                                  rfl
                                refine one_ (i := 5) (N := some 95) #[true, true, true, true, true, true, true, false, false] rfl rfl (one_of HT_.out (by kernel_rfl)) (by decide) (fun K hK => ?_)
                                refine goes_ Try.func32 (by kernel_rfl) rfl #[.agg #[.slice Ao12 t295.length co12], .int .i64 x11_4] (by rfl) rfl rfl (by (try simp only [List.map_toArray, List.map_cons, List.map_nil]); first | done | rfl | (simp only [List.length_drop, List.length_take]; rfl)) ?_
                                with_reducible refine (sleuthlaw21_at.calls kj64 _ _ t295 x11_4 t317 _ ?side1 ?side2 A68.out).mono ?_
                                (case side1 => repeat (first | exact (Kd.R_reads' HO_299000.out).2.2 | (with_reducible refine Kd.C_alloc ?_ _) | (with_reducible refine Kd.C_drewN ?_ _) | (with_reducible refine Kd.C_drew ?_)))
                                (case side2 => exact (Kd.R_reads' HO_299000.out).2.1)
                                rintro e w75 ⟨rfl, hb⟩
                                refine ⟨_, rfl, ?_⟩
                                have n0_ := Aside0.mk (Kd.R_below (by (with_reducible repeat (first | apply Kd.R_alloc | apply Kd.R_drewN | apply Kd.R_drew)); exact HO_299000.out) hb)
                                have n1_ := Aside0.mk (Kd.R_below (by (with_reducible repeat (first | apply Kd.R_alloc | apply Kd.R_drewN | apply Kd.R_drew)); exact HO_304000.out) hb)
                                have n2_ := Aside0.mk (blk_below (g := gb298) (o := .cells #[.slice Ao12 t295.length co12] 33 (0, 0)) (by (with_reducible repeat (first | refine blk_drewN ?_ _ | refine blk_drew ?_ | refine blk_alloc ?_ _)); exact BK298.out) hb)
                                have n3_ := Aside0.mk (blk_below (g := gb303) (o := .cells #[.slice Ao16 t299.length co16] 33 (0, 0)) (by (with_reducible repeat (first | refine blk_drewN ?_ _ | refine blk_drew ?_ | refine blk_alloc ?_ _)); exact BK303.out) hb)
                                have n4_ := Aside0.mk (below_step (by repeat (first | (with_reducible first | exact HB.out | apply below_alloc | apply pw_below_drewN | apply below_drew1 | refine below_set ?_ GE298.out | refine below_set ?_ GE303.out) | exact HB.out)) hb)
                                clear HO_299000
                                clear HO_304000
                                clear BK298
                                clear BK303
                                clear HB
                                have HO_299000 := n0_
                                have HO_304000 := n1_
                                have BK298 := n2_
                                have BK303 := n3_
                                have HB := n4_
                                clear n0_ n1_ n2_ n3_ n4_
                                (try clear hb)
                                (try clear hb2)
                                (try clear hk)
                                (try clear hi)
                                refine hK.out _ _ ⟨(blk_cell BK303.out 0).trans rfl, (blk_cell BK298.out 0).trans rfl⟩ (fun hHeld => ?_)
                                clear hK K
                                refine norm_ (a' := ?_) ?_ ?_
                                rotate_left
                                · show Act.put _ (some 95) _ = _
                                  simp only [Act.put, List.setIfInBounds_toArray, List.set_cons_zero, List.set_cons_succ, i64_w, i32_w]
                                  rfl
                                refine pure_ (i := 7) (N := some 97) (v := ?_) (a' := ?_) #[true, true, true, true, true, true, true, true, false] rfl rfl (any_of HT_.out (by kernel_rfl)) (fun _ _ _ h => h) (Or.inl ⟨by rfl, ?_⟩) ?_ ?_
                                rotate_left
                                · intro w'
                                  go_simp
                                  with_reducible rfl
                                rotate_left
                                · simp only [Act.put, List.setIfInBounds_toArray, List.set_cons_zero, List.set_cons_succ, i64_w, i32_w]
                                  rfl
                                refine pure_ (i := 8) (N := some 98) (v := ?_) (a' := ?_) #[true, true, true, true, true, true, true, true, true] rfl rfl (any_of HT_.out (by kernel_rfl)) (fun _ _ _ h => h) (Or.inl ⟨by rfl, ?_⟩) ?_ ?_
                                rotate_left
                                · intro w'
                                  go_simp
                                  with_reducible rfl
                                rotate_left
                                · simp only [Act.put, List.setIfInBounds_toArray, List.set_cons_zero, List.set_cons_succ, i64_w, i32_w]
                                  rfl
                                refine done_ (done_of HT_.out (by kernel_rfl)) ?_
                                try go_wp2
                                go_ret
                                exact ⟨by first | rfl | (simp [errW_none, errW_some] <;> rfl) | (simp [*, errW_none, errW_some] <;> rfl), by repeat (first | (with_reducible first | exact HB.out | apply below_alloc | apply pw_below_drewN | apply below_drew1 | refine below_set ?_ GE298.out | refine below_set ?_ GE303.out) | exact HB.out)⟩
                        · rw [if_neg c63] at H
                          have c63b0 : decide (x11_4 < 305) = false := decide_eq_false c63
                          clear c63
                          obtain rfl := Option.some.inj H
                          go_wp2
                          go_ret
                          exact ⟨by first | rfl | (simp [errW_none, errW_some] <;> rfl) | (simp [*, errW_none, errW_some] <;> rfl), by repeat (first | (with_reducible first | exact HB.out | apply below_alloc | apply pw_below_drewN | apply below_drew1 | refine below_set ?_ GE298.out | refine below_set ?_ GE303.out) | exact HB.out)⟩
  · replace c5 := Bool.eq_false_iff.mpr c5
    subst c5
    have H1 : (some false) = some r := by rw [if_neg (show ¬ (false = true) by decide)] at H; exact H
    clear H
    have H := H1
    clear H1
    obtain rfl := Option.some.inj H
    go_enter Try.func9, Try.ntmps9
    go_wp2_with (first | ((with_reducible refine gate_callee (f := 12) rfl ?_); refine goesL_ (some 13) rfl rfl Try.func12 (by kernel_rfl) rfl #[] rfl (by (try simp only [List.map_toArray, List.map_cons, List.map_nil]); first | done | rfl | (simp only [List.length_drop, List.length_take]; rfl)) ?_; (with_reducible refine (sleuthlaw21_known.calls k  false _ A4.out).mono ?_); rintro e w76 ⟨rfl, hb⟩; refine ⟨_, rfl, ?_⟩; have n0_ := Aside0.mk (below_step (by repeat (first | (with_reducible first | exact HB.out | apply below_alloc | apply pw_below_drewN | apply below_drew1) | exact HB.out)) hb); clear HB; have HB := n0_; clear n0_; (try clear hb); (try clear hb2); (try clear hk); (try clear hi)))
    go_ret
    exact ⟨by first | rfl | (simp [errW_none, errW_some] <;> rfl) | (simp [*, errW_none, errW_some] <;> rfl), by repeat (first | (with_reducible first | exact HB.out | apply below_alloc | apply pw_below_drewN | apply below_drew1) | exact HB.out)⟩

/-- THE ONE PURE STATEMENT of sleuthlaw21_HistogramAdds: yours. -/
def sleuthlaw21_HistogramAdds.Pure : Prop := ∀ (l0 : List Int) (a1 : Int) (a2 : Int), l0.length ≤ maxLen → l0.length * 8 ≤ 140737488351232 → (∀ x ∈ l0, (Lit.int .i64 x).wf = true) → (Lit.int .i64 a1).wf = true → (Lit.int .i64 a2).wf = true → ∃ k, sleuthlaw21_HistogramAdds.f k l0 a1 a2 = some true
theorem sleuthlaw21_HistogramAdds.walk (P : sleuthlaw21_HistogramAdds.Pure) (a0 : Option Addr) (len0 cap0 : Nat) (z0 : List Int) (a1 : Int) (a2 : Int) (w : World) (w0 : (a0 = none ∧ len0 = 0 ∧ cap0 = 0 ∧ z0 = []) ∨ ∃ x, a0 = some x ∧ len0 ≤ cap0 ∧ cap0 ≤ maxLen ∧ z0.length = cap0 ∧ (∀ i, i < z0.length → w.cell? (x.add i) = some (.int .i64 (z0.getD i 0))) ∧ ∀ n ∈ z0, (Lit.int .i64 n).wf = true) (y0 : len0 * 8 ≤ 140737488351232) (w1 : (Lit.int .i64 a1).wf = true) (w2 : (Lit.int .i64 a2).wf = true) :
    Calls Try.prog 9 #[.slice a0 len0 cap0, .int .i64 a1, .int .i64 a2] w fun e w' => e = .returned (.bool true) ∧ Below w.heap.size w w' := by
  obtain ⟨l0, rfl, hr0, hm0, hw0, hc0⟩ := ReadsInt.ofRowC w0
  obtain ⟨k, h⟩ := P l0 a1 a2 hm0 y0 hw0 w1 w2
  refine (sleuthlaw21_HistogramAdds.calls k _ _ l0 a1 a2 true w (Kd.C_of_reads (d := (0 : Int)) (h1 := fun _ => rfl) hr0) hc0 h).mono ?_
  rintro e w' ⟨rfl, hd⟩
  exact ⟨rfl, hd⟩

end Go.Proofs.Ytfnhicmjdfeanaa.PH
