-- Written by a program of this session (gprint.py) out of Lean's own print of the program. Lean checks it.
import Derived.Test.YtfnhicmjdfeanaaPHx0
import Derived.Test.YtfnhicmjdfeanaaPHx16
import Derived.Test.YtfnhicmjdfeanaaPHx17
import Derived.Test.YtfnhicmjdfeanaaPHx22
import Derived.Test.YtfnhicmjdfeanaaPHx23
import Derived.Test.YtfnhicmjdfeanaaPHx27
import Derived.Test.YtfnhicmjdfeanaaPHx31
import Derived.Test.YtfnhicmjdfeanaaPHx34
import Derived.Test.YtfnhicmjdfeanaaPHx36
import Derived.Test.YtfnhicmjdfeanaaPHx37
namespace Go.Proofs.Ytfnhicmjdfeanaa.PH
open Go.RowKit Go.Proofs.YtfnhicmjdfeanaaW.PrintWords Go.Proofs.YtfnhicmjdfeanaaW.PrintLast Go.Proofs.YtfnhicmjdfeanaaW.PrintMore
attribute [local go_sem] max2_int min2_int max_two min_two max_three min_three max_four min_four   -- for this text's walks alone
set_option linter.unusedVariables false
set_option linter.unusedSimpArgs false

/-- Runs of 'true' and 'false' in turn. -/
@[reducible] def tfs : Bool → List Nat → List Bool
  | _, [] => []
  | b, n :: l => List.replicate n b ++ tfs (!b) l
/-! ### sleuthlaw21_HistogramMerges: function 10 -/
mutual
def sleuthlaw21_HistogramMerges.j0 : Nat → Bool → List (S67) → List (S67) → Option (Bool)
  | 0, _, _, _ => none
  | k + 1, x95, x331000, x332000 => if x95 = true then (some false) else ((histogram_Subtract.f x331000 x332000).bind fun bt382 => (sleuthlaw21_HistogramMerges.l0 k bt382.2 false 0 x331000 x332000 bt382.1))
def sleuthlaw21_HistogramMerges.l0 : Nat → Int → Bool → Int → List (S67) → List (S67) → List (S67) → Option (Bool)
  | 0, _, _, _, _, _, _ => none
  | k + 1, x14, x15, x16, x331000, x332000, x387000 => if x16 < 305 then (if x15 = true then (sleuthlaw21_HistogramMerges.j2 k x14 true x16 x331000 x332000 x387000) else ((sleuthlaw21_at.f k x332000 x16).bind fun t388 => ((sleuthlaw21_at.f k x331000 x16).bind fun t389 => (sleuthlaw21_HistogramMerges.j2 k x14 (decide (t388 > t389)) x16 x331000 x332000 x387000)))) else (if x15 = true then (if x14 = 17 then (some ((x387000.length : Int) == 0)) else (some false)) else (if x14 = 0 then ((histogram_Check.f k x387000).bind fun t387 => (some (t387 == 0))) else (some false)))
def sleuthlaw21_HistogramMerges.j2 : Nat → Int → Bool → Int → List (S67) → List (S67) → List (S67) → Option (Bool)
  | 0, _, _, _, _, _, _ => none
  | k + 1, x14, x15, x16, x331000, x332000, x387000 => if x14 = 0 then ((sleuthlaw21_at.f k x387000 x16).bind fun t390 => ((sleuthlaw21_at.f k x331000 x16).bind fun t391 => ((sleuthlaw21_at.f k x332000 x16).bind fun t392 => (if t390 = (wrap64 (t391 - t392)) then (sleuthlaw21_HistogramMerges.l0 k x14 x15 (wrap64 (x16 + 1)) x331000 x332000 x387000) else (some false))))) else (sleuthlaw21_HistogramMerges.l0 k x14 x15 (wrap64 (x16 + 1)) x331000 x332000 x387000)
end
def sleuthlaw21_HistogramMerges.f (k : Nat) (l0 : List Int) (l1 : List Int) : Option (Bool) := (sleuthlaw21_known.f k).bind fun t323 => (if t323 = true then ((sleuthlaw21_of.f k l0).bind fun t324 => ((sleuthlaw21_of.f k l1).bind fun t327 => ((histogram_Merge.f k t324 t327).bind fun bt332 => ((histogram_Merge.f k t327 t324).bind fun bt337 => ((histogram_Subtract.f bt332.1 t324).bind fun bt342 => (if bt332.2 = 0 then (if bt337.2 = 0 then (if bt342.2 = 0 then ((sleuthlaw21_values.f k l0).bind fun t347 => ((sleuthlaw21_values.f k l1).bind fun t350 => (if t347.length + t350.length < 17592186044416 then ((sleuthlaw21_count.f k (t347 ++ t350)).bind fun t356 => ((sleuthlaw21_same.f k bt332.1 t356).bind fun t359 => (if t359 = true then ((histogram_Equal.f k bt332.1 bt337.1).bind fun t360 => (if t360 = true then ((histogram_Equal.f k bt342.1 t327).bind fun t361 => (if t361 = true then ((histogram_Equal.f k t324 t327).bind fun t362 => ((sleuthlaw21_values.f k l0).bind fun t363 => ((sleuthlaw21_count.f k t363).bind fun t366 => ((sleuthlaw21_values.f k l1).bind fun t369 => ((sleuthlaw21_count.f k t369).bind fun t372 => (if (t366.length : Int) = (t372.length : Int) then ((sleuthlaw21_values.f k l1).bind fun t375 => ((sleuthlaw21_count.f k t375).bind fun t378 => ((sleuthlaw21_same.f k t324 t378).bind fun t381 => (sleuthlaw21_HistogramMerges.j0 k (t362 != t381) t324 t327)))) else (sleuthlaw21_HistogramMerges.j0 k (t362 != false) t324 t327))))))) else (sleuthlaw21_HistogramMerges.j0 k true t324 t327))) else (sleuthlaw21_HistogramMerges.j0 k true t324 t327))) else (sleuthlaw21_HistogramMerges.j0 k true t324 t327)))) else (none)))) else (sleuthlaw21_HistogramMerges.j0 k true t324 t327)) else (sleuthlaw21_HistogramMerges.j0 k true t324 t327)) else (sleuthlaw21_HistogramMerges.j0 k true t324 t327))))))) else (some false))
theorem sleuthlaw21_HistogramMerges.mono_l : ∀ k, (∀ y0 y1 y2, LeO (sleuthlaw21_HistogramMerges.j0 k y0 y1 y2) (sleuthlaw21_HistogramMerges.j0 (k + 1) y0 y1 y2)) ∧ (∀ y0 y1 y2 y3 y4 y5, LeO (sleuthlaw21_HistogramMerges.l0 k y0 y1 y2 y3 y4 y5) (sleuthlaw21_HistogramMerges.l0 (k + 1) y0 y1 y2 y3 y4 y5)) ∧ (∀ y0 y1 y2 y3 y4 y5, LeO (sleuthlaw21_HistogramMerges.j2 k y0 y1 y2 y3 y4 y5) (sleuthlaw21_HistogramMerges.j2 (k + 1) y0 y1 y2 y3 y4 y5))
  | 0 => ⟨fun _ _ _ r h => by simp [sleuthlaw21_HistogramMerges.j0] at h, fun _ _ _ _ _ _ r h => by simp [sleuthlaw21_HistogramMerges.l0] at h, fun _ _ _ _ _ _ r h => by simp [sleuthlaw21_HistogramMerges.j2] at h⟩
  | k + 1 => by
    obtain ⟨ih0, ih1, ih2⟩ := sleuthlaw21_HistogramMerges.mono_l k
    refine ⟨?_, ?_, ?_⟩
    · intro y0 y1 y2
      unfold sleuthlaw21_HistogramMerges.j0
      repeat' first
      | (with_reducible exact ih0 _ _ _)
      | (with_reducible exact ih1 _ _ _ _ _ _)
      | (with_reducible exact ih2 _ _ _ _ _ _)
      | (with_reducible exact histogram_Check.mono _ _)
      | (with_reducible exact histogram_Equal.mono _ _ _)
      | (with_reducible exact histogram_Merge.mono _ _ _)
      | (with_reducible exact sleuthlaw21_at.mono _ _ _)
      | (with_reducible exact sleuthlaw21_count.mono _ _)
      | (with_reducible exact sleuthlaw21_known.mono _)
      | (with_reducible exact sleuthlaw21_of.mono _ _)
      | (with_reducible exact sleuthlaw21_same.mono _ _ _)
      | (with_reducible exact sleuthlaw21_values.mono _ _)
      | (with_reducible exact LeO.refl _)
      | (with_reducible exact LeO.none _)
      | (with_reducible refine LeO.ite ?_ ?_)
      | (with_reducible refine LeO.bind ?_ (fun _ => ?_))
      | exact ih0 _ _ _
      | exact ih1 _ _ _ _ _ _
      | exact ih2 _ _ _ _ _ _
      | exact histogram_Check.mono _ _
      | exact histogram_Equal.mono _ _ _
      | exact histogram_Merge.mono _ _ _
      | exact sleuthlaw21_at.mono _ _ _
      | exact sleuthlaw21_count.mono _ _
      | exact sleuthlaw21_known.mono _
      | exact sleuthlaw21_of.mono _ _
      | exact sleuthlaw21_same.mono _ _ _
      | exact sleuthlaw21_values.mono _ _
      | exact LeO.none _
      | refine LeO.ite ?_ ?_
      | refine LeO.bind ?_ (fun _ => ?_)
    · intro y0 y1 y2 y3 y4 y5
      unfold sleuthlaw21_HistogramMerges.l0
      repeat' first
      | (with_reducible exact ih0 _ _ _)
      | (with_reducible exact ih1 _ _ _ _ _ _)
      | (with_reducible exact ih2 _ _ _ _ _ _)
      | (with_reducible exact histogram_Check.mono _ _)
      | (with_reducible exact histogram_Equal.mono _ _ _)
      | (with_reducible exact histogram_Merge.mono _ _ _)
      | (with_reducible exact sleuthlaw21_at.mono _ _ _)
      | (with_reducible exact sleuthlaw21_count.mono _ _)
      | (with_reducible exact sleuthlaw21_known.mono _)
      | (with_reducible exact sleuthlaw21_of.mono _ _)
      | (with_reducible exact sleuthlaw21_same.mono _ _ _)
      | (with_reducible exact sleuthlaw21_values.mono _ _)
      | (with_reducible exact LeO.refl _)
      | (with_reducible exact LeO.none _)
      | (with_reducible refine LeO.ite ?_ ?_)
      | (with_reducible refine LeO.bind ?_ (fun _ => ?_))
      | exact ih0 _ _ _
      | exact ih1 _ _ _ _ _ _
      | exact ih2 _ _ _ _ _ _
      | exact histogram_Check.mono _ _
      | exact histogram_Equal.mono _ _ _
      | exact histogram_Merge.mono _ _ _
      | exact sleuthlaw21_at.mono _ _ _
      | exact sleuthlaw21_count.mono _ _
      | exact sleuthlaw21_known.mono _
      | exact sleuthlaw21_of.mono _ _
      | exact sleuthlaw21_same.mono _ _ _
      | exact sleuthlaw21_values.mono _ _
      | exact LeO.none _
      | refine LeO.ite ?_ ?_
      | refine LeO.bind ?_ (fun _ => ?_)
    · intro y0 y1 y2 y3 y4 y5
      unfold sleuthlaw21_HistogramMerges.j2
      repeat' first
      | (with_reducible exact ih0 _ _ _)
      | (with_reducible exact ih1 _ _ _ _ _ _)
      | (with_reducible exact ih2 _ _ _ _ _ _)
      | (with_reducible exact histogram_Check.mono _ _)
      | (with_reducible exact histogram_Equal.mono _ _ _)
      | (with_reducible exact histogram_Merge.mono _ _ _)
      | (with_reducible exact sleuthlaw21_at.mono _ _ _)
      | (with_reducible exact sleuthlaw21_count.mono _ _)
      | (with_reducible exact sleuthlaw21_known.mono _)
      | (with_reducible exact sleuthlaw21_of.mono _ _)
      | (with_reducible exact sleuthlaw21_same.mono _ _ _)
      | (with_reducible exact sleuthlaw21_values.mono _ _)
      | (with_reducible exact LeO.refl _)
      | (with_reducible exact LeO.none _)
      | (with_reducible refine LeO.ite ?_ ?_)
      | (with_reducible refine LeO.bind ?_ (fun _ => ?_))
      | exact ih0 _ _ _
      | exact ih1 _ _ _ _ _ _
      | exact ih2 _ _ _ _ _ _
      | exact histogram_Check.mono _ _
      | exact histogram_Equal.mono _ _ _
      | exact histogram_Merge.mono _ _ _
      | exact sleuthlaw21_at.mono _ _ _
      | exact sleuthlaw21_count.mono _ _
      | exact sleuthlaw21_known.mono _
      | exact sleuthlaw21_of.mono _ _
      | exact sleuthlaw21_same.mono _ _ _
      | exact sleuthlaw21_values.mono _ _
      | exact LeO.none _
      | refine LeO.ite ?_ ?_
      | refine LeO.bind ?_ (fun _ => ?_)
theorem sleuthlaw21_HistogramMerges.mono : ∀ a0 a1 k, LeO (sleuthlaw21_HistogramMerges.f k a0 a1) (sleuthlaw21_HistogramMerges.f (k + 1) a0 a1) := by
  intro a0 a1 k; obtain ⟨ih0, ih1, ih2⟩ := sleuthlaw21_HistogramMerges.mono_l k
  unfold sleuthlaw21_HistogramMerges.f
  repeat' first
      | (with_reducible exact ih0 _ _ _)
      | (with_reducible exact ih1 _ _ _ _ _ _)
      | (with_reducible exact ih2 _ _ _ _ _ _)
      | (with_reducible exact histogram_Check.mono _ _)
      | (with_reducible exact histogram_Equal.mono _ _ _)
      | (with_reducible exact histogram_Merge.mono _ _ _)
      | (with_reducible exact sleuthlaw21_at.mono _ _ _)
      | (with_reducible exact sleuthlaw21_count.mono _ _)
      | (with_reducible exact sleuthlaw21_known.mono _)
      | (with_reducible exact sleuthlaw21_of.mono _ _)
      | (with_reducible exact sleuthlaw21_same.mono _ _ _)
      | (with_reducible exact sleuthlaw21_values.mono _ _)
      | (with_reducible exact LeO.refl _)
      | (with_reducible exact LeO.none _)
      | (with_reducible refine LeO.ite ?_ ?_)
      | (with_reducible refine LeO.bind ?_ (fun _ => ?_))
      | exact ih0 _ _ _
      | exact ih1 _ _ _ _ _ _
      | exact ih2 _ _ _ _ _ _
      | exact histogram_Check.mono _ _
      | exact histogram_Equal.mono _ _ _
      | exact histogram_Merge.mono _ _ _
      | exact sleuthlaw21_at.mono _ _ _
      | exact sleuthlaw21_count.mono _ _
      | exact sleuthlaw21_known.mono _
      | exact sleuthlaw21_of.mono _ _
      | exact sleuthlaw21_same.mono _ _ _
      | exact sleuthlaw21_values.mono _ _
      | exact LeO.none _
      | refine LeO.ite ?_ ?_
      | refine LeO.bind ?_ (fun _ => ?_)
def sleuthlaw21_HistogramMerges.T7 : Bool × List (List Nat × List Nat) := (true, [([], []), ([0], [0]), ([1], [1]), ([2], [2]), ([3, 2], [2, 3]), ([2, 4], [2, 4]), ([5, 2], [5]), ([6], [6]), ([7, 6], [6, 7]), ([6, 8], [6, 8]), ([9, 6], [9]), ([10], [10]), ([10], [10]), ([12, 10, 10], [10, 12]), ([10], [10]), ([14, 13, 10], [10, 14]), ([13, 15, 15, 10], [10, 13, 15]), ([16, 16, 10], [10, 16]), ([11, 17, 17, 10], [10, 11, 17]), ([18, 10], [10, 18]), ([10, 19], [10, 19]), ([20, 18], [20]), ([21], [21]), ([21], [21]), ([22, 23, 21, 21], [21, 22, 23]), ([24, 21], [21, 24]), ([21, 25], [21, 25]), ([26, 24], [26]), ([27], [27]), ([27], [27]), ([28, 29, 27, 27], [27, 28, 29]), ([30, 27], [27, 30]), ([27, 31], [27, 31]), ([32, 30], [32]), ([33], [33]), ([33], [33]), ([34, 35, 33, 33], [33, 34, 35]), ([33], [33]), ([37, 36, 33], [33, 37]), ([38, 38, 33], [33, 38]), ([39, 33], [33, 39]), ([33], [33]), ([41, 39, 33], [33, 41]), ([42, 42, 33], [33, 42]), ([43, 33], [33, 43]), ([40, 44, 33], [33, 40, 44]), ([45, 43, 33], [33, 45]), ([46], [46]), ([46], [46]), ([48, 46, 46], [46, 48]), ([49, 49, 46], [46, 49]), ([47, 50, 50, 46], [46, 47, 50]), ([46, 51, 33], [33, 46, 51]), ([36, 52, 33], [33, 36, 52]), ([33, 53], [33, 53])])
def sleuthlaw21_HistogramMerges.B7 : List Nat := [0, 1, 3, 7, 15, 31, 63, 127, 255, 511, 1023, 2047, 2047, 6143, 2047, 30719, 63487, 129023, 262143, 524287, 1048575, 2097151, 4194303, 4194303, 16777215, 33554431, 67108863, 134217727, 268435455, 268435455, 1073741823, 2147483647, 4294967295, 8589934591, 17179869183, 17179869183, 68719476735, 17179869183, 274877906943, 549755813887, 1099511627775, 17179869183, 3298534883327, 7696581394431, 16492674416639, 35184372088831, 70368744177663, 140737488355327, 140737488355327, 422212465065983, 985162418487295, 2251799813685247, 4503599627370495, 9007199254740991, 18014398509481983]
theorem sleuthlaw21_HistogramMerges.tab7 : rtab .any (opsOf Try.f10 7) = sleuthlaw21_HistogramMerges.T7 := by kernel_rfl
theorem sleuthlaw21_HistogramMerges.bits7 : waitsOk sleuthlaw21_HistogramMerges.T7.2 sleuthlaw21_HistogramMerges.B7 = true := by kernel_rfl
def sleuthlaw21_HistogramMerges.T14 : Bool × List (List Nat × List Nat) := (true, [([], []), ([0], [0]), ([1], [1]), ([1], [1]), ([2, 3, 1, 1], [1, 2, 3]), ([1], [1]), ([1], [1]), ([5, 6, 4, 1], [1, 5, 6]), ([4, 7, 1], [1, 4, 7]), ([1, 8], [1, 8]), ([9, 7, 0, 1, 2, 3, 4, 5, 6, 7, 8, 9], [0, 9])])
def sleuthlaw21_HistogramMerges.B14 : List Nat := [0, 1, 3, 3, 15, 3, 3, 127, 255, 511, 1023]
theorem sleuthlaw21_HistogramMerges.tab14 : rtab .any (opsOf Try.f10 14) = sleuthlaw21_HistogramMerges.T14 := by kernel_rfl
theorem sleuthlaw21_HistogramMerges.bits14 : waitsOk sleuthlaw21_HistogramMerges.T14.2 sleuthlaw21_HistogramMerges.B14 = true := by kernel_rfl
def sleuthlaw21_HistogramMerges.T15 : Bool × List (List Nat × List Nat) := (true, [([], []), ([0], [0]), ([1], [1]), ([2], [2]), ([2], [2]), ([3, 4, 2, 2], [2, 3, 4]), ([2], [2]), ([2], [2]), ([6, 7, 5, 2], [2, 6, 7]), ([2], [2]), ([2], [2]), ([9, 10, 8, 2], [2, 9, 10]), ([8, 11, 2], [2, 8, 11]), ([5, 12, 2], [2, 5, 12]), ([2, 13], [2, 13])])
def sleuthlaw21_HistogramMerges.B15 : List Nat := [0, 1, 3, 7, 7, 31, 7, 7, 255, 7, 7, 2047, 4095, 8191, 16383]
theorem sleuthlaw21_HistogramMerges.tab15 : rtab .any (opsOf Try.f10 15) = sleuthlaw21_HistogramMerges.T15 := by kernel_rfl
theorem sleuthlaw21_HistogramMerges.bits15 : waitsOk sleuthlaw21_HistogramMerges.T15.2 sleuthlaw21_HistogramMerges.B15 = true := by kernel_rfl
set_option maxHeartbeats 8000000 in
set_option maxRecDepth 100000 in
theorem sleuthlaw21_HistogramMerges.calls (k : Nat) (A0 : Option Addr) (c0 : Nat) (l0 : List Int) (A1 : Option Addr) (c1 : Nat) (l1 : List Int) (r : Bool) (w : World) (hr0 : Kd.C (Kd.int .i64) w A0 l0.length l0) (hc0 : l0.length ≤ c0) (hr1 : Kd.C (Kd.int .i64) w A1 l1.length l1) (hc1 : l1.length ≤ c1) (h : sleuthlaw21_HistogramMerges.f k l0 l1 = some r) (hr_ : r = true) :
    Calls Try.prog 10 #[.slice A0 l0.length c0, .slice A1 l1.length c1] w fun e w' => e = .returned (.bool r) ∧ Below w.heap.size w w' := by
  have hu33 := Try.underlying33; have HR0 := Aside0.mk hr0; have HC0 := Aside0.mk hc0; clear hr0 hc0; have HR1 := Aside0.mk hr1; have HC1 := Aside0.mk hc1; clear hr1 hc1; have HB := Aside0.mk (Below.refl w.heap.size w)
  have H : ((sleuthlaw21_known.f k).bind fun t323 => (if t323 = true then ((sleuthlaw21_of.f k l0).bind fun t324 => ((sleuthlaw21_of.f k l1).bind fun t327 => ((histogram_Merge.f k t324 t327).bind fun bt332 => ((histogram_Merge.f k t327 t324).bind fun bt337 => ((histogram_Subtract.f bt332.1 t324).bind fun bt342 => (if bt332.2 = 0 then (if bt337.2 = 0 then (if bt342.2 = 0 then ((sleuthlaw21_values.f k l0).bind fun t347 => ((sleuthlaw21_values.f k l1).bind fun t350 => (if t347.length + t350.length < 17592186044416 then ((sleuthlaw21_count.f k (t347 ++ t350)).bind fun t356 => ((sleuthlaw21_same.f k bt332.1 t356).bind fun t359 => (if t359 = true then ((histogram_Equal.f k bt332.1 bt337.1).bind fun t360 => (if t360 = true then ((histogram_Equal.f k bt342.1 t327).bind fun t361 => (if t361 = true then ((histogram_Equal.f k t324 t327).bind fun t362 => ((sleuthlaw21_values.f k l0).bind fun t363 => ((sleuthlaw21_count.f k t363).bind fun t366 => ((sleuthlaw21_values.f k l1).bind fun t369 => ((sleuthlaw21_count.f k t369).bind fun t372 => (if (t366.length : Int) = (t372.length : Int) then ((sleuthlaw21_values.f k l1).bind fun t375 => ((sleuthlaw21_count.f k t375).bind fun t378 => ((sleuthlaw21_same.f k t324 t378).bind fun t381 => (sleuthlaw21_HistogramMerges.j0 k (t362 != t381) t324 t327)))) else (sleuthlaw21_HistogramMerges.j0 k (t362 != false) t324 t327))))))) else (sleuthlaw21_HistogramMerges.j0 k true t324 t327))) else (sleuthlaw21_HistogramMerges.j0 k true t324 t327))) else (sleuthlaw21_HistogramMerges.j0 k true t324 t327)))) else (none)))) else (sleuthlaw21_HistogramMerges.j0 k true t324 t327)) else (sleuthlaw21_HistogramMerges.j0 k true t324 t327)) else (sleuthlaw21_HistogramMerges.j0 k true t324 t327))))))) else (some false))) = some r := h
  clear h; replace H := Option.bind_eq_some_iff.mp H; obtain ⟨t323, A30, H⟩ := H; (try dsimp only at H); have A3 := Aside0.mk A30; clear A30
  by_cases c4 : t323 = true
  · subst c4
    (rw [if_pos rfl] at H)
    replace H := Option.bind_eq_some_iff.mp H; obtain ⟨t324, A50, H⟩ := H; (try dsimp only at H); have A5 := Aside0.mk A50; clear A50; replace H := Option.bind_eq_some_iff.mp H; obtain ⟨t327, A60, H⟩ := H; (try dsimp only at H); have A6 := Aside0.mk A60; clear A60; replace H := Option.bind_eq_some_iff.mp H; obtain ⟨⟨t332, t335⟩, A70, H⟩ := H; (try dsimp only at H); have A7 := Aside0.mk A70; clear A70; replace H := Option.bind_eq_some_iff.mp H; obtain ⟨⟨t337, t340⟩, A80, H⟩ := H; (try dsimp only at H); have A8 := Aside0.mk A80; clear A80; replace H := Option.bind_eq_some_iff.mp H; obtain ⟨⟨t342, t345⟩, A90, H⟩ := H; (try dsimp only at H); have A9 := Aside0.mk A90; clear A90; have HC10 := Aside0.mk H; clear H
    go_enter Try.func10, Try.ntmps10
    go_upto_region 7 with (first | ((with_reducible refine gate_callee (f := 12) rfl ?_); refine goesL_ (some 17) rfl rfl Try.func12 (by kernel_rfl) rfl #[] rfl (by (try simp only [List.map_toArray, List.map_cons, List.map_nil]); first | done | rfl | (simp only [List.length_drop, List.length_take]; rfl)) ?_; (with_reducible refine (sleuthlaw21_known.calls k  true _ A3.out (by first | rfl | assumption)).mono ?_); rintro e w11 ⟨rfl, hb⟩; refine ⟨_, rfl, ?_⟩; have n0_ := Aside0.mk (below_step (by repeat (first | (with_reducible first | exact HB.out | apply below_alloc | apply pw_below_drewN | apply below_drew1) | exact HB.out)) hb); clear HB; have HB := n0_; clear n0_; (try clear hb); (try clear hb2); (try clear hk); (try clear hi)) | ((with_reducible refine gate_callee (f := 18) rfl ?_); refine goesL_ (some 20) rfl rfl Try.func18 (by kernel_rfl) rfl #[.slice A0 l0.length c0] rfl (by (try simp only [List.map_toArray, List.map_cons, List.map_nil]); first | done | rfl | (simp only [List.length_drop, List.length_take]; rfl)) ?_; (with_reducible refine (sleuthlaw21_of.calls k _ _ l0 t324 _ ?side1 ?side2 A5.out).mono ?_); (case side1 => repeat (first | exact (Kd.C_below HR0.out HB.out) | (with_reducible refine Kd.C_alloc ?_ _) | (with_reducible refine Kd.C_drewN ?_ _) | (with_reducible refine Kd.C_drew ?_))); (case side2 => exact HC0.out); rintro e w12 ⟨v325, rfl, ho0, hb⟩; refine ⟨_, rfl, ?_⟩; have n0_ := Aside0.mk (Kd.R_lower ho0 (below_size (by repeat (first | (with_reducible first | exact HB.out | apply below_alloc | apply pw_below_drewN | apply below_drew1) | exact HB.out)))); have n1_ := Aside0.mk (below_step (by repeat (first | (with_reducible first | exact HB.out | apply below_alloc | apply pw_below_drewN | apply below_drew1) | exact HB.out)) hb); clear HB; have HO326 := n0_; have HB := n1_; clear n0_ n1_; (try clear hb); (try clear hb2); (try clear hk); (try clear hi); (try clear ho0)) | ((with_reducible refine gate_callee (f := 18) rfl ?_); refine goesL_ (some 22) rfl rfl Try.func18 (by kernel_rfl) rfl #[.slice A1 l1.length c1] rfl (by (try simp only [List.map_toArray, List.map_cons, List.map_nil]); first | done | rfl | (simp only [List.length_drop, List.length_take]; rfl)) ?_; (with_reducible refine (sleuthlaw21_of.calls k _ _ l1 t327 _ ?side1 ?side2 A6.out).mono ?_); (case side1 => repeat (first | exact (Kd.C_below HR1.out HB.out) | (with_reducible refine Kd.C_alloc ?_ _) | (with_reducible refine Kd.C_drewN ?_ _) | (with_reducible refine Kd.C_drew ?_))); (case side2 => exact HC1.out); rintro e w13 ⟨v328, rfl, ho0, hb⟩; refine ⟨_, rfl, ?_⟩; have n0_ := Aside0.mk (Kd.R_elder' (by (with_reducible repeat (first | apply Kd.R_alloc | apply Kd.R_drewN | apply Kd.R_drew)); exact HO326.out) (Kd.R_base ho0) hb); have n1_ := Aside0.mk (Kd.R_lower (Kd.R_new' ho0 (Kd.R_lt (by (with_reducible repeat (first | apply Kd.R_alloc | apply Kd.R_drewN | apply Kd.R_drew)); exact HO326.out))) (below_size (by repeat (first | (with_reducible first | exact HB.out | apply below_alloc | apply pw_below_drewN | apply below_drew1) | exact HB.out)))); have n2_ := Aside0.mk (below_step (by repeat (first | (with_reducible first | exact HB.out | apply below_alloc | apply pw_below_drewN | apply below_drew1) | exact HB.out)) hb); clear HO326; clear HB; have HO326 := n0_; have HO329 := n1_; have HB := n2_; clear n0_ n1_ n2_; (try clear hb); (try clear hb2); (try clear hk); (try clear hi); (try clear ho0)) | ((with_reducible refine gate_dst (N := 5) rfl ?_); (try (refine gate_guard (by rfl) ?_; dsimp only)); refine box_event ?hg (N := 5) ?hd (cs := #[.slice none 0 0]) (t := 33) ?hr ?_; (case hd => rfl); (case hg => rfl); (case hr => first | (go_simp; done) | (go_simp; rfl)); intro gb330 hg w14 hbox hb; have n0_ := Aside0.mk (Kd.R_below (by (with_reducible repeat (first | apply Kd.R_alloc | apply Kd.R_drewN | apply Kd.R_drew)); exact HO326.out) hb); have n1_ := Aside0.mk (Kd.R_below (by (with_reducible repeat (first | apply Kd.R_alloc | apply Kd.R_drewN | apply Kd.R_drew)); exact HO329.out) hb); have n2_ := Aside0.mk (below_step (by repeat (first | (with_reducible first | exact HB.out | apply below_alloc | apply pw_below_drewN | apply below_drew1) | exact HB.out)) hb); have n3_ := Aside0.mk (hbox); have n4_ := Aside0.mk ((by rw [hg]; exact (below_size (by repeat (first | (with_reducible first | exact HB.out | apply below_alloc | apply pw_below_drewN | apply below_drew1) | exact HB.out))) : w.heap.size ≤ gb330)); have n5_ := Aside0.mk ((by rw [hg]; exact (below_size (by repeat (first | (with_reducible first | exact HB.out | apply below_alloc | apply pw_below_drewN | apply below_drew1) | exact HB.out))) : w.heap.size ≤ gb330)); clear HO326; clear HO329; clear HB; have HO326 := n0_; have HO329 := n1_; have HB := n2_; have BK330 := n3_; have GW330 := n4_; have GE330 := n5_; clear n0_ n1_ n2_ n3_ n4_ n5_; clear hb hbox hg) | ((with_reducible refine gate_dst (N := 6) rfl ?_); (try (refine gate_guard (by rfl) ?_; dsimp only)); refine box_event ?hg (N := 6) ?hd (cs := #[.slice none 0 0]) (t := 33) ?hr ?_; (case hd => rfl); (case hg => rfl); (case hr => first | (go_simp; done) | (go_simp; rfl)); intro gb331 hg w15 hbox hb; have n0_ := Aside0.mk (Kd.R_below (by (with_reducible repeat (first | apply Kd.R_alloc | apply Kd.R_drewN | apply Kd.R_drew)); exact HO326.out) hb); have n1_ := Aside0.mk (Kd.R_below (by (with_reducible repeat (first | apply Kd.R_alloc | apply Kd.R_drewN | apply Kd.R_drew)); exact HO329.out) hb); have n2_ := Aside0.mk (blk_below (g := gb330) (o := .cells #[.slice none 0 0] 33 (0, 0)) (by (with_reducible repeat (first | refine blk_drewN ?_ _ | refine blk_drew ?_ | refine blk_alloc ?_ _)); exact BK330.out) hb); have n3_ := Aside0.mk (below_step (by repeat (first | (with_reducible first | exact HB.out | apply below_alloc | apply pw_below_drewN | apply below_drew1 | refine below_set ?_ GE330.out) | exact HB.out)) hb); have n4_ := Aside0.mk (hbox); have n5_ := Aside0.mk ((by rw [hg]; exact (below_size (by repeat (first | (with_reducible first | exact HB.out | apply below_alloc | apply pw_below_drewN | apply below_drew1 | refine below_set ?_ GE330.out) | exact HB.out))) : w.heap.size ≤ gb331)); have n6_ := Aside0.mk ((by rw [hg]; exact (below_size (by repeat (first | (with_reducible first | exact HB.out | apply below_alloc | apply pw_below_drewN | apply below_drew1 | refine below_set ?_ GE330.out) | exact HB.out))) : w.heap.size ≤ gb331)); have n7_ := Aside0.mk ((by rw [hg]; exact Nat.ne_of_lt (blk_lt (g := gb330) (o := .cells #[.slice none 0 0] 33 (0, 0)) (by (with_reducible repeat (first | refine blk_drewN ?_ _ | refine blk_drew ?_ | refine blk_alloc ?_ _)); exact BK330.out)) : gb330 ≠ gb331)); have n8_ := Aside0.mk ((by rw [hg]; exact Nat.ne_of_gt (blk_lt (g := gb330) (o := .cells #[.slice none 0 0] 33 (0, 0)) (by (with_reducible repeat (first | refine blk_drewN ?_ _ | refine blk_drew ?_ | refine blk_alloc ?_ _)); exact BK330.out)) : gb331 ≠ gb330)); clear HO326; clear HO329; clear BK330; clear HB; have HO326 := n0_; have HO329 := n1_; have BK330 := n2_; have HB := n3_; have BK331 := n4_; have GW331 := n5_; have GE331 := n6_; have NB330_331 := n7_; have NB331_330 := n8_; clear n0_ n1_ n2_ n3_ n4_ n5_ n6_ n7_ n8_; clear hb hbox hg; obtain ⟨Ao16, co16, eo16⟩ := Kd.R_slice HO326.out; subst eo16; have hnb17 := NB330_331.out; have hnc17 := NB331_330.out; have hcz18_0 : w15.cell? ⟨gb330, 0, none⟩ = some (.slice none 0 0) := (blk_cell BK330.out 0).trans rfl; have hfz18_0 := blk_frozen BK330.out 0; obtain ⟨Ao19, co19, eo19⟩ := Kd.R_slice HO329.out; subst eo19; have hcz20_0 : w15.cell? ⟨gb331, 0, none⟩ = some (.slice none 0 0) := (blk_cell BK331.out 0).trans rfl; have hfz20_0 := blk_frozen BK331.out 0) | ((with_reducible refine gate_callee (f := 33) rfl ?_); refine goesL_ (some 26) rfl rfl Try.func33 (by kernel_rfl) rfl #[.agg #[.slice Ao16 t324.length co16], .agg #[.slice Ao19 t327.length co19]] rfl (by (try simp only [List.map_toArray, List.map_cons, List.map_nil]); first | done | rfl | (simp only [List.length_drop, List.length_take]; rfl)) ?_; (with_reducible refine (histogram_Merge.calls k _ _ t324 _ _ t327 t332 t335 _ ?side1 ?side2 ?side3 ?side4 A7.out).mono ?_); (case side1 => refine (Kd.R_reads' (e := 67) (base := w.heap.size) (ok := fun k_ => (True ∧ some k_ ≠ (.slice Ao19 t327.length co19 : Value).ownBlock)) (n := t324.length) (c := co16) ?_).2.2; exact (by (with_reducible repeat (first | apply Kd.R_alloc | apply Kd.R_drewN | apply Kd.R_drew)); exact (Kd.R_mono (Kd.R_mono (Kd.R_far (p := ⟨gb331, 0, none⟩) (Kd.R_far (p := ⟨gb330, 0, none⟩) (Kd.R_types (Kd.R_types HO326.out BK330.out (by decide)) BK331.out (by decide)) (fun _ hk => hk.1.2) (.slice Ao16 t324.length co16)) (fun _ hk => hk.2) (.slice Ao19 t327.length co19)) (fun _ h_ => h_.1)) (fun _ h_ => h_.1)))); (case side2 => exact (Kd.R_reads' HO326.out).2.1); (case side3 => refine (Kd.R_reads' (e := 67) (base := w.heap.size) (ok := fun k_ => (True ∧ some k_ ≠ (.slice Ao16 t324.length co16 : Value).ownBlock)) (n := t327.length) (c := co19) ?_).2.2; exact (by (with_reducible repeat (first | apply Kd.R_alloc | apply Kd.R_drewN | apply Kd.R_drew)); exact (Kd.R_mono (Kd.R_mono (Kd.R_far (p := ⟨gb331, 0, none⟩) (Kd.R_far (p := ⟨gb330, 0, none⟩) (Kd.R_types (Kd.R_types HO329.out BK330.out (by decide)) BK331.out (by decide)) (fun _ hk => hk.1.2) (.slice Ao16 t324.length co16)) (fun _ hk => hk.2) (.slice Ao19 t327.length co19)) (fun _ h_ => h_.1)) (fun _ h_ => h_.1)))); (case side4 => exact (Kd.R_reads' HO329.out).2.1); rintro e w21 ⟨v333, rfl, ho0, hb⟩; refine ⟨_, rfl, ?_⟩; have n0_ := Aside0.mk (Kd.R_elder' (by (with_reducible repeat (first | apply Kd.R_alloc | apply Kd.R_drewN | apply Kd.R_drew)); exact (Kd.R_mono (Kd.R_mono (Kd.R_far (p := ⟨gb331, 0, none⟩) (Kd.R_far (p := ⟨gb330, 0, none⟩) (Kd.R_types (Kd.R_types HO326.out BK330.out (by decide)) BK331.out (by decide)) (fun _ hk => hk.1.2) (.slice Ao16 t324.length co16)) (fun _ hk => hk.2) (.slice Ao19 t327.length co19)) (fun _ h_ => h_.1)) (fun _ h_ => h_.1))) (Kd.R_base ho0) hb); have n1_ := Aside0.mk (Kd.R_elder' (by (with_reducible repeat (first | apply Kd.R_alloc | apply Kd.R_drewN | apply Kd.R_drew)); exact (Kd.R_mono (Kd.R_mono (Kd.R_far (p := ⟨gb331, 0, none⟩) (Kd.R_far (p := ⟨gb330, 0, none⟩) (Kd.R_types (Kd.R_types HO329.out BK330.out (by decide)) BK331.out (by decide)) (fun _ hk => hk.1.2) (.slice Ao16 t324.length co16)) (fun _ hk => hk.2) (.slice Ao19 t327.length co19)) (fun _ h_ => h_.1)) (fun _ h_ => h_.1))) (Kd.R_base ho0) hb); have n2_ := Aside0.mk (Kd.R_lower (Kd.R_new' (Kd.R_new' ho0 (Kd.R_lt (by (with_reducible repeat (first | apply Kd.R_alloc | apply Kd.R_drewN | apply Kd.R_drew)); exact (Kd.R_mono (Kd.R_mono (Kd.R_far (p := ⟨gb331, 0, none⟩) (Kd.R_far (p := ⟨gb330, 0, none⟩) (Kd.R_types (Kd.R_types HO326.out BK330.out (by decide)) BK331.out (by decide)) (fun _ hk => hk.1.2) (.slice Ao16 t324.length co16)) (fun _ hk => hk.2) (.slice Ao19 t327.length co19)) (fun _ h_ => h_.1)) (fun _ h_ => h_.1))))) (Kd.R_lt (by (with_reducible repeat (first | apply Kd.R_alloc | apply Kd.R_drewN | apply Kd.R_drew)); exact (Kd.R_mono (Kd.R_mono (Kd.R_far (p := ⟨gb331, 0, none⟩) (Kd.R_far (p := ⟨gb330, 0, none⟩) (Kd.R_types (Kd.R_types HO329.out BK330.out (by decide)) BK331.out (by decide)) (fun _ hk => hk.1.2) (.slice Ao16 t324.length co16)) (fun _ hk => hk.2) (.slice Ao19 t327.length co19)) (fun _ h_ => h_.1)) (fun _ h_ => h_.1))))) (below_size (by repeat (first | (with_reducible first | exact HB.out | apply below_alloc | apply pw_below_drewN | apply below_drew1 | refine below_set ?_ GE330.out | refine below_set ?_ GE331.out) | exact HB.out)))); have n3_ := Aside0.mk (blk_below (g := gb330) (o := .cells #[.slice Ao16 t324.length co16] 33 (0, 0)) (by (with_reducible repeat (first | refine blk_drewN ?_ _ | refine blk_drew ?_ | refine blk_alloc ?_ _)); refine blk_far ?_ NB330_331.out _; (with_reducible repeat (first | refine blk_drewN ?_ _ | refine blk_drew ?_ | refine blk_alloc ?_ _)); refine blk_put (cs := #[.slice none 0 0]) ?_ 0 _ rfl; (with_reducible repeat (first | refine blk_drewN ?_ _ | refine blk_drew ?_ | refine blk_alloc ?_ _)); exact BK330.out) hb); have n4_ := Aside0.mk (blk_below (g := gb331) (o := .cells #[.slice Ao19 t327.length co19] 33 (0, 0)) (by (with_reducible repeat (first | refine blk_drewN ?_ _ | refine blk_drew ?_ | refine blk_alloc ?_ _)); refine blk_put (cs := #[.slice none 0 0]) ?_ 0 _ rfl; (with_reducible repeat (first | refine blk_drewN ?_ _ | refine blk_drew ?_ | refine blk_alloc ?_ _)); refine blk_far ?_ NB331_330.out _; (with_reducible repeat (first | refine blk_drewN ?_ _ | refine blk_drew ?_ | refine blk_alloc ?_ _)); exact BK331.out) hb); have n5_ := Aside0.mk (below_step (by repeat (first | (with_reducible first | exact HB.out | apply below_alloc | apply pw_below_drewN | apply below_drew1 | refine below_set ?_ GE330.out | refine below_set ?_ GE331.out) | exact HB.out)) hb); clear HO326; clear HO329; clear BK330; clear BK331; clear HB; have HO326 := n0_; have HO329 := n1_; have HO334 := n2_; have BK330 := n3_; have BK331 := n4_; have HB := n5_; clear n0_ n1_ n2_ n3_ n4_ n5_; (try clear hb); (try clear hb2); (try clear hk); (try clear hi); (try clear ho0)) | ((with_reducible refine gate_dst (N := 7) rfl ?_); (try (refine gate_guard (by rfl) ?_; dsimp only)); refine box_event ?hg (N := 7) ?hd (cs := #[.slice none 0 0]) (t := 33) ?hr ?_; (case hd => rfl); (case hg => rfl); (case hr => first | (go_simp; done) | (go_simp; rfl)); intro gb336 hg w22 hbox hb; have n0_ := Aside0.mk (Kd.R_below (by (with_reducible repeat (first | apply Kd.R_alloc | apply Kd.R_drewN | apply Kd.R_drew)); exact HO326.out) hb); have n1_ := Aside0.mk (Kd.R_below (by (with_reducible repeat (first | apply Kd.R_alloc | apply Kd.R_drewN | apply Kd.R_drew)); exact HO329.out) hb); have n2_ := Aside0.mk (Kd.R_below (by (with_reducible repeat (first | apply Kd.R_alloc | apply Kd.R_drewN | apply Kd.R_drew)); exact HO334.out) hb); have n3_ := Aside0.mk (blk_below (g := gb330) (o := .cells #[.slice Ao16 t324.length co16] 33 (0, 0)) (by (with_reducible repeat (first | refine blk_drewN ?_ _ | refine blk_drew ?_ | refine blk_alloc ?_ _)); exact BK330.out) hb); have n4_ := Aside0.mk (blk_below (g := gb331) (o := .cells #[.slice Ao19 t327.length co19] 33 (0, 0)) (by (with_reducible repeat (first | refine blk_drewN ?_ _ | refine blk_drew ?_ | refine blk_alloc ?_ _)); exact BK331.out) hb); have n5_ := Aside0.mk (below_step (by repeat (first | (with_reducible first | exact HB.out | apply below_alloc | apply pw_below_drewN | apply below_drew1 | refine below_set ?_ GE330.out | refine below_set ?_ GE331.out) | exact HB.out)) hb); have n6_ := Aside0.mk (hbox); have n7_ := Aside0.mk ((by rw [hg]; exact (below_size (by repeat (first | (with_reducible first | exact HB.out | apply below_alloc | apply pw_below_drewN | apply below_drew1 | refine below_set ?_ GE330.out | refine below_set ?_ GE331.out) | exact HB.out))) : w.heap.size ≤ gb336)); have n8_ := Aside0.mk ((by rw [hg]; exact (below_size (by repeat (first | (with_reducible first | exact HB.out | apply below_alloc | apply pw_below_drewN | apply below_drew1 | refine below_set ?_ GE330.out | refine below_set ?_ GE331.out) | exact HB.out))) : w.heap.size ≤ gb336)); have n9_ := Aside0.mk ((by rw [hg]; exact Nat.ne_of_lt (blk_lt (g := gb330) (o := .cells #[.slice Ao16 t324.length co16] 33 (0, 0)) (by (with_reducible repeat (first | refine blk_drewN ?_ _ | refine blk_drew ?_ | refine blk_alloc ?_ _)); exact BK330.out)) : gb330 ≠ gb336)); have n10_ := Aside0.mk ((by rw [hg]; exact Nat.ne_of_gt (blk_lt (g := gb330) (o := .cells #[.slice Ao16 t324.length co16] 33 (0, 0)) (by (with_reducible repeat (first | refine blk_drewN ?_ _ | refine blk_drew ?_ | refine blk_alloc ?_ _)); exact BK330.out)) : gb336 ≠ gb330)); have n11_ := Aside0.mk ((by rw [hg]; exact Nat.ne_of_lt (blk_lt (g := gb331) (o := .cells #[.slice Ao19 t327.length co19] 33 (0, 0)) (by (with_reducible repeat (first | refine blk_drewN ?_ _ | refine blk_drew ?_ | refine blk_alloc ?_ _)); exact BK331.out)) : gb331 ≠ gb336)); have n12_ := Aside0.mk ((by rw [hg]; exact Nat.ne_of_gt (blk_lt (g := gb331) (o := .cells #[.slice Ao19 t327.length co19] 33 (0, 0)) (by (with_reducible repeat (first | refine blk_drewN ?_ _ | refine blk_drew ?_ | refine blk_alloc ?_ _)); exact BK331.out)) : gb336 ≠ gb331)); clear HO326; clear HO329; clear HO334; clear BK330; clear BK331; clear HB; have HO326 := n0_; have HO329 := n1_; have HO334 := n2_; have BK330 := n3_; have BK331 := n4_; have HB := n5_; have BK336 := n6_; have GW336 := n7_; have GE336 := n8_; have NB330_336 := n9_; have NB336_330 := n10_; have NB331_336 := n11_; have NB336_331 := n12_; clear n0_ n1_ n2_ n3_ n4_ n5_ n6_ n7_ n8_ n9_ n10_ n11_ n12_; clear hb hbox hg; obtain ⟨Ao23, co23, eo23⟩ := Kd.R_slice HO334.out; subst eo23; have hnb24 := NB336_330.out; have hnc24 := NB330_336.out; have hnb25 := NB336_331.out; have hnc25 := NB331_336.out; have hcz26_0 : w22.cell? ⟨gb336, 0, none⟩ = some (.slice none 0 0) := (blk_cell BK336.out 0).trans rfl; have hfz26_0 := blk_frozen BK336.out 0; have hcz27_0 : w22.cell? ⟨gb331, 0, none⟩ = some (.slice Ao19 t327.length co19) := (blk_cell BK331.out 0).trans rfl; have hfz27_0 := blk_frozen BK331.out 0; have hcz28_0 : w22.cell? ⟨gb330, 0, none⟩ = some (.slice Ao16 t324.length co16) := (blk_cell BK330.out 0).trans rfl; have hfz28_0 := blk_frozen BK330.out 0) | ((with_reducible refine gate_callee (f := 33) rfl ?_); refine goesL_ (some 32) rfl rfl Try.func33 (by kernel_rfl) rfl #[.agg #[.slice Ao19 t327.length co19], .agg #[.slice Ao16 t324.length co16]] rfl (by (try simp only [List.map_toArray, List.map_cons, List.map_nil]); first | done | rfl | (simp only [List.length_drop, List.length_take]; rfl)) ?_; (with_reducible refine (histogram_Merge.calls k _ _ t327 _ _ t324 t337 t340 _ ?side1 ?side2 ?side3 ?side4 A8.out).mono ?_); (case side1 => refine (Kd.R_reads' (e := 67) (base := w.heap.size) (ok := fun k_ => ((True ∧ some k_ ≠ (.slice Ao16 t324.length co16 : Value).ownBlock) ∧ some k_ ≠ (.slice Ao23 t332.length co23 : Value).ownBlock)) (n := t327.length) (c := co19) ?_).2.2; exact (by (with_reducible repeat (first | apply Kd.R_alloc | apply Kd.R_drewN | apply Kd.R_drew)); exact (Kd.R_mono (Kd.R_far (p := ⟨gb336, 0, none⟩) (Kd.R_types HO329.out BK336.out (by decide)) (fun _ hk => hk.2) (.slice Ao23 t332.length co23)) (fun _ h_ => h_.1)))); (case side2 => exact (Kd.R_reads' HO329.out).2.1); (case side3 => refine (Kd.R_reads' (e := 67) (base := w.heap.size) (ok := fun k_ => ((True ∧ some k_ ≠ (.slice Ao19 t327.length co19 : Value).ownBlock) ∧ some k_ ≠ (.slice Ao23 t332.length co23 : Value).ownBlock)) (n := t324.length) (c := co16) ?_).2.2; exact (by (with_reducible repeat (first | apply Kd.R_alloc | apply Kd.R_drewN | apply Kd.R_drew)); exact (Kd.R_mono (Kd.R_far (p := ⟨gb336, 0, none⟩) (Kd.R_types HO326.out BK336.out (by decide)) (fun _ hk => hk.2) (.slice Ao23 t332.length co23)) (fun _ h_ => h_.1)))); (case side4 => exact (Kd.R_reads' HO326.out).2.1); rintro e w29 ⟨v338, rfl, ho0, hb⟩; refine ⟨_, rfl, ?_⟩; have n0_ := Aside0.mk (Kd.R_elder' (by (with_reducible repeat (first | apply Kd.R_alloc | apply Kd.R_drewN | apply Kd.R_drew)); exact (Kd.R_mono (Kd.R_far (p := ⟨gb336, 0, none⟩) (Kd.R_types HO326.out BK336.out (by decide)) (fun _ hk => hk.2) (.slice Ao23 t332.length co23)) (fun _ h_ => h_.1))) (Kd.R_base ho0) hb); have n1_ := Aside0.mk (Kd.R_elder' (by (with_reducible repeat (first | apply Kd.R_alloc | apply Kd.R_drewN | apply Kd.R_drew)); exact (Kd.R_mono (Kd.R_far (p := ⟨gb336, 0, none⟩) (Kd.R_types HO329.out BK336.out (by decide)) (fun _ hk => hk.2) (.slice Ao23 t332.length co23)) (fun _ h_ => h_.1))) (Kd.R_base ho0) hb); have n2_ := Aside0.mk (Kd.R_elder' (by (with_reducible repeat (first | apply Kd.R_alloc | apply Kd.R_drewN | apply Kd.R_drew)); exact (Kd.R_mono (Kd.R_far (p := ⟨gb336, 0, none⟩) (Kd.R_types HO334.out BK336.out (by decide)) (fun _ hk => hk.2) (.slice Ao23 t332.length co23)) (fun _ h_ => h_.1))) (Kd.R_base ho0) hb); have n3_ := Aside0.mk (Kd.R_lower (Kd.R_new' (Kd.R_new' (Kd.R_new' ho0 (Kd.R_lt (by (with_reducible repeat (first | apply Kd.R_alloc | apply Kd.R_drewN | apply Kd.R_drew)); exact (Kd.R_mono (Kd.R_far (p := ⟨gb336, 0, none⟩) (Kd.R_types HO326.out BK336.out (by decide)) (fun _ hk => hk.2) (.slice Ao23 t332.length co23)) (fun _ h_ => h_.1))))) (Kd.R_lt (by (with_reducible repeat (first | apply Kd.R_alloc | apply Kd.R_drewN | apply Kd.R_drew)); exact (Kd.R_mono (Kd.R_far (p := ⟨gb336, 0, none⟩) (Kd.R_types HO329.out BK336.out (by decide)) (fun _ hk => hk.2) (.slice Ao23 t332.length co23)) (fun _ h_ => h_.1))))) (Kd.R_lt (by (with_reducible repeat (first | apply Kd.R_alloc | apply Kd.R_drewN | apply Kd.R_drew)); exact (Kd.R_mono (Kd.R_far (p := ⟨gb336, 0, none⟩) (Kd.R_types HO334.out BK336.out (by decide)) (fun _ hk => hk.2) (.slice Ao23 t332.length co23)) (fun _ h_ => h_.1))))) (below_size (by repeat (first | (with_reducible first | exact HB.out | apply below_alloc | apply pw_below_drewN | apply below_drew1 | refine below_set ?_ GE330.out | refine below_set ?_ GE331.out | refine below_set ?_ GE336.out) | exact HB.out)))); have n4_ := Aside0.mk (blk_below (g := gb330) (o := .cells #[.slice Ao16 t324.length co16] 33 (0, 0)) (by (with_reducible repeat (first | refine blk_drewN ?_ _ | refine blk_drew ?_ | refine blk_alloc ?_ _)); refine blk_far ?_ NB330_336.out _; (with_reducible repeat (first | refine blk_drewN ?_ _ | refine blk_drew ?_ | refine blk_alloc ?_ _)); exact BK330.out) hb); have n5_ := Aside0.mk (blk_below (g := gb331) (o := .cells #[.slice Ao19 t327.length co19] 33 (0, 0)) (by (with_reducible repeat (first | refine blk_drewN ?_ _ | refine blk_drew ?_ | refine blk_alloc ?_ _)); refine blk_far ?_ NB331_336.out _; (with_reducible repeat (first | refine blk_drewN ?_ _ | refine blk_drew ?_ | refine blk_alloc ?_ _)); exact BK331.out) hb); have n6_ := Aside0.mk (blk_below (g := gb336) (o := .cells #[.slice Ao23 t332.length co23] 33 (0, 0)) (by (with_reducible repeat (first | refine blk_drewN ?_ _ | refine blk_drew ?_ | refine blk_alloc ?_ _)); refine blk_put (cs := #[.slice none 0 0]) ?_ 0 _ rfl; (with_reducible repeat (first | refine blk_drewN ?_ _ | refine blk_drew ?_ | refine blk_alloc ?_ _)); exact BK336.out) hb); have n7_ := Aside0.mk (below_step (by repeat (first | (with_reducible first | exact HB.out | apply below_alloc | apply pw_below_drewN | apply below_drew1 | refine below_set ?_ GE330.out | refine below_set ?_ GE331.out | refine below_set ?_ GE336.out) | exact HB.out)) hb); clear HO326; clear HO329; clear HO334; clear BK330; clear BK331; clear BK336; clear HB; have HO326 := n0_; have HO329 := n1_; have HO334 := n2_; have HO339 := n3_; have BK330 := n4_; have BK331 := n5_; have BK336 := n6_; have HB := n7_; clear n0_ n1_ n2_ n3_ n4_ n5_ n6_ n7_; (try clear hb); (try clear hb2); (try clear hk); (try clear hi); (try clear ho0)) | ((with_reducible refine gate_dst (N := 9) rfl ?_); (try (refine gate_guard (by rfl) ?_; dsimp only)); refine box_event ?hg (N := 9) ?hd (cs := #[.slice none 0 0]) (t := 33) ?hr ?_; (case hd => rfl); (case hg => rfl); (case hr => first | (go_simp; done) | (go_simp; rfl)); intro gb341 hg w30 hbox hb; have n0_ := Aside0.mk (Kd.R_below (by (with_reducible repeat (first | apply Kd.R_alloc | apply Kd.R_drewN | apply Kd.R_drew)); exact HO326.out) hb); have n1_ := Aside0.mk (Kd.R_below (by (with_reducible repeat (first | apply Kd.R_alloc | apply Kd.R_drewN | apply Kd.R_drew)); exact HO329.out) hb); have n2_ := Aside0.mk (Kd.R_below (by (with_reducible repeat (first | apply Kd.R_alloc | apply Kd.R_drewN | apply Kd.R_drew)); exact HO334.out) hb); have n3_ := Aside0.mk (Kd.R_below (by (with_reducible repeat (first | apply Kd.R_alloc | apply Kd.R_drewN | apply Kd.R_drew)); exact HO339.out) hb); have n4_ := Aside0.mk (blk_below (g := gb330) (o := .cells #[.slice Ao16 t324.length co16] 33 (0, 0)) (by (with_reducible repeat (first | refine blk_drewN ?_ _ | refine blk_drew ?_ | refine blk_alloc ?_ _)); exact BK330.out) hb); have n5_ := Aside0.mk (blk_below (g := gb331) (o := .cells #[.slice Ao19 t327.length co19] 33 (0, 0)) (by (with_reducible repeat (first | refine blk_drewN ?_ _ | refine blk_drew ?_ | refine blk_alloc ?_ _)); exact BK331.out) hb); have n6_ := Aside0.mk (blk_below (g := gb336) (o := .cells #[.slice Ao23 t332.length co23] 33 (0, 0)) (by (with_reducible repeat (first | refine blk_drewN ?_ _ | refine blk_drew ?_ | refine blk_alloc ?_ _)); exact BK336.out) hb); have n7_ := Aside0.mk (below_step (by repeat (first | (with_reducible first | exact HB.out | apply below_alloc | apply pw_below_drewN | apply below_drew1 | refine below_set ?_ GE330.out | refine below_set ?_ GE331.out | refine below_set ?_ GE336.out) | exact HB.out)) hb); have n8_ := Aside0.mk (hbox); have n9_ := Aside0.mk ((by rw [hg]; exact (below_size (by repeat (first | (with_reducible first | exact HB.out | apply below_alloc | apply pw_below_drewN | apply below_drew1 | refine below_set ?_ GE330.out | refine below_set ?_ GE331.out | refine below_set ?_ GE336.out) | exact HB.out))) : w.heap.size ≤ gb341)); have n10_ := Aside0.mk ((by rw [hg]; exact (below_size (by repeat (first | (with_reducible first | exact HB.out | apply below_alloc | apply pw_below_drewN | apply below_drew1 | refine below_set ?_ GE330.out | refine below_set ?_ GE331.out | refine below_set ?_ GE336.out) | exact HB.out))) : w.heap.size ≤ gb341)); have n11_ := Aside0.mk ((by rw [hg]; exact Nat.ne_of_lt (blk_lt (g := gb330) (o := .cells #[.slice Ao16 t324.length co16] 33 (0, 0)) (by (with_reducible repeat (first | refine blk_drewN ?_ _ | refine blk_drew ?_ | refine blk_alloc ?_ _)); exact BK330.out)) : gb330 ≠ gb341)); have n12_ := Aside0.mk ((by rw [hg]; exact Nat.ne_of_gt (blk_lt (g := gb330) (o := .cells #[.slice Ao16 t324.length co16] 33 (0, 0)) (by (with_reducible repeat (first | refine blk_drewN ?_ _ | refine blk_drew ?_ | refine blk_alloc ?_ _)); exact BK330.out)) : gb341 ≠ gb330)); have n13_ := Aside0.mk ((by rw [hg]; exact Nat.ne_of_lt (blk_lt (g := gb331) (o := .cells #[.slice Ao19 t327.length co19] 33 (0, 0)) (by (with_reducible repeat (first | refine blk_drewN ?_ _ | refine blk_drew ?_ | refine blk_alloc ?_ _)); exact BK331.out)) : gb331 ≠ gb341)); have n14_ := Aside0.mk ((by rw [hg]; exact Nat.ne_of_gt (blk_lt (g := gb331) (o := .cells #[.slice Ao19 t327.length co19] 33 (0, 0)) (by (with_reducible repeat (first | refine blk_drewN ?_ _ | refine blk_drew ?_ | refine blk_alloc ?_ _)); exact BK331.out)) : gb341 ≠ gb331)); have n15_ := Aside0.mk ((by rw [hg]; exact Nat.ne_of_lt (blk_lt (g := gb336) (o := .cells #[.slice Ao23 t332.length co23] 33 (0, 0)) (by (with_reducible repeat (first | refine blk_drewN ?_ _ | refine blk_drew ?_ | refine blk_alloc ?_ _)); exact BK336.out)) : gb336 ≠ gb341)); have n16_ := Aside0.mk ((by rw [hg]; exact Nat.ne_of_gt (blk_lt (g := gb336) (o := .cells #[.slice Ao23 t332.length co23] 33 (0, 0)) (by (with_reducible repeat (first | refine blk_drewN ?_ _ | refine blk_drew ?_ | refine blk_alloc ?_ _)); exact BK336.out)) : gb341 ≠ gb336)); clear HO326; clear HO329; clear HO334; clear HO339; clear BK330; clear BK331; clear BK336; clear HB; have HO326 := n0_; have HO329 := n1_; have HO334 := n2_; have HO339 := n3_; have BK330 := n4_; have BK331 := n5_; have BK336 := n6_; have HB := n7_; have BK341 := n8_; have GW341 := n9_; have GE341 := n10_; have NB330_341 := n11_; have NB341_330 := n12_; have NB331_341 := n13_; have NB341_331 := n14_; have NB336_341 := n15_; have NB341_336 := n16_; clear n0_ n1_ n2_ n3_ n4_ n5_ n6_ n7_ n8_ n9_ n10_ n11_ n12_ n13_ n14_ n15_ n16_; clear hb hbox hg; obtain ⟨Ao31, co31, eo31⟩ := Kd.R_slice HO339.out; subst eo31; have hnb32 := NB341_330.out; have hnc32 := NB330_341.out; have hnb33 := NB341_331.out; have hnc33 := NB331_341.out; have hnb34 := NB341_336.out; have hnc34 := NB336_341.out; have hcz35_0 : w30.cell? ⟨gb341, 0, none⟩ = some (.slice none 0 0) := (blk_cell BK341.out 0).trans rfl; have hfz35_0 := blk_frozen BK341.out 0; have hcz36_0 : w30.cell? ⟨gb336, 0, none⟩ = some (.slice Ao23 t332.length co23) := (blk_cell BK336.out 0).trans rfl; have hfz36_0 := blk_frozen BK336.out 0; have hcz37_0 : w30.cell? ⟨gb330, 0, none⟩ = some (.slice Ao16 t324.length co16) := (blk_cell BK330.out 0).trans rfl; have hfz37_0 := blk_frozen BK330.out 0) | ((with_reducible refine gate_callee (f := 34) rfl ?_); refine goesL_ (some 38) rfl rfl Try.func34 (by kernel_rfl) rfl #[.agg #[.slice Ao23 t332.length co23], .agg #[.slice Ao16 t324.length co16]] rfl (by (try simp only [List.map_toArray, List.map_cons, List.map_nil]); first | done | rfl | (simp only [List.length_drop, List.length_take]; rfl)) ?_; (with_reducible refine (histogram_Subtract.calls _ _ t332 _ _ t324 t342 t345 _ ?side1 ?side2 ?side3 ?side4 A9.out).mono ?_); (case side1 => refine (Kd.R_reads' (e := 67) (base := w.heap.size) (ok := fun k_ => (((True ∧ some k_ ≠ (.slice Ao16 t324.length co16 : Value).ownBlock) ∧ some k_ ≠ (.slice Ao19 t327.length co19 : Value).ownBlock) ∧ some k_ ≠ (.slice Ao31 t337.length co31 : Value).ownBlock)) (n := t332.length) (c := co23) ?_).2.2; exact (by (with_reducible repeat (first | apply Kd.R_alloc | apply Kd.R_drewN | apply Kd.R_drew)); exact (Kd.R_mono (Kd.R_far (p := ⟨gb341, 0, none⟩) (Kd.R_types HO334.out BK341.out (by decide)) (fun _ hk => hk.2) (.slice Ao31 t337.length co31)) (fun _ h_ => h_.1)))); (case side2 => exact (Kd.R_reads' HO334.out).2.1); (case side3 => refine (Kd.R_reads' (e := 67) (base := w.heap.size) (ok := fun k_ => (((True ∧ some k_ ≠ (.slice Ao19 t327.length co19 : Value).ownBlock) ∧ some k_ ≠ (.slice Ao23 t332.length co23 : Value).ownBlock) ∧ some k_ ≠ (.slice Ao31 t337.length co31 : Value).ownBlock)) (n := t324.length) (c := co16) ?_).2.2; exact (by (with_reducible repeat (first | apply Kd.R_alloc | apply Kd.R_drewN | apply Kd.R_drew)); exact (Kd.R_mono (Kd.R_far (p := ⟨gb341, 0, none⟩) (Kd.R_types HO326.out BK341.out (by decide)) (fun _ hk => hk.2) (.slice Ao31 t337.length co31)) (fun _ h_ => h_.1)))); (case side4 => exact (Kd.R_reads' HO326.out).2.1); rintro e w38 ⟨v343, rfl, ho0, hb⟩; refine ⟨_, rfl, ?_⟩; have n0_ := Aside0.mk (Kd.R_elder' (by (with_reducible repeat (first | apply Kd.R_alloc | apply Kd.R_drewN | apply Kd.R_drew)); exact (Kd.R_mono (Kd.R_far (p := ⟨gb341, 0, none⟩) (Kd.R_types HO326.out BK341.out (by decide)) (fun _ hk => hk.2) (.slice Ao31 t337.length co31)) (fun _ h_ => h_.1))) (Kd.R_base ho0) hb); have n1_ := Aside0.mk (Kd.R_elder' (by (with_reducible repeat (first | apply Kd.R_alloc | apply Kd.R_drewN | apply Kd.R_drew)); exact (Kd.R_mono (Kd.R_far (p := ⟨gb341, 0, none⟩) (Kd.R_types HO329.out BK341.out (by decide)) (fun _ hk => hk.2) (.slice Ao31 t337.length co31)) (fun _ h_ => h_.1))) (Kd.R_base ho0) hb); have n2_ := Aside0.mk (Kd.R_elder' (by (with_reducible repeat (first | apply Kd.R_alloc | apply Kd.R_drewN | apply Kd.R_drew)); exact (Kd.R_mono (Kd.R_far (p := ⟨gb341, 0, none⟩) (Kd.R_types HO334.out BK341.out (by decide)) (fun _ hk => hk.2) (.slice Ao31 t337.length co31)) (fun _ h_ => h_.1))) (Kd.R_base ho0) hb); have n3_ := Aside0.mk (Kd.R_elder' (by (with_reducible repeat (first | apply Kd.R_alloc | apply Kd.R_drewN | apply Kd.R_drew)); exact (Kd.R_mono (Kd.R_far (p := ⟨gb341, 0, none⟩) (Kd.R_types HO339.out BK341.out (by decide)) (fun _ hk => hk.2) (.slice Ao31 t337.length co31)) (fun _ h_ => h_.1))) (Kd.R_base ho0) hb); have n4_ := Aside0.mk (Kd.R_lower (Kd.R_new' (Kd.R_new' (Kd.R_new' (Kd.R_new' ho0 (Kd.R_lt (by (with_reducible repeat (first | apply Kd.R_alloc | apply Kd.R_drewN | apply Kd.R_drew)); exact (Kd.R_mono (Kd.R_far (p := ⟨gb341, 0, none⟩) (Kd.R_types HO326.out BK341.out (by decide)) (fun _ hk => hk.2) (.slice Ao31 t337.length co31)) (fun _ h_ => h_.1))))) (Kd.R_lt (by (with_reducible repeat (first | apply Kd.R_alloc | apply Kd.R_drewN | apply Kd.R_drew)); exact (Kd.R_mono (Kd.R_far (p := ⟨gb341, 0, none⟩) (Kd.R_types HO329.out BK341.out (by decide)) (fun _ hk => hk.2) (.slice Ao31 t337.length co31)) (fun _ h_ => h_.1))))) (Kd.R_lt (by (with_reducible repeat (first | apply Kd.R_alloc | apply Kd.R_drewN | apply Kd.R_drew)); exact (Kd.R_mono (Kd.R_far (p := ⟨gb341, 0, none⟩) (Kd.R_types HO334.out BK341.out (by decide)) (fun _ hk => hk.2) (.slice Ao31 t337.length co31)) (fun _ h_ => h_.1))))) (Kd.R_lt (by (with_reducible repeat (first | apply Kd.R_alloc | apply Kd.R_drewN | apply Kd.R_drew)); exact (Kd.R_mono (Kd.R_far (p := ⟨gb341, 0, none⟩) (Kd.R_types HO339.out BK341.out (by decide)) (fun _ hk => hk.2) (.slice Ao31 t337.length co31)) (fun _ h_ => h_.1))))) (below_size (by repeat (first | (with_reducible first | exact HB.out | apply below_alloc | apply pw_below_drewN | apply below_drew1 | refine below_set ?_ GE330.out | refine below_set ?_ GE331.out | refine below_set ?_ GE336.out | refine below_set ?_ GE341.out) | exact HB.out)))); have n5_ := Aside0.mk (blk_below (g := gb330) (o := .cells #[.slice Ao16 t324.length co16] 33 (0, 0)) (by (with_reducible repeat (first | refine blk_drewN ?_ _ | refine blk_drew ?_ | refine blk_alloc ?_ _)); refine blk_far ?_ NB330_341.out _; (with_reducible repeat (first | refine blk_drewN ?_ _ | refine blk_drew ?_ | refine blk_alloc ?_ _)); exact BK330.out) hb); have n6_ := Aside0.mk (blk_below (g := gb331) (o := .cells #[.slice Ao19 t327.length co19] 33 (0, 0)) (by (with_reducible repeat (first | refine blk_drewN ?_ _ | refine blk_drew ?_ | refine blk_alloc ?_ _)); refine blk_far ?_ NB331_341.out _; (with_reducible repeat (first | refine blk_drewN ?_ _ | refine blk_drew ?_ | refine blk_alloc ?_ _)); exact BK331.out) hb); have n7_ := Aside0.mk (blk_below (g := gb336) (o := .cells #[.slice Ao23 t332.length co23] 33 (0, 0)) (by (with_reducible repeat (first | refine blk_drewN ?_ _ | refine blk_drew ?_ | refine blk_alloc ?_ _)); refine blk_far ?_ NB336_341.out _; (with_reducible repeat (first | refine blk_drewN ?_ _ | refine blk_drew ?_ | refine blk_alloc ?_ _)); exact BK336.out) hb); have n8_ := Aside0.mk (blk_below (g := gb341) (o := .cells #[.slice Ao31 t337.length co31] 33 (0, 0)) (by (with_reducible repeat (first | refine blk_drewN ?_ _ | refine blk_drew ?_ | refine blk_alloc ?_ _)); refine blk_put (cs := #[.slice none 0 0]) ?_ 0 _ rfl; (with_reducible repeat (first | refine blk_drewN ?_ _ | refine blk_drew ?_ | refine blk_alloc ?_ _)); exact BK341.out) hb); have n9_ := Aside0.mk (below_step (by repeat (first | (with_reducible first | exact HB.out | apply below_alloc | apply pw_below_drewN | apply below_drew1 | refine below_set ?_ GE330.out | refine below_set ?_ GE331.out | refine below_set ?_ GE336.out | refine below_set ?_ GE341.out) | exact HB.out)) hb); clear HO326; clear HO329; clear HO334; clear HO339; clear BK330; clear BK331; clear BK336; clear BK341; clear HB; have HO326 := n0_; have HO329 := n1_; have HO334 := n2_; have HO339 := n3_; have HO344 := n4_; have BK330 := n5_; have BK331 := n6_; have BK336 := n7_; have BK341 := n8_; have HB := n9_; clear n0_ n1_ n2_ n3_ n4_ n5_ n6_ n7_ n8_ n9_; (try clear hb); (try clear hb2); (try clear hk); (try clear hi); (try clear ho0)) | ((with_reducible refine gate_dst (N := 11) rfl ?_); (try (refine gate_guard (by rfl) ?_; dsimp only)); refine box_event ?hg (N := 11) ?hd (cs := #[.slice none 0 0]) (t := 33) ?hr ?_; (case hd => rfl); (case hg => rfl); (case hr => first | (go_simp; done) | (go_simp; rfl)); intro gb346 hg w39 hbox hb; have n0_ := Aside0.mk (Kd.R_below (by (with_reducible repeat (first | apply Kd.R_alloc | apply Kd.R_drewN | apply Kd.R_drew)); exact HO326.out) hb); have n1_ := Aside0.mk (Kd.R_below (by (with_reducible repeat (first | apply Kd.R_alloc | apply Kd.R_drewN | apply Kd.R_drew)); exact HO329.out) hb); have n2_ := Aside0.mk (Kd.R_below (by (with_reducible repeat (first | apply Kd.R_alloc | apply Kd.R_drewN | apply Kd.R_drew)); exact HO334.out) hb); have n3_ := Aside0.mk (Kd.R_below (by (with_reducible repeat (first | apply Kd.R_alloc | apply Kd.R_drewN | apply Kd.R_drew)); exact HO339.out) hb); have n4_ := Aside0.mk (Kd.R_below (by (with_reducible repeat (first | apply Kd.R_alloc | apply Kd.R_drewN | apply Kd.R_drew)); exact HO344.out) hb); have n5_ := Aside0.mk (blk_below (g := gb330) (o := .cells #[.slice Ao16 t324.length co16] 33 (0, 0)) (by (with_reducible repeat (first | refine blk_drewN ?_ _ | refine blk_drew ?_ | refine blk_alloc ?_ _)); exact BK330.out) hb); have n6_ := Aside0.mk (blk_below (g := gb331) (o := .cells #[.slice Ao19 t327.length co19] 33 (0, 0)) (by (with_reducible repeat (first | refine blk_drewN ?_ _ | refine blk_drew ?_ | refine blk_alloc ?_ _)); exact BK331.out) hb); have n7_ := Aside0.mk (blk_below (g := gb336) (o := .cells #[.slice Ao23 t332.length co23] 33 (0, 0)) (by (with_reducible repeat (first | refine blk_drewN ?_ _ | refine blk_drew ?_ | refine blk_alloc ?_ _)); exact BK336.out) hb); have n8_ := Aside0.mk (blk_below (g := gb341) (o := .cells #[.slice Ao31 t337.length co31] 33 (0, 0)) (by (with_reducible repeat (first | refine blk_drewN ?_ _ | refine blk_drew ?_ | refine blk_alloc ?_ _)); exact BK341.out) hb); have n9_ := Aside0.mk (below_step (by repeat (first | (with_reducible first | exact HB.out | apply below_alloc | apply pw_below_drewN | apply below_drew1 | refine below_set ?_ GE330.out | refine below_set ?_ GE331.out | refine below_set ?_ GE336.out | refine below_set ?_ GE341.out) | exact HB.out)) hb); have n10_ := Aside0.mk (hbox); have n11_ := Aside0.mk ((by rw [hg]; exact (below_size (by repeat (first | (with_reducible first | exact HB.out | apply below_alloc | apply pw_below_drewN | apply below_drew1 | refine below_set ?_ GE330.out | refine below_set ?_ GE331.out | refine below_set ?_ GE336.out | refine below_set ?_ GE341.out) | exact HB.out))) : w.heap.size ≤ gb346)); have n12_ := Aside0.mk ((by rw [hg]; exact (below_size (by repeat (first | (with_reducible first | exact HB.out | apply below_alloc | apply pw_below_drewN | apply below_drew1 | refine below_set ?_ GE330.out | refine below_set ?_ GE331.out | refine below_set ?_ GE336.out | refine below_set ?_ GE341.out) | exact HB.out))) : w.heap.size ≤ gb346)); have n13_ := Aside0.mk ((by rw [hg]; exact Nat.ne_of_lt (blk_lt (g := gb330) (o := .cells #[.slice Ao16 t324.length co16] 33 (0, 0)) (by (with_reducible repeat (first | refine blk_drewN ?_ _ | refine blk_drew ?_ | refine blk_alloc ?_ _)); exact BK330.out)) : gb330 ≠ gb346)); have n14_ := Aside0.mk ((by rw [hg]; exact Nat.ne_of_gt (blk_lt (g := gb330) (o := .cells #[.slice Ao16 t324.length co16] 33 (0, 0)) (by (with_reducible repeat (first | refine blk_drewN ?_ _ | refine blk_drew ?_ | refine blk_alloc ?_ _)); exact BK330.out)) : gb346 ≠ gb330)); have n15_ := Aside0.mk ((by rw [hg]; exact Nat.ne_of_lt (blk_lt (g := gb331) (o := .cells #[.slice Ao19 t327.length co19] 33 (0, 0)) (by (with_reducible repeat (first | refine blk_drewN ?_ _ | refine blk_drew ?_ | refine blk_alloc ?_ _)); exact BK331.out)) : gb331 ≠ gb346)); have n16_ := Aside0.mk ((by rw [hg]; exact Nat.ne_of_gt (blk_lt (g := gb331) (o := .cells #[.slice Ao19 t327.length co19] 33 (0, 0)) (by (with_reducible repeat (first | refine blk_drewN ?_ _ | refine blk_drew ?_ | refine blk_alloc ?_ _)); exact BK331.out)) : gb346 ≠ gb331)); have n17_ := Aside0.mk ((by rw [hg]; exact Nat.ne_of_lt (blk_lt (g := gb336) (o := .cells #[.slice Ao23 t332.length co23] 33 (0, 0)) (by (with_reducible repeat (first | refine blk_drewN ?_ _ | refine blk_drew ?_ | refine blk_alloc ?_ _)); exact BK336.out)) : gb336 ≠ gb346)); have n18_ := Aside0.mk ((by rw [hg]; exact Nat.ne_of_gt (blk_lt (g := gb336) (o := .cells #[.slice Ao23 t332.length co23] 33 (0, 0)) (by (with_reducible repeat (first | refine blk_drewN ?_ _ | refine blk_drew ?_ | refine blk_alloc ?_ _)); exact BK336.out)) : gb346 ≠ gb336)); have n19_ := Aside0.mk ((by rw [hg]; exact Nat.ne_of_lt (blk_lt (g := gb341) (o := .cells #[.slice Ao31 t337.length co31] 33 (0, 0)) (by (with_reducible repeat (first | refine blk_drewN ?_ _ | refine blk_drew ?_ | refine blk_alloc ?_ _)); exact BK341.out)) : gb341 ≠ gb346)); have n20_ := Aside0.mk ((by rw [hg]; exact Nat.ne_of_gt (blk_lt (g := gb341) (o := .cells #[.slice Ao31 t337.length co31] 33 (0, 0)) (by (with_reducible repeat (first | refine blk_drewN ?_ _ | refine blk_drew ?_ | refine blk_alloc ?_ _)); exact BK341.out)) : gb346 ≠ gb341)); clear HO326; clear HO329; clear HO334; clear HO339; clear HO344; clear BK330; clear BK331; clear BK336; clear BK341; clear HB; have HO326 := n0_; have HO329 := n1_; have HO334 := n2_; have HO339 := n3_; have HO344 := n4_; have BK330 := n5_; have BK331 := n6_; have BK336 := n7_; have BK341 := n8_; have HB := n9_; have BK346 := n10_; have GW346 := n11_; have GE346 := n12_; have NB330_346 := n13_; have NB346_330 := n14_; have NB331_346 := n15_; have NB346_331 := n16_; have NB336_346 := n17_; have NB346_336 := n18_; have NB341_346 := n19_; have NB346_341 := n20_; clear n0_ n1_ n2_ n3_ n4_ n5_ n6_ n7_ n8_ n9_ n10_ n11_ n12_ n13_ n14_ n15_ n16_ n17_ n18_ n19_ n20_; clear hb hbox hg; obtain ⟨Ao40, co40, eo40⟩ := Kd.R_slice HO344.out; subst eo40; have hnb41 := NB346_330.out; have hnc41 := NB330_346.out; have hnb42 := NB346_331.out; have hnc42 := NB331_346.out; have hnb43 := NB346_336.out; have hnc43 := NB336_346.out; have hnb44 := NB346_341.out; have hnc44 := NB341_346.out; have hcz45_0 : w39.cell? ⟨gb346, 0, none⟩ = some (.slice none 0 0) := (blk_cell BK346.out 0).trans rfl; have hfz45_0 := blk_frozen BK346.out 0))
    (try simp only [Act.put, List.setIfInBounds_toArray, List.set_cons_zero, List.set_cons_succ])
    go_cut [95] (fun v95 wc => ∃ (kq : Nat) (x95_9 : Bool), v95 = .bool x95_9 ∧ Aside0 (sleuthlaw21_HistogramMerges.j0 kq x95_9 t324 t327 = some r) ∧ Aside0 (kq ≤ k) ∧ Aside0 (Kd.R k67 67 wc w.heap.size (fun k_ => some k_ ≠ ((.slice Ao19 t327.length co19) : Value).ownBlock ∧ some k_ ≠ ((.slice Ao23 t332.length co23) : Value).ownBlock ∧ some k_ ≠ ((.slice Ao31 t337.length co31) : Value).ownBlock ∧ some k_ ≠ ((.slice Ao40 t342.length co40) : Value).ownBlock) (.slice Ao16 t324.length co16) t324) ∧ Aside0 (Kd.R k67 67 wc w.heap.size (fun k_ => some k_ ≠ ((.slice Ao16 t324.length co16) : Value).ownBlock ∧ some k_ ≠ ((.slice Ao23 t332.length co23) : Value).ownBlock ∧ some k_ ≠ ((.slice Ao31 t337.length co31) : Value).ownBlock ∧ some k_ ≠ ((.slice Ao40 t342.length co40) : Value).ownBlock) (.slice Ao19 t327.length co19) t327) ∧ Aside0 (Kd.R k67 67 wc w.heap.size (fun k_ => some k_ ≠ ((.slice Ao16 t324.length co16) : Value).ownBlock ∧ some k_ ≠ ((.slice Ao19 t327.length co19) : Value).ownBlock ∧ some k_ ≠ ((.slice Ao31 t337.length co31) : Value).ownBlock ∧ some k_ ≠ ((.slice Ao40 t342.length co40) : Value).ownBlock) (.slice Ao23 t332.length co23) t332) ∧ Aside0 (Kd.R k67 67 wc w.heap.size (fun k_ => some k_ ≠ ((.slice Ao16 t324.length co16) : Value).ownBlock ∧ some k_ ≠ ((.slice Ao19 t327.length co19) : Value).ownBlock ∧ some k_ ≠ ((.slice Ao23 t332.length co23) : Value).ownBlock ∧ some k_ ≠ ((.slice Ao40 t342.length co40) : Value).ownBlock) (.slice Ao31 t337.length co31) t337) ∧ Aside0 (Kd.R k67 67 wc w.heap.size (fun k_ => some k_ ≠ ((.slice Ao16 t324.length co16) : Value).ownBlock ∧ some k_ ≠ ((.slice Ao19 t327.length co19) : Value).ownBlock ∧ some k_ ≠ ((.slice Ao23 t332.length co23) : Value).ownBlock ∧ some k_ ≠ ((.slice Ao31 t337.length co31) : Value).ownBlock) (.slice Ao40 t342.length co40) t342) ∧ Aside0 (wc.heap[gb330]? = some (.cells #[(.slice Ao16 t324.length co16)] 33 (0, 0))) ∧ Aside0 (wc.heap[gb331]? = some (.cells #[(.slice Ao19 t327.length co19)] 33 (0, 0))) ∧ Aside0 (wc.heap[gb336]? = some (.cells #[(.slice Ao23 t332.length co23)] 33 (0, 0))) ∧ Aside0 (wc.heap[gb341]? = some (.cells #[(.slice Ao31 t337.length co31)] 33 (0, 0))) ∧ Aside0 (wc.heap[gb346]? = some (.cells #[(.slice Ao40 t342.length co40)] 33 (0, 0))) ∧ Aside0 (Below w.heap.size w wc))
    case first =>
      have H := HC10.out; clear HC10
      by_cases c46 : t335 = 0
      · rw [if_pos c46] at H
        have c46b0 : (t335 == 0) = true := beq_iff_eq.mpr c46
        have c46b1 : (t335 != 0) = false := bne_eq_false_iff_eq.mpr c46
        clear c46
        (first | rw [c46b0] | (simp only [i64_w, i32_w]; rw [c46b0]) | skip)
        by_cases c47 : t340 = 0
        · rw [if_pos c47] at H
          have c47b0 : (t340 == 0) = true := beq_iff_eq.mpr c47
          have c47b1 : (t340 != 0) = false := bne_eq_false_iff_eq.mpr c47
          clear c47
          by_cases c48 : t345 = 0
          · rw [if_pos c48] at H
            have c48b0 : (t345 == 0) = true := beq_iff_eq.mpr c48
            have c48b1 : (t345 != 0) = false := bne_eq_false_iff_eq.mpr c48
            clear c48; replace H := Option.bind_eq_some_iff.mp H; obtain ⟨t347, A490, H⟩ := H; (try dsimp only at H); have A49 := Aside0.mk A490; clear A490; replace H := Option.bind_eq_some_iff.mp H; obtain ⟨t350, A500, H⟩ := H; (try dsimp only at H); have A50 := Aside0.mk A500; clear A500
            by_cases c51 : t347.length + t350.length < 17592186044416
            · rw [if_pos c51] at H
              have LMc51 := Aside0.mk c51; clear c51
              obtain ⟨y353, hy353⟩ : ∃ y_ : List Int, y_ = (t347 ++ t350) := ⟨_, rfl⟩
              replace H : ((sleuthlaw21_count.f k y353).bind fun t356 => ((sleuthlaw21_same.f k t332 t356).bind fun t359 => (if t359 = true then ((histogram_Equal.f k t332 t337).bind fun t360 => (if t360 = true then ((histogram_Equal.f k t342 t327).bind fun t361 => (if t361 = true then ((histogram_Equal.f k t324 t327).bind fun t362 => ((sleuthlaw21_values.f k l0).bind fun t363 => ((sleuthlaw21_count.f k t363).bind fun t366 => ((sleuthlaw21_values.f k l1).bind fun t369 => ((sleuthlaw21_count.f k t369).bind fun t372 => (if (t366.length : Int) = (t372.length : Int) then ((sleuthlaw21_values.f k l1).bind fun t375 => ((sleuthlaw21_count.f k t375).bind fun t378 => ((sleuthlaw21_same.f k t324 t378).bind fun t381 => (sleuthlaw21_HistogramMerges.j0 k (t362 != t381) t324 t327)))) else (sleuthlaw21_HistogramMerges.j0 k (t362 != false) t324 t327))))))) else (sleuthlaw21_HistogramMerges.j0 k true t324 t327))) else (sleuthlaw21_HistogramMerges.j0 k true t324 t327))) else (sleuthlaw21_HistogramMerges.j0 k true t324 t327)))) = some r := by first | (rw [hy353]; with_reducible exact H) | (have H2_ := (Option.bind_some _ _).symm.trans H; rw [hy353]; with_reducible exact H2_) | (have H2_ := (Option.bind_some _ _).symm.trans H; with_reducible exact H2_) | with_reducible exact H | (rw [hy353]; exact H) | exact H
              have Ny353 := Aside0.mk hy353; clear hy353; replace H := Option.bind_eq_some_iff.mp H; obtain ⟨t356, A520, H⟩ := H; (try dsimp only at H); have A52 := Aside0.mk A520; clear A520; replace H := Option.bind_eq_some_iff.mp H; obtain ⟨t359, A530, H⟩ := H; (try dsimp only at H); have A53 := Aside0.mk A530; clear A530
              by_cases c54 : t359 = true
              · subst c54
                (rw [if_pos rfl] at H)
                replace H := Option.bind_eq_some_iff.mp H; obtain ⟨t360, A550, H⟩ := H; (try dsimp only at H); have A55 := Aside0.mk A550; clear A550
                by_cases c56 : t360 = true
                · subst c56
                  (rw [if_pos rfl] at H)
                  replace H := Option.bind_eq_some_iff.mp H; obtain ⟨t361, A570, H⟩ := H; (try dsimp only at H); have A57 := Aside0.mk A570; clear A570
                  by_cases c58 : t361 = true
                  · subst c58
                    (rw [if_pos rfl] at H)
                    replace H := Option.bind_eq_some_iff.mp H; obtain ⟨t362, A590, H⟩ := H; (try dsimp only at H); have A59 := Aside0.mk A590; clear A590; replace H := Option.bind_eq_some_iff.mp H; obtain ⟨t363, A600, H⟩ := H; (try dsimp only at H); have A60 := Aside0.mk A600; clear A600; replace H := Option.bind_eq_some_iff.mp H; obtain ⟨t366, A610, H⟩ := H; (try dsimp only at H); have A61 := Aside0.mk A610; clear A610; replace H := Option.bind_eq_some_iff.mp H; obtain ⟨t369, A620, H⟩ := H; (try dsimp only at H); have A62 := Aside0.mk A620; clear A620; replace H := Option.bind_eq_some_iff.mp H; obtain ⟨t372, A630, H⟩ := H; (try dsimp only at H); have A63 := Aside0.mk A630; clear A630; have HQ_ := Aside0.mk H; clear H
                    try go_wp2
                    have n0_ : Aside0 (Kd.R k67 67 (w39.setCell ⟨gb346, 0, none⟩ (.slice Ao40 t342.length co40)) w.heap.size (fun k_ => some k_ ≠ (.slice Ao19 t327.length co19 : Value).ownBlock ∧ some k_ ≠ (.slice Ao23 t332.length co23 : Value).ownBlock ∧ some k_ ≠ (.slice Ao31 t337.length co31 : Value).ownBlock ∧ some k_ ≠ (.slice Ao40 t342.length co40 : Value).ownBlock) (.slice Ao16 t324.length co16) t324) := ⟨by (with_reducible repeat (first | apply Kd.R_alloc | apply Kd.R_drewN | apply Kd.R_drew)); exact Kd.R_mono (Kd.R_far (p := ⟨gb346, 0, none⟩) (Kd.R_types HO326.out BK346.out (by decide)) (fun _ hk => hk.2) (.slice Ao40 t342.length co40)) (fun _ hk => ⟨hk.1.1.1.1.2, ⟨hk.1.1.1.2, ⟨hk.1.1.2, hk.1.2⟩⟩⟩)⟩
                    have n1_ : Aside0 (Kd.R k67 67 (w39.setCell ⟨gb346, 0, none⟩ (.slice Ao40 t342.length co40)) w.heap.size (fun k_ => some k_ ≠ (.slice Ao16 t324.length co16 : Value).ownBlock ∧ some k_ ≠ (.slice Ao23 t332.length co23 : Value).ownBlock ∧ some k_ ≠ (.slice Ao31 t337.length co31 : Value).ownBlock ∧ some k_ ≠ (.slice Ao40 t342.length co40 : Value).ownBlock) (.slice Ao19 t327.length co19) t327) := ⟨by (with_reducible repeat (first | apply Kd.R_alloc | apply Kd.R_drewN | apply Kd.R_drew)); exact Kd.R_mono (Kd.R_far (p := ⟨gb346, 0, none⟩) (Kd.R_types HO329.out BK346.out (by decide)) (fun _ hk => hk.2) (.slice Ao40 t342.length co40)) (fun _ hk => ⟨hk.1.1.1.1.2, ⟨hk.1.1.1.2, ⟨hk.1.1.2, hk.1.2⟩⟩⟩)⟩
                    have n2_ : Aside0 (Kd.R k67 67 (w39.setCell ⟨gb346, 0, none⟩ (.slice Ao40 t342.length co40)) w.heap.size (fun k_ => some k_ ≠ (.slice Ao16 t324.length co16 : Value).ownBlock ∧ some k_ ≠ (.slice Ao19 t327.length co19 : Value).ownBlock ∧ some k_ ≠ (.slice Ao31 t337.length co31 : Value).ownBlock ∧ some k_ ≠ (.slice Ao40 t342.length co40 : Value).ownBlock) (.slice Ao23 t332.length co23) t332) := ⟨by (with_reducible repeat (first | apply Kd.R_alloc | apply Kd.R_drewN | apply Kd.R_drew)); exact Kd.R_mono (Kd.R_far (p := ⟨gb346, 0, none⟩) (Kd.R_types HO334.out BK346.out (by decide)) (fun _ hk => hk.2) (.slice Ao40 t342.length co40)) (fun _ hk => ⟨hk.1.1.1.1.2, ⟨hk.1.1.1.2, ⟨hk.1.1.2, hk.1.2⟩⟩⟩)⟩
                    have n3_ : Aside0 (Kd.R k67 67 (w39.setCell ⟨gb346, 0, none⟩ (.slice Ao40 t342.length co40)) w.heap.size (fun k_ => some k_ ≠ (.slice Ao16 t324.length co16 : Value).ownBlock ∧ some k_ ≠ (.slice Ao19 t327.length co19 : Value).ownBlock ∧ some k_ ≠ (.slice Ao23 t332.length co23 : Value).ownBlock ∧ some k_ ≠ (.slice Ao40 t342.length co40 : Value).ownBlock) (.slice Ao31 t337.length co31) t337) := ⟨by (with_reducible repeat (first | apply Kd.R_alloc | apply Kd.R_drewN | apply Kd.R_drew)); exact Kd.R_mono (Kd.R_far (p := ⟨gb346, 0, none⟩) (Kd.R_types HO339.out BK346.out (by decide)) (fun _ hk => hk.2) (.slice Ao40 t342.length co40)) (fun _ hk => ⟨hk.1.1.1.1.2, ⟨hk.1.1.1.2, ⟨hk.1.1.2, hk.1.2⟩⟩⟩)⟩
                    have n4_ : Aside0 (Kd.R k67 67 (w39.setCell ⟨gb346, 0, none⟩ (.slice Ao40 t342.length co40)) w.heap.size (fun k_ => some k_ ≠ (.slice Ao16 t324.length co16 : Value).ownBlock ∧ some k_ ≠ (.slice Ao19 t327.length co19 : Value).ownBlock ∧ some k_ ≠ (.slice Ao23 t332.length co23 : Value).ownBlock ∧ some k_ ≠ (.slice Ao31 t337.length co31 : Value).ownBlock) (.slice Ao40 t342.length co40) t342) := ⟨by (with_reducible repeat (first | apply Kd.R_alloc | apply Kd.R_drewN | apply Kd.R_drew)); exact Kd.R_mono (Kd.R_far (p := ⟨gb346, 0, none⟩) (Kd.R_types HO344.out BK346.out (by decide)) (fun _ hk => hk.2) (.slice Ao40 t342.length co40)) (fun _ hk => ⟨hk.1.1.1.1.2, ⟨hk.1.1.1.2, ⟨hk.1.1.2, hk.1.2⟩⟩⟩)⟩
                    have n5_ : Aside0 ((w39.setCell ⟨gb346, 0, none⟩ (.slice Ao40 t342.length co40)).heap[gb330]? = some (.cells #[.slice Ao16 t324.length co16] 33 (0, 0))) := ⟨by (with_reducible repeat (first | refine blk_drewN ?_ _ | refine blk_drew ?_ | refine blk_alloc ?_ _)); refine blk_far ?_ NB330_346.out _; (with_reducible repeat (first | refine blk_drewN ?_ _ | refine blk_drew ?_ | refine blk_alloc ?_ _)); exact BK330.out⟩
                    have n6_ : Aside0 ((w39.setCell ⟨gb346, 0, none⟩ (.slice Ao40 t342.length co40)).heap[gb331]? = some (.cells #[.slice Ao19 t327.length co19] 33 (0, 0))) := ⟨by (with_reducible repeat (first | refine blk_drewN ?_ _ | refine blk_drew ?_ | refine blk_alloc ?_ _)); refine blk_far ?_ NB331_346.out _; (with_reducible repeat (first | refine blk_drewN ?_ _ | refine blk_drew ?_ | refine blk_alloc ?_ _)); exact BK331.out⟩
                    have n7_ : Aside0 ((w39.setCell ⟨gb346, 0, none⟩ (.slice Ao40 t342.length co40)).heap[gb336]? = some (.cells #[.slice Ao23 t332.length co23] 33 (0, 0))) := ⟨by (with_reducible repeat (first | refine blk_drewN ?_ _ | refine blk_drew ?_ | refine blk_alloc ?_ _)); refine blk_far ?_ NB336_346.out _; (with_reducible repeat (first | refine blk_drewN ?_ _ | refine blk_drew ?_ | refine blk_alloc ?_ _)); exact BK336.out⟩
                    have n8_ : Aside0 ((w39.setCell ⟨gb346, 0, none⟩ (.slice Ao40 t342.length co40)).heap[gb341]? = some (.cells #[.slice Ao31 t337.length co31] 33 (0, 0))) := ⟨by (with_reducible repeat (first | refine blk_drewN ?_ _ | refine blk_drew ?_ | refine blk_alloc ?_ _)); refine blk_far ?_ NB341_346.out _; (with_reducible repeat (first | refine blk_drewN ?_ _ | refine blk_drew ?_ | refine blk_alloc ?_ _)); exact BK341.out⟩
                    have n9_ : Aside0 ((w39.setCell ⟨gb346, 0, none⟩ (.slice Ao40 t342.length co40)).heap[gb346]? = some (.cells #[.slice Ao40 t342.length co40] 33 (0, 0))) := ⟨by (with_reducible repeat (first | refine blk_drewN ?_ _ | refine blk_drew ?_ | refine blk_alloc ?_ _)); refine blk_put (cs := #[.slice none 0 0]) ?_ 0 _ rfl; (with_reducible repeat (first | refine blk_drewN ?_ _ | refine blk_drew ?_ | refine blk_alloc ?_ _)); exact BK346.out⟩
                    have n10_ : Aside0 (Below w.heap.size w (w39.setCell ⟨gb346, 0, none⟩ (.slice Ao40 t342.length co40))) := ⟨by repeat (first | (with_reducible first | exact HB.out | apply below_alloc | apply pw_below_drewN | apply below_drew1 | refine below_set ?_ GE330.out | refine below_set ?_ GE331.out | refine below_set ?_ GE336.out | refine below_set ?_ GE341.out | refine below_set ?_ GE346.out) | exact HB.out)⟩
                    (try clear HO326); (try clear HO329); (try clear HO334); (try clear HO339); (try clear HO344); (try clear BK330); (try clear BK331); (try clear BK336); (try clear BK341); (try clear BK346); (try clear HB); generalize (w39.setCell ⟨gb346, 0, none⟩ (.slice Ao40 t342.length co40)) = w68 at n0_ n1_ n2_ n3_ n4_ n5_ n6_ n7_ n8_ n9_ n10_ ⊢; have HO326 := n0_; have HO329 := n1_; have HO334 := n2_; have HO339 := n3_; have HO344 := n4_; have BK330 := n5_; have BK331 := n6_; have BK336 := n7_; have BK341 := n8_; have BK346 := n9_; have HB := n10_; clear n0_ n1_ n2_ n3_ n4_ n5_ n6_ n7_ n8_ n9_ n10_; have n0_ := Aside0.mk (Kd.R_drew HO326.out); have n1_ := Aside0.mk (Kd.R_drew HO329.out); have n2_ := Aside0.mk (Kd.R_drew HO334.out); have n3_ := Aside0.mk (Kd.R_drew HO339.out); have n4_ := Aside0.mk (Kd.R_drew HO344.out); have n5_ := Aside0.mk (blk_drew BK330.out); have n6_ := Aside0.mk (blk_drew BK331.out); have n7_ := Aside0.mk (blk_drew BK336.out); have n8_ := Aside0.mk (blk_drew BK341.out); have n9_ := Aside0.mk (blk_drew BK346.out); have n10_ := Aside0.mk (below_drew1 HB.out); clear HO326 HO329 HO334 HO339 HO344 BK330 BK331 BK336 BK341 BK346 HB; have HO326 := n0_; have HO329 := n1_; have HO334 := n2_; have HO339 := n3_; have HO344 := n4_; have BK330 := n5_; have BK331 := n6_; have BK336 := n7_; have BK341 := n8_; have BK346 := n9_; have HB := n10_; clear n0_ n1_ n2_ n3_ n4_ n5_ n6_ n7_ n8_ n9_ n10_
                    refine start_ (n := 55) (S := fun w' => w'.cell? ⟨gb336, 0, none⟩ = some (.slice Ao23 t332.length co23) ∧ w'.cell? ⟨gb341, 0, none⟩ = some (.slice Ao31 t337.length co31) ∧ w'.cell? ⟨gb346, 0, none⟩ = some (.slice Ao40 t342.length co40) ∧ w'.cell? ⟨gb331, 0, none⟩ = some (.slice Ao19 t327.length co19) ∧ w'.cell? ⟨gb330, 0, none⟩ = some (.slice Ao16 t324.length co16)) (ds := []) (tfs true [0, 55]).toArray (by kernel_rfl) rfl rfl ⟨(blk_cell BK336.out 0).trans rfl, (blk_cell BK341.out 0).trans rfl, (blk_cell BK346.out 0).trans rfl, (blk_cell BK331.out 0).trans rfl, (blk_cell BK330.out 0).trans rfl⟩ (fun hHeld => ?_); refine with_tabW sleuthlaw21_HistogramMerges.tab7 sleuthlaw21_HistogramMerges.bits7 (fun HT_ HW_ => ?_)
                    generalize w68.drew = w69 at HO326 HO329 HO334 HO339 HO344 BK330 BK331 BK336 BK341 BK346 HB hHeld ⊢
                    refine pure_ (i := 0) (N := some 41) (v := ?_) (a' := ?_) (tfs true [1, 54]).toArray rfl rfl (any_of HT_.out (by kernel_rfl)) (fun _ _ _ h => h) (Or.inl ⟨by rfl, ?_⟩) ?_ ?_
                    rotate_left
                    · intro w'
                      go_simp
                      with_reducible rfl
                    rotate_left
                    · simp only [Act.put, List.setIfInBounds_toArray, List.set_cons_zero, List.set_cons_succ, i64_w, i32_w]
                      rfl
                    refine pure_ (i := 1) (N := some 42) (v := ?_) (a' := ?_) (tfs true [2, 53]).toArray rfl rfl (any_of HT_.out (by kernel_rfl)) (fun _ _ _ h => h) (Or.inl ⟨by rfl, ?_⟩) ?_ ?_
                    rotate_left
                    · intro w'
                      go_simp
                      with_reducible rfl
                    rotate_left
                    · simp only [Act.put, List.setIfInBounds_toArray, List.set_cons_zero, List.set_cons_succ, i64_w, i32_w]
                      rfl
                    refine pure_ (i := 2) (N := some 43) (v := ?_) (a' := ?_) (tfs true [3, 52]).toArray rfl rfl (any_of HT_.out (by kernel_rfl)) (fun _ _ _ h => h) (Or.inl ⟨by rfl, ?_⟩) ?_ ?_
                    rotate_left
                    · intro w'
                      go_simp
                      with_reducible rfl
                    rotate_left
                    · simp only [Act.put, List.setIfInBounds_toArray, List.set_cons_zero, List.set_cons_succ, i64_w, i32_w]
                      rfl
                    refine pure_ (i := 3) (N := some 44) (v := ?_) (a' := ?_) (tfs true [4, 51]).toArray rfl rfl (any_of HT_.out (by kernel_rfl)) (fun _ _ _ h => h) (Or.inl ⟨by rfl, ?_⟩) ?_ ?_
                    rotate_left
                    · intro w'
                      go_simp
                      with_reducible rfl
                    rotate_left
                    · simp only [Act.put, List.setIfInBounds_toArray, List.set_cons_zero, List.set_cons_succ, i64_w, i32_w]
                      rfl
                    refine pure_ (i := 4) (N := some 45) (v := ?_) (a' := ?_) (tfs true [5, 50]).toArray rfl rfl (any_of HT_.out (by kernel_rfl)) (fun _ _ _ h => h) (Or.inl ⟨by rfl, ?_⟩) ?_ ?_
                    rotate_left
                    · intro w'
                      go_simp
                      with_reducible rfl
                    rotate_left
                    · simp only [Act.put, List.setIfInBounds_toArray, List.set_cons_zero, List.set_cons_succ, i64_w, i32_w]
                      rfl
                    refine pure_ (i := 5) (N := some 46) (v := ?_) (a' := ?_) (tfs true [6, 49]).toArray rfl rfl (any_of HT_.out (by kernel_rfl)) (fun _ _ _ h => h) (Or.inl ⟨by rfl, ?_⟩) ?_ ?_
                    rotate_left
                    · intro w'
                      go_simp
                      with_reducible rfl
                    rotate_left
                    · simp only [Act.put, List.setIfInBounds_toArray, List.set_cons_zero, List.set_cons_succ, i64_w, i32_w]
                      rfl
                    refine pure_ (i := 6) (N := some 47) (v := ?_) (a' := ?_) (tfs true [7, 48]).toArray rfl rfl (any_of HT_.out (by kernel_rfl)) (fun _ _ _ h => h) (Or.inl ⟨by rfl, ?_⟩) ?_ ?_
                    rotate_left
                    · intro w'
                      go_simp
                      with_reducible rfl
                    rotate_left
                    · simp only [Act.put, List.setIfInBounds_toArray, List.set_cons_zero, List.set_cons_succ, i64_w, i32_w]
                      rfl
                    refine pure_ (i := 7) (N := some 48) (v := ?_) (a' := ?_) (tfs true [8, 47]).toArray rfl rfl (any_of HT_.out (by kernel_rfl)) (fun _ _ _ h => h) (Or.inl ⟨by rfl, ?_⟩) ?_ ?_
                    rotate_left
                    · intro w'
                      go_simp
                      with_reducible rfl
                    rotate_left
                    · simp only [Act.put, List.setIfInBounds_toArray, List.set_cons_zero, List.set_cons_succ, i64_w, i32_w]
                      rfl
                    refine pure_ (i := 8) (N := some 49) (v := ?_) (a' := ?_) (tfs true [9, 46]).toArray rfl rfl (any_of HT_.out (by kernel_rfl)) (fun _ _ _ h => h) (Or.inl ⟨by rfl, ?_⟩) ?_ ?_
                    rotate_left
                    · intro w'
                      go_simp
                      with_reducible rfl
                    rotate_left
                    · simp only [Act.put, List.setIfInBounds_toArray, List.set_cons_zero, List.set_cons_succ, i64_w, i32_w]
                      rfl
                    refine pure_ (i := 9) (N := some 50) (v := ?_) (a' := ?_) (tfs true [10, 45]).toArray rfl rfl (any_of HT_.out (by kernel_rfl)) (fun _ _ _ h => h) (Or.inl ⟨by rfl, ?_⟩) ?_ ?_
                    rotate_left
                    · intro w'
                      go_simp
                      with_reducible rfl
                    rotate_left
                    · simp only [Act.put, List.setIfInBounds_toArray, List.set_cons_zero, List.set_cons_succ, i64_w, i32_w]
                      rfl
                    refine pure_ (i := 10) (N := some 51) (v := ?_) (a' := ?_) (tfs true [11, 44]).toArray rfl rfl (any_of HT_.out (by kernel_rfl)) (fun _ _ _ h => h) (Or.inl ⟨by rfl, ?_⟩) ?_ ?_
                    rotate_left
                    · intro w'
                      go_simp
                      with_reducible rfl
                    rotate_left
                    · simp only [Act.put, List.setIfInBounds_toArray, List.set_cons_zero, List.set_cons_succ, i64_w, i32_w]
                      rfl
                    refine pure_ (i := 12) (N := some 53) (v := ?_) (a' := ?_) (tfs true [11, 1, 1, 42]).toArray rfl rfl (any_of HT_.out (by kernel_rfl)) (fun _ _ _ h => h) (Or.inl ⟨by rfl, ?_⟩) ?_ ?_
                    rotate_left
                    · intro w'
                      go_simp
                      with_reducible rfl
                    rotate_left
                    · simp only [Act.put, List.setIfInBounds_toArray, List.set_cons_zero, List.set_cons_succ, i64_w, i32_w]
                      rfl
                    refine pure_ (i := 14) (N := some 55) (v := ?_) (a' := ?_) (tfs true [11, 1, 1, 1, 1, 40]).toArray rfl rfl (any_of HT_.out (by kernel_rfl)) (fun _ _ _ h => h) (Or.inl ⟨by rfl, ?_⟩) ?_ ?_
                    rotate_left
                    · intro w'
                      go_simp
                      with_reducible rfl
                    rotate_left
                    · simp only [Act.put, List.setIfInBounds_toArray, List.set_cons_zero, List.set_cons_succ, i64_w, i32_w]
                      rfl
                    refine take_ (i := 11) (N := some 52) (v := ?_) (a' := ?_) (tfs true [13, 1, 1, 40]).toArray rfl rfl (take_ofW HT_.out HW_.out (by kernel_rfl)) (fun _ _ _ h => h) (Or.inl ⟨by rfl, ?_⟩) hHeld ?_ ?_
                    rotate_left
                    · rintro w' ⟨s0, s1, s2, s3, s4⟩
                      go_simp
                      with_reducible rfl
                    rotate_left
                    · simp only [Act.put, List.setIfInBounds_toArray, List.set_cons_zero, List.set_cons_succ, i64_w, i32_w]
                      rfl
                    refine one_ (i := 13) (N := some 54) (tfs true [15, 40]).toArray rfl rfl (one_of HT_.out (by kernel_rfl)) (by decide) (fun K hK => ?_)
                    refine goes_ Try.func19 (by kernel_rfl) rfl #[.slice A0 l0.length c0] (by rfl) rfl rfl (by (try simp only [List.map_toArray, List.map_cons, List.map_nil]); first | done | rfl | (simp only [List.length_drop, List.length_take]; rfl)) ?_
                    with_reducible refine (sleuthlaw21_values.calls k _ _ l0 t347 _ ?side1 ?side2 A49.out).mono ?_
                    (case side1 => repeat (first | exact (Kd.C_below HR0.out HB.out) | (with_reducible refine Kd.C_alloc ?_ _) | (with_reducible refine Kd.C_drewN ?_ _) | (with_reducible refine Kd.C_drew ?_)))
                    (case side2 => exact HC0.out)
                    rintro e w70 ⟨v348, rfl, ho0, hb⟩
                    refine ⟨_, rfl, ?_⟩
                    have n0_ := Aside0.mk (Kd.R_below (by (with_reducible repeat (first | apply Kd.R_alloc | apply Kd.R_drewN | apply Kd.R_drew)); exact HO326.out) hb); have n1_ := Aside0.mk (Kd.R_below (by (with_reducible repeat (first | apply Kd.R_alloc | apply Kd.R_drewN | apply Kd.R_drew)); exact HO329.out) hb); have n2_ := Aside0.mk (Kd.R_below (by (with_reducible repeat (first | apply Kd.R_alloc | apply Kd.R_drewN | apply Kd.R_drew)); exact HO334.out) hb); have n3_ := Aside0.mk (Kd.R_below (by (with_reducible repeat (first | apply Kd.R_alloc | apply Kd.R_drewN | apply Kd.R_drew)); exact HO339.out) hb); have n4_ := Aside0.mk (Kd.R_below (by (with_reducible repeat (first | apply Kd.R_alloc | apply Kd.R_drewN | apply Kd.R_drew)); exact HO344.out) hb); have n5_ := Aside0.mk (Kd.R_lower ho0 (below_size (by repeat (first | (with_reducible first | exact HB.out | apply below_alloc | apply pw_below_drewN | apply below_drew1 | refine below_set ?_ GE330.out | refine below_set ?_ GE331.out | refine below_set ?_ GE336.out | refine below_set ?_ GE341.out | refine below_set ?_ GE346.out) | exact HB.out)))); have n6_ := Aside0.mk (blk_below (g := gb330) (o := .cells #[.slice Ao16 t324.length co16] 33 (0, 0)) (by (with_reducible repeat (first | refine blk_drewN ?_ _ | refine blk_drew ?_ | refine blk_alloc ?_ _)); exact BK330.out) hb); have n7_ := Aside0.mk (blk_below (g := gb331) (o := .cells #[.slice Ao19 t327.length co19] 33 (0, 0)) (by (with_reducible repeat (first | refine blk_drewN ?_ _ | refine blk_drew ?_ | refine blk_alloc ?_ _)); exact BK331.out) hb); have n8_ := Aside0.mk (blk_below (g := gb336) (o := .cells #[.slice Ao23 t332.length co23] 33 (0, 0)) (by (with_reducible repeat (first | refine blk_drewN ?_ _ | refine blk_drew ?_ | refine blk_alloc ?_ _)); exact BK336.out) hb); have n9_ := Aside0.mk (blk_below (g := gb341) (o := .cells #[.slice Ao31 t337.length co31] 33 (0, 0)) (by (with_reducible repeat (first | refine blk_drewN ?_ _ | refine blk_drew ?_ | refine blk_alloc ?_ _)); exact BK341.out) hb); have n10_ := Aside0.mk (blk_below (g := gb346) (o := .cells #[.slice Ao40 t342.length co40] 33 (0, 0)) (by (with_reducible repeat (first | refine blk_drewN ?_ _ | refine blk_drew ?_ | refine blk_alloc ?_ _)); exact BK346.out) hb); have n11_ := Aside0.mk (below_step (by repeat (first | (with_reducible first | exact HB.out | apply below_alloc | apply pw_below_drewN | apply below_drew1 | refine below_set ?_ GE330.out | refine below_set ?_ GE331.out | refine below_set ?_ GE336.out | refine below_set ?_ GE341.out | refine below_set ?_ GE346.out) | exact HB.out)) hb); clear HO326 HO329 HO334 HO339 HO344 BK330 BK331 BK336 BK341 BK346 HB; have HO326 := n0_; have HO329 := n1_; have HO334 := n2_; have HO339 := n3_; have HO344 := n4_; have HO349 := n5_; have BK330 := n6_; have BK331 := n7_; have BK336 := n8_; have BK341 := n9_; have BK346 := n10_; have HB := n11_; clear n0_ n1_ n2_ n3_ n4_ n5_ n6_ n7_ n8_ n9_ n10_ n11_; (try clear hb); (try clear hb2); (try clear hk)
                    (try clear hi); (try clear ho0)
                    refine hK.out _ _ ⟨(blk_cell BK336.out 0).trans rfl, (blk_cell BK341.out 0).trans rfl, (blk_cell BK346.out 0).trans rfl, (blk_cell BK331.out 0).trans rfl, (blk_cell BK330.out 0).trans rfl⟩ (fun hHeld => ?_)
                    clear hK K
                    refine norm_ (a' := ?_) ?_ ?_
                    rotate_left
                    · show Act.put _ (some 54) _ = _
                      simp only [Act.put, List.setIfInBounds_toArray, List.set_cons_zero, List.set_cons_succ, i64_w, i32_w]
                      rfl
                    refine one_ (i := 15) (N := some 56) (tfs true [16, 39]).toArray rfl rfl (one_of HT_.out (by kernel_rfl)) (by decide) (fun K hK => ?_)
                    refine goes_ Try.func19 (by kernel_rfl) rfl #[.slice A1 l1.length c1] (by rfl) rfl rfl (by (try simp only [List.map_toArray, List.map_cons, List.map_nil]); first | done | rfl | (simp only [List.length_drop, List.length_take]; rfl)) ?_
                    with_reducible refine (sleuthlaw21_values.calls k _ _ l1 t350 _ ?side1 ?side2 A50.out).mono ?_
                    (case side1 => repeat (first | exact (Kd.C_below HR1.out HB.out) | (with_reducible refine Kd.C_alloc ?_ _) | (with_reducible refine Kd.C_drewN ?_ _) | (with_reducible refine Kd.C_drew ?_)))
                    (case side2 => exact HC1.out)
                    rintro e w71 ⟨v351, rfl, ho0, hb⟩
                    refine ⟨_, rfl, ?_⟩
                    have n0_ := Aside0.mk (Kd.R_below (by (with_reducible repeat (first | apply Kd.R_alloc | apply Kd.R_drewN | apply Kd.R_drew)); exact HO326.out) hb); have n1_ := Aside0.mk (Kd.R_below (by (with_reducible repeat (first | apply Kd.R_alloc | apply Kd.R_drewN | apply Kd.R_drew)); exact HO329.out) hb); have n2_ := Aside0.mk (Kd.R_below (by (with_reducible repeat (first | apply Kd.R_alloc | apply Kd.R_drewN | apply Kd.R_drew)); exact HO334.out) hb); have n3_ := Aside0.mk (Kd.R_below (by (with_reducible repeat (first | apply Kd.R_alloc | apply Kd.R_drewN | apply Kd.R_drew)); exact HO339.out) hb); have n4_ := Aside0.mk (Kd.R_below (by (with_reducible repeat (first | apply Kd.R_alloc | apply Kd.R_drewN | apply Kd.R_drew)); exact HO344.out) hb); have n5_ := Aside0.mk (Kd.R_elder' (by (with_reducible repeat (first | apply Kd.R_alloc | apply Kd.R_drewN | apply Kd.R_drew)); exact HO349.out) (Kd.R_base ho0) hb)
                    have n6_ := Aside0.mk (Kd.R_lower (Kd.R_new' ho0 (Kd.R_lt (by (with_reducible repeat (first | apply Kd.R_alloc | apply Kd.R_drewN | apply Kd.R_drew)); exact HO349.out))) (below_size (by repeat (first | (with_reducible first | exact HB.out | apply below_alloc | apply pw_below_drewN | apply below_drew1 | refine below_set ?_ GE330.out | refine below_set ?_ GE331.out | refine below_set ?_ GE336.out | refine below_set ?_ GE341.out | refine below_set ?_ GE346.out) | exact HB.out))))
                    have n7_ := Aside0.mk (blk_below (g := gb330) (o := .cells #[.slice Ao16 t324.length co16] 33 (0, 0)) (by (with_reducible repeat (first | refine blk_drewN ?_ _ | refine blk_drew ?_ | refine blk_alloc ?_ _)); exact BK330.out) hb); have n8_ := Aside0.mk (blk_below (g := gb331) (o := .cells #[.slice Ao19 t327.length co19] 33 (0, 0)) (by (with_reducible repeat (first | refine blk_drewN ?_ _ | refine blk_drew ?_ | refine blk_alloc ?_ _)); exact BK331.out) hb); have n9_ := Aside0.mk (blk_below (g := gb336) (o := .cells #[.slice Ao23 t332.length co23] 33 (0, 0)) (by (with_reducible repeat (first | refine blk_drewN ?_ _ | refine blk_drew ?_ | refine blk_alloc ?_ _)); exact BK336.out) hb); have n10_ := Aside0.mk (blk_below (g := gb341) (o := .cells #[.slice Ao31 t337.length co31] 33 (0, 0)) (by (with_reducible repeat (first | refine blk_drewN ?_ _ | refine blk_drew ?_ | refine blk_alloc ?_ _)); exact BK341.out) hb); have n11_ := Aside0.mk (blk_below (g := gb346) (o := .cells #[.slice Ao40 t342.length co40] 33 (0, 0)) (by (with_reducible repeat (first | refine blk_drewN ?_ _ | refine blk_drew ?_ | refine blk_alloc ?_ _)); exact BK346.out) hb); have n12_ := Aside0.mk (below_step (by repeat (first | (with_reducible first | exact HB.out | apply below_alloc | apply pw_below_drewN | apply below_drew1 | refine below_set ?_ GE330.out | refine below_set ?_ GE331.out | refine below_set ?_ GE336.out | refine below_set ?_ GE341.out | refine below_set ?_ GE346.out) | exact HB.out)) hb); clear HO326 HO329 HO334 HO339 HO344 HO349 BK330 BK331 BK336 BK341 BK346 HB; have HO326 := n0_; have HO329 := n1_; have HO334 := n2_; have HO339 := n3_; have HO344 := n4_; have HO349 := n5_; have HO352 := n6_; have BK330 := n7_; have BK331 := n8_; have BK336 := n9_; have BK341 := n10_; have BK346 := n11_; have HB := n12_; clear n0_ n1_ n2_ n3_ n4_ n5_ n6_ n7_ n8_ n9_ n10_ n11_ n12_; (try clear hb); (try clear hb2); (try clear hk); (try clear hi); (try clear ho0); obtain ⟨Ao73, co73, eo73⟩ := Kd.R_slice HO352.out
                    (first | subst eo73 | (injection eo73 with f1_ f2_ f3_; have f4_ := f1_.symm; have f5_ := f3_.symm; clear f1_ f2_ f3_; subst f4_; subst f5_))
                    refine hK.out _ _ ⟨(blk_cell BK336.out 0).trans rfl, (blk_cell BK341.out 0).trans rfl, (blk_cell BK346.out 0).trans rfl, (blk_cell BK331.out 0).trans rfl, (blk_cell BK330.out 0).trans rfl⟩ (fun hHeld => ?_)
                    clear hK K
                    refine norm_ (a' := ?_) ?_ ?_
                    rotate_left
                    · show Act.put _ (some 56) _ = _
                      simp only [Act.put, List.setIfInBounds_toArray, List.set_cons_zero, List.set_cons_succ, i64_w, i32_w]
                      rfl
                    refine one_ (i := 16) (N := some 57) (tfs true [17, 38]).toArray rfl rfl (one_of HT_.out (by kernel_rfl)) (by decide) (fun K hK => ?_)
                    refine Kd.R_append_rows_step (Kd.int .i64) (w0 := w) w.heap.size (by rfl) (.tmp 54) (.tmp 56) 30 3 (.int .i64 0) 8 rfl Try.underlying30 info3 rfl (by decide) (by omega) v348 t347 t350 _ _ _ (fun k_ => some k_ ≠ (.slice Ao73 t350.length co73 : Value).ownBlock) (fun _ => False) rfl rfl ?aO ?aR (fun _ _ h => h) (fun _ h => h.elim) ?aF ?aB ?aS ?aL ?_
                    (case aR => repeat (first | exact (Kd.R_reads' HO352.out).2.2 | (with_reducible refine Kd.C_alloc ?_ _) | (with_reducible refine Kd.C_drewN ?_ _) | (with_reducible refine Kd.C_drew ?_)))
                    (case aB => exact (by repeat (first | (with_reducible first | exact HB.out | apply below_alloc | apply pw_below_drewN | apply below_drew1 | refine below_set ?_ GE330.out | refine below_set ?_ GE331.out | refine below_set ?_ GE336.out | refine below_set ?_ GE341.out | refine below_set ?_ GE346.out) | exact HB.out)))
                    (case aF => exact (fun k_ hk => Kd.fresh' (Kd.R_lt (by (with_reducible repeat (first | apply Kd.R_alloc | apply Kd.R_drewN | apply Kd.R_drew)); exact HO352.out)) k_ hk))
                    (case aO => exact (by (with_reducible repeat (first | apply Kd.R_alloc | apply Kd.R_drewN | apply Kd.R_drew)); exact Kd.R_mono HO349.out (fun _ hk => hk.2)))
                    (case aS => exact (below_size (by repeat (first | (with_reducible first | exact HB.out | apply below_alloc | apply pw_below_drewN | apply below_drew1 | refine below_set ?_ GE330.out | refine below_set ?_ GE331.out | refine below_set ?_ GE336.out | refine below_set ?_ GE341.out | refine below_set ?_ GE346.out) | exact HB.out))))
                    (case aL => have := LMc51.out; omega)
                    intro v354 w72 ho hb hg hat
                    rw [← Ny353.out] at ho
                    have n0_ := Aside0.mk (Kd.R_over' (by (with_reducible repeat (first | apply Kd.R_alloc | apply Kd.R_drewN | apply Kd.R_drew)); exact HO326.out) (Kd.R_typed (by (with_reducible repeat (first | apply Kd.R_alloc | apply Kd.R_drewN | apply Kd.R_drew)); exact HO349.out)) (by decide) hg); have n1_ := Aside0.mk (Kd.R_over' (by (with_reducible repeat (first | apply Kd.R_alloc | apply Kd.R_drewN | apply Kd.R_drew)); exact HO329.out) (Kd.R_typed (by (with_reducible repeat (first | apply Kd.R_alloc | apply Kd.R_drewN | apply Kd.R_drew)); exact HO349.out)) (by decide) hg); have n2_ := Aside0.mk (blk_grown (g := gb330) (o := .cells #[.slice Ao16 t324.length co16] 33 (0, 0)) (by (with_reducible repeat (first | refine blk_drewN ?_ _ | refine blk_drew ?_ | refine blk_alloc ?_ _)); exact BK330.out) hg (Kd.R_ne HO349.out BK330.out (by decide))); have n3_ := Aside0.mk (blk_grown (g := gb331) (o := .cells #[.slice Ao19 t327.length co19] 33 (0, 0)) (by (with_reducible repeat (first | refine blk_drewN ?_ _ | refine blk_drew ?_ | refine blk_alloc ?_ _)); exact BK331.out) hg (Kd.R_ne HO349.out BK331.out (by decide))); have n4_ := Aside0.mk (Kd.R_over' (by (with_reducible repeat (first | apply Kd.R_alloc | apply Kd.R_drewN | apply Kd.R_drew)); exact HO334.out) (Kd.R_typed (by (with_reducible repeat (first | apply Kd.R_alloc | apply Kd.R_drewN | apply Kd.R_drew)); exact HO349.out)) (by decide) hg); have n5_ := Aside0.mk (blk_grown (g := gb336) (o := .cells #[.slice Ao23 t332.length co23] 33 (0, 0)) (by (with_reducible repeat (first | refine blk_drewN ?_ _ | refine blk_drew ?_ | refine blk_alloc ?_ _)); exact BK336.out) hg (Kd.R_ne HO349.out BK336.out (by decide))); have n6_ := Aside0.mk (Kd.R_over' (by (with_reducible repeat (first | apply Kd.R_alloc | apply Kd.R_drewN | apply Kd.R_drew)); exact HO339.out) (Kd.R_typed (by (with_reducible repeat (first | apply Kd.R_alloc | apply Kd.R_drewN | apply Kd.R_drew)); exact HO349.out)) (by decide) hg); have n7_ := Aside0.mk (blk_grown (g := gb341) (o := .cells #[.slice Ao31 t337.length co31] 33 (0, 0)) (by (with_reducible repeat (first | refine blk_drewN ?_ _ | refine blk_drew ?_ | refine blk_alloc ?_ _)); exact BK341.out) hg (Kd.R_ne HO349.out BK341.out (by decide))); have n8_ := Aside0.mk (Kd.R_over' (by (with_reducible repeat (first | apply Kd.R_alloc | apply Kd.R_drewN | apply Kd.R_drew)); exact HO344.out) (Kd.R_typed (by (with_reducible repeat (first | apply Kd.R_alloc | apply Kd.R_drewN | apply Kd.R_drew)); exact HO349.out)) (by decide) hg); have n9_ := Aside0.mk (blk_grown (g := gb346) (o := .cells #[.slice Ao40 t342.length co40] 33 (0, 0)) (by (with_reducible repeat (first | refine blk_drewN ?_ _ | refine blk_drew ?_ | refine blk_alloc ?_ _)); exact BK346.out) hg (Kd.R_ne HO349.out BK346.out (by decide)))
                    have n10_ := Aside0.mk (Kd.R_after (ok := (fun _ => True)) (by (with_reducible repeat (first | apply Kd.R_alloc | apply Kd.R_drewN | apply Kd.R_drew)); exact HO352.out) hg hat)
                    have n11_ := Aside0.mk (hb); have n12_ := Aside0.mk (ho); clear HO326 HO329 BK330 BK331 HO334 BK336 HO339 BK341 HO344 BK346 HO352 HB HO349; have HO326 := n0_; have HO329 := n1_; have BK330 := n2_; have BK331 := n3_; have HO334 := n4_; have BK336 := n5_; have HO339 := n6_; have BK341 := n7_; have HO344 := n8_; have BK346 := n9_; have HO352 := n10_; have HB := n11_; have HO355 := n12_; clear n0_ n1_ n2_ n3_ n4_ n5_ n6_ n7_ n8_ n9_ n10_ n11_ n12_ ho hb hg hat; obtain ⟨Ao74, co74, eo74⟩ := Kd.R_slice HO355.out
                    (first | subst eo74 | (injection eo74 with f1_ f2_ f3_; have f4_ := f1_.symm; have f5_ := f3_.symm; clear f1_ f2_ f3_; subst f4_; subst f5_))
                    refine hK.out _ _ ⟨(blk_cell BK336.out 0).trans rfl, (blk_cell BK341.out 0).trans rfl, (blk_cell BK346.out 0).trans rfl, (blk_cell BK331.out 0).trans rfl, (blk_cell BK330.out 0).trans rfl⟩ (fun hHeld => ?_)
                    clear hK K
                    refine norm_ (a' := ?_) ?_ ?_
                    rotate_left
                    · show Act.put _ (some 57) _ = _
                      simp only [Act.put, List.setIfInBounds_toArray, List.set_cons_zero, List.set_cons_succ, i64_w, i32_w]
                      rfl
                    refine one_ (i := 17) (N := some 58) (tfs true [18, 37]).toArray rfl rfl (one_of HT_.out (by kernel_rfl)) (by decide) (fun K hK => ?_)
                    refine goes_ Try.func29 (by kernel_rfl) rfl #[.slice Ao74 y353.length co74] (by rfl) rfl rfl (by (try simp only [List.map_toArray, List.map_cons, List.map_nil]); first | done | rfl | (simp only [List.length_drop, List.length_take]; rfl)) ?_
                    with_reducible refine (sleuthlaw21_count.calls k _ _ y353 t356 _ ?side1 ?side2 A52.out).mono ?_
                    (case side1 => repeat (first | exact (Kd.R_reads' HO355.out).2.2 | (with_reducible refine Kd.C_alloc ?_ _) | (with_reducible refine Kd.C_drewN ?_ _) | (with_reducible refine Kd.C_drew ?_)))
                    (case side2 => exact (Kd.R_reads' HO355.out).2.1)
                    rintro e w75 ⟨v357, rfl, ho0, hb⟩
                    refine ⟨_, rfl, ?_⟩
                    have n0_ := Aside0.mk (Kd.R_below (by (with_reducible repeat (first | apply Kd.R_alloc | apply Kd.R_drewN | apply Kd.R_drew)); exact HO326.out) hb); have n1_ := Aside0.mk (Kd.R_below (by (with_reducible repeat (first | apply Kd.R_alloc | apply Kd.R_drewN | apply Kd.R_drew)); exact HO329.out) hb); have n2_ := Aside0.mk (Kd.R_below (by (with_reducible repeat (first | apply Kd.R_alloc | apply Kd.R_drewN | apply Kd.R_drew)); exact HO334.out) hb); have n3_ := Aside0.mk (Kd.R_below (by (with_reducible repeat (first | apply Kd.R_alloc | apply Kd.R_drewN | apply Kd.R_drew)); exact HO339.out) hb); have n4_ := Aside0.mk (Kd.R_below (by (with_reducible repeat (first | apply Kd.R_alloc | apply Kd.R_drewN | apply Kd.R_drew)); exact HO344.out) hb); have n5_ := Aside0.mk (Kd.R_below (by (with_reducible repeat (first | apply Kd.R_alloc | apply Kd.R_drewN | apply Kd.R_drew)); exact HO352.out) hb); have n6_ := Aside0.mk (Kd.R_below (by (with_reducible repeat (first | apply Kd.R_alloc | apply Kd.R_drewN | apply Kd.R_drew)); exact HO355.out) hb); have n7_ := Aside0.mk (Kd.R_lower ho0 (below_size (by repeat (first | (with_reducible first | exact HB.out | apply below_alloc | apply pw_below_drewN | apply below_drew1 | refine below_set ?_ GE330.out | refine below_set ?_ GE331.out | refine below_set ?_ GE336.out | refine below_set ?_ GE341.out | refine below_set ?_ GE346.out) | exact HB.out)))); have n8_ := Aside0.mk (blk_below (g := gb330) (o := .cells #[.slice Ao16 t324.length co16] 33 (0, 0)) (by (with_reducible repeat (first | refine blk_drewN ?_ _ | refine blk_drew ?_ | refine blk_alloc ?_ _)); exact BK330.out) hb); have n9_ := Aside0.mk (blk_below (g := gb331) (o := .cells #[.slice Ao19 t327.length co19] 33 (0, 0)) (by (with_reducible repeat (first | refine blk_drewN ?_ _ | refine blk_drew ?_ | refine blk_alloc ?_ _)); exact BK331.out) hb); have n10_ := Aside0.mk (blk_below (g := gb336) (o := .cells #[.slice Ao23 t332.length co23] 33 (0, 0)) (by (with_reducible repeat (first | refine blk_drewN ?_ _ | refine blk_drew ?_ | refine blk_alloc ?_ _)); exact BK336.out) hb); have n11_ := Aside0.mk (blk_below (g := gb341) (o := .cells #[.slice Ao31 t337.length co31] 33 (0, 0)) (by (with_reducible repeat (first | refine blk_drewN ?_ _ | refine blk_drew ?_ | refine blk_alloc ?_ _)); exact BK341.out) hb); have n12_ := Aside0.mk (blk_below (g := gb346) (o := .cells #[.slice Ao40 t342.length co40] 33 (0, 0)) (by (with_reducible repeat (first | refine blk_drewN ?_ _ | refine blk_drew ?_ | refine blk_alloc ?_ _)); exact BK346.out) hb); have n13_ := Aside0.mk (below_step (by repeat (first | (with_reducible first | exact HB.out | apply below_alloc | apply pw_below_drewN | apply below_drew1 | refine below_set ?_ GE330.out | refine below_set ?_ GE331.out | refine below_set ?_ GE336.out | refine below_set ?_ GE341.out | refine below_set ?_ GE346.out) | exact HB.out)) hb); clear HO326 HO329 HO334 HO339 HO344 HO352 HO355 BK330 BK331 BK336 BK341 BK346 HB; have HO326 := n0_
                    have HO329 := n1_; have HO334 := n2_; have HO339 := n3_; have HO344 := n4_; have HO352 := n5_; have HO355 := n6_; have HO358 := n7_; have BK330 := n8_; have BK331 := n9_; have BK336 := n10_; have BK341 := n11_; have BK346 := n12_; have HB := n13_; clear n0_ n1_ n2_ n3_ n4_ n5_ n6_ n7_ n8_ n9_ n10_ n11_ n12_ n13_; (try clear hb); (try clear hb2); (try clear hk); (try clear hi); (try clear ho0); obtain ⟨Ao76, co76, eo76⟩ := Kd.R_slice HO358.out
                    (first | subst eo76 | (injection eo76 with f1_ f2_ f3_; have f4_ := f1_.symm; have f5_ := f3_.symm; clear f1_ f2_ f3_; subst f4_; subst f5_))
                    refine hK.out _ _ ⟨(blk_cell BK336.out 0).trans rfl, (blk_cell BK341.out 0).trans rfl, (blk_cell BK346.out 0).trans rfl, (blk_cell BK331.out 0).trans rfl, (blk_cell BK330.out 0).trans rfl⟩ (fun hHeld => ?_)
                    clear hK K
                    refine norm_ (a' := ?_) ?_ ?_
                    rotate_left
                    · show Act.put _ (some 58) _ = _
                      simp only [Act.put, List.setIfInBounds_toArray, List.set_cons_zero, List.set_cons_succ, i64_w, i32_w]
                      rfl
                    refine one_ (i := 18) (N := some 59) (tfs true [19, 36]).toArray rfl rfl (one_of HT_.out (by kernel_rfl)) (by decide) (fun K hK => ?_)
                    refine goes_ Try.func28 (by kernel_rfl) rfl #[.agg #[.slice Ao23 t332.length co23], .slice Ao76 t356.length co76] (by rfl) rfl rfl (by (try simp only [List.map_toArray, List.map_cons, List.map_nil]); first | done | rfl | (simp only [List.length_drop, List.length_take]; rfl)) ?_
                    with_reducible refine (sleuthlaw21_same.calls k _ _ t332 _ _ t356 true _ ?side1 ?side2 ?side3 ?side4 A53.out).mono ?_
                    (case side1 => repeat (first | exact (Kd.R_reads' HO334.out).2.2 | (with_reducible refine Kd.C_alloc ?_ _) | (with_reducible refine Kd.C_drewN ?_ _) | (with_reducible refine Kd.C_drew ?_)))
                    (case side2 => exact (Kd.R_reads' HO334.out).2.1)
                    (case side3 => repeat (first | exact (Kd.R_reads' HO358.out).2.2 | (with_reducible refine Kd.C_alloc ?_ _) | (with_reducible refine Kd.C_drewN ?_ _) | (with_reducible refine Kd.C_drew ?_)))
                    (case side4 => exact (Kd.R_reads' HO358.out).2.1)
                    rintro e w77 ⟨rfl, hb⟩
                    refine ⟨_, rfl, ?_⟩
                    have n0_ := Aside0.mk (Kd.R_below (by (with_reducible repeat (first | apply Kd.R_alloc | apply Kd.R_drewN | apply Kd.R_drew)); exact HO326.out) hb); have n1_ := Aside0.mk (Kd.R_below (by (with_reducible repeat (first | apply Kd.R_alloc | apply Kd.R_drewN | apply Kd.R_drew)); exact HO329.out) hb); have n2_ := Aside0.mk (Kd.R_below (by (with_reducible repeat (first | apply Kd.R_alloc | apply Kd.R_drewN | apply Kd.R_drew)); exact HO334.out) hb); have n3_ := Aside0.mk (Kd.R_below (by (with_reducible repeat (first | apply Kd.R_alloc | apply Kd.R_drewN | apply Kd.R_drew)); exact HO339.out) hb); have n4_ := Aside0.mk (Kd.R_below (by (with_reducible repeat (first | apply Kd.R_alloc | apply Kd.R_drewN | apply Kd.R_drew)); exact HO344.out) hb); have n5_ := Aside0.mk (Kd.R_below (by (with_reducible repeat (first | apply Kd.R_alloc | apply Kd.R_drewN | apply Kd.R_drew)); exact HO352.out) hb); have n6_ := Aside0.mk (Kd.R_below (by (with_reducible repeat (first | apply Kd.R_alloc | apply Kd.R_drewN | apply Kd.R_drew)); exact HO355.out) hb); have n7_ := Aside0.mk (Kd.R_below (by (with_reducible repeat (first | apply Kd.R_alloc | apply Kd.R_drewN | apply Kd.R_drew)); exact HO358.out) hb); have n8_ := Aside0.mk (blk_below (g := gb330) (o := .cells #[.slice Ao16 t324.length co16] 33 (0, 0)) (by (with_reducible repeat (first | refine blk_drewN ?_ _ | refine blk_drew ?_ | refine blk_alloc ?_ _)); exact BK330.out) hb); have n9_ := Aside0.mk (blk_below (g := gb331) (o := .cells #[.slice Ao19 t327.length co19] 33 (0, 0)) (by (with_reducible repeat (first | refine blk_drewN ?_ _ | refine blk_drew ?_ | refine blk_alloc ?_ _)); exact BK331.out) hb); have n10_ := Aside0.mk (blk_below (g := gb336) (o := .cells #[.slice Ao23 t332.length co23] 33 (0, 0)) (by (with_reducible repeat (first | refine blk_drewN ?_ _ | refine blk_drew ?_ | refine blk_alloc ?_ _)); exact BK336.out) hb); have n11_ := Aside0.mk (blk_below (g := gb341) (o := .cells #[.slice Ao31 t337.length co31] 33 (0, 0)) (by (with_reducible repeat (first | refine blk_drewN ?_ _ | refine blk_drew ?_ | refine blk_alloc ?_ _)); exact BK341.out) hb); have n12_ := Aside0.mk (blk_below (g := gb346) (o := .cells #[.slice Ao40 t342.length co40] 33 (0, 0)) (by (with_reducible repeat (first | refine blk_drewN ?_ _ | refine blk_drew ?_ | refine blk_alloc ?_ _)); exact BK346.out) hb); have n13_ := Aside0.mk (below_step (by repeat (first | (with_reducible first | exact HB.out | apply below_alloc | apply pw_below_drewN | apply below_drew1 | refine below_set ?_ GE330.out | refine below_set ?_ GE331.out | refine below_set ?_ GE336.out | refine below_set ?_ GE341.out | refine below_set ?_ GE346.out) | exact HB.out)) hb); clear HO326 HO329 HO334 HO339 HO344 HO352 HO355 HO358 BK330 BK331 BK336 BK341 BK346 HB; have HO326 := n0_; have HO329 := n1_; have HO334 := n2_; have HO339 := n3_; have HO344 := n4_; have HO352 := n5_; have HO355 := n6_; have HO358 := n7_; have BK330 := n8_; have BK331 := n9_; have BK336 := n10_
                    have BK341 := n11_; have BK346 := n12_; have HB := n13_; clear n0_ n1_ n2_ n3_ n4_ n5_ n6_ n7_ n8_ n9_ n10_ n11_ n12_ n13_; (try clear hb); (try clear hb2); (try clear hk); (try clear hi)
                    refine hK.out _ _ ⟨(blk_cell BK336.out 0).trans rfl, (blk_cell BK341.out 0).trans rfl, (blk_cell BK346.out 0).trans rfl, (blk_cell BK331.out 0).trans rfl, (blk_cell BK330.out 0).trans rfl⟩ (fun hHeld => ?_)
                    clear hK K
                    refine norm_ (a' := ?_) ?_ ?_
                    rotate_left
                    · show Act.put _ (some 59) _ = _
                      simp only [Act.put, List.setIfInBounds_toArray, List.set_cons_zero, List.set_cons_succ, i64_w, i32_w]
                      rfl
                    refine pure_ (i := 19) (N := some 60) (v := ?_) (a' := ?_) (tfs true [20, 35]).toArray rfl rfl (any_of HT_.out (by kernel_rfl)) (fun _ _ _ h => h) (Or.inl ⟨by rfl, ?_⟩) ?_ ?_
                    rotate_left
                    · intro w'
                      go_simp
                      with_reducible rfl
                    rotate_left
                    · simp only [Act.put, List.setIfInBounds_toArray, List.set_cons_zero, List.set_cons_succ, i64_w, i32_w]
                      rfl
                    refine pure_ (i := 20) (N := some 61) (v := ?_) (a' := ?_) (tfs true [21, 34]).toArray rfl rfl (any_of HT_.out (by kernel_rfl)) (fun _ _ _ h => h) (Or.inl ⟨by rfl, ?_⟩) ?_ ?_
                    rotate_left
                    · intro w'
                      go_simp
                      with_reducible rfl
                    rotate_left
                    · simp only [Act.put, List.setIfInBounds_toArray, List.set_cons_zero, List.set_cons_succ, i64_w, i32_w]
                      rfl
                    refine pure_ (i := 21) (N := some 62) (v := ?_) (a' := ?_) (tfs true [22, 33]).toArray rfl rfl (any_of HT_.out (by kernel_rfl)) (fun _ _ _ h => h) (Or.inl ⟨by rfl, ?_⟩) ?_ ?_
                    rotate_left
                    · intro w'
                      go_simp
                      with_reducible rfl
                    rotate_left
                    · simp only [Act.put, List.setIfInBounds_toArray, List.set_cons_zero, List.set_cons_succ, i64_w, i32_w]
                      rfl
                    refine take_ (i := 22) (N := some 63) (v := ?_) (a' := ?_) (tfs true [23, 32]).toArray rfl rfl (take_ofW HT_.out HW_.out (by kernel_rfl)) (fun _ _ _ h => h) (Or.inl ⟨by rfl, ?_⟩) hHeld ?_ ?_
                    rotate_left
                    · rintro w' ⟨s0, s1, s2, s3, s4⟩
                      go_simp
                      with_reducible rfl
                    rotate_left
                    · simp only [Act.put, List.setIfInBounds_toArray, List.set_cons_zero, List.set_cons_succ, i64_w, i32_w]
                      rfl
                    refine take_ (i := 23) (N := some 64) (v := ?_) (a' := ?_) (tfs true [24, 31]).toArray rfl rfl (take_ofW HT_.out HW_.out (by kernel_rfl)) (fun _ _ _ h => h) (Or.inl ⟨by rfl, ?_⟩) hHeld ?_ ?_
                    rotate_left
                    · rintro w' ⟨s0, s1, s2, s3, s4⟩
                      go_simp
                      with_reducible rfl
                    rotate_left
                    · simp only [Act.put, List.setIfInBounds_toArray, List.set_cons_zero, List.set_cons_succ, i64_w, i32_w]
                      rfl
                    refine one_ (i := 24) (N := some 65) (tfs true [25, 30]).toArray rfl rfl (one_of HT_.out (by kernel_rfl)) (by decide) (fun K hK => ?_)
                    refine goes_ Try.func35 (by kernel_rfl) rfl #[.agg #[.slice Ao23 t332.length co23], .agg #[.slice Ao31 t337.length co31]] (by rfl) rfl rfl (by (try simp only [List.map_toArray, List.map_cons, List.map_nil]); first | done | rfl | (simp only [List.length_drop, List.length_take]; rfl)) ?_
                    with_reducible refine (histogram_Equal.calls k _ _ t332 _ _ t337 true _ ?side1 ?side2 ?side3 ?side4 A55.out).mono ?_
                    (case side1 => repeat (first | exact (Kd.R_reads' HO334.out).2.2 | (with_reducible refine Kd.C_alloc ?_ _) | (with_reducible refine Kd.C_drewN ?_ _) | (with_reducible refine Kd.C_drew ?_)))
                    (case side2 => exact (Kd.R_reads' HO334.out).2.1)
                    (case side3 => repeat (first | exact (Kd.R_reads' HO339.out).2.2 | (with_reducible refine Kd.C_alloc ?_ _) | (with_reducible refine Kd.C_drewN ?_ _) | (with_reducible refine Kd.C_drew ?_)))
                    (case side4 => exact (Kd.R_reads' HO339.out).2.1)
                    rintro e w78 ⟨rfl, hb⟩
                    refine ⟨_, rfl, ?_⟩
                    have n0_ := Aside0.mk (Kd.R_below (by (with_reducible repeat (first | apply Kd.R_alloc | apply Kd.R_drewN | apply Kd.R_drew)); exact HO326.out) hb); have n1_ := Aside0.mk (Kd.R_below (by (with_reducible repeat (first | apply Kd.R_alloc | apply Kd.R_drewN | apply Kd.R_drew)); exact HO329.out) hb); have n2_ := Aside0.mk (Kd.R_below (by (with_reducible repeat (first | apply Kd.R_alloc | apply Kd.R_drewN | apply Kd.R_drew)); exact HO334.out) hb); have n3_ := Aside0.mk (Kd.R_below (by (with_reducible repeat (first | apply Kd.R_alloc | apply Kd.R_drewN | apply Kd.R_drew)); exact HO339.out) hb); have n4_ := Aside0.mk (Kd.R_below (by (with_reducible repeat (first | apply Kd.R_alloc | apply Kd.R_drewN | apply Kd.R_drew)); exact HO344.out) hb); have n5_ := Aside0.mk (Kd.R_below (by (with_reducible repeat (first | apply Kd.R_alloc | apply Kd.R_drewN | apply Kd.R_drew)); exact HO352.out) hb); have n6_ := Aside0.mk (Kd.R_below (by (with_reducible repeat (first | apply Kd.R_alloc | apply Kd.R_drewN | apply Kd.R_drew)); exact HO355.out) hb); have n7_ := Aside0.mk (Kd.R_below (by (with_reducible repeat (first | apply Kd.R_alloc | apply Kd.R_drewN | apply Kd.R_drew)); exact HO358.out) hb); have n8_ := Aside0.mk (blk_below (g := gb330) (o := .cells #[.slice Ao16 t324.length co16] 33 (0, 0)) (by (with_reducible repeat (first | refine blk_drewN ?_ _ | refine blk_drew ?_ | refine blk_alloc ?_ _)); exact BK330.out) hb); have n9_ := Aside0.mk (blk_below (g := gb331) (o := .cells #[.slice Ao19 t327.length co19] 33 (0, 0)) (by (with_reducible repeat (first | refine blk_drewN ?_ _ | refine blk_drew ?_ | refine blk_alloc ?_ _)); exact BK331.out) hb); have n10_ := Aside0.mk (blk_below (g := gb336) (o := .cells #[.slice Ao23 t332.length co23] 33 (0, 0)) (by (with_reducible repeat (first | refine blk_drewN ?_ _ | refine blk_drew ?_ | refine blk_alloc ?_ _)); exact BK336.out) hb); have n11_ := Aside0.mk (blk_below (g := gb341) (o := .cells #[.slice Ao31 t337.length co31] 33 (0, 0)) (by (with_reducible repeat (first | refine blk_drewN ?_ _ | refine blk_drew ?_ | refine blk_alloc ?_ _)); exact BK341.out) hb); have n12_ := Aside0.mk (blk_below (g := gb346) (o := .cells #[.slice Ao40 t342.length co40] 33 (0, 0)) (by (with_reducible repeat (first | refine blk_drewN ?_ _ | refine blk_drew ?_ | refine blk_alloc ?_ _)); exact BK346.out) hb); have n13_ := Aside0.mk (below_step (by repeat (first | (with_reducible first | exact HB.out | apply below_alloc | apply pw_below_drewN | apply below_drew1 | refine below_set ?_ GE330.out | refine below_set ?_ GE331.out | refine below_set ?_ GE336.out | refine below_set ?_ GE341.out | refine below_set ?_ GE346.out) | exact HB.out)) hb); clear HO326 HO329 HO334 HO339 HO344 HO352 HO355 HO358 BK330 BK331 BK336 BK341 BK346 HB; have HO326 := n0_; have HO329 := n1_; have HO334 := n2_; have HO339 := n3_; have HO344 := n4_; have HO352 := n5_; have HO355 := n6_; have HO358 := n7_; have BK330 := n8_; have BK331 := n9_; have BK336 := n10_
                    have BK341 := n11_; have BK346 := n12_; have HB := n13_; clear n0_ n1_ n2_ n3_ n4_ n5_ n6_ n7_ n8_ n9_ n10_ n11_ n12_ n13_; (try clear hb); (try clear hb2); (try clear hk); (try clear hi)
                    refine hK.out _ _ ⟨(blk_cell BK336.out 0).trans rfl, (blk_cell BK341.out 0).trans rfl, (blk_cell BK346.out 0).trans rfl, (blk_cell BK331.out 0).trans rfl, (blk_cell BK330.out 0).trans rfl⟩ (fun hHeld => ?_)
                    clear hK K
                    refine norm_ (a' := ?_) ?_ ?_
                    rotate_left
                    · show Act.put _ (some 65) _ = _
                      simp only [Act.put, List.setIfInBounds_toArray, List.set_cons_zero, List.set_cons_succ, i64_w, i32_w]
                      rfl
                    refine pure_ (i := 25) (N := some 66) (v := ?_) (a' := ?_) (tfs true [26, 29]).toArray rfl rfl (any_of HT_.out (by kernel_rfl)) (fun _ _ _ h => h) (Or.inl ⟨by rfl, ?_⟩) ?_ ?_
                    rotate_left
                    · intro w'
                      go_simp
                      with_reducible rfl
                    rotate_left
                    · simp only [Act.put, List.setIfInBounds_toArray, List.set_cons_zero, List.set_cons_succ, i64_w, i32_w]
                      rfl
                    refine pure_ (i := 26) (N := some 67) (v := ?_) (a' := ?_) (tfs true [27, 28]).toArray rfl rfl (any_of HT_.out (by kernel_rfl)) (fun _ _ _ h => h) (Or.inl ⟨by rfl, ?_⟩) ?_ ?_
                    rotate_left
                    · intro w'
                      go_simp
                      with_reducible rfl
                    rotate_left
                    · simp only [Act.put, List.setIfInBounds_toArray, List.set_cons_zero, List.set_cons_succ, i64_w, i32_w]
                      rfl
                    refine pure_ (i := 27) (N := some 68) (v := ?_) (a' := ?_) (tfs true [28, 27]).toArray rfl rfl (any_of HT_.out (by kernel_rfl)) (fun _ _ _ h => h) (Or.inl ⟨by rfl, ?_⟩) ?_ ?_
                    rotate_left
                    · intro w'
                      go_simp
                      with_reducible rfl
                    rotate_left
                    · simp only [Act.put, List.setIfInBounds_toArray, List.set_cons_zero, List.set_cons_succ, i64_w, i32_w]
                      rfl
                    refine take_ (i := 28) (N := some 69) (v := ?_) (a' := ?_) (tfs true [29, 26]).toArray rfl rfl (take_ofW HT_.out HW_.out (by kernel_rfl)) (fun _ _ _ h => h) (Or.inl ⟨by rfl, ?_⟩) hHeld ?_ ?_
                    rotate_left
                    · rintro w' ⟨s0, s1, s2, s3, s4⟩
                      go_simp
                      with_reducible rfl
                    rotate_left
                    · simp only [Act.put, List.setIfInBounds_toArray, List.set_cons_zero, List.set_cons_succ, i64_w, i32_w]
                      rfl
                    refine take_ (i := 29) (N := some 70) (v := ?_) (a' := ?_) (tfs true [30, 25]).toArray rfl rfl (take_ofW HT_.out HW_.out (by kernel_rfl)) (fun _ _ _ h => h) (Or.inl ⟨by rfl, ?_⟩) hHeld ?_ ?_
                    rotate_left
                    · rintro w' ⟨s0, s1, s2, s3, s4⟩
                      go_simp
                      with_reducible rfl
                    rotate_left
                    · simp only [Act.put, List.setIfInBounds_toArray, List.set_cons_zero, List.set_cons_succ, i64_w, i32_w]
                      rfl
                    refine one_ (i := 30) (N := some 71) (tfs true [31, 24]).toArray rfl rfl (one_of HT_.out (by kernel_rfl)) (by decide) (fun K hK => ?_)
                    refine goes_ Try.func35 (by kernel_rfl) rfl #[.agg #[.slice Ao40 t342.length co40], .agg #[.slice Ao19 t327.length co19]] (by rfl) rfl rfl (by (try simp only [List.map_toArray, List.map_cons, List.map_nil]); first | done | rfl | (simp only [List.length_drop, List.length_take]; rfl)) ?_
                    with_reducible refine (histogram_Equal.calls k _ _ t342 _ _ t327 true _ ?side1 ?side2 ?side3 ?side4 A57.out).mono ?_
                    (case side1 => repeat (first | exact (Kd.R_reads' HO344.out).2.2 | (with_reducible refine Kd.C_alloc ?_ _) | (with_reducible refine Kd.C_drewN ?_ _) | (with_reducible refine Kd.C_drew ?_)))
                    (case side2 => exact (Kd.R_reads' HO344.out).2.1)
                    (case side3 => repeat (first | exact (Kd.R_reads' HO329.out).2.2 | (with_reducible refine Kd.C_alloc ?_ _) | (with_reducible refine Kd.C_drewN ?_ _) | (with_reducible refine Kd.C_drew ?_)))
                    (case side4 => exact (Kd.R_reads' HO329.out).2.1)
                    rintro e w79 ⟨rfl, hb⟩
                    refine ⟨_, rfl, ?_⟩
                    have n0_ := Aside0.mk (Kd.R_below (by (with_reducible repeat (first | apply Kd.R_alloc | apply Kd.R_drewN | apply Kd.R_drew)); exact HO326.out) hb); have n1_ := Aside0.mk (Kd.R_below (by (with_reducible repeat (first | apply Kd.R_alloc | apply Kd.R_drewN | apply Kd.R_drew)); exact HO329.out) hb); have n2_ := Aside0.mk (Kd.R_below (by (with_reducible repeat (first | apply Kd.R_alloc | apply Kd.R_drewN | apply Kd.R_drew)); exact HO334.out) hb); have n3_ := Aside0.mk (Kd.R_below (by (with_reducible repeat (first | apply Kd.R_alloc | apply Kd.R_drewN | apply Kd.R_drew)); exact HO339.out) hb); have n4_ := Aside0.mk (Kd.R_below (by (with_reducible repeat (first | apply Kd.R_alloc | apply Kd.R_drewN | apply Kd.R_drew)); exact HO344.out) hb); have n5_ := Aside0.mk (Kd.R_below (by (with_reducible repeat (first | apply Kd.R_alloc | apply Kd.R_drewN | apply Kd.R_drew)); exact HO352.out) hb); have n6_ := Aside0.mk (Kd.R_below (by (with_reducible repeat (first | apply Kd.R_alloc | apply Kd.R_drewN | apply Kd.R_drew)); exact HO355.out) hb); have n7_ := Aside0.mk (Kd.R_below (by (with_reducible repeat (first | apply Kd.R_alloc | apply Kd.R_drewN | apply Kd.R_drew)); exact HO358.out) hb); have n8_ := Aside0.mk (blk_below (g := gb330) (o := .cells #[.slice Ao16 t324.length co16] 33 (0, 0)) (by (with_reducible repeat (first | refine blk_drewN ?_ _ | refine blk_drew ?_ | refine blk_alloc ?_ _)); exact BK330.out) hb); have n9_ := Aside0.mk (blk_below (g := gb331) (o := .cells #[.slice Ao19 t327.length co19] 33 (0, 0)) (by (with_reducible repeat (first | refine blk_drewN ?_ _ | refine blk_drew ?_ | refine blk_alloc ?_ _)); exact BK331.out) hb); have n10_ := Aside0.mk (blk_below (g := gb336) (o := .cells #[.slice Ao23 t332.length co23] 33 (0, 0)) (by (with_reducible repeat (first | refine blk_drewN ?_ _ | refine blk_drew ?_ | refine blk_alloc ?_ _)); exact BK336.out) hb); have n11_ := Aside0.mk (blk_below (g := gb341) (o := .cells #[.slice Ao31 t337.length co31] 33 (0, 0)) (by (with_reducible repeat (first | refine blk_drewN ?_ _ | refine blk_drew ?_ | refine blk_alloc ?_ _)); exact BK341.out) hb); have n12_ := Aside0.mk (blk_below (g := gb346) (o := .cells #[.slice Ao40 t342.length co40] 33 (0, 0)) (by (with_reducible repeat (first | refine blk_drewN ?_ _ | refine blk_drew ?_ | refine blk_alloc ?_ _)); exact BK346.out) hb); have n13_ := Aside0.mk (below_step (by repeat (first | (with_reducible first | exact HB.out | apply below_alloc | apply pw_below_drewN | apply below_drew1 | refine below_set ?_ GE330.out | refine below_set ?_ GE331.out | refine below_set ?_ GE336.out | refine below_set ?_ GE341.out | refine below_set ?_ GE346.out) | exact HB.out)) hb); clear HO326 HO329 HO334 HO339 HO344 HO352 HO355 HO358 BK330 BK331 BK336 BK341 BK346 HB; have HO326 := n0_; have HO329 := n1_; have HO334 := n2_; have HO339 := n3_; have HO344 := n4_; have HO352 := n5_; have HO355 := n6_; have HO358 := n7_; have BK330 := n8_; have BK331 := n9_; have BK336 := n10_
                    have BK341 := n11_; have BK346 := n12_; have HB := n13_; clear n0_ n1_ n2_ n3_ n4_ n5_ n6_ n7_ n8_ n9_ n10_ n11_ n12_ n13_; (try clear hb); (try clear hb2); (try clear hk); (try clear hi)
                    refine hK.out _ _ ⟨(blk_cell BK336.out 0).trans rfl, (blk_cell BK341.out 0).trans rfl, (blk_cell BK346.out 0).trans rfl, (blk_cell BK331.out 0).trans rfl, (blk_cell BK330.out 0).trans rfl⟩ (fun hHeld => ?_)
                    clear hK K
                    refine norm_ (a' := ?_) ?_ ?_
                    rotate_left
                    · show Act.put _ (some 71) _ = _
                      simp only [Act.put, List.setIfInBounds_toArray, List.set_cons_zero, List.set_cons_succ, i64_w, i32_w]
                      rfl
                    refine pure_ (i := 31) (N := some 72) (v := ?_) (a' := ?_) (tfs true [32, 23]).toArray rfl rfl (any_of HT_.out (by kernel_rfl)) (fun _ _ _ h => h) (Or.inl ⟨by rfl, ?_⟩) ?_ ?_
                    rotate_left
                    · intro w'
                      go_simp
                      with_reducible rfl
                    rotate_left
                    · simp only [Act.put, List.setIfInBounds_toArray, List.set_cons_zero, List.set_cons_succ, i64_w, i32_w]
                      rfl
                    refine pure_ (i := 32) (N := some 73) (v := ?_) (a' := ?_) (tfs true [33, 22]).toArray rfl rfl (any_of HT_.out (by kernel_rfl)) (fun _ _ _ h => h) (Or.inl ⟨by rfl, ?_⟩) ?_ ?_
                    rotate_left
                    · intro w'
                      go_simp
                      with_reducible rfl
                    rotate_left
                    · simp only [Act.put, List.setIfInBounds_toArray, List.set_cons_zero, List.set_cons_succ, i64_w, i32_w]
                      rfl
                    refine pure_ (i := 33) (N := some 74) (v := ?_) (a' := ?_) (tfs true [34, 21]).toArray rfl rfl (any_of HT_.out (by kernel_rfl)) (fun _ _ _ h => h) (Or.inl ⟨by rfl, ?_⟩) ?_ ?_
                    rotate_left
                    · intro w'
                      go_simp
                      with_reducible rfl
                    rotate_left
                    · simp only [Act.put, List.setIfInBounds_toArray, List.set_cons_zero, List.set_cons_succ, i64_w, i32_w]
                      rfl
                    refine pure_ (i := 37) (N := some 78) (v := ?_) (a' := ?_) (tfs true [34, 3, 1, 17]).toArray rfl rfl (any_of HT_.out (by kernel_rfl)) (fun _ _ _ h => h) (Or.inl ⟨by rfl, ?_⟩) ?_ ?_
                    rotate_left
                    · intro w'
                      go_simp
                      with_reducible rfl
                    rotate_left
                    · simp only [Act.put, List.setIfInBounds_toArray, List.set_cons_zero, List.set_cons_succ, i64_w, i32_w]
                      rfl
                    refine pure_ (i := 41) (N := some 82) (v := ?_) (a' := ?_) (tfs true [34, 3, 1, 3, 1, 13]).toArray rfl rfl (any_of HT_.out (by kernel_rfl)) (fun _ _ _ h => h) (Or.inl ⟨by rfl, ?_⟩) ?_ ?_
                    rotate_left
                    · intro w'
                      go_simp
                      with_reducible rfl
                    rotate_left
                    · simp only [Act.put, List.setIfInBounds_toArray, List.set_cons_zero, List.set_cons_succ, i64_w, i32_w]
                      rfl
                    refine take_ (i := 34) (N := some 75) (v := ?_) (a' := ?_) (tfs true [35, 2, 1, 3, 1, 13]).toArray rfl rfl (take_ofW HT_.out HW_.out (by kernel_rfl)) (fun _ _ _ h => h) (Or.inl ⟨by rfl, ?_⟩) hHeld ?_ ?_
                    rotate_left
                    · rintro w' ⟨s0, s1, s2, s3, s4⟩
                      go_simp
                      with_reducible rfl
                    rotate_left
                    · simp only [Act.put, List.setIfInBounds_toArray, List.set_cons_zero, List.set_cons_succ, i64_w, i32_w]
                      rfl
                    refine take_ (i := 35) (N := some 76) (v := ?_) (a' := ?_) (tfs true [36, 1, 1, 3, 1, 13]).toArray rfl rfl (take_ofW HT_.out HW_.out (by kernel_rfl)) (fun _ _ _ h => h) (Or.inl ⟨by rfl, ?_⟩) hHeld ?_ ?_
                    rotate_left
                    · rintro w' ⟨s0, s1, s2, s3, s4⟩
                      go_simp
                      with_reducible rfl
                    rotate_left
                    · simp only [Act.put, List.setIfInBounds_toArray, List.set_cons_zero, List.set_cons_succ, i64_w, i32_w]
                      rfl
                    refine one_ (i := 36) (N := some 77) (tfs true [38, 3, 1, 13]).toArray rfl rfl (one_of HT_.out (by kernel_rfl)) (by decide) (fun K hK => ?_)
                    refine goes_ Try.func35 (by kernel_rfl) rfl #[.agg #[.slice Ao16 t324.length co16], .agg #[.slice Ao19 t327.length co19]] (by rfl) rfl rfl (by (try simp only [List.map_toArray, List.map_cons, List.map_nil]); first | done | rfl | (simp only [List.length_drop, List.length_take]; rfl)) ?_
                    with_reducible refine (histogram_Equal.calls k _ _ t324 _ _ t327 t362 _ ?side1 ?side2 ?side3 ?side4 A59.out).mono ?_
                    (case side1 => repeat (first | exact (Kd.R_reads' HO326.out).2.2 | (with_reducible refine Kd.C_alloc ?_ _) | (with_reducible refine Kd.C_drewN ?_ _) | (with_reducible refine Kd.C_drew ?_)))
                    (case side2 => exact (Kd.R_reads' HO326.out).2.1)
                    (case side3 => repeat (first | exact (Kd.R_reads' HO329.out).2.2 | (with_reducible refine Kd.C_alloc ?_ _) | (with_reducible refine Kd.C_drewN ?_ _) | (with_reducible refine Kd.C_drew ?_)))
                    (case side4 => exact (Kd.R_reads' HO329.out).2.1)
                    rintro e w80 ⟨rfl, hb⟩
                    refine ⟨_, rfl, ?_⟩
                    have n0_ := Aside0.mk (Kd.R_below (by (with_reducible repeat (first | apply Kd.R_alloc | apply Kd.R_drewN | apply Kd.R_drew)); exact HO326.out) hb); have n1_ := Aside0.mk (Kd.R_below (by (with_reducible repeat (first | apply Kd.R_alloc | apply Kd.R_drewN | apply Kd.R_drew)); exact HO329.out) hb); have n2_ := Aside0.mk (Kd.R_below (by (with_reducible repeat (first | apply Kd.R_alloc | apply Kd.R_drewN | apply Kd.R_drew)); exact HO334.out) hb); have n3_ := Aside0.mk (Kd.R_below (by (with_reducible repeat (first | apply Kd.R_alloc | apply Kd.R_drewN | apply Kd.R_drew)); exact HO339.out) hb); have n4_ := Aside0.mk (Kd.R_below (by (with_reducible repeat (first | apply Kd.R_alloc | apply Kd.R_drewN | apply Kd.R_drew)); exact HO344.out) hb); have n5_ := Aside0.mk (Kd.R_below (by (with_reducible repeat (first | apply Kd.R_alloc | apply Kd.R_drewN | apply Kd.R_drew)); exact HO352.out) hb); have n6_ := Aside0.mk (Kd.R_below (by (with_reducible repeat (first | apply Kd.R_alloc | apply Kd.R_drewN | apply Kd.R_drew)); exact HO355.out) hb); have n7_ := Aside0.mk (Kd.R_below (by (with_reducible repeat (first | apply Kd.R_alloc | apply Kd.R_drewN | apply Kd.R_drew)); exact HO358.out) hb); have n8_ := Aside0.mk (blk_below (g := gb330) (o := .cells #[.slice Ao16 t324.length co16] 33 (0, 0)) (by (with_reducible repeat (first | refine blk_drewN ?_ _ | refine blk_drew ?_ | refine blk_alloc ?_ _)); exact BK330.out) hb); have n9_ := Aside0.mk (blk_below (g := gb331) (o := .cells #[.slice Ao19 t327.length co19] 33 (0, 0)) (by (with_reducible repeat (first | refine blk_drewN ?_ _ | refine blk_drew ?_ | refine blk_alloc ?_ _)); exact BK331.out) hb); have n10_ := Aside0.mk (blk_below (g := gb336) (o := .cells #[.slice Ao23 t332.length co23] 33 (0, 0)) (by (with_reducible repeat (first | refine blk_drewN ?_ _ | refine blk_drew ?_ | refine blk_alloc ?_ _)); exact BK336.out) hb); have n11_ := Aside0.mk (blk_below (g := gb341) (o := .cells #[.slice Ao31 t337.length co31] 33 (0, 0)) (by (with_reducible repeat (first | refine blk_drewN ?_ _ | refine blk_drew ?_ | refine blk_alloc ?_ _)); exact BK341.out) hb); have n12_ := Aside0.mk (blk_below (g := gb346) (o := .cells #[.slice Ao40 t342.length co40] 33 (0, 0)) (by (with_reducible repeat (first | refine blk_drewN ?_ _ | refine blk_drew ?_ | refine blk_alloc ?_ _)); exact BK346.out) hb); have n13_ := Aside0.mk (below_step (by repeat (first | (with_reducible first | exact HB.out | apply below_alloc | apply pw_below_drewN | apply below_drew1 | refine below_set ?_ GE330.out | refine below_set ?_ GE331.out | refine below_set ?_ GE336.out | refine below_set ?_ GE341.out | refine below_set ?_ GE346.out) | exact HB.out)) hb); clear HO326 HO329 HO334 HO339 HO344 HO352 HO355 HO358 BK330 BK331 BK336 BK341 BK346 HB; have HO326 := n0_; have HO329 := n1_; have HO334 := n2_; have HO339 := n3_; have HO344 := n4_; have HO352 := n5_; have HO355 := n6_; have HO358 := n7_; have BK330 := n8_; have BK331 := n9_; have BK336 := n10_
                    have BK341 := n11_; have BK346 := n12_; have HB := n13_; clear n0_ n1_ n2_ n3_ n4_ n5_ n6_ n7_ n8_ n9_ n10_ n11_ n12_ n13_; (try clear hb); (try clear hb2); (try clear hk); (try clear hi)
                    refine hK.out _ _ ⟨(blk_cell BK336.out 0).trans rfl, (blk_cell BK341.out 0).trans rfl, (blk_cell BK346.out 0).trans rfl, (blk_cell BK331.out 0).trans rfl, (blk_cell BK330.out 0).trans rfl⟩ (fun hHeld => ?_)
                    clear hK K
                    refine norm_ (a' := ?_) ?_ ?_
                    rotate_left
                    · show Act.put _ (some 77) _ = _
                      simp only [Act.put, List.setIfInBounds_toArray, List.set_cons_zero, List.set_cons_succ, i64_w, i32_w]
                      rfl
                    refine one_ (i := 38) (N := some 79) (tfs true [39, 2, 1, 13]).toArray rfl rfl (one_of HT_.out (by kernel_rfl)) (by decide) (fun K hK => ?_)
                    refine goes_ Try.func19 (by kernel_rfl) rfl #[.slice A0 l0.length c0] (by rfl) rfl rfl (by (try simp only [List.map_toArray, List.map_cons, List.map_nil]); first | done | rfl | (simp only [List.length_drop, List.length_take]; rfl)) ?_
                    with_reducible refine (sleuthlaw21_values.calls k _ _ l0 t363 _ ?side1 ?side2 A60.out).mono ?_
                    (case side1 => repeat (first | exact (Kd.C_below HR0.out HB.out) | (with_reducible refine Kd.C_alloc ?_ _) | (with_reducible refine Kd.C_drewN ?_ _) | (with_reducible refine Kd.C_drew ?_)))
                    (case side2 => exact HC0.out)
                    rintro e w81 ⟨v364, rfl, ho0, hb⟩
                    refine ⟨_, rfl, ?_⟩
                    have n0_ := Aside0.mk (Kd.R_below (by (with_reducible repeat (first | apply Kd.R_alloc | apply Kd.R_drewN | apply Kd.R_drew)); exact HO326.out) hb); have n1_ := Aside0.mk (Kd.R_below (by (with_reducible repeat (first | apply Kd.R_alloc | apply Kd.R_drewN | apply Kd.R_drew)); exact HO329.out) hb); have n2_ := Aside0.mk (Kd.R_below (by (with_reducible repeat (first | apply Kd.R_alloc | apply Kd.R_drewN | apply Kd.R_drew)); exact HO334.out) hb); have n3_ := Aside0.mk (Kd.R_below (by (with_reducible repeat (first | apply Kd.R_alloc | apply Kd.R_drewN | apply Kd.R_drew)); exact HO339.out) hb); have n4_ := Aside0.mk (Kd.R_below (by (with_reducible repeat (first | apply Kd.R_alloc | apply Kd.R_drewN | apply Kd.R_drew)); exact HO344.out) hb); have n5_ := Aside0.mk (Kd.R_elder' (by (with_reducible repeat (first | apply Kd.R_alloc | apply Kd.R_drewN | apply Kd.R_drew)); exact HO352.out) (Kd.R_base ho0) hb); have n6_ := Aside0.mk (Kd.R_elder' (by (with_reducible repeat (first | apply Kd.R_alloc | apply Kd.R_drewN | apply Kd.R_drew)); exact HO355.out) (Kd.R_base ho0) hb); have n7_ := Aside0.mk (Kd.R_below (by (with_reducible repeat (first | apply Kd.R_alloc | apply Kd.R_drewN | apply Kd.R_drew)); exact HO358.out) hb)
                    have n8_ := Aside0.mk (Kd.R_lower (Kd.R_new' (Kd.R_new' ho0 (Kd.R_lt (by (with_reducible repeat (first | apply Kd.R_alloc | apply Kd.R_drewN | apply Kd.R_drew)); exact HO352.out))) (Kd.R_lt (by (with_reducible repeat (first | apply Kd.R_alloc | apply Kd.R_drewN | apply Kd.R_drew)); exact HO355.out))) (below_size (by repeat (first | (with_reducible first | exact HB.out | apply below_alloc | apply pw_below_drewN | apply below_drew1 | refine below_set ?_ GE330.out | refine below_set ?_ GE331.out | refine below_set ?_ GE336.out | refine below_set ?_ GE341.out | refine below_set ?_ GE346.out) | exact HB.out))))
                    have n9_ := Aside0.mk (blk_below (g := gb330) (o := .cells #[.slice Ao16 t324.length co16] 33 (0, 0)) (by (with_reducible repeat (first | refine blk_drewN ?_ _ | refine blk_drew ?_ | refine blk_alloc ?_ _)); exact BK330.out) hb); have n10_ := Aside0.mk (blk_below (g := gb331) (o := .cells #[.slice Ao19 t327.length co19] 33 (0, 0)) (by (with_reducible repeat (first | refine blk_drewN ?_ _ | refine blk_drew ?_ | refine blk_alloc ?_ _)); exact BK331.out) hb); have n11_ := Aside0.mk (blk_below (g := gb336) (o := .cells #[.slice Ao23 t332.length co23] 33 (0, 0)) (by (with_reducible repeat (first | refine blk_drewN ?_ _ | refine blk_drew ?_ | refine blk_alloc ?_ _)); exact BK336.out) hb); have n12_ := Aside0.mk (blk_below (g := gb341) (o := .cells #[.slice Ao31 t337.length co31] 33 (0, 0)) (by (with_reducible repeat (first | refine blk_drewN ?_ _ | refine blk_drew ?_ | refine blk_alloc ?_ _)); exact BK341.out) hb); have n13_ := Aside0.mk (blk_below (g := gb346) (o := .cells #[.slice Ao40 t342.length co40] 33 (0, 0)) (by (with_reducible repeat (first | refine blk_drewN ?_ _ | refine blk_drew ?_ | refine blk_alloc ?_ _)); exact BK346.out) hb); have n14_ := Aside0.mk (below_step (by repeat (first | (with_reducible first | exact HB.out | apply below_alloc | apply pw_below_drewN | apply below_drew1 | refine below_set ?_ GE330.out | refine below_set ?_ GE331.out | refine below_set ?_ GE336.out | refine below_set ?_ GE341.out | refine below_set ?_ GE346.out) | exact HB.out)) hb); clear HO326 HO329 HO334 HO339 HO344 HO352 HO355 HO358 BK330 BK331 BK336 BK341 BK346 HB; have HO326 := n0_; have HO329 := n1_; have HO334 := n2_; have HO339 := n3_; have HO344 := n4_; have HO352 := n5_; have HO355 := n6_; have HO358 := n7_; have HO365 := n8_; have BK330 := n9_; have BK331 := n10_; have BK336 := n11_; have BK341 := n12_; have BK346 := n13_; have HB := n14_; clear n0_ n1_ n2_ n3_ n4_ n5_ n6_ n7_ n8_ n9_ n10_ n11_ n12_ n13_ n14_; (try clear hb); (try clear hb2); (try clear hk); (try clear hi); (try clear ho0); obtain ⟨Ao82, co82, eo82⟩ := Kd.R_slice HO365.out
                    (first | subst eo82 | (injection eo82 with f1_ f2_ f3_; have f4_ := f1_.symm; have f5_ := f3_.symm; clear f1_ f2_ f3_; subst f4_; subst f5_))
                    refine hK.out _ _ ⟨(blk_cell BK336.out 0).trans rfl, (blk_cell BK341.out 0).trans rfl, (blk_cell BK346.out 0).trans rfl, (blk_cell BK331.out 0).trans rfl, (blk_cell BK330.out 0).trans rfl⟩ (fun hHeld => ?_)
                    clear hK K
                    refine norm_ (a' := ?_) ?_ ?_
                    rotate_left
                    · show Act.put _ (some 79) _ = _
                      simp only [Act.put, List.setIfInBounds_toArray, List.set_cons_zero, List.set_cons_succ, i64_w, i32_w]
                      rfl
                    refine one_ (i := 39) (N := some 80) (tfs true [40, 1, 1, 13]).toArray rfl rfl (one_of HT_.out (by kernel_rfl)) (by decide) (fun K hK => ?_)
                    refine goes_ Try.func29 (by kernel_rfl) rfl #[.slice Ao82 t363.length co82] (by rfl) rfl rfl (by (try simp only [List.map_toArray, List.map_cons, List.map_nil]); first | done | rfl | (simp only [List.length_drop, List.length_take]; rfl)) ?_
                    with_reducible refine (sleuthlaw21_count.calls k _ _ t363 t366 _ ?side1 ?side2 A61.out).mono ?_
                    (case side1 => repeat (first | exact (Kd.R_reads' HO365.out).2.2 | (with_reducible refine Kd.C_alloc ?_ _) | (with_reducible refine Kd.C_drewN ?_ _) | (with_reducible refine Kd.C_drew ?_)))
                    (case side2 => exact (Kd.R_reads' HO365.out).2.1)
                    rintro e w83 ⟨v367, rfl, ho0, hb⟩
                    refine ⟨_, rfl, ?_⟩
                    have n0_ := Aside0.mk (Kd.R_below (by (with_reducible repeat (first | apply Kd.R_alloc | apply Kd.R_drewN | apply Kd.R_drew)); exact HO326.out) hb); have n1_ := Aside0.mk (Kd.R_below (by (with_reducible repeat (first | apply Kd.R_alloc | apply Kd.R_drewN | apply Kd.R_drew)); exact HO329.out) hb); have n2_ := Aside0.mk (Kd.R_below (by (with_reducible repeat (first | apply Kd.R_alloc | apply Kd.R_drewN | apply Kd.R_drew)); exact HO334.out) hb); have n3_ := Aside0.mk (Kd.R_below (by (with_reducible repeat (first | apply Kd.R_alloc | apply Kd.R_drewN | apply Kd.R_drew)); exact HO339.out) hb); have n4_ := Aside0.mk (Kd.R_below (by (with_reducible repeat (first | apply Kd.R_alloc | apply Kd.R_drewN | apply Kd.R_drew)); exact HO344.out) hb); have n5_ := Aside0.mk (Kd.R_below (by (with_reducible repeat (first | apply Kd.R_alloc | apply Kd.R_drewN | apply Kd.R_drew)); exact HO352.out) hb); have n6_ := Aside0.mk (Kd.R_below (by (with_reducible repeat (first | apply Kd.R_alloc | apply Kd.R_drewN | apply Kd.R_drew)); exact HO355.out) hb); have n7_ := Aside0.mk (Kd.R_elder' (by (with_reducible repeat (first | apply Kd.R_alloc | apply Kd.R_drewN | apply Kd.R_drew)); exact HO358.out) (Kd.R_base ho0) hb); have n8_ := Aside0.mk (Kd.R_below (by (with_reducible repeat (first | apply Kd.R_alloc | apply Kd.R_drewN | apply Kd.R_drew)); exact HO365.out) hb)
                    have n9_ := Aside0.mk (Kd.R_lower (Kd.R_new' ho0 (Kd.R_lt (by (with_reducible repeat (first | apply Kd.R_alloc | apply Kd.R_drewN | apply Kd.R_drew)); exact HO358.out))) (below_size (by repeat (first | (with_reducible first | exact HB.out | apply below_alloc | apply pw_below_drewN | apply below_drew1 | refine below_set ?_ GE330.out | refine below_set ?_ GE331.out | refine below_set ?_ GE336.out | refine below_set ?_ GE341.out | refine below_set ?_ GE346.out) | exact HB.out))))
                    have n10_ := Aside0.mk (blk_below (g := gb330) (o := .cells #[.slice Ao16 t324.length co16] 33 (0, 0)) (by (with_reducible repeat (first | refine blk_drewN ?_ _ | refine blk_drew ?_ | refine blk_alloc ?_ _)); exact BK330.out) hb); have n11_ := Aside0.mk (blk_below (g := gb331) (o := .cells #[.slice Ao19 t327.length co19] 33 (0, 0)) (by (with_reducible repeat (first | refine blk_drewN ?_ _ | refine blk_drew ?_ | refine blk_alloc ?_ _)); exact BK331.out) hb); have n12_ := Aside0.mk (blk_below (g := gb336) (o := .cells #[.slice Ao23 t332.length co23] 33 (0, 0)) (by (with_reducible repeat (first | refine blk_drewN ?_ _ | refine blk_drew ?_ | refine blk_alloc ?_ _)); exact BK336.out) hb); have n13_ := Aside0.mk (blk_below (g := gb341) (o := .cells #[.slice Ao31 t337.length co31] 33 (0, 0)) (by (with_reducible repeat (first | refine blk_drewN ?_ _ | refine blk_drew ?_ | refine blk_alloc ?_ _)); exact BK341.out) hb); have n14_ := Aside0.mk (blk_below (g := gb346) (o := .cells #[.slice Ao40 t342.length co40] 33 (0, 0)) (by (with_reducible repeat (first | refine blk_drewN ?_ _ | refine blk_drew ?_ | refine blk_alloc ?_ _)); exact BK346.out) hb); have n15_ := Aside0.mk (below_step (by repeat (first | (with_reducible first | exact HB.out | apply below_alloc | apply pw_below_drewN | apply below_drew1 | refine below_set ?_ GE330.out | refine below_set ?_ GE331.out | refine below_set ?_ GE336.out | refine below_set ?_ GE341.out | refine below_set ?_ GE346.out) | exact HB.out)) hb); clear HO326 HO329 HO334 HO339 HO344 HO352 HO355 HO358 HO365 BK330 BK331 BK336 BK341 BK346 HB; have HO326 := n0_; have HO329 := n1_; have HO334 := n2_; have HO339 := n3_; have HO344 := n4_; have HO352 := n5_; have HO355 := n6_; have HO358 := n7_; have HO365 := n8_; have HO368 := n9_; have BK330 := n10_; have BK331 := n11_; have BK336 := n12_; have BK341 := n13_; have BK346 := n14_; have HB := n15_; clear n0_ n1_ n2_ n3_ n4_ n5_ n6_ n7_ n8_ n9_ n10_ n11_ n12_ n13_ n14_ n15_; (try clear hb); (try clear hb2); (try clear hk); (try clear hi); (try clear ho0); obtain ⟨Ao84, co84, eo84⟩ := Kd.R_slice HO368.out
                    (first | subst eo84 | (injection eo84 with f1_ f2_ f3_; have f4_ := f1_.symm; have f5_ := f3_.symm; clear f1_ f2_ f3_; subst f4_; subst f5_))
                    refine hK.out _ _ ⟨(blk_cell BK336.out 0).trans rfl, (blk_cell BK341.out 0).trans rfl, (blk_cell BK346.out 0).trans rfl, (blk_cell BK331.out 0).trans rfl, (blk_cell BK330.out 0).trans rfl⟩ (fun hHeld => ?_)
                    clear hK K
                    refine norm_ (a' := ?_) ?_ ?_
                    rotate_left
                    · show Act.put _ (some 80) _ = _
                      simp only [Act.put, List.setIfInBounds_toArray, List.set_cons_zero, List.set_cons_succ, i64_w, i32_w]
                      rfl
                    refine pure_ (i := 40) (N := some 81) (v := ?_) (a' := ?_) (tfs true [42, 13]).toArray rfl rfl (any_of HT_.out (by kernel_rfl)) (fun _ _ _ h => h) (Or.inl ⟨by rfl, ?_⟩) ?_ ?_
                    rotate_left
                    · intro w'
                      go_simp
                      with_reducible rfl
                    rotate_left
                    · simp only [Act.put, List.setIfInBounds_toArray, List.set_cons_zero, List.set_cons_succ, i64_w, i32_w]
                      rfl
                    refine one_ (i := 42) (N := some 83) (tfs true [43, 12]).toArray rfl rfl (one_of HT_.out (by kernel_rfl)) (by decide) (fun K hK => ?_)
                    refine goes_ Try.func19 (by kernel_rfl) rfl #[.slice A1 l1.length c1] (by rfl) rfl rfl (by (try simp only [List.map_toArray, List.map_cons, List.map_nil]); first | done | rfl | (simp only [List.length_drop, List.length_take]; rfl)) ?_
                    with_reducible refine (sleuthlaw21_values.calls k _ _ l1 t369 _ ?side1 ?side2 A62.out).mono ?_
                    (case side1 => repeat (first | exact (Kd.C_below HR1.out HB.out) | (with_reducible refine Kd.C_alloc ?_ _) | (with_reducible refine Kd.C_drewN ?_ _) | (with_reducible refine Kd.C_drew ?_)))
                    (case side2 => exact HC1.out)
                    rintro e w85 ⟨v370, rfl, ho0, hb⟩
                    refine ⟨_, rfl, ?_⟩
                    have n0_ := Aside0.mk (Kd.R_below (by (with_reducible repeat (first | apply Kd.R_alloc | apply Kd.R_drewN | apply Kd.R_drew)); exact HO326.out) hb); have n1_ := Aside0.mk (Kd.R_below (by (with_reducible repeat (first | apply Kd.R_alloc | apply Kd.R_drewN | apply Kd.R_drew)); exact HO329.out) hb); have n2_ := Aside0.mk (Kd.R_below (by (with_reducible repeat (first | apply Kd.R_alloc | apply Kd.R_drewN | apply Kd.R_drew)); exact HO334.out) hb); have n3_ := Aside0.mk (Kd.R_below (by (with_reducible repeat (first | apply Kd.R_alloc | apply Kd.R_drewN | apply Kd.R_drew)); exact HO339.out) hb); have n4_ := Aside0.mk (Kd.R_below (by (with_reducible repeat (first | apply Kd.R_alloc | apply Kd.R_drewN | apply Kd.R_drew)); exact HO344.out) hb); have n5_ := Aside0.mk (Kd.R_elder' (by (with_reducible repeat (first | apply Kd.R_alloc | apply Kd.R_drewN | apply Kd.R_drew)); exact HO352.out) (Kd.R_base ho0) hb); have n6_ := Aside0.mk (Kd.R_elder' (by (with_reducible repeat (first | apply Kd.R_alloc | apply Kd.R_drewN | apply Kd.R_drew)); exact HO355.out) (Kd.R_base ho0) hb); have n7_ := Aside0.mk (Kd.R_below (by (with_reducible repeat (first | apply Kd.R_alloc | apply Kd.R_drewN | apply Kd.R_drew)); exact HO358.out) hb); have n8_ := Aside0.mk (Kd.R_elder' (by (with_reducible repeat (first | apply Kd.R_alloc | apply Kd.R_drewN | apply Kd.R_drew)); exact HO365.out) (Kd.R_base ho0) hb); have n9_ := Aside0.mk (Kd.R_below (by (with_reducible repeat (first | apply Kd.R_alloc | apply Kd.R_drewN | apply Kd.R_drew)); exact HO368.out) hb)
                    have n10_ := Aside0.mk (Kd.R_lower (Kd.R_new' (Kd.R_new' (Kd.R_new' ho0 (Kd.R_lt (by (with_reducible repeat (first | apply Kd.R_alloc | apply Kd.R_drewN | apply Kd.R_drew)); exact HO352.out))) (Kd.R_lt (by (with_reducible repeat (first | apply Kd.R_alloc | apply Kd.R_drewN | apply Kd.R_drew)); exact HO355.out))) (Kd.R_lt (by (with_reducible repeat (first | apply Kd.R_alloc | apply Kd.R_drewN | apply Kd.R_drew)); exact HO365.out))) (below_size (by repeat (first | (with_reducible first | exact HB.out | apply below_alloc | apply pw_below_drewN | apply below_drew1 | refine below_set ?_ GE330.out | refine below_set ?_ GE331.out | refine below_set ?_ GE336.out | refine below_set ?_ GE341.out | refine below_set ?_ GE346.out) | exact HB.out))))
                    have n11_ := Aside0.mk (blk_below (g := gb330) (o := .cells #[.slice Ao16 t324.length co16] 33 (0, 0)) (by (with_reducible repeat (first | refine blk_drewN ?_ _ | refine blk_drew ?_ | refine blk_alloc ?_ _)); exact BK330.out) hb); have n12_ := Aside0.mk (blk_below (g := gb331) (o := .cells #[.slice Ao19 t327.length co19] 33 (0, 0)) (by (with_reducible repeat (first | refine blk_drewN ?_ _ | refine blk_drew ?_ | refine blk_alloc ?_ _)); exact BK331.out) hb); have n13_ := Aside0.mk (blk_below (g := gb336) (o := .cells #[.slice Ao23 t332.length co23] 33 (0, 0)) (by (with_reducible repeat (first | refine blk_drewN ?_ _ | refine blk_drew ?_ | refine blk_alloc ?_ _)); exact BK336.out) hb); have n14_ := Aside0.mk (blk_below (g := gb341) (o := .cells #[.slice Ao31 t337.length co31] 33 (0, 0)) (by (with_reducible repeat (first | refine blk_drewN ?_ _ | refine blk_drew ?_ | refine blk_alloc ?_ _)); exact BK341.out) hb); have n15_ := Aside0.mk (blk_below (g := gb346) (o := .cells #[.slice Ao40 t342.length co40] 33 (0, 0)) (by (with_reducible repeat (first | refine blk_drewN ?_ _ | refine blk_drew ?_ | refine blk_alloc ?_ _)); exact BK346.out) hb); have n16_ := Aside0.mk (below_step (by repeat (first | (with_reducible first | exact HB.out | apply below_alloc | apply pw_below_drewN | apply below_drew1 | refine below_set ?_ GE330.out | refine below_set ?_ GE331.out | refine below_set ?_ GE336.out | refine below_set ?_ GE341.out | refine below_set ?_ GE346.out) | exact HB.out)) hb); clear HO326 HO329 HO334 HO339 HO344 HO352 HO355 HO358 HO365 HO368 BK330 BK331 BK336 BK341 BK346 HB; have HO326 := n0_; have HO329 := n1_; have HO334 := n2_; have HO339 := n3_; have HO344 := n4_; have HO352 := n5_; have HO355 := n6_; have HO358 := n7_; have HO365 := n8_; have HO368 := n9_; have HO371 := n10_; have BK330 := n11_; have BK331 := n12_; have BK336 := n13_; have BK341 := n14_; have BK346 := n15_; have HB := n16_; clear n0_ n1_ n2_ n3_ n4_ n5_ n6_ n7_ n8_ n9_ n10_ n11_ n12_ n13_ n14_ n15_ n16_; (try clear hb); (try clear hb2); (try clear hk); (try clear hi); (try clear ho0); obtain ⟨Ao86, co86, eo86⟩ := Kd.R_slice HO371.out
                    (first | subst eo86 | (injection eo86 with f1_ f2_ f3_; have f4_ := f1_.symm; have f5_ := f3_.symm; clear f1_ f2_ f3_; subst f4_; subst f5_))
                    refine hK.out _ _ ⟨(blk_cell BK336.out 0).trans rfl, (blk_cell BK341.out 0).trans rfl, (blk_cell BK346.out 0).trans rfl, (blk_cell BK331.out 0).trans rfl, (blk_cell BK330.out 0).trans rfl⟩ (fun hHeld => ?_)
                    clear hK K
                    refine norm_ (a' := ?_) ?_ ?_
                    rotate_left
                    · show Act.put _ (some 83) _ = _
                      simp only [Act.put, List.setIfInBounds_toArray, List.set_cons_zero, List.set_cons_succ, i64_w, i32_w]
                      rfl
                    refine one_ (i := 43) (N := some 84) (tfs true [44, 11]).toArray rfl rfl (one_of HT_.out (by kernel_rfl)) (by decide) (fun K hK => ?_)
                    refine goes_ Try.func29 (by kernel_rfl) rfl #[.slice Ao86 t369.length co86] (by rfl) rfl rfl (by (try simp only [List.map_toArray, List.map_cons, List.map_nil]); first | done | rfl | (simp only [List.length_drop, List.length_take]; rfl)) ?_
                    with_reducible refine (sleuthlaw21_count.calls k _ _ t369 t372 _ ?side1 ?side2 A63.out).mono ?_
                    (case side1 => repeat (first | exact (Kd.R_reads' HO371.out).2.2 | (with_reducible refine Kd.C_alloc ?_ _) | (with_reducible refine Kd.C_drewN ?_ _) | (with_reducible refine Kd.C_drew ?_)))
                    (case side2 => exact (Kd.R_reads' HO371.out).2.1)
                    rintro e w87 ⟨v373, rfl, ho0, hb⟩
                    refine ⟨_, rfl, ?_⟩
                    have n0_ := Aside0.mk (Kd.R_below (by (with_reducible repeat (first | apply Kd.R_alloc | apply Kd.R_drewN | apply Kd.R_drew)); exact HO326.out) hb); have n1_ := Aside0.mk (Kd.R_below (by (with_reducible repeat (first | apply Kd.R_alloc | apply Kd.R_drewN | apply Kd.R_drew)); exact HO329.out) hb); have n2_ := Aside0.mk (Kd.R_below (by (with_reducible repeat (first | apply Kd.R_alloc | apply Kd.R_drewN | apply Kd.R_drew)); exact HO334.out) hb); have n3_ := Aside0.mk (Kd.R_below (by (with_reducible repeat (first | apply Kd.R_alloc | apply Kd.R_drewN | apply Kd.R_drew)); exact HO339.out) hb); have n4_ := Aside0.mk (Kd.R_below (by (with_reducible repeat (first | apply Kd.R_alloc | apply Kd.R_drewN | apply Kd.R_drew)); exact HO344.out) hb); have n5_ := Aside0.mk (Kd.R_below (by (with_reducible repeat (first | apply Kd.R_alloc | apply Kd.R_drewN | apply Kd.R_drew)); exact HO352.out) hb); have n6_ := Aside0.mk (Kd.R_below (by (with_reducible repeat (first | apply Kd.R_alloc | apply Kd.R_drewN | apply Kd.R_drew)); exact HO355.out) hb); have n7_ := Aside0.mk (Kd.R_elder' (by (with_reducible repeat (first | apply Kd.R_alloc | apply Kd.R_drewN | apply Kd.R_drew)); exact HO358.out) (Kd.R_base ho0) hb); have n8_ := Aside0.mk (Kd.R_below (by (with_reducible repeat (first | apply Kd.R_alloc | apply Kd.R_drewN | apply Kd.R_drew)); exact HO365.out) hb); have n9_ := Aside0.mk (Kd.R_elder' (by (with_reducible repeat (first | apply Kd.R_alloc | apply Kd.R_drewN | apply Kd.R_drew)); exact HO368.out) (Kd.R_base ho0) hb); have n10_ := Aside0.mk (Kd.R_below (by (with_reducible repeat (first | apply Kd.R_alloc | apply Kd.R_drewN | apply Kd.R_drew)); exact HO371.out) hb)
                    have n11_ := Aside0.mk (Kd.R_lower (Kd.R_new' (Kd.R_new' ho0 (Kd.R_lt (by (with_reducible repeat (first | apply Kd.R_alloc | apply Kd.R_drewN | apply Kd.R_drew)); exact HO358.out))) (Kd.R_lt (by (with_reducible repeat (first | apply Kd.R_alloc | apply Kd.R_drewN | apply Kd.R_drew)); exact HO368.out))) (below_size (by repeat (first | (with_reducible first | exact HB.out | apply below_alloc | apply pw_below_drewN | apply below_drew1 | refine below_set ?_ GE330.out | refine below_set ?_ GE331.out | refine below_set ?_ GE336.out | refine below_set ?_ GE341.out | refine below_set ?_ GE346.out) | exact HB.out))))
                    have n12_ := Aside0.mk (blk_below (g := gb330) (o := .cells #[.slice Ao16 t324.length co16] 33 (0, 0)) (by (with_reducible repeat (first | refine blk_drewN ?_ _ | refine blk_drew ?_ | refine blk_alloc ?_ _)); exact BK330.out) hb); have n13_ := Aside0.mk (blk_below (g := gb331) (o := .cells #[.slice Ao19 t327.length co19] 33 (0, 0)) (by (with_reducible repeat (first | refine blk_drewN ?_ _ | refine blk_drew ?_ | refine blk_alloc ?_ _)); exact BK331.out) hb); have n14_ := Aside0.mk (blk_below (g := gb336) (o := .cells #[.slice Ao23 t332.length co23] 33 (0, 0)) (by (with_reducible repeat (first | refine blk_drewN ?_ _ | refine blk_drew ?_ | refine blk_alloc ?_ _)); exact BK336.out) hb); have n15_ := Aside0.mk (blk_below (g := gb341) (o := .cells #[.slice Ao31 t337.length co31] 33 (0, 0)) (by (with_reducible repeat (first | refine blk_drewN ?_ _ | refine blk_drew ?_ | refine blk_alloc ?_ _)); exact BK341.out) hb); have n16_ := Aside0.mk (blk_below (g := gb346) (o := .cells #[.slice Ao40 t342.length co40] 33 (0, 0)) (by (with_reducible repeat (first | refine blk_drewN ?_ _ | refine blk_drew ?_ | refine blk_alloc ?_ _)); exact BK346.out) hb); have n17_ := Aside0.mk (below_step (by repeat (first | (with_reducible first | exact HB.out | apply below_alloc | apply pw_below_drewN | apply below_drew1 | refine below_set ?_ GE330.out | refine below_set ?_ GE331.out | refine below_set ?_ GE336.out | refine below_set ?_ GE341.out | refine below_set ?_ GE346.out) | exact HB.out)) hb); clear HO326 HO329 HO334 HO339 HO344 HO352 HO355 HO358 HO365 HO368 HO371 BK330 BK331 BK336 BK341 BK346 HB; have HO326 := n0_; have HO329 := n1_; have HO334 := n2_; have HO339 := n3_; have HO344 := n4_; have HO352 := n5_; have HO355 := n6_; have HO358 := n7_; have HO365 := n8_; have HO368 := n9_; have HO371 := n10_; have HO374 := n11_; have BK330 := n12_; have BK331 := n13_; have BK336 := n14_; have BK341 := n15_; have BK346 := n16_; have HB := n17_; clear n0_ n1_ n2_ n3_ n4_ n5_ n6_ n7_ n8_ n9_ n10_ n11_ n12_ n13_ n14_ n15_ n16_ n17_; (try clear hb); (try clear hb2); (try clear hk); (try clear hi); (try clear ho0); obtain ⟨Ao88, co88, eo88⟩ := Kd.R_slice HO374.out
                    (first | subst eo88 | (injection eo88 with f1_ f2_ f3_; have f4_ := f1_.symm; have f5_ := f3_.symm; clear f1_ f2_ f3_; subst f4_; subst f5_))
                    refine hK.out _ _ ⟨(blk_cell BK336.out 0).trans rfl, (blk_cell BK341.out 0).trans rfl, (blk_cell BK346.out 0).trans rfl, (blk_cell BK331.out 0).trans rfl, (blk_cell BK330.out 0).trans rfl⟩ (fun hHeld => ?_)
                    clear hK K
                    refine norm_ (a' := ?_) ?_ ?_
                    rotate_left
                    · show Act.put _ (some 84) _ = _
                      simp only [Act.put, List.setIfInBounds_toArray, List.set_cons_zero, List.set_cons_succ, i64_w, i32_w]
                      rfl
                    refine pure_ (i := 44) (N := some 85) (v := ?_) (a' := ?_) (tfs true [45, 10]).toArray rfl rfl (any_of HT_.out (by kernel_rfl)) (fun _ _ _ h => h) (Or.inl ⟨by rfl, ?_⟩) ?_ ?_
                    rotate_left
                    · intro w'
                      go_simp
                      with_reducible rfl
                    rotate_left
                    · simp only [Act.put, List.setIfInBounds_toArray, List.set_cons_zero, List.set_cons_succ, i64_w, i32_w]
                      rfl
                    have H := HQ_.out; clear HQ_
                    by_cases c64 : (t366.length : Int) = (t372.length : Int)
                    · rw [if_pos c64] at H
                      have c64b0 : ((t366.length : Int) == (t372.length : Int)) = true := beq_iff_eq.mpr c64
                      have c64b1 : ((t366.length : Int) != (t372.length : Int)) = false := bne_eq_false_iff_eq.mpr c64
                      have c64b2 : (t366.length == t372.length) = true := by first | simpa using c64 | (simp at c64 ⊢; omega)
                      clear c64; replace H := Option.bind_eq_some_iff.mp H; obtain ⟨t375, A650, H⟩ := H; (try dsimp only at H); have A65 := Aside0.mk A650; clear A650; replace H := Option.bind_eq_some_iff.mp H; obtain ⟨t378, A660, H⟩ := H; (try dsimp only at H); have A66 := Aside0.mk A660; clear A660; replace H := Option.bind_eq_some_iff.mp H; obtain ⟨t381, A670, H⟩ := H; (try dsimp only at H); have A67 := Aside0.mk A670; clear A670; have H' := Aside0.mk H; clear H
                      refine pure_ (i := 45) (N := some 86) (v := ?_) (a' := ?_) (tfs true [46, 9]).toArray rfl rfl (any_of HT_.out (by kernel_rfl)) (fun _ _ _ h => h) (Or.inl ⟨by rfl, ?_⟩) ?_ ?_
                      rotate_left
                      · intro w'
                        go_simp
                        with_reducible rfl
                      rotate_left
                      · simp only [Act.put, List.setIfInBounds_toArray, List.set_cons_zero, List.set_cons_succ, i64_w, i32_w]
                        rfl
                      refine pure_ (i := 46) (N := some 87) (v := ?_) (a' := ?_) (tfs true [47, 8]).toArray rfl rfl (any_of HT_.out (by kernel_rfl)) (fun _ _ _ h => h) (Or.inl ⟨by rfl, ?_⟩) ?_ ?_
                      rotate_left
                      · intro w'
                        go_simp
                        with_reducible rfl
                      rotate_left
                      · simp only [Act.put, List.setIfInBounds_toArray, List.set_cons_zero, List.set_cons_succ, i64_w, i32_w]
                        rfl
                      refine pure_ (i := 48) (N := some 89) (v := ?_) (a' := ?_) (tfs true [47, 1, 1, 6]).toArray rfl rfl (any_of HT_.out (by kernel_rfl)) (fun _ _ _ h => h) (Or.inl ⟨by rfl, ?_⟩) ?_ ?_
                      rotate_left
                      · intro w'
                        go_simp
                        with_reducible rfl
                      rotate_left
                      · simp only [Act.put, List.setIfInBounds_toArray, List.set_cons_zero, List.set_cons_succ, i64_w, i32_w]
                        rfl
                      refine take_ (i := 47) (N := some 88) (v := ?_) (a' := ?_) (tfs true [49, 6]).toArray rfl rfl (take_ofW HT_.out HW_.out (by kernel_rfl)) (fun _ _ _ h => h) (Or.inl ⟨by rfl, ?_⟩) hHeld ?_ ?_
                      rotate_left
                      · rintro w' ⟨s0, s1, s2, s3, s4⟩
                        go_simp
                        with_reducible rfl
                      rotate_left
                      · simp only [Act.put, List.setIfInBounds_toArray, List.set_cons_zero, List.set_cons_succ, i64_w, i32_w]
                        rfl
                      refine one_ (i := 49) (N := some 90) (tfs true [50, 5]).toArray rfl rfl (one_of HT_.out (by kernel_rfl)) (by decide) (fun K hK => ?_)
                      refine goes_ Try.func19 (by kernel_rfl) rfl #[.slice A1 l1.length c1] (by rfl) rfl rfl (by (try simp only [List.map_toArray, List.map_cons, List.map_nil]); first | done | rfl | (simp only [List.length_drop, List.length_take]; rfl)) ?_
                      with_reducible refine (sleuthlaw21_values.calls k _ _ l1 t375 _ ?side1 ?side2 A65.out).mono ?_
                      (case side1 => repeat (first | exact (Kd.C_below HR1.out HB.out) | (with_reducible refine Kd.C_alloc ?_ _) | (with_reducible refine Kd.C_drewN ?_ _) | (with_reducible refine Kd.C_drew ?_)))
                      (case side2 => exact HC1.out)
                      rintro e w89 ⟨v376, rfl, ho0, hb⟩
                      refine ⟨_, rfl, ?_⟩
                      have n0_ := Aside0.mk (Kd.R_below (by (with_reducible repeat (first | apply Kd.R_alloc | apply Kd.R_drewN | apply Kd.R_drew)); exact HO326.out) hb); have n1_ := Aside0.mk (Kd.R_below (by (with_reducible repeat (first | apply Kd.R_alloc | apply Kd.R_drewN | apply Kd.R_drew)); exact HO329.out) hb); have n2_ := Aside0.mk (Kd.R_below (by (with_reducible repeat (first | apply Kd.R_alloc | apply Kd.R_drewN | apply Kd.R_drew)); exact HO334.out) hb); have n3_ := Aside0.mk (Kd.R_below (by (with_reducible repeat (first | apply Kd.R_alloc | apply Kd.R_drewN | apply Kd.R_drew)); exact HO339.out) hb); have n4_ := Aside0.mk (Kd.R_below (by (with_reducible repeat (first | apply Kd.R_alloc | apply Kd.R_drewN | apply Kd.R_drew)); exact HO344.out) hb); have n5_ := Aside0.mk (Kd.R_elder' (by (with_reducible repeat (first | apply Kd.R_alloc | apply Kd.R_drewN | apply Kd.R_drew)); exact HO352.out) (Kd.R_base ho0) hb); have n6_ := Aside0.mk (Kd.R_elder' (by (with_reducible repeat (first | apply Kd.R_alloc | apply Kd.R_drewN | apply Kd.R_drew)); exact HO355.out) (Kd.R_base ho0) hb); have n7_ := Aside0.mk (Kd.R_below (by (with_reducible repeat (first | apply Kd.R_alloc | apply Kd.R_drewN | apply Kd.R_drew)); exact HO358.out) hb); have n8_ := Aside0.mk (Kd.R_elder' (by (with_reducible repeat (first | apply Kd.R_alloc | apply Kd.R_drewN | apply Kd.R_drew)); exact HO365.out) (Kd.R_base ho0) hb); have n9_ := Aside0.mk (Kd.R_below (by (with_reducible repeat (first | apply Kd.R_alloc | apply Kd.R_drewN | apply Kd.R_drew)); exact HO368.out) hb); have n10_ := Aside0.mk (Kd.R_elder' (by (with_reducible repeat (first | apply Kd.R_alloc | apply Kd.R_drewN | apply Kd.R_drew)); exact HO371.out) (Kd.R_base ho0) hb); have n11_ := Aside0.mk (Kd.R_below (by (with_reducible repeat (first | apply Kd.R_alloc | apply Kd.R_drewN | apply Kd.R_drew)); exact HO374.out) hb)
                      have n12_ := Aside0.mk (Kd.R_lower (Kd.R_new' (Kd.R_new' (Kd.R_new' (Kd.R_new' ho0 (Kd.R_lt (by (with_reducible repeat (first | apply Kd.R_alloc | apply Kd.R_drewN | apply Kd.R_drew)); exact HO352.out))) (Kd.R_lt (by (with_reducible repeat (first | apply Kd.R_alloc | apply Kd.R_drewN | apply Kd.R_drew)); exact HO355.out))) (Kd.R_lt (by (with_reducible repeat (first | apply Kd.R_alloc | apply Kd.R_drewN | apply Kd.R_drew)); exact HO365.out))) (Kd.R_lt (by (with_reducible repeat (first | apply Kd.R_alloc | apply Kd.R_drewN | apply Kd.R_drew)); exact HO371.out))) (below_size (by repeat (first | (with_reducible first | exact HB.out | apply below_alloc | apply pw_below_drewN | apply below_drew1 | refine below_set ?_ GE330.out | refine below_set ?_ GE331.out | refine below_set ?_ GE336.out | refine below_set ?_ GE341.out | refine below_set ?_ GE346.out) | exact HB.out))))
                      have n13_ := Aside0.mk (blk_below (g := gb330) (o := .cells #[.slice Ao16 t324.length co16] 33 (0, 0)) (by (with_reducible repeat (first | refine blk_drewN ?_ _ | refine blk_drew ?_ | refine blk_alloc ?_ _)); exact BK330.out) hb); have n14_ := Aside0.mk (blk_below (g := gb331) (o := .cells #[.slice Ao19 t327.length co19] 33 (0, 0)) (by (with_reducible repeat (first | refine blk_drewN ?_ _ | refine blk_drew ?_ | refine blk_alloc ?_ _)); exact BK331.out) hb); have n15_ := Aside0.mk (blk_below (g := gb336) (o := .cells #[.slice Ao23 t332.length co23] 33 (0, 0)) (by (with_reducible repeat (first | refine blk_drewN ?_ _ | refine blk_drew ?_ | refine blk_alloc ?_ _)); exact BK336.out) hb); have n16_ := Aside0.mk (blk_below (g := gb341) (o := .cells #[.slice Ao31 t337.length co31] 33 (0, 0)) (by (with_reducible repeat (first | refine blk_drewN ?_ _ | refine blk_drew ?_ | refine blk_alloc ?_ _)); exact BK341.out) hb); have n17_ := Aside0.mk (blk_below (g := gb346) (o := .cells #[.slice Ao40 t342.length co40] 33 (0, 0)) (by (with_reducible repeat (first | refine blk_drewN ?_ _ | refine blk_drew ?_ | refine blk_alloc ?_ _)); exact BK346.out) hb); have n18_ := Aside0.mk (below_step (by repeat (first | (with_reducible first | exact HB.out | apply below_alloc | apply pw_below_drewN | apply below_drew1 | refine below_set ?_ GE330.out | refine below_set ?_ GE331.out | refine below_set ?_ GE336.out | refine below_set ?_ GE341.out | refine below_set ?_ GE346.out) | exact HB.out)) hb); clear HO326 HO329 HO334 HO339 HO344 HO352 HO355 HO358 HO365 HO368 HO371 HO374 BK330 BK331 BK336 BK341 BK346 HB; have HO326 := n0_; have HO329 := n1_; have HO334 := n2_; have HO339 := n3_; have HO344 := n4_; have HO352 := n5_; have HO355 := n6_; have HO358 := n7_; have HO365 := n8_; have HO368 := n9_; have HO371 := n10_; have HO374 := n11_; have HO377 := n12_; have BK330 := n13_; have BK331 := n14_; have BK336 := n15_; have BK341 := n16_; have BK346 := n17_; have HB := n18_; clear n0_ n1_ n2_ n3_ n4_ n5_ n6_ n7_ n8_ n9_ n10_ n11_ n12_ n13_ n14_ n15_ n16_ n17_ n18_; (try clear hb); (try clear hb2); (try clear hk); (try clear hi); (try clear ho0); obtain ⟨Ao90, co90, eo90⟩ := Kd.R_slice HO377.out
                      (first | subst eo90 | (injection eo90 with f1_ f2_ f3_; have f4_ := f1_.symm; have f5_ := f3_.symm; clear f1_ f2_ f3_; subst f4_; subst f5_))
                      refine hK.out _ _ ⟨(blk_cell BK336.out 0).trans rfl, (blk_cell BK341.out 0).trans rfl, (blk_cell BK346.out 0).trans rfl, (blk_cell BK331.out 0).trans rfl, (blk_cell BK330.out 0).trans rfl⟩ (fun hHeld => ?_)
                      clear hK K
                      refine norm_ (a' := ?_) ?_ ?_
                      rotate_left
                      · show Act.put _ (some 90) _ = _
                        simp only [Act.put, List.setIfInBounds_toArray, List.set_cons_zero, List.set_cons_succ, i64_w, i32_w]
                        rfl
                      refine one_ (i := 50) (N := some 91) (tfs true [51, 4]).toArray rfl rfl (one_of HT_.out (by kernel_rfl)) (by decide) (fun K hK => ?_)
                      refine goes_ Try.func29 (by kernel_rfl) rfl #[.slice Ao90 t375.length co90] (by rfl) rfl rfl (by (try simp only [List.map_toArray, List.map_cons, List.map_nil]); first | done | rfl | (simp only [List.length_drop, List.length_take]; rfl)) ?_
                      with_reducible refine (sleuthlaw21_count.calls k _ _ t375 t378 _ ?side1 ?side2 A66.out).mono ?_
                      (case side1 => repeat (first | exact (Kd.R_reads' HO377.out).2.2 | (with_reducible refine Kd.C_alloc ?_ _) | (with_reducible refine Kd.C_drewN ?_ _) | (with_reducible refine Kd.C_drew ?_)))
                      (case side2 => exact (Kd.R_reads' HO377.out).2.1)
                      rintro e w91 ⟨v379, rfl, ho0, hb⟩
                      refine ⟨_, rfl, ?_⟩
                      have n0_ := Aside0.mk (Kd.R_below (by (with_reducible repeat (first | apply Kd.R_alloc | apply Kd.R_drewN | apply Kd.R_drew)); exact HO326.out) hb); have n1_ := Aside0.mk (Kd.R_below (by (with_reducible repeat (first | apply Kd.R_alloc | apply Kd.R_drewN | apply Kd.R_drew)); exact HO329.out) hb); have n2_ := Aside0.mk (Kd.R_below (by (with_reducible repeat (first | apply Kd.R_alloc | apply Kd.R_drewN | apply Kd.R_drew)); exact HO334.out) hb); have n3_ := Aside0.mk (Kd.R_below (by (with_reducible repeat (first | apply Kd.R_alloc | apply Kd.R_drewN | apply Kd.R_drew)); exact HO339.out) hb); have n4_ := Aside0.mk (Kd.R_below (by (with_reducible repeat (first | apply Kd.R_alloc | apply Kd.R_drewN | apply Kd.R_drew)); exact HO344.out) hb); have n5_ := Aside0.mk (Kd.R_below (by (with_reducible repeat (first | apply Kd.R_alloc | apply Kd.R_drewN | apply Kd.R_drew)); exact HO352.out) hb); have n6_ := Aside0.mk (Kd.R_below (by (with_reducible repeat (first | apply Kd.R_alloc | apply Kd.R_drewN | apply Kd.R_drew)); exact HO355.out) hb); have n7_ := Aside0.mk (Kd.R_elder' (by (with_reducible repeat (first | apply Kd.R_alloc | apply Kd.R_drewN | apply Kd.R_drew)); exact HO358.out) (Kd.R_base ho0) hb); have n8_ := Aside0.mk (Kd.R_below (by (with_reducible repeat (first | apply Kd.R_alloc | apply Kd.R_drewN | apply Kd.R_drew)); exact HO365.out) hb); have n9_ := Aside0.mk (Kd.R_elder' (by (with_reducible repeat (first | apply Kd.R_alloc | apply Kd.R_drewN | apply Kd.R_drew)); exact HO368.out) (Kd.R_base ho0) hb); have n10_ := Aside0.mk (Kd.R_below (by (with_reducible repeat (first | apply Kd.R_alloc | apply Kd.R_drewN | apply Kd.R_drew)); exact HO371.out) hb); have n11_ := Aside0.mk (Kd.R_elder' (by (with_reducible repeat (first | apply Kd.R_alloc | apply Kd.R_drewN | apply Kd.R_drew)); exact HO374.out) (Kd.R_base ho0) hb); have n12_ := Aside0.mk (Kd.R_below (by (with_reducible repeat (first | apply Kd.R_alloc | apply Kd.R_drewN | apply Kd.R_drew)); exact HO377.out) hb)
                      have n13_ := Aside0.mk (Kd.R_lower (Kd.R_new' (Kd.R_new' (Kd.R_new' ho0 (Kd.R_lt (by (with_reducible repeat (first | apply Kd.R_alloc | apply Kd.R_drewN | apply Kd.R_drew)); exact HO358.out))) (Kd.R_lt (by (with_reducible repeat (first | apply Kd.R_alloc | apply Kd.R_drewN | apply Kd.R_drew)); exact HO368.out))) (Kd.R_lt (by (with_reducible repeat (first | apply Kd.R_alloc | apply Kd.R_drewN | apply Kd.R_drew)); exact HO374.out))) (below_size (by repeat (first | (with_reducible first | exact HB.out | apply below_alloc | apply pw_below_drewN | apply below_drew1 | refine below_set ?_ GE330.out | refine below_set ?_ GE331.out | refine below_set ?_ GE336.out | refine below_set ?_ GE341.out | refine below_set ?_ GE346.out) | exact HB.out))))
                      have n14_ := Aside0.mk (blk_below (g := gb330) (o := .cells #[.slice Ao16 t324.length co16] 33 (0, 0)) (by (with_reducible repeat (first | refine blk_drewN ?_ _ | refine blk_drew ?_ | refine blk_alloc ?_ _)); exact BK330.out) hb); have n15_ := Aside0.mk (blk_below (g := gb331) (o := .cells #[.slice Ao19 t327.length co19] 33 (0, 0)) (by (with_reducible repeat (first | refine blk_drewN ?_ _ | refine blk_drew ?_ | refine blk_alloc ?_ _)); exact BK331.out) hb); have n16_ := Aside0.mk (blk_below (g := gb336) (o := .cells #[.slice Ao23 t332.length co23] 33 (0, 0)) (by (with_reducible repeat (first | refine blk_drewN ?_ _ | refine blk_drew ?_ | refine blk_alloc ?_ _)); exact BK336.out) hb); have n17_ := Aside0.mk (blk_below (g := gb341) (o := .cells #[.slice Ao31 t337.length co31] 33 (0, 0)) (by (with_reducible repeat (first | refine blk_drewN ?_ _ | refine blk_drew ?_ | refine blk_alloc ?_ _)); exact BK341.out) hb); have n18_ := Aside0.mk (blk_below (g := gb346) (o := .cells #[.slice Ao40 t342.length co40] 33 (0, 0)) (by (with_reducible repeat (first | refine blk_drewN ?_ _ | refine blk_drew ?_ | refine blk_alloc ?_ _)); exact BK346.out) hb); have n19_ := Aside0.mk (below_step (by repeat (first | (with_reducible first | exact HB.out | apply below_alloc | apply pw_below_drewN | apply below_drew1 | refine below_set ?_ GE330.out | refine below_set ?_ GE331.out | refine below_set ?_ GE336.out | refine below_set ?_ GE341.out | refine below_set ?_ GE346.out) | exact HB.out)) hb); clear HO326 HO329 HO334 HO339 HO344 HO352 HO355 HO358 HO365 HO368 HO371 HO374 HO377 BK330 BK331 BK336 BK341 BK346 HB; have HO326 := n0_; have HO329 := n1_; have HO334 := n2_; have HO339 := n3_; have HO344 := n4_; have HO352 := n5_; have HO355 := n6_; have HO358 := n7_; have HO365 := n8_; have HO368 := n9_; have HO371 := n10_; have HO374 := n11_; have HO377 := n12_; have HO380 := n13_; have BK330 := n14_; have BK331 := n15_; have BK336 := n16_; have BK341 := n17_; have BK346 := n18_; have HB := n19_; clear n0_ n1_ n2_ n3_ n4_ n5_ n6_ n7_ n8_ n9_ n10_ n11_ n12_ n13_ n14_ n15_ n16_ n17_ n18_ n19_; (try clear hb); (try clear hb2); (try clear hk); (try clear hi); (try clear ho0); obtain ⟨Ao92, co92, eo92⟩ := Kd.R_slice HO380.out
                      (first | subst eo92 | (injection eo92 with f1_ f2_ f3_; have f4_ := f1_.symm; have f5_ := f3_.symm; clear f1_ f2_ f3_; subst f4_; subst f5_))
                      refine hK.out _ _ ⟨(blk_cell BK336.out 0).trans rfl, (blk_cell BK341.out 0).trans rfl, (blk_cell BK346.out 0).trans rfl, (blk_cell BK331.out 0).trans rfl, (blk_cell BK330.out 0).trans rfl⟩ (fun hHeld => ?_)
                      clear hK K
                      refine norm_ (a' := ?_) ?_ ?_
                      rotate_left
                      · show Act.put _ (some 91) _ = _
                        simp only [Act.put, List.setIfInBounds_toArray, List.set_cons_zero, List.set_cons_succ, i64_w, i32_w]
                        rfl
                      refine one_ (i := 51) (N := some 92) (tfs true [52, 3]).toArray rfl rfl (one_of HT_.out (by kernel_rfl)) (by decide) (fun K hK => ?_)
                      refine goes_ Try.func28 (by kernel_rfl) rfl #[.agg #[.slice Ao16 t324.length co16], .slice Ao92 t378.length co92] (by rfl) rfl rfl (by (try simp only [List.map_toArray, List.map_cons, List.map_nil]); first | done | rfl | (simp only [List.length_drop, List.length_take]; rfl)) ?_
                      with_reducible refine (sleuthlaw21_same.calls k _ _ t324 _ _ t378 t381 _ ?side1 ?side2 ?side3 ?side4 A67.out).mono ?_
                      (case side1 => repeat (first | exact (Kd.R_reads' HO326.out).2.2 | (with_reducible refine Kd.C_alloc ?_ _) | (with_reducible refine Kd.C_drewN ?_ _) | (with_reducible refine Kd.C_drew ?_)))
                      (case side2 => exact (Kd.R_reads' HO326.out).2.1)
                      (case side3 => repeat (first | exact (Kd.R_reads' HO380.out).2.2 | (with_reducible refine Kd.C_alloc ?_ _) | (with_reducible refine Kd.C_drewN ?_ _) | (with_reducible refine Kd.C_drew ?_)))
                      (case side4 => exact (Kd.R_reads' HO380.out).2.1)
                      rintro e w93 ⟨rfl, hb⟩
                      refine ⟨_, rfl, ?_⟩
                      have n0_ := Aside0.mk (Kd.R_below (by (with_reducible repeat (first | apply Kd.R_alloc | apply Kd.R_drewN | apply Kd.R_drew)); exact HO326.out) hb); have n1_ := Aside0.mk (Kd.R_below (by (with_reducible repeat (first | apply Kd.R_alloc | apply Kd.R_drewN | apply Kd.R_drew)); exact HO329.out) hb); have n2_ := Aside0.mk (Kd.R_below (by (with_reducible repeat (first | apply Kd.R_alloc | apply Kd.R_drewN | apply Kd.R_drew)); exact HO334.out) hb); have n3_ := Aside0.mk (Kd.R_below (by (with_reducible repeat (first | apply Kd.R_alloc | apply Kd.R_drewN | apply Kd.R_drew)); exact HO339.out) hb); have n4_ := Aside0.mk (Kd.R_below (by (with_reducible repeat (first | apply Kd.R_alloc | apply Kd.R_drewN | apply Kd.R_drew)); exact HO344.out) hb); have n5_ := Aside0.mk (Kd.R_below (by (with_reducible repeat (first | apply Kd.R_alloc | apply Kd.R_drewN | apply Kd.R_drew)); exact HO352.out) hb); have n6_ := Aside0.mk (Kd.R_below (by (with_reducible repeat (first | apply Kd.R_alloc | apply Kd.R_drewN | apply Kd.R_drew)); exact HO355.out) hb); have n7_ := Aside0.mk (Kd.R_below (by (with_reducible repeat (first | apply Kd.R_alloc | apply Kd.R_drewN | apply Kd.R_drew)); exact HO358.out) hb); have n8_ := Aside0.mk (Kd.R_below (by (with_reducible repeat (first | apply Kd.R_alloc | apply Kd.R_drewN | apply Kd.R_drew)); exact HO365.out) hb); have n9_ := Aside0.mk (Kd.R_below (by (with_reducible repeat (first | apply Kd.R_alloc | apply Kd.R_drewN | apply Kd.R_drew)); exact HO368.out) hb); have n10_ := Aside0.mk (Kd.R_below (by (with_reducible repeat (first | apply Kd.R_alloc | apply Kd.R_drewN | apply Kd.R_drew)); exact HO371.out) hb); have n11_ := Aside0.mk (Kd.R_below (by (with_reducible repeat (first | apply Kd.R_alloc | apply Kd.R_drewN | apply Kd.R_drew)); exact HO374.out) hb); have n12_ := Aside0.mk (Kd.R_below (by (with_reducible repeat (first | apply Kd.R_alloc | apply Kd.R_drewN | apply Kd.R_drew)); exact HO377.out) hb); have n13_ := Aside0.mk (Kd.R_below (by (with_reducible repeat (first | apply Kd.R_alloc | apply Kd.R_drewN | apply Kd.R_drew)); exact HO380.out) hb); have n14_ := Aside0.mk (blk_below (g := gb330) (o := .cells #[.slice Ao16 t324.length co16] 33 (0, 0)) (by (with_reducible repeat (first | refine blk_drewN ?_ _ | refine blk_drew ?_ | refine blk_alloc ?_ _)); exact BK330.out) hb); have n15_ := Aside0.mk (blk_below (g := gb331) (o := .cells #[.slice Ao19 t327.length co19] 33 (0, 0)) (by (with_reducible repeat (first | refine blk_drewN ?_ _ | refine blk_drew ?_ | refine blk_alloc ?_ _)); exact BK331.out) hb); have n16_ := Aside0.mk (blk_below (g := gb336) (o := .cells #[.slice Ao23 t332.length co23] 33 (0, 0)) (by (with_reducible repeat (first | refine blk_drewN ?_ _ | refine blk_drew ?_ | refine blk_alloc ?_ _)); exact BK336.out) hb); have n17_ := Aside0.mk (blk_below (g := gb341) (o := .cells #[.slice Ao31 t337.length co31] 33 (0, 0)) (by (with_reducible repeat (first | refine blk_drewN ?_ _ | refine blk_drew ?_ | refine blk_alloc ?_ _)); exact BK341.out) hb)
                      have n18_ := Aside0.mk (blk_below (g := gb346) (o := .cells #[.slice Ao40 t342.length co40] 33 (0, 0)) (by (with_reducible repeat (first | refine blk_drewN ?_ _ | refine blk_drew ?_ | refine blk_alloc ?_ _)); exact BK346.out) hb); have n19_ := Aside0.mk (below_step (by repeat (first | (with_reducible first | exact HB.out | apply below_alloc | apply pw_below_drewN | apply below_drew1 | refine below_set ?_ GE330.out | refine below_set ?_ GE331.out | refine below_set ?_ GE336.out | refine below_set ?_ GE341.out | refine below_set ?_ GE346.out) | exact HB.out)) hb); clear HO326 HO329 HO334 HO339 HO344 HO352 HO355 HO358 HO365 HO368 HO371 HO374 HO377 HO380 BK330 BK331 BK336 BK341 BK346 HB; have HO326 := n0_; have HO329 := n1_; have HO334 := n2_; have HO339 := n3_; have HO344 := n4_; have HO352 := n5_; have HO355 := n6_; have HO358 := n7_; have HO365 := n8_; have HO368 := n9_; have HO371 := n10_; have HO374 := n11_; have HO377 := n12_; have HO380 := n13_; have BK330 := n14_; have BK331 := n15_; have BK336 := n16_; have BK341 := n17_; have BK346 := n18_; have HB := n19_; clear n0_ n1_ n2_ n3_ n4_ n5_ n6_ n7_ n8_ n9_ n10_ n11_ n12_ n13_ n14_ n15_ n16_ n17_ n18_ n19_; (try clear hb); (try clear hb2); (try clear hk); (try clear hi)
                      refine hK.out _ _ ⟨(blk_cell BK336.out 0).trans rfl, (blk_cell BK341.out 0).trans rfl, (blk_cell BK346.out 0).trans rfl, (blk_cell BK331.out 0).trans rfl, (blk_cell BK330.out 0).trans rfl⟩ (fun hHeld => ?_)
                      clear hK K
                      refine norm_ (a' := ?_) ?_ ?_
                      rotate_left
                      · show Act.put _ (some 92) _ = _
                        simp only [Act.put, List.setIfInBounds_toArray, List.set_cons_zero, List.set_cons_succ, i64_w, i32_w]
                        rfl
                      refine pure_ (i := 52) (N := some 93) (v := ?_) (a' := ?_) (tfs true [53, 2]).toArray rfl rfl (any_of HT_.out (by kernel_rfl)) (fun _ _ _ h => h) (Or.inl ⟨by rfl, ?_⟩) ?_ ?_
                      rotate_left
                      · intro w'
                        go_simp
                        with_reducible rfl
                      rotate_left
                      · simp only [Act.put, List.setIfInBounds_toArray, List.set_cons_zero, List.set_cons_succ, i64_w, i32_w]
                        rfl
                      refine pure_ (i := 53) (N := some 94) (v := ?_) (a' := ?_) (tfs true [54, 1]).toArray rfl rfl (any_of HT_.out (by kernel_rfl)) (fun _ _ _ h => h) (Or.inl ⟨by rfl, ?_⟩) ?_ ?_
                      rotate_left
                      · intro w'
                        go_simp
                        with_reducible rfl
                      rotate_left
                      · simp only [Act.put, List.setIfInBounds_toArray, List.set_cons_zero, List.set_cons_succ, i64_w, i32_w]
                        rfl
                      refine pure_ (i := 54) (N := some 95) (v := ?_) (a' := ?_) (tfs true [55]).toArray rfl rfl (any_of HT_.out (by kernel_rfl)) (fun _ _ _ h => h) (Or.inl ⟨by rfl, ?_⟩) ?_ ?_
                      rotate_left
                      · intro w'
                        go_simp
                        with_reducible rfl
                      rotate_left
                      · simp only [Act.put, List.setIfInBounds_toArray, List.set_cons_zero, List.set_cons_succ, i64_w, i32_w]
                        rfl
                      refine done_ (done_of HT_.out (by kernel_rfl)) ?_
                      try go_wp2
                      go_meet
                      case rel => exact ⟨_, ((t362 != t381)), (by first | rfl | (simp; done) | (simp [*]; done)), H', ⟨by first | omega | exact Nat.le_refl _⟩, ⟨by (with_reducible repeat (first | apply Kd.R_alloc | apply Kd.R_drewN | apply Kd.R_drew)); exact HO326.out⟩, ⟨by (with_reducible repeat (first | apply Kd.R_alloc | apply Kd.R_drewN | apply Kd.R_drew)); exact HO329.out⟩, ⟨by (with_reducible repeat (first | apply Kd.R_alloc | apply Kd.R_drewN | apply Kd.R_drew)); exact HO334.out⟩, ⟨by (with_reducible repeat (first | apply Kd.R_alloc | apply Kd.R_drewN | apply Kd.R_drew)); exact HO339.out⟩, ⟨by (with_reducible repeat (first | apply Kd.R_alloc | apply Kd.R_drewN | apply Kd.R_drew)); exact HO344.out⟩, ⟨by (with_reducible repeat (first | refine blk_drewN ?_ _ | refine blk_drew ?_ | refine blk_alloc ?_ _)); exact BK330.out⟩, ⟨by (with_reducible repeat (first | refine blk_drewN ?_ _ | refine blk_drew ?_ | refine blk_alloc ?_ _)); exact BK331.out⟩, ⟨by (with_reducible repeat (first | refine blk_drewN ?_ _ | refine blk_drew ?_ | refine blk_alloc ?_ _)); exact BK336.out⟩, ⟨by (with_reducible repeat (first | refine blk_drewN ?_ _ | refine blk_drew ?_ | refine blk_alloc ?_ _)); exact BK341.out⟩, ⟨by (with_reducible repeat (first | refine blk_drewN ?_ _ | refine blk_drew ?_ | refine blk_alloc ?_ _)); exact BK346.out⟩, ⟨by repeat (first | (with_reducible first | exact HB.out | apply below_alloc | apply pw_below_drewN | apply below_drew1 | refine below_set ?_ GE330.out | refine below_set ?_ GE331.out | refine below_set ?_ GE336.out | refine below_set ?_ GE341.out | refine below_set ?_ GE346.out) | exact HB.out)⟩⟩
                    · rw [if_neg c64] at H
                      have c64b0 : ((t366.length : Int) == (t372.length : Int)) = false := beq_eq_false_iff_ne.mpr c64
                      have c64b1 : ((t366.length : Int) != (t372.length : Int)) = true := bne_iff_ne.mpr c64
                      have c64b2 : (t366.length == t372.length) = false := by first | simpa using c64 | (simp at c64 ⊢; omega)
                      have H' := Aside0.mk H; clear H
                      refine pure_ (i := 45) (N := some 86) (v := ?_) (a' := ?_) (tfs true [46, 9]).toArray rfl rfl (any_of HT_.out (by kernel_rfl)) (fun _ _ _ h => h) (Or.inl ⟨by rfl, ?_⟩) ?_ ?_
                      rotate_left
                      · intro w'
                        go_simp
                        with_reducible rfl
                      rotate_left
                      · simp only [Act.put, List.setIfInBounds_toArray, List.set_cons_zero, List.set_cons_succ, i64_w, i32_w]
                        rfl
                      refine pure_ (i := 46) (N := some 87) (v := ?_) (a' := ?_) (tfs true [47, 8]).toArray rfl rfl (any_of HT_.out (by kernel_rfl)) (fun _ _ _ h => h) (Or.inl ⟨by rfl, ?_⟩) ?_ ?_
                      rotate_left
                      · intro w'
                        go_simp
                        with_reducible rfl
                      rotate_left
                      · simp only [Act.put, List.setIfInBounds_toArray, List.set_cons_zero, List.set_cons_succ, i64_w, i32_w]
                        rfl
                      refine pure_ (i := 47) (N := some 88) (v := undef) (a' := ?_) (tfs true [48, 7]).toArray rfl rfl (any_of HT_.out (by kernel_rfl)) (fun _ _ _ h => h) (Or.inr ⟨by rfl, rfl⟩) ?_ ?_
                      rotate_left
                      · simp only [Act.put, List.setIfInBounds_toArray, List.set_cons_zero, List.set_cons_succ, i64_w, i32_w]
                        rfl
                      refine pure_ (i := 48) (N := some 89) (v := undef) (a' := ?_) (tfs true [49, 6]).toArray rfl rfl (any_of HT_.out (by kernel_rfl)) (fun _ _ _ h => h) (Or.inr ⟨by rfl, rfl⟩) ?_ ?_
                      rotate_left
                      · simp only [Act.put, List.setIfInBounds_toArray, List.set_cons_zero, List.set_cons_succ, i64_w, i32_w]
                        rfl
                      refine pure_ (i := 49) (N := some 90) (v := undef) (a' := ?_) (tfs true [50, 5]).toArray rfl rfl (any_of HT_.out (by kernel_rfl)) (fun _ _ _ h => h) (Or.inr ⟨by rfl, rfl⟩) ?_ ?_
                      rotate_left
                      · simp only [Act.put, List.setIfInBounds_toArray, List.set_cons_zero, List.set_cons_succ, i64_w, i32_w]
                        rfl
                      refine pure_ (i := 50) (N := some 91) (v := undef) (a' := ?_) (tfs true [51, 4]).toArray rfl rfl (any_of HT_.out (by kernel_rfl)) (fun _ _ _ h => h) (Or.inr ⟨by rfl, rfl⟩) ?_ ?_
                      rotate_left
                      · simp only [Act.put, List.setIfInBounds_toArray, List.set_cons_zero, List.set_cons_succ, i64_w, i32_w]
                        rfl
                      refine pure_ (i := 51) (N := some 92) (v := undef) (a' := ?_) (tfs true [52, 3]).toArray rfl rfl (any_of HT_.out (by kernel_rfl)) (fun _ _ _ h => h) (Or.inr ⟨by rfl, rfl⟩) ?_ ?_
                      rotate_left
                      · simp only [Act.put, List.setIfInBounds_toArray, List.set_cons_zero, List.set_cons_succ, i64_w, i32_w]
                        rfl
                      refine pure_ (i := 52) (N := some 93) (v := ?_) (a' := ?_) (tfs true [53, 2]).toArray rfl rfl (any_of HT_.out (by kernel_rfl)) (fun _ _ _ h => h) (Or.inl ⟨by rfl, ?_⟩) ?_ ?_
                      rotate_left
                      · intro w'
                        go_simp
                        with_reducible rfl
                      rotate_left
                      · simp only [Act.put, List.setIfInBounds_toArray, List.set_cons_zero, List.set_cons_succ, i64_w, i32_w]
                        rfl
                      refine pure_ (i := 53) (N := some 94) (v := ?_) (a' := ?_) (tfs true [54, 1]).toArray rfl rfl (any_of HT_.out (by kernel_rfl)) (fun _ _ _ h => h) (Or.inl ⟨by rfl, ?_⟩) ?_ ?_
                      rotate_left
                      · intro w'
                        go_simp
                        with_reducible rfl
                      rotate_left
                      · simp only [Act.put, List.setIfInBounds_toArray, List.set_cons_zero, List.set_cons_succ, i64_w, i32_w]
                        rfl
                      refine pure_ (i := 54) (N := some 95) (v := ?_) (a' := ?_) (tfs true [55]).toArray rfl rfl (any_of HT_.out (by kernel_rfl)) (fun _ _ _ h => h) (Or.inl ⟨by rfl, ?_⟩) ?_ ?_
                      rotate_left
                      · intro w'
                        go_simp
                        with_reducible rfl
                      rotate_left
                      · simp only [Act.put, List.setIfInBounds_toArray, List.set_cons_zero, List.set_cons_succ, i64_w, i32_w]
                        rfl
                      refine done_ (done_of HT_.out (by kernel_rfl)) ?_
                      try go_wp2
                      go_meet
                      case rel => exact ⟨_, ((t362 != false)), (by first | rfl | (simp; done) | (simp [*]; done)), H', ⟨by first | omega | exact Nat.le_refl _⟩, ⟨by (with_reducible repeat (first | apply Kd.R_alloc | apply Kd.R_drewN | apply Kd.R_drew)); exact HO326.out⟩, ⟨by (with_reducible repeat (first | apply Kd.R_alloc | apply Kd.R_drewN | apply Kd.R_drew)); exact HO329.out⟩, ⟨by (with_reducible repeat (first | apply Kd.R_alloc | apply Kd.R_drewN | apply Kd.R_drew)); exact HO334.out⟩, ⟨by (with_reducible repeat (first | apply Kd.R_alloc | apply Kd.R_drewN | apply Kd.R_drew)); exact HO339.out⟩, ⟨by (with_reducible repeat (first | apply Kd.R_alloc | apply Kd.R_drewN | apply Kd.R_drew)); exact HO344.out⟩, ⟨by (with_reducible repeat (first | refine blk_drewN ?_ _ | refine blk_drew ?_ | refine blk_alloc ?_ _)); exact BK330.out⟩, ⟨by (with_reducible repeat (first | refine blk_drewN ?_ _ | refine blk_drew ?_ | refine blk_alloc ?_ _)); exact BK331.out⟩, ⟨by (with_reducible repeat (first | refine blk_drewN ?_ _ | refine blk_drew ?_ | refine blk_alloc ?_ _)); exact BK336.out⟩, ⟨by (with_reducible repeat (first | refine blk_drewN ?_ _ | refine blk_drew ?_ | refine blk_alloc ?_ _)); exact BK341.out⟩, ⟨by (with_reducible repeat (first | refine blk_drewN ?_ _ | refine blk_drew ?_ | refine blk_alloc ?_ _)); exact BK346.out⟩, ⟨by repeat (first | (with_reducible first | exact HB.out | apply below_alloc | apply pw_below_drewN | apply below_drew1 | refine below_set ?_ GE330.out | refine below_set ?_ GE331.out | refine below_set ?_ GE336.out | refine below_set ?_ GE341.out | refine below_set ?_ GE346.out) | exact HB.out)⟩⟩
                  · replace c58 := Bool.eq_false_iff.mpr c58
                    subst c58
                    have H1 : (sleuthlaw21_HistogramMerges.j0 k true t324 t327) = some r := by rw [if_neg (show ¬ (false = true) by decide)] at H; exact H
                    clear H; have H := H1; clear H1
                    exact absurd (H.trans (congrArg some hr_)) (by cases k <;> simp [sleuthlaw21_HistogramMerges.j0])
                · replace c56 := Bool.eq_false_iff.mpr c56
                  subst c56
                  have H1 : (sleuthlaw21_HistogramMerges.j0 k true t324 t327) = some r := by rw [if_neg (show ¬ (false = true) by decide)] at H; exact H
                  clear H; have H := H1; clear H1
                  exact absurd (H.trans (congrArg some hr_)) (by cases k <;> simp [sleuthlaw21_HistogramMerges.j0])
              · replace c54 := Bool.eq_false_iff.mpr c54
                subst c54
                have H1 : (sleuthlaw21_HistogramMerges.j0 k true t324 t327) = some r := by rw [if_neg (show ¬ (false = true) by decide)] at H; exact H
                clear H; have H := H1; clear H1
                exact absurd (H.trans (congrArg some hr_)) (by cases k <;> simp [sleuthlaw21_HistogramMerges.j0])
            · rw [if_neg c51] at H
              exact absurd H (by simp)
          · rw [if_neg c48] at H
            have c48b0 : (t345 == 0) = false := beq_eq_false_iff_ne.mpr c48
            have c48b1 : (t345 != 0) = true := bne_iff_ne.mpr c48
            exact absurd (H.trans (congrArg some hr_)) (by cases k <;> simp [sleuthlaw21_HistogramMerges.j0])
        · rw [if_neg c47] at H
          have c47b0 : (t340 == 0) = false := beq_eq_false_iff_ne.mpr c47
          have c47b1 : (t340 != 0) = true := bne_iff_ne.mpr c47
          exact absurd (H.trans (congrArg some hr_)) (by cases k <;> simp [sleuthlaw21_HistogramMerges.j0])
      · rw [if_neg c46] at H
        have c46b0 : (t335 == 0) = false := beq_eq_false_iff_ne.mpr c46
        have c46b1 : (t335 != 0) = true := bne_iff_ne.mpr c46
        (first | rw [c46b0] | (simp only [i64_w, i32_w]; rw [c46b0]) | skip)
        exact absurd (H.trans (congrArg some hr_)) (by cases k <;> simp [sleuthlaw21_HistogramMerges.j0])
    case rest =>
      clear HC10; (try clear c1); (try clear c2); (try clear p2); (try clear c3); (try clear c4); (try clear c5); (try clear c19); (try clear c29); (try clear c35); (try clear c46); (try clear c46b0); (try clear c46b1); (try clear c47); (try clear c47b0); (try clear c47b1); (try clear c48); (try clear c48b0); (try clear c48b1); (try clear c51); (try clear c54); (try clear c56); (try clear c58); obtain ⟨kq, x95_9, rfl, HA, HJ9, HO_331000, HO_332000, HO_337000, HO_342000, HO_347000, BK330, BK331, BK336, BK341, BK346, HB⟩ := hcut
      cases kq with
      | zero => exact absurd HA.out (by simp [sleuthlaw21_HistogramMerges.j0])
      | succ kj9 =>
        have H := HA.out; clear HA
        simp only [sleuthlaw21_HistogramMerges.j0] at H
        by_cases c115 : x95_9 = true
        · subst c115
          have H1 : (some false) = some r := by rw [if_pos rfl] at H; exact H
          clear H; have H := H1; clear H1
          exact absurd (H.trans (congrArg some hr_)) (by decide)
        · replace c115 := Bool.eq_false_iff.mpr c115
          subst c115
          have H1 : ((histogram_Subtract.f t324 t327).bind fun bt382 => (sleuthlaw21_HistogramMerges.l0 kj9 bt382.2 false 0 t324 t327 bt382.1)) = some r := by rw [if_neg (show ¬ (false = true) by decide)] at H; exact H
          clear H; have H := H1; clear H1; replace H := Option.bind_eq_some_iff.mp H; obtain ⟨⟨t382, t385⟩, A1160, H⟩ := H; (try dsimp only at H); have A116 := Aside0.mk A1160; clear A1160; have H' := Aside0.mk H; clear H; have hnb117 := NB330_331.out; have hnc117 := NB331_330.out; have hnb118 := NB330_336.out; have hnc118 := NB336_330.out; have hnb119 := NB330_341.out; have hnc119 := NB341_330.out; have hnb120 := NB330_346.out; have hnc120 := NB346_330.out
          have hcz121_0 : wc.cell? ⟨gb330, 0, none⟩ = some (.slice Ao16 t324.length co16) := (blk_cell BK330.out 0).trans rfl
          have hfz121_0 := blk_frozen BK330.out 0; have hnb122 := NB331_336.out; have hnc122 := NB336_331.out; have hnb123 := NB331_341.out; have hnc123 := NB341_331.out; have hnb124 := NB331_346.out; have hnc124 := NB346_331.out
          have hcz125_0 : wc.cell? ⟨gb331, 0, none⟩ = some (.slice Ao19 t327.length co19) := (blk_cell BK331.out 0).trans rfl
          have hfz125_0 := blk_frozen BK331.out 0
          go_wp2_with (first | ((with_reducible refine gate_callee (f := 34) rfl ?_); refine goesL_ (some 99) rfl rfl Try.func34 (by kernel_rfl) rfl #[.agg #[.slice Ao16 t324.length co16], .agg #[.slice Ao19 t327.length co19]] rfl (by (try simp only [List.map_toArray, List.map_cons, List.map_nil]); first | done | rfl | (simp only [List.length_drop, List.length_take]; rfl)) ?_; (with_reducible refine (histogram_Subtract.calls _ _ t324 _ _ t327 t382 t385 _ ?side1 ?side2 ?side3 ?side4 A116.out).mono ?_); (case side1 => repeat (first | exact (Kd.R_reads' HO_331000.out).2.2 | (with_reducible refine Kd.C_alloc ?_ _) | (with_reducible refine Kd.C_drewN ?_ _) | (with_reducible refine Kd.C_drew ?_))); (case side2 => exact (Kd.R_reads' HO_331000.out).2.1); (case side3 => repeat (first | exact (Kd.R_reads' HO_332000.out).2.2 | (with_reducible refine Kd.C_alloc ?_ _) | (with_reducible refine Kd.C_drewN ?_ _) | (with_reducible refine Kd.C_drew ?_))); (case side4 => exact (Kd.R_reads' HO_332000.out).2.1); rintro e w126 ⟨v383, rfl, ho0, hb⟩; refine ⟨_, rfl, ?_⟩; have n0_ := Aside0.mk (Kd.R_elder' (by (with_reducible repeat (first | apply Kd.R_alloc | apply Kd.R_drewN | apply Kd.R_drew)); exact HO_331000.out) (Kd.R_base ho0) hb); have n1_ := Aside0.mk (Kd.R_elder' (by (with_reducible repeat (first | apply Kd.R_alloc | apply Kd.R_drewN | apply Kd.R_drew)); exact HO_332000.out) (Kd.R_base ho0) hb); have n2_ := Aside0.mk (Kd.R_elder' (by (with_reducible repeat (first | apply Kd.R_alloc | apply Kd.R_drewN | apply Kd.R_drew)); exact HO_337000.out) (Kd.R_base ho0) hb); have n3_ := Aside0.mk (Kd.R_elder' (by (with_reducible repeat (first | apply Kd.R_alloc | apply Kd.R_drewN | apply Kd.R_drew)); exact HO_342000.out) (Kd.R_base ho0) hb); have n4_ := Aside0.mk (Kd.R_elder' (by (with_reducible repeat (first | apply Kd.R_alloc | apply Kd.R_drewN | apply Kd.R_drew)); exact HO_347000.out) (Kd.R_base ho0) hb); have n5_ := Aside0.mk (Kd.R_lower (Kd.R_new' (Kd.R_new' (Kd.R_new' (Kd.R_new' (Kd.R_new' ho0 (Kd.R_lt (by (with_reducible repeat (first | apply Kd.R_alloc | apply Kd.R_drewN | apply Kd.R_drew)); exact HO_331000.out))) (Kd.R_lt (by (with_reducible repeat (first | apply Kd.R_alloc | apply Kd.R_drewN | apply Kd.R_drew)); exact HO_332000.out))) (Kd.R_lt (by (with_reducible repeat (first | apply Kd.R_alloc | apply Kd.R_drewN | apply Kd.R_drew)); exact HO_337000.out))) (Kd.R_lt (by (with_reducible repeat (first | apply Kd.R_alloc | apply Kd.R_drewN | apply Kd.R_drew)); exact HO_342000.out))) (Kd.R_lt (by (with_reducible repeat (first | apply Kd.R_alloc | apply Kd.R_drewN | apply Kd.R_drew)); exact HO_347000.out))) (below_size (by repeat (first | (with_reducible first | exact HB.out | apply below_alloc | apply pw_below_drewN | apply below_drew1 | refine below_set ?_ GE330.out | refine below_set ?_ GE331.out | refine below_set ?_ GE336.out | refine below_set ?_ GE341.out | refine below_set ?_ GE346.out) | exact HB.out)))); have n6_ := Aside0.mk (blk_below (g := gb330) (o := .cells #[.slice Ao16 t324.length co16] 33 (0, 0)) (by (with_reducible repeat (first | refine blk_drewN ?_ _ | refine blk_drew ?_ | refine blk_alloc ?_ _)); exact BK330.out) hb); have n7_ := Aside0.mk (blk_below (g := gb331) (o := .cells #[.slice Ao19 t327.length co19] 33 (0, 0)) (by (with_reducible repeat (first | refine blk_drewN ?_ _ | refine blk_drew ?_ | refine blk_alloc ?_ _)); exact BK331.out) hb); have n8_ := Aside0.mk (blk_below (g := gb336) (o := .cells #[.slice Ao23 t332.length co23] 33 (0, 0)) (by (with_reducible repeat (first | refine blk_drewN ?_ _ | refine blk_drew ?_ | refine blk_alloc ?_ _)); exact BK336.out) hb); have n9_ := Aside0.mk (blk_below (g := gb341) (o := .cells #[.slice Ao31 t337.length co31] 33 (0, 0)) (by (with_reducible repeat (first | refine blk_drewN ?_ _ | refine blk_drew ?_ | refine blk_alloc ?_ _)); exact BK341.out) hb); have n10_ := Aside0.mk (blk_below (g := gb346) (o := .cells #[.slice Ao40 t342.length co40] 33 (0, 0)) (by (with_reducible repeat (first | refine blk_drewN ?_ _ | refine blk_drew ?_ | refine blk_alloc ?_ _)); exact BK346.out) hb); have n11_ := Aside0.mk (below_step (by repeat (first | (with_reducible first | exact HB.out | apply below_alloc | apply pw_below_drewN | apply below_drew1 | refine below_set ?_ GE330.out | refine below_set ?_ GE331.out | refine below_set ?_ GE336.out | refine below_set ?_ GE341.out | refine below_set ?_ GE346.out) | exact HB.out)) hb); clear HO_331000; clear HO_332000; clear HO_337000; clear HO_342000; clear HO_347000; clear BK330; clear BK331; clear BK336; clear BK341; clear BK346; clear HB; have HO_331000 := n0_; have HO_332000 := n1_; have HO_337000 := n2_; have HO_342000 := n3_; have HO_347000 := n4_; have HO384 := n5_; have BK330 := n6_; have BK331 := n7_; have BK336 := n8_; have BK341 := n9_; have BK346 := n10_; have HB := n11_; clear n0_ n1_ n2_ n3_ n4_ n5_ n6_ n7_ n8_ n9_ n10_ n11_; (try clear hb); (try clear hb2); (try clear hk); (try clear hi); (try clear ho0)) | ((with_reducible refine gate_dst (N := 13) rfl ?_); (try (refine gate_guard (by rfl) ?_; dsimp only)); refine box_event ?hg (N := 13) ?hd (cs := #[.slice none 0 0]) (t := 33) ?hr ?_; (case hd => rfl); (case hg => rfl); (case hr => first | (go_simp; done) | (go_simp; rfl)); intro gb386 hg w127 hbox hb; have n0_ := Aside0.mk (Kd.R_below (by (with_reducible repeat (first | apply Kd.R_alloc | apply Kd.R_drewN | apply Kd.R_drew)); exact HO_331000.out) hb); have n1_ := Aside0.mk (Kd.R_below (by (with_reducible repeat (first | apply Kd.R_alloc | apply Kd.R_drewN | apply Kd.R_drew)); exact HO_332000.out) hb); have n2_ := Aside0.mk (Kd.R_below (by (with_reducible repeat (first | apply Kd.R_alloc | apply Kd.R_drewN | apply Kd.R_drew)); exact HO_337000.out) hb); have n3_ := Aside0.mk (Kd.R_below (by (with_reducible repeat (first | apply Kd.R_alloc | apply Kd.R_drewN | apply Kd.R_drew)); exact HO_342000.out) hb); have n4_ := Aside0.mk (Kd.R_below (by (with_reducible repeat (first | apply Kd.R_alloc | apply Kd.R_drewN | apply Kd.R_drew)); exact HO_347000.out) hb); have n5_ := Aside0.mk (Kd.R_below (by (with_reducible repeat (first | apply Kd.R_alloc | apply Kd.R_drewN | apply Kd.R_drew)); exact HO384.out) hb); have n6_ := Aside0.mk (blk_below (g := gb330) (o := .cells #[.slice Ao16 t324.length co16] 33 (0, 0)) (by (with_reducible repeat (first | refine blk_drewN ?_ _ | refine blk_drew ?_ | refine blk_alloc ?_ _)); exact BK330.out) hb); have n7_ := Aside0.mk (blk_below (g := gb331) (o := .cells #[.slice Ao19 t327.length co19] 33 (0, 0)) (by (with_reducible repeat (first | refine blk_drewN ?_ _ | refine blk_drew ?_ | refine blk_alloc ?_ _)); exact BK331.out) hb); have n8_ := Aside0.mk (blk_below (g := gb336) (o := .cells #[.slice Ao23 t332.length co23] 33 (0, 0)) (by (with_reducible repeat (first | refine blk_drewN ?_ _ | refine blk_drew ?_ | refine blk_alloc ?_ _)); exact BK336.out) hb); have n9_ := Aside0.mk (blk_below (g := gb341) (o := .cells #[.slice Ao31 t337.length co31] 33 (0, 0)) (by (with_reducible repeat (first | refine blk_drewN ?_ _ | refine blk_drew ?_ | refine blk_alloc ?_ _)); exact BK341.out) hb); have n10_ := Aside0.mk (blk_below (g := gb346) (o := .cells #[.slice Ao40 t342.length co40] 33 (0, 0)) (by (with_reducible repeat (first | refine blk_drewN ?_ _ | refine blk_drew ?_ | refine blk_alloc ?_ _)); exact BK346.out) hb); have n11_ := Aside0.mk (below_step (by repeat (first | (with_reducible first | exact HB.out | apply below_alloc | apply pw_below_drewN | apply below_drew1 | refine below_set ?_ GE330.out | refine below_set ?_ GE331.out | refine below_set ?_ GE336.out | refine below_set ?_ GE341.out | refine below_set ?_ GE346.out) | exact HB.out)) hb); have n12_ := Aside0.mk (hbox); have n13_ := Aside0.mk ((by rw [hg]; exact (below_size (by repeat (first | (with_reducible first | exact HB.out | apply below_alloc | apply pw_below_drewN | apply below_drew1 | refine below_set ?_ GE330.out | refine below_set ?_ GE331.out | refine below_set ?_ GE336.out | refine below_set ?_ GE341.out | refine below_set ?_ GE346.out) | exact HB.out))) : w.heap.size ≤ gb386)); have n14_ := Aside0.mk ((by rw [hg]; exact (below_size (by repeat (first | (with_reducible first | exact HB.out | apply below_alloc | apply pw_below_drewN | apply below_drew1 | refine below_set ?_ GE330.out | refine below_set ?_ GE331.out | refine below_set ?_ GE336.out | refine below_set ?_ GE341.out | refine below_set ?_ GE346.out) | exact HB.out))) : w.heap.size ≤ gb386)); have n15_ := Aside0.mk ((by rw [hg]; exact Nat.ne_of_lt (blk_lt (g := gb330) (o := .cells #[.slice Ao16 t324.length co16] 33 (0, 0)) (by (with_reducible repeat (first | refine blk_drewN ?_ _ | refine blk_drew ?_ | refine blk_alloc ?_ _)); exact BK330.out)) : gb330 ≠ gb386)); have n16_ := Aside0.mk ((by rw [hg]; exact Nat.ne_of_gt (blk_lt (g := gb330) (o := .cells #[.slice Ao16 t324.length co16] 33 (0, 0)) (by (with_reducible repeat (first | refine blk_drewN ?_ _ | refine blk_drew ?_ | refine blk_alloc ?_ _)); exact BK330.out)) : gb386 ≠ gb330)); have n17_ := Aside0.mk ((by rw [hg]; exact Nat.ne_of_lt (blk_lt (g := gb331) (o := .cells #[.slice Ao19 t327.length co19] 33 (0, 0)) (by (with_reducible repeat (first | refine blk_drewN ?_ _ | refine blk_drew ?_ | refine blk_alloc ?_ _)); exact BK331.out)) : gb331 ≠ gb386)); have n18_ := Aside0.mk ((by rw [hg]; exact Nat.ne_of_gt (blk_lt (g := gb331) (o := .cells #[.slice Ao19 t327.length co19] 33 (0, 0)) (by (with_reducible repeat (first | refine blk_drewN ?_ _ | refine blk_drew ?_ | refine blk_alloc ?_ _)); exact BK331.out)) : gb386 ≠ gb331)); have n19_ := Aside0.mk ((by rw [hg]; exact Nat.ne_of_lt (blk_lt (g := gb336) (o := .cells #[.slice Ao23 t332.length co23] 33 (0, 0)) (by (with_reducible repeat (first | refine blk_drewN ?_ _ | refine blk_drew ?_ | refine blk_alloc ?_ _)); exact BK336.out)) : gb336 ≠ gb386)); have n20_ := Aside0.mk ((by rw [hg]; exact Nat.ne_of_gt (blk_lt (g := gb336) (o := .cells #[.slice Ao23 t332.length co23] 33 (0, 0)) (by (with_reducible repeat (first | refine blk_drewN ?_ _ | refine blk_drew ?_ | refine blk_alloc ?_ _)); exact BK336.out)) : gb386 ≠ gb336)); have n21_ := Aside0.mk ((by rw [hg]; exact Nat.ne_of_lt (blk_lt (g := gb341) (o := .cells #[.slice Ao31 t337.length co31] 33 (0, 0)) (by (with_reducible repeat (first | refine blk_drewN ?_ _ | refine blk_drew ?_ | refine blk_alloc ?_ _)); exact BK341.out)) : gb341 ≠ gb386)); have n22_ := Aside0.mk ((by rw [hg]; exact Nat.ne_of_gt (blk_lt (g := gb341) (o := .cells #[.slice Ao31 t337.length co31] 33 (0, 0)) (by (with_reducible repeat (first | refine blk_drewN ?_ _ | refine blk_drew ?_ | refine blk_alloc ?_ _)); exact BK341.out)) : gb386 ≠ gb341)); have n23_ := Aside0.mk ((by rw [hg]; exact Nat.ne_of_lt (blk_lt (g := gb346) (o := .cells #[.slice Ao40 t342.length co40] 33 (0, 0)) (by (with_reducible repeat (first | refine blk_drewN ?_ _ | refine blk_drew ?_ | refine blk_alloc ?_ _)); exact BK346.out)) : gb346 ≠ gb386)); have n24_ := Aside0.mk ((by rw [hg]; exact Nat.ne_of_gt (blk_lt (g := gb346) (o := .cells #[.slice Ao40 t342.length co40] 33 (0, 0)) (by (with_reducible repeat (first | refine blk_drewN ?_ _ | refine blk_drew ?_ | refine blk_alloc ?_ _)); exact BK346.out)) : gb386 ≠ gb346)); clear HO_331000; clear HO_332000; clear HO_337000; clear HO_342000; clear HO_347000; clear HO384; clear BK330; clear BK331; clear BK336; clear BK341; clear BK346; clear HB; have HO_331000 := n0_; have HO_332000 := n1_; have HO_337000 := n2_; have HO_342000 := n3_; have HO_347000 := n4_; have HO384 := n5_; have BK330 := n6_; have BK331 := n7_; have BK336 := n8_; have BK341 := n9_; have BK346 := n10_; have HB := n11_; have BK386 := n12_; have GW386 := n13_; have GE386 := n14_; have NB330_386 := n15_; have NB386_330 := n16_; have NB331_386 := n17_; have NB386_331 := n18_; have NB336_386 := n19_; have NB386_336 := n20_; have NB341_386 := n21_; have NB386_341 := n22_; have NB346_386 := n23_; have NB386_346 := n24_; clear n0_ n1_ n2_ n3_ n4_ n5_ n6_ n7_ n8_ n9_ n10_ n11_ n12_ n13_ n14_ n15_ n16_ n17_ n18_ n19_ n20_ n21_ n22_ n23_ n24_; clear hb hbox hg; obtain ⟨Ao128, co128, eo128⟩ := Kd.R_slice HO384.out; subst eo128; have hnb129 := NB386_330.out; have hnc129 := NB330_386.out; have hnb130 := NB386_331.out; have hnc130 := NB331_386.out; have hnb131 := NB386_336.out; have hnc131 := NB336_386.out; have hnb132 := NB386_341.out; have hnc132 := NB341_386.out; have hnb133 := NB386_346.out; have hnc133 := NB346_386.out; have hcz134_0 : w127.cell? ⟨gb386, 0, none⟩ = some (.slice none 0 0) := (blk_cell BK386.out 0).trans rfl; have hfz134_0 := blk_frozen BK386.out 0))
          go_loopg [15, 16] kj9 (fun kq v15 v16 w' => ∃ (x15_2 : Bool) (x16_2 : Int), v15 = .bool x15_2 ∧ v16 = .int .i64 x16_2 ∧ Aside0 (sleuthlaw21_HistogramMerges.l0 kq t385 x15_2 x16_2 t324 t327 t382 = some r) ∧ Aside0 (kq ≤ kj9) ∧ Aside0 (Kd.R k67 67 w' w.heap.size (fun k_ => some k_ ≠ ((.slice Ao19 t327.length co19) : Value).ownBlock ∧ some k_ ≠ ((.slice Ao23 t332.length co23) : Value).ownBlock ∧ some k_ ≠ ((.slice Ao31 t337.length co31) : Value).ownBlock ∧ some k_ ≠ ((.slice Ao40 t342.length co40) : Value).ownBlock ∧ some k_ ≠ ((.slice Ao128 t382.length co128) : Value).ownBlock) (.slice Ao16 t324.length co16) t324) ∧ Aside0 (Kd.R k67 67 w' w.heap.size (fun k_ => some k_ ≠ ((.slice Ao16 t324.length co16) : Value).ownBlock ∧ some k_ ≠ ((.slice Ao23 t332.length co23) : Value).ownBlock ∧ some k_ ≠ ((.slice Ao31 t337.length co31) : Value).ownBlock ∧ some k_ ≠ ((.slice Ao40 t342.length co40) : Value).ownBlock ∧ some k_ ≠ ((.slice Ao128 t382.length co128) : Value).ownBlock) (.slice Ao19 t327.length co19) t327) ∧ Aside0 (Kd.R k67 67 w' w.heap.size (fun k_ => some k_ ≠ ((.slice Ao16 t324.length co16) : Value).ownBlock ∧ some k_ ≠ ((.slice Ao19 t327.length co19) : Value).ownBlock ∧ some k_ ≠ ((.slice Ao31 t337.length co31) : Value).ownBlock ∧ some k_ ≠ ((.slice Ao40 t342.length co40) : Value).ownBlock ∧ some k_ ≠ ((.slice Ao128 t382.length co128) : Value).ownBlock) (.slice Ao23 t332.length co23) t332) ∧ Aside0 (Kd.R k67 67 w' w.heap.size (fun k_ => some k_ ≠ ((.slice Ao16 t324.length co16) : Value).ownBlock ∧ some k_ ≠ ((.slice Ao19 t327.length co19) : Value).ownBlock ∧ some k_ ≠ ((.slice Ao23 t332.length co23) : Value).ownBlock ∧ some k_ ≠ ((.slice Ao40 t342.length co40) : Value).ownBlock ∧ some k_ ≠ ((.slice Ao128 t382.length co128) : Value).ownBlock) (.slice Ao31 t337.length co31) t337) ∧ Aside0 (Kd.R k67 67 w' w.heap.size (fun k_ => some k_ ≠ ((.slice Ao16 t324.length co16) : Value).ownBlock ∧ some k_ ≠ ((.slice Ao19 t327.length co19) : Value).ownBlock ∧ some k_ ≠ ((.slice Ao23 t332.length co23) : Value).ownBlock ∧ some k_ ≠ ((.slice Ao31 t337.length co31) : Value).ownBlock ∧ some k_ ≠ ((.slice Ao128 t382.length co128) : Value).ownBlock) (.slice Ao40 t342.length co40) t342) ∧ Aside0 (Kd.R k67 67 w' w.heap.size (fun k_ => some k_ ≠ ((.slice Ao16 t324.length co16) : Value).ownBlock ∧ some k_ ≠ ((.slice Ao19 t327.length co19) : Value).ownBlock ∧ some k_ ≠ ((.slice Ao23 t332.length co23) : Value).ownBlock ∧ some k_ ≠ ((.slice Ao31 t337.length co31) : Value).ownBlock ∧ some k_ ≠ ((.slice Ao40 t342.length co40) : Value).ownBlock) (.slice Ao128 t382.length co128) t382) ∧ Aside0 (w'.heap[gb330]? = some (.cells #[(.slice Ao16 t324.length co16)] 33 (0, 0))) ∧ Aside0 (w'.heap[gb331]? = some (.cells #[(.slice Ao19 t327.length co19)] 33 (0, 0))) ∧ Aside0 (w'.heap[gb336]? = some (.cells #[(.slice Ao23 t332.length co23)] 33 (0, 0))) ∧ Aside0 (w'.heap[gb341]? = some (.cells #[(.slice Ao31 t337.length co31)] 33 (0, 0))) ∧ Aside0 (w'.heap[gb346]? = some (.cells #[(.slice Ao40 t342.length co40)] 33 (0, 0))) ∧ Aside0 (w'.heap[gb386]? = some (.cells #[(.slice Ao128 t382.length co128)] 33 (0, 0))) ∧ Aside0 (Below w.heap.size w w'))
          case atStart => exact ⟨(false), (0), (by first | rfl | (simp; done) | (simp [*]; done)), (by first | rfl | (simp; done) | (simp [*]; done)), H', ⟨Nat.le_refl _⟩, ⟨by (with_reducible repeat (first | apply Kd.R_alloc | apply Kd.R_drewN | apply Kd.R_drew)); exact Kd.R_mono (Kd.R_far (p := ⟨gb386, 0, none⟩) (Kd.R_types HO_331000.out BK386.out (by decide)) (fun _ hk => hk.2) (.slice Ao128 t382.length co128)) (fun _ hk => ⟨hk.1.1.1, ⟨hk.1.1.2.1, ⟨hk.1.1.2.2.1, ⟨hk.1.1.2.2.2, hk.1.2⟩⟩⟩⟩)⟩, ⟨by (with_reducible repeat (first | apply Kd.R_alloc | apply Kd.R_drewN | apply Kd.R_drew)); exact Kd.R_mono (Kd.R_far (p := ⟨gb386, 0, none⟩) (Kd.R_types HO_332000.out BK386.out (by decide)) (fun _ hk => hk.2) (.slice Ao128 t382.length co128)) (fun _ hk => ⟨hk.1.1.1, ⟨hk.1.1.2.1, ⟨hk.1.1.2.2.1, ⟨hk.1.1.2.2.2, hk.1.2⟩⟩⟩⟩)⟩, ⟨by (with_reducible repeat (first | apply Kd.R_alloc | apply Kd.R_drewN | apply Kd.R_drew)); exact Kd.R_mono (Kd.R_far (p := ⟨gb386, 0, none⟩) (Kd.R_types HO_337000.out BK386.out (by decide)) (fun _ hk => hk.2) (.slice Ao128 t382.length co128)) (fun _ hk => ⟨hk.1.1.1, ⟨hk.1.1.2.1, ⟨hk.1.1.2.2.1, ⟨hk.1.1.2.2.2, hk.1.2⟩⟩⟩⟩)⟩, ⟨by (with_reducible repeat (first | apply Kd.R_alloc | apply Kd.R_drewN | apply Kd.R_drew)); exact Kd.R_mono (Kd.R_far (p := ⟨gb386, 0, none⟩) (Kd.R_types HO_342000.out BK386.out (by decide)) (fun _ hk => hk.2) (.slice Ao128 t382.length co128)) (fun _ hk => ⟨hk.1.1.1, ⟨hk.1.1.2.1, ⟨hk.1.1.2.2.1, ⟨hk.1.1.2.2.2, hk.1.2⟩⟩⟩⟩)⟩, ⟨by (with_reducible repeat (first | apply Kd.R_alloc | apply Kd.R_drewN | apply Kd.R_drew)); exact Kd.R_mono (Kd.R_far (p := ⟨gb386, 0, none⟩) (Kd.R_types HO_347000.out BK386.out (by decide)) (fun _ hk => hk.2) (.slice Ao128 t382.length co128)) (fun _ hk => ⟨hk.1.1.1, ⟨hk.1.1.2.1, ⟨hk.1.1.2.2.1, ⟨hk.1.1.2.2.2, hk.1.2⟩⟩⟩⟩)⟩, ⟨by (with_reducible repeat (first | apply Kd.R_alloc | apply Kd.R_drewN | apply Kd.R_drew)); exact Kd.R_mono (Kd.R_far (p := ⟨gb386, 0, none⟩) (Kd.R_types HO384.out BK386.out (by decide)) (fun _ hk => hk.2) (.slice Ao128 t382.length co128)) (fun _ hk => ⟨hk.1.1.1.1.1.2, ⟨hk.1.1.1.1.2, ⟨hk.1.1.1.2, ⟨hk.1.1.2, hk.1.2⟩⟩⟩⟩)⟩, ⟨by (with_reducible repeat (first | refine blk_drewN ?_ _ | refine blk_drew ?_ | refine blk_alloc ?_ _)); refine blk_far ?_ NB330_386.out _; (with_reducible repeat (first | refine blk_drewN ?_ _ | refine blk_drew ?_ | refine blk_alloc ?_ _)); exact BK330.out⟩, ⟨by (with_reducible repeat (first | refine blk_drewN ?_ _ | refine blk_drew ?_ | refine blk_alloc ?_ _)); refine blk_far ?_ NB331_386.out _; (with_reducible repeat (first | refine blk_drewN ?_ _ | refine blk_drew ?_ | refine blk_alloc ?_ _)); exact BK331.out⟩, ⟨by (with_reducible repeat (first | refine blk_drewN ?_ _ | refine blk_drew ?_ | refine blk_alloc ?_ _)); refine blk_far ?_ NB336_386.out _; (with_reducible repeat (first | refine blk_drewN ?_ _ | refine blk_drew ?_ | refine blk_alloc ?_ _)); exact BK336.out⟩, ⟨by (with_reducible repeat (first | refine blk_drewN ?_ _ | refine blk_drew ?_ | refine blk_alloc ?_ _)); refine blk_far ?_ NB341_386.out _; (with_reducible repeat (first | refine blk_drewN ?_ _ | refine blk_drew ?_ | refine blk_alloc ?_ _)); exact BK341.out⟩, ⟨by (with_reducible repeat (first | refine blk_drewN ?_ _ | refine blk_drew ?_ | refine blk_alloc ?_ _)); refine blk_far ?_ NB346_386.out _; (with_reducible repeat (first | refine blk_drewN ?_ _ | refine blk_drew ?_ | refine blk_alloc ?_ _)); exact BK346.out⟩, ⟨by (with_reducible repeat (first | refine blk_drewN ?_ _ | refine blk_drew ?_ | refine blk_alloc ?_ _)); refine blk_put (cs := #[.slice none 0 0]) ?_ 0 _ rfl; (with_reducible repeat (first | refine blk_drewN ?_ _ | refine blk_drew ?_ | refine blk_alloc ?_ _)); exact BK386.out⟩, ⟨by repeat (first | (with_reducible first | exact HB.out | apply below_alloc | apply pw_below_drewN | apply below_drew1 | refine below_set ?_ GE330.out | refine below_set ?_ GE331.out | refine below_set ?_ GE336.out | refine below_set ?_ GE341.out | refine below_set ?_ GE346.out | refine below_set ?_ GE386.out) | exact HB.out)⟩⟩
          case round =>
            clear H'; (try clear c1); (try clear c2); (try clear p2); (try clear c3); (try clear c4); (try clear c5); (try clear c11); (try clear c12); (try clear c13); (try clear c19); (try clear c29); (try clear c34); (try clear c35); (try clear c46); (try clear c46b0); (try clear c46b1); (try clear c47); (try clear c47b0); (try clear c47b1); (try clear c48); (try clear c48b0); (try clear c48b1); (try clear c51); (try clear c54); (try clear c56); (try clear c58); (try clear c115); (try clear c117); (try clear c118); (try clear c119); (try clear c120); (try clear c122); (try clear c123); (try clear c124); (try clear c129); (try clear c130); (try clear c131); (try clear c132); (try clear c133); (try clear hcz121_0); (try clear hcz125_0); (try clear hcz134_0); (try clear hfz121_0); (try clear hfz125_0); (try clear hfz134_0); (try clear p2); obtain ⟨x15_2, x16_2, rfl, rfl, HA, HK2, HO_331000, HO_332000, HO_337000, HO_342000, HO_347000, HO_387000, BK330, BK331, BK336, BK341, BK346, BK386, HB⟩ := hrel
            cases gk with
            | zero => exact absurd HA.out (by simp [sleuthlaw21_HistogramMerges.l0])
            | succ k2 =>
              have H := HA.out; clear HA
              simp only [sleuthlaw21_HistogramMerges.l0] at H
              by_cases c135 : x16_2 < 305
              · rw [if_pos c135] at H
                have c135b0 : decide (x16_2 < 305) = true := decide_eq_true c135
                clear c135; have HC136 := Aside0.mk H; clear H
                go_upto_region 14 with (fail)
                go_cut [15] (fun v15 wc => ∃ (kq : Nat) (x15_135 : Bool), v15 = .bool x15_135 ∧ Aside0 (sleuthlaw21_HistogramMerges.j2 kq t385 x15_135 x16_2 t324 t327 t382 = some r) ∧ Aside0 (kq ≤ k2) ∧ Aside0 (Kd.R k67 67 wc w.heap.size (fun k_ => some k_ ≠ ((.slice Ao19 t327.length co19) : Value).ownBlock ∧ some k_ ≠ ((.slice Ao23 t332.length co23) : Value).ownBlock ∧ some k_ ≠ ((.slice Ao31 t337.length co31) : Value).ownBlock ∧ some k_ ≠ ((.slice Ao40 t342.length co40) : Value).ownBlock ∧ some k_ ≠ ((.slice Ao128 t382.length co128) : Value).ownBlock) (.slice Ao16 t324.length co16) t324) ∧ Aside0 (Kd.R k67 67 wc w.heap.size (fun k_ => some k_ ≠ ((.slice Ao16 t324.length co16) : Value).ownBlock ∧ some k_ ≠ ((.slice Ao23 t332.length co23) : Value).ownBlock ∧ some k_ ≠ ((.slice Ao31 t337.length co31) : Value).ownBlock ∧ some k_ ≠ ((.slice Ao40 t342.length co40) : Value).ownBlock ∧ some k_ ≠ ((.slice Ao128 t382.length co128) : Value).ownBlock) (.slice Ao19 t327.length co19) t327) ∧ Aside0 (Kd.R k67 67 wc w.heap.size (fun k_ => some k_ ≠ ((.slice Ao16 t324.length co16) : Value).ownBlock ∧ some k_ ≠ ((.slice Ao19 t327.length co19) : Value).ownBlock ∧ some k_ ≠ ((.slice Ao31 t337.length co31) : Value).ownBlock ∧ some k_ ≠ ((.slice Ao40 t342.length co40) : Value).ownBlock ∧ some k_ ≠ ((.slice Ao128 t382.length co128) : Value).ownBlock) (.slice Ao23 t332.length co23) t332) ∧ Aside0 (Kd.R k67 67 wc w.heap.size (fun k_ => some k_ ≠ ((.slice Ao16 t324.length co16) : Value).ownBlock ∧ some k_ ≠ ((.slice Ao19 t327.length co19) : Value).ownBlock ∧ some k_ ≠ ((.slice Ao23 t332.length co23) : Value).ownBlock ∧ some k_ ≠ ((.slice Ao40 t342.length co40) : Value).ownBlock ∧ some k_ ≠ ((.slice Ao128 t382.length co128) : Value).ownBlock) (.slice Ao31 t337.length co31) t337) ∧ Aside0 (Kd.R k67 67 wc w.heap.size (fun k_ => some k_ ≠ ((.slice Ao16 t324.length co16) : Value).ownBlock ∧ some k_ ≠ ((.slice Ao19 t327.length co19) : Value).ownBlock ∧ some k_ ≠ ((.slice Ao23 t332.length co23) : Value).ownBlock ∧ some k_ ≠ ((.slice Ao31 t337.length co31) : Value).ownBlock ∧ some k_ ≠ ((.slice Ao128 t382.length co128) : Value).ownBlock) (.slice Ao40 t342.length co40) t342) ∧ Aside0 (Kd.R k67 67 wc w.heap.size (fun k_ => some k_ ≠ ((.slice Ao16 t324.length co16) : Value).ownBlock ∧ some k_ ≠ ((.slice Ao19 t327.length co19) : Value).ownBlock ∧ some k_ ≠ ((.slice Ao23 t332.length co23) : Value).ownBlock ∧ some k_ ≠ ((.slice Ao31 t337.length co31) : Value).ownBlock ∧ some k_ ≠ ((.slice Ao40 t342.length co40) : Value).ownBlock) (.slice Ao128 t382.length co128) t382) ∧ Aside0 (wc.heap[gb330]? = some (.cells #[(.slice Ao16 t324.length co16)] 33 (0, 0))) ∧ Aside0 (wc.heap[gb331]? = some (.cells #[(.slice Ao19 t327.length co19)] 33 (0, 0))) ∧ Aside0 (wc.heap[gb336]? = some (.cells #[(.slice Ao23 t332.length co23)] 33 (0, 0))) ∧ Aside0 (wc.heap[gb341]? = some (.cells #[(.slice Ao31 t337.length co31)] 33 (0, 0))) ∧ Aside0 (wc.heap[gb346]? = some (.cells #[(.slice Ao40 t342.length co40)] 33 (0, 0))) ∧ Aside0 (wc.heap[gb386]? = some (.cells #[(.slice Ao128 t382.length co128)] 33 (0, 0))) ∧ Aside0 (Below w.heap.size w wc))
                case first =>
                  have H := HC136.out; clear HC136
                  by_cases c137 : x15_2 = true
                  · subst c137
                    (rw [if_pos rfl] at H)
                    have H' := Aside0.mk H; clear H
                    try go_wp2
                    have n0_ := Aside0.mk (Kd.R_drew HO_331000.out); have n1_ := Aside0.mk (Kd.R_drew HO_332000.out); have n2_ := Aside0.mk (Kd.R_drew HO_337000.out); have n3_ := Aside0.mk (Kd.R_drew HO_342000.out); have n4_ := Aside0.mk (Kd.R_drew HO_347000.out); have n5_ := Aside0.mk (Kd.R_drew HO_387000.out); have n6_ := Aside0.mk (blk_drew BK330.out); have n7_ := Aside0.mk (blk_drew BK331.out); have n8_ := Aside0.mk (blk_drew BK336.out); have n9_ := Aside0.mk (blk_drew BK341.out); have n10_ := Aside0.mk (blk_drew BK346.out); have n11_ := Aside0.mk (blk_drew BK386.out); have n12_ := Aside0.mk (below_drew1 HB.out); clear HO_331000 HO_332000 HO_337000 HO_342000 HO_347000 HO_387000 BK330 BK331 BK336 BK341 BK346 BK386 HB; have HO_331000 := n0_; have HO_332000 := n1_; have HO_337000 := n2_; have HO_342000 := n3_; have HO_347000 := n4_; have HO_387000 := n5_; have BK330 := n6_; have BK331 := n7_; have BK336 := n8_; have BK341 := n9_; have BK346 := n10_; have BK386 := n11_; have HB := n12_; clear n0_ n1_ n2_ n3_ n4_ n5_ n6_ n7_ n8_ n9_ n10_ n11_ n12_
                    refine start_ (n := 11) (S := fun w' => True) (ds := []) #[false, false, false, false, false, false, false, false, false, false, false] (by kernel_rfl) rfl rfl trivial (fun hHeld => ?_); refine with_tabW sleuthlaw21_HistogramMerges.tab14 sleuthlaw21_HistogramMerges.bits14 (fun HT_ HW_ => ?_)
                    generalize wr.drew = w138 at HO_331000 HO_332000 HO_337000 HO_342000 HO_347000 HO_387000 BK330 BK331 BK336 BK341 BK346 BK386 HB hHeld ⊢
                    refine pure_ (i := 0) (N := some 106) (v := ?_) (a' := ?_) #[true, false, false, false, false, false, false, false, false, false, false] rfl rfl (any_of HT_.out (by kernel_rfl)) (fun _ _ _ h => h) (Or.inl ⟨by rfl, ?_⟩) ?_ ?_
                    rotate_left
                    · intro w'
                      go_simp
                      with_reducible rfl
                    rotate_left
                    · simp only [Act.put, List.setIfInBounds_toArray, List.set_cons_zero, List.set_cons_succ, i64_w, i32_w]
                      rfl
                    refine pure_ (i := 1) (N := some 107) (v := ?_) (a' := ?_) #[true, true, false, false, false, false, false, false, false, false, false] rfl rfl (any_of HT_.out (by kernel_rfl)) (fun _ _ _ h => h) (Or.inl ⟨by rfl, ?_⟩) ?_ ?_
                    rotate_left
                    · intro w'
                      go_simp
                      with_reducible rfl
                    rotate_left
                    · simp only [Act.put, List.setIfInBounds_toArray, List.set_cons_zero, List.set_cons_succ, i64_w, i32_w]
                      rfl
                    refine pure_ (i := 2) (N := some 108) (v := undef) (a' := ?_) #[true, true, true, false, false, false, false, false, false, false, false] rfl rfl (any_of HT_.out (by kernel_rfl)) (fun _ _ _ h => h) (Or.inr ⟨by rfl, rfl⟩) ?_ ?_
                    rotate_left
                    · simp only [Act.put, List.setIfInBounds_toArray, List.set_cons_zero, List.set_cons_succ, i64_w, i32_w]
                      rfl
                    refine pure_ (i := 3) (N := some 109) (v := undef) (a' := ?_) #[true, true, true, true, false, false, false, false, false, false, false] rfl rfl (any_of HT_.out (by kernel_rfl)) (fun _ _ _ h => h) (Or.inr ⟨by rfl, rfl⟩) ?_ ?_
                    rotate_left
                    · simp only [Act.put, List.setIfInBounds_toArray, List.set_cons_zero, List.set_cons_succ, i64_w, i32_w]
                      rfl
                    refine pure_ (i := 4) (N := some 110) (v := undef) (a' := ?_) #[true, true, true, true, true, false, false, false, false, false, false] rfl rfl (any_of HT_.out (by kernel_rfl)) (fun _ _ _ h => h) (Or.inr ⟨by rfl, rfl⟩) ?_ ?_
                    rotate_left
                    · simp only [Act.put, List.setIfInBounds_toArray, List.set_cons_zero, List.set_cons_succ, i64_w, i32_w]
                      rfl
                    refine pure_ (i := 5) (N := some 111) (v := undef) (a' := ?_) #[true, true, true, true, true, true, false, false, false, false, false] rfl rfl (any_of HT_.out (by kernel_rfl)) (fun _ _ _ h => h) (Or.inr ⟨by rfl, rfl⟩) ?_ ?_
                    rotate_left
                    · simp only [Act.put, List.setIfInBounds_toArray, List.set_cons_zero, List.set_cons_succ, i64_w, i32_w]
                      rfl
                    refine pure_ (i := 6) (N := some 112) (v := undef) (a' := ?_) #[true, true, true, true, true, true, true, false, false, false, false] rfl rfl (any_of HT_.out (by kernel_rfl)) (fun _ _ _ h => h) (Or.inr ⟨by rfl, rfl⟩) ?_ ?_
                    rotate_left
                    · simp only [Act.put, List.setIfInBounds_toArray, List.set_cons_zero, List.set_cons_succ, i64_w, i32_w]
                      rfl
                    refine pure_ (i := 7) (N := some 113) (v := undef) (a' := ?_) #[true, true, true, true, true, true, true, true, false, false, false] rfl rfl (any_of HT_.out (by kernel_rfl)) (fun _ _ _ h => h) (Or.inr ⟨by rfl, rfl⟩) ?_ ?_
                    rotate_left
                    · simp only [Act.put, List.setIfInBounds_toArray, List.set_cons_zero, List.set_cons_succ, i64_w, i32_w]
                      rfl
                    refine pure_ (i := 8) (N := some 114) (v := undef) (a' := ?_) #[true, true, true, true, true, true, true, true, true, false, false] rfl rfl (any_of HT_.out (by kernel_rfl)) (fun _ _ _ h => h) (Or.inr ⟨by rfl, rfl⟩) ?_ ?_
                    rotate_left
                    · simp only [Act.put, List.setIfInBounds_toArray, List.set_cons_zero, List.set_cons_succ, i64_w, i32_w]
                      rfl
                    refine pure_ (i := 9) (N := some 115) (v := ?_) (a' := ?_) #[true, true, true, true, true, true, true, true, true, true, false] rfl rfl (any_of HT_.out (by kernel_rfl)) (fun _ _ _ h => h) (Or.inl ⟨by rfl, ?_⟩) ?_ ?_
                    rotate_left
                    · intro w'
                      go_simp
                      with_reducible rfl
                    rotate_left
                    · simp only [Act.put, List.setIfInBounds_toArray, List.set_cons_zero, List.set_cons_succ, i64_w, i32_w]
                      rfl
                    refine pure_ (i := 10) (N := some 15) (v := ?_) (a' := ?_) #[true, true, true, true, true, true, true, true, true, true, true] rfl rfl (any_of HT_.out (by kernel_rfl)) (fun _ _ _ h => h) (Or.inl ⟨by rfl, ?_⟩) ?_ ?_
                    rotate_left
                    · intro w'
                      go_simp
                      with_reducible rfl
                    rotate_left
                    · simp only [Act.put, List.setIfInBounds_toArray, List.set_cons_zero, List.set_cons_succ, i64_w, i32_w]
                      rfl
                    refine done_ (done_of HT_.out (by kernel_rfl)) ?_
                    try go_wp2
                    go_meet
                    case rel => exact ⟨_, (true), (by first | rfl | (simp; done) | (simp [*]; done)), H', ⟨by have := HJ9.out; have := HK2.out; first | omega | exact Nat.le_refl _⟩, ⟨by (with_reducible repeat (first | apply Kd.R_alloc | apply Kd.R_drewN | apply Kd.R_drew)); exact HO_331000.out⟩, ⟨by (with_reducible repeat (first | apply Kd.R_alloc | apply Kd.R_drewN | apply Kd.R_drew)); exact HO_332000.out⟩, ⟨by (with_reducible repeat (first | apply Kd.R_alloc | apply Kd.R_drewN | apply Kd.R_drew)); exact HO_337000.out⟩, ⟨by (with_reducible repeat (first | apply Kd.R_alloc | apply Kd.R_drewN | apply Kd.R_drew)); exact HO_342000.out⟩, ⟨by (with_reducible repeat (first | apply Kd.R_alloc | apply Kd.R_drewN | apply Kd.R_drew)); exact HO_347000.out⟩, ⟨by (with_reducible repeat (first | apply Kd.R_alloc | apply Kd.R_drewN | apply Kd.R_drew)); exact HO_387000.out⟩, ⟨by (with_reducible repeat (first | refine blk_drewN ?_ _ | refine blk_drew ?_ | refine blk_alloc ?_ _)); exact BK330.out⟩, ⟨by (with_reducible repeat (first | refine blk_drewN ?_ _ | refine blk_drew ?_ | refine blk_alloc ?_ _)); exact BK331.out⟩, ⟨by (with_reducible repeat (first | refine blk_drewN ?_ _ | refine blk_drew ?_ | refine blk_alloc ?_ _)); exact BK336.out⟩, ⟨by (with_reducible repeat (first | refine blk_drewN ?_ _ | refine blk_drew ?_ | refine blk_alloc ?_ _)); exact BK341.out⟩, ⟨by (with_reducible repeat (first | refine blk_drewN ?_ _ | refine blk_drew ?_ | refine blk_alloc ?_ _)); exact BK346.out⟩, ⟨by (with_reducible repeat (first | refine blk_drewN ?_ _ | refine blk_drew ?_ | refine blk_alloc ?_ _)); exact BK386.out⟩, ⟨by repeat (first | (with_reducible first | exact HB.out | apply below_alloc | apply pw_below_drewN | apply below_drew1 | refine below_set ?_ GE330.out | refine below_set ?_ GE331.out | refine below_set ?_ GE336.out | refine below_set ?_ GE341.out | refine below_set ?_ GE346.out | refine below_set ?_ GE386.out) | exact HB.out)⟩⟩
                  · replace c137 := Bool.eq_false_iff.mpr c137
                    subst c137
                    have H1 : ((sleuthlaw21_at.f k2 t327 x16_2).bind fun t388 => ((sleuthlaw21_at.f k2 t324 x16_2).bind fun t389 => (sleuthlaw21_HistogramMerges.j2 k2 t385 (decide (t388 > t389)) x16_2 t324 t327 t382))) = some r := by rw [if_neg (show ¬ (false = true) by decide)] at H; exact H
                    clear H; have H := H1; clear H1; replace H := Option.bind_eq_some_iff.mp H; obtain ⟨t388, A1390, H⟩ := H; (try dsimp only at H); have A139 := Aside0.mk A1390; clear A1390; replace H := Option.bind_eq_some_iff.mp H; obtain ⟨t389, A1400, H⟩ := H; (try dsimp only at H); have A140 := Aside0.mk A1400; clear A1400; have H' := Aside0.mk H; clear H
                    try go_wp2
                    have n0_ := Aside0.mk (Kd.R_drew HO_331000.out); have n1_ := Aside0.mk (Kd.R_drew HO_332000.out); have n2_ := Aside0.mk (Kd.R_drew HO_337000.out); have n3_ := Aside0.mk (Kd.R_drew HO_342000.out); have n4_ := Aside0.mk (Kd.R_drew HO_347000.out); have n5_ := Aside0.mk (Kd.R_drew HO_387000.out); have n6_ := Aside0.mk (blk_drew BK330.out); have n7_ := Aside0.mk (blk_drew BK331.out); have n8_ := Aside0.mk (blk_drew BK336.out); have n9_ := Aside0.mk (blk_drew BK341.out); have n10_ := Aside0.mk (blk_drew BK346.out); have n11_ := Aside0.mk (blk_drew BK386.out); have n12_ := Aside0.mk (below_drew1 HB.out); clear HO_331000 HO_332000 HO_337000 HO_342000 HO_347000 HO_387000 BK330 BK331 BK336 BK341 BK346 BK386 HB; have HO_331000 := n0_; have HO_332000 := n1_; have HO_337000 := n2_; have HO_342000 := n3_; have HO_347000 := n4_; have HO_387000 := n5_; have BK330 := n6_; have BK331 := n7_; have BK336 := n8_; have BK341 := n9_; have BK346 := n10_; have BK386 := n11_; have HB := n12_; clear n0_ n1_ n2_ n3_ n4_ n5_ n6_ n7_ n8_ n9_ n10_ n11_ n12_
                    refine start_ (n := 11) (S := fun w' => w'.cell? ⟨gb331, 0, none⟩ = some (.slice Ao19 t327.length co19) ∧ w'.cell? ⟨gb330, 0, none⟩ = some (.slice Ao16 t324.length co16)) (ds := []) #[false, false, false, false, false, false, false, false, false, false, false] (by kernel_rfl) rfl rfl ⟨(blk_cell BK331.out 0).trans rfl, (blk_cell BK330.out 0).trans rfl⟩ (fun hHeld => ?_); refine with_tabW sleuthlaw21_HistogramMerges.tab14 sleuthlaw21_HistogramMerges.bits14 (fun HT_ HW_ => ?_)
                    generalize wr.drew = w141 at HO_331000 HO_332000 HO_337000 HO_342000 HO_347000 HO_387000 BK330 BK331 BK336 BK341 BK346 BK386 HB hHeld ⊢
                    refine pure_ (i := 0) (N := some 106) (v := ?_) (a' := ?_) #[true, false, false, false, false, false, false, false, false, false, false] rfl rfl (any_of HT_.out (by kernel_rfl)) (fun _ _ _ h => h) (Or.inl ⟨by rfl, ?_⟩) ?_ ?_
                    rotate_left
                    · intro w'
                      go_simp
                      with_reducible rfl
                    rotate_left
                    · simp only [Act.put, List.setIfInBounds_toArray, List.set_cons_zero, List.set_cons_succ, i64_w, i32_w]
                      rfl
                    refine pure_ (i := 1) (N := some 107) (v := ?_) (a' := ?_) #[true, true, false, false, false, false, false, false, false, false, false] rfl rfl (any_of HT_.out (by kernel_rfl)) (fun _ _ _ h => h) (Or.inl ⟨by rfl, ?_⟩) ?_ ?_
                    rotate_left
                    · intro w'
                      go_simp
                      with_reducible rfl
                    rotate_left
                    · simp only [Act.put, List.setIfInBounds_toArray, List.set_cons_zero, List.set_cons_succ, i64_w, i32_w]
                      rfl
                    refine pure_ (i := 3) (N := some 109) (v := ?_) (a' := ?_) #[true, true, false, true, false, false, false, false, false, false, false] rfl rfl (any_of HT_.out (by kernel_rfl)) (fun _ _ _ h => h) (Or.inl ⟨by rfl, ?_⟩) ?_ ?_
                    rotate_left
                    · intro w'
                      go_simp
                      with_reducible rfl
                    rotate_left
                    · simp only [Act.put, List.setIfInBounds_toArray, List.set_cons_zero, List.set_cons_succ, i64_w, i32_w]
                      rfl
                    refine pure_ (i := 6) (N := some 112) (v := ?_) (a' := ?_) #[true, true, false, true, false, false, true, false, false, false, false] rfl rfl (any_of HT_.out (by kernel_rfl)) (fun _ _ _ h => h) (Or.inl ⟨by rfl, ?_⟩) ?_ ?_
                    rotate_left
                    · intro w'
                      go_simp
                      with_reducible rfl
                    rotate_left
                    · simp only [Act.put, List.setIfInBounds_toArray, List.set_cons_zero, List.set_cons_succ, i64_w, i32_w]
                      rfl
                    refine take_ (i := 2) (N := some 108) (v := ?_) (a' := ?_) #[true, true, true, true, false, false, true, false, false, false, false] rfl rfl (take_ofW HT_.out HW_.out (by kernel_rfl)) (fun _ _ _ h => h) (Or.inl ⟨by rfl, ?_⟩) hHeld ?_ ?_
                    rotate_left
                    · rintro w' ⟨s0, s1⟩
                      go_simp
                      with_reducible rfl
                    rotate_left
                    · simp only [Act.put, List.setIfInBounds_toArray, List.set_cons_zero, List.set_cons_succ, i64_w, i32_w]
                      rfl
                    refine take_ (i := 5) (N := some 111) (v := ?_) (a' := ?_) #[true, true, true, true, false, true, true, false, false, false, false] rfl rfl (take_ofW HT_.out HW_.out (by kernel_rfl)) (fun _ _ _ h => h) (Or.inl ⟨by rfl, ?_⟩) hHeld ?_ ?_
                    rotate_left
                    · rintro w' ⟨s0, s1⟩
                      go_simp
                      with_reducible rfl
                    rotate_left
                    · simp only [Act.put, List.setIfInBounds_toArray, List.set_cons_zero, List.set_cons_succ, i64_w, i32_w]
                      rfl
                    refine one_ (i := 4) (N := some 110) #[true, true, true, true, true, true, true, false, false, false, false] rfl rfl (one_of HT_.out (by kernel_rfl)) (by decide) (fun K hK => ?_)
                    refine goes_ Try.func32 (by kernel_rfl) rfl #[.agg #[.slice Ao19 t327.length co19], .int .i64 x16_2] (by rfl) rfl rfl (by (try simp only [List.map_toArray, List.map_cons, List.map_nil]); first | done | rfl | (simp only [List.length_drop, List.length_take]; rfl)) ?_
                    with_reducible refine (sleuthlaw21_at.calls k2 _ _ t327 x16_2 t388 _ ?side1 ?side2 A139.out).mono ?_
                    (case side1 => repeat (first | exact (Kd.R_reads' HO_332000.out).2.2 | (with_reducible refine Kd.C_alloc ?_ _) | (with_reducible refine Kd.C_drewN ?_ _) | (with_reducible refine Kd.C_drew ?_)))
                    (case side2 => exact (Kd.R_reads' HO_332000.out).2.1)
                    rintro e w142 ⟨rfl, hb⟩
                    refine ⟨_, rfl, ?_⟩
                    have n0_ := Aside0.mk (Kd.R_below (by (with_reducible repeat (first | apply Kd.R_alloc | apply Kd.R_drewN | apply Kd.R_drew)); exact HO_331000.out) hb); have n1_ := Aside0.mk (Kd.R_below (by (with_reducible repeat (first | apply Kd.R_alloc | apply Kd.R_drewN | apply Kd.R_drew)); exact HO_332000.out) hb); have n2_ := Aside0.mk (Kd.R_below (by (with_reducible repeat (first | apply Kd.R_alloc | apply Kd.R_drewN | apply Kd.R_drew)); exact HO_337000.out) hb); have n3_ := Aside0.mk (Kd.R_below (by (with_reducible repeat (first | apply Kd.R_alloc | apply Kd.R_drewN | apply Kd.R_drew)); exact HO_342000.out) hb); have n4_ := Aside0.mk (Kd.R_below (by (with_reducible repeat (first | apply Kd.R_alloc | apply Kd.R_drewN | apply Kd.R_drew)); exact HO_347000.out) hb); have n5_ := Aside0.mk (Kd.R_below (by (with_reducible repeat (first | apply Kd.R_alloc | apply Kd.R_drewN | apply Kd.R_drew)); exact HO_387000.out) hb); have n6_ := Aside0.mk (blk_below (g := gb330) (o := .cells #[.slice Ao16 t324.length co16] 33 (0, 0)) (by (with_reducible repeat (first | refine blk_drewN ?_ _ | refine blk_drew ?_ | refine blk_alloc ?_ _)); exact BK330.out) hb); have n7_ := Aside0.mk (blk_below (g := gb331) (o := .cells #[.slice Ao19 t327.length co19] 33 (0, 0)) (by (with_reducible repeat (first | refine blk_drewN ?_ _ | refine blk_drew ?_ | refine blk_alloc ?_ _)); exact BK331.out) hb); have n8_ := Aside0.mk (blk_below (g := gb336) (o := .cells #[.slice Ao23 t332.length co23] 33 (0, 0)) (by (with_reducible repeat (first | refine blk_drewN ?_ _ | refine blk_drew ?_ | refine blk_alloc ?_ _)); exact BK336.out) hb); have n9_ := Aside0.mk (blk_below (g := gb341) (o := .cells #[.slice Ao31 t337.length co31] 33 (0, 0)) (by (with_reducible repeat (first | refine blk_drewN ?_ _ | refine blk_drew ?_ | refine blk_alloc ?_ _)); exact BK341.out) hb); have n10_ := Aside0.mk (blk_below (g := gb346) (o := .cells #[.slice Ao40 t342.length co40] 33 (0, 0)) (by (with_reducible repeat (first | refine blk_drewN ?_ _ | refine blk_drew ?_ | refine blk_alloc ?_ _)); exact BK346.out) hb); have n11_ := Aside0.mk (blk_below (g := gb386) (o := .cells #[.slice Ao128 t382.length co128] 33 (0, 0)) (by (with_reducible repeat (first | refine blk_drewN ?_ _ | refine blk_drew ?_ | refine blk_alloc ?_ _)); exact BK386.out) hb); have n12_ := Aside0.mk (below_step (by repeat (first | (with_reducible first | exact HB.out | apply below_alloc | apply pw_below_drewN | apply below_drew1 | refine below_set ?_ GE330.out | refine below_set ?_ GE331.out | refine below_set ?_ GE336.out | refine below_set ?_ GE341.out | refine below_set ?_ GE346.out | refine below_set ?_ GE386.out) | exact HB.out)) hb); clear HO_331000 HO_332000 HO_337000 HO_342000 HO_347000 HO_387000 BK330 BK331 BK336 BK341 BK346 BK386 HB; have HO_331000 := n0_; have HO_332000 := n1_; have HO_337000 := n2_; have HO_342000 := n3_; have HO_347000 := n4_; have HO_387000 := n5_; have BK330 := n6_; have BK331 := n7_; have BK336 := n8_; have BK341 := n9_
                    have BK346 := n10_; have BK386 := n11_; have HB := n12_; clear n0_ n1_ n2_ n3_ n4_ n5_ n6_ n7_ n8_ n9_ n10_ n11_ n12_; (try clear hb); (try clear hb2); (try clear hk); (try clear hi)
                    refine hK.out _ _ ⟨(blk_cell BK331.out 0).trans rfl, (blk_cell BK330.out 0).trans rfl⟩ (fun hHeld => ?_)
                    clear hK K
                    refine norm_ (a' := ?_) ?_ ?_
                    rotate_left
                    · show Act.put _ (some 110) _ = _
                      simp only [Act.put, List.setIfInBounds_toArray, List.set_cons_zero, List.set_cons_succ, i64_w, i32_w]
                      rfl
                    refine one_ (i := 7) (N := some 113) #[true, true, true, true, true, true, true, true, false, false, false] rfl rfl (one_of HT_.out (by kernel_rfl)) (by decide) (fun K hK => ?_)
                    refine goes_ Try.func32 (by kernel_rfl) rfl #[.agg #[.slice Ao16 t324.length co16], .int .i64 x16_2] (by rfl) rfl rfl (by (try simp only [List.map_toArray, List.map_cons, List.map_nil]); first | done | rfl | (simp only [List.length_drop, List.length_take]; rfl)) ?_
                    with_reducible refine (sleuthlaw21_at.calls k2 _ _ t324 x16_2 t389 _ ?side1 ?side2 A140.out).mono ?_
                    (case side1 => repeat (first | exact (Kd.R_reads' HO_331000.out).2.2 | (with_reducible refine Kd.C_alloc ?_ _) | (with_reducible refine Kd.C_drewN ?_ _) | (with_reducible refine Kd.C_drew ?_)))
                    (case side2 => exact (Kd.R_reads' HO_331000.out).2.1)
                    rintro e w143 ⟨rfl, hb⟩
                    refine ⟨_, rfl, ?_⟩
                    have n0_ := Aside0.mk (Kd.R_below (by (with_reducible repeat (first | apply Kd.R_alloc | apply Kd.R_drewN | apply Kd.R_drew)); exact HO_331000.out) hb); have n1_ := Aside0.mk (Kd.R_below (by (with_reducible repeat (first | apply Kd.R_alloc | apply Kd.R_drewN | apply Kd.R_drew)); exact HO_332000.out) hb); have n2_ := Aside0.mk (Kd.R_below (by (with_reducible repeat (first | apply Kd.R_alloc | apply Kd.R_drewN | apply Kd.R_drew)); exact HO_337000.out) hb); have n3_ := Aside0.mk (Kd.R_below (by (with_reducible repeat (first | apply Kd.R_alloc | apply Kd.R_drewN | apply Kd.R_drew)); exact HO_342000.out) hb); have n4_ := Aside0.mk (Kd.R_below (by (with_reducible repeat (first | apply Kd.R_alloc | apply Kd.R_drewN | apply Kd.R_drew)); exact HO_347000.out) hb); have n5_ := Aside0.mk (Kd.R_below (by (with_reducible repeat (first | apply Kd.R_alloc | apply Kd.R_drewN | apply Kd.R_drew)); exact HO_387000.out) hb); have n6_ := Aside0.mk (blk_below (g := gb330) (o := .cells #[.slice Ao16 t324.length co16] 33 (0, 0)) (by (with_reducible repeat (first | refine blk_drewN ?_ _ | refine blk_drew ?_ | refine blk_alloc ?_ _)); exact BK330.out) hb); have n7_ := Aside0.mk (blk_below (g := gb331) (o := .cells #[.slice Ao19 t327.length co19] 33 (0, 0)) (by (with_reducible repeat (first | refine blk_drewN ?_ _ | refine blk_drew ?_ | refine blk_alloc ?_ _)); exact BK331.out) hb); have n8_ := Aside0.mk (blk_below (g := gb336) (o := .cells #[.slice Ao23 t332.length co23] 33 (0, 0)) (by (with_reducible repeat (first | refine blk_drewN ?_ _ | refine blk_drew ?_ | refine blk_alloc ?_ _)); exact BK336.out) hb); have n9_ := Aside0.mk (blk_below (g := gb341) (o := .cells #[.slice Ao31 t337.length co31] 33 (0, 0)) (by (with_reducible repeat (first | refine blk_drewN ?_ _ | refine blk_drew ?_ | refine blk_alloc ?_ _)); exact BK341.out) hb); have n10_ := Aside0.mk (blk_below (g := gb346) (o := .cells #[.slice Ao40 t342.length co40] 33 (0, 0)) (by (with_reducible repeat (first | refine blk_drewN ?_ _ | refine blk_drew ?_ | refine blk_alloc ?_ _)); exact BK346.out) hb); have n11_ := Aside0.mk (blk_below (g := gb386) (o := .cells #[.slice Ao128 t382.length co128] 33 (0, 0)) (by (with_reducible repeat (first | refine blk_drewN ?_ _ | refine blk_drew ?_ | refine blk_alloc ?_ _)); exact BK386.out) hb); have n12_ := Aside0.mk (below_step (by repeat (first | (with_reducible first | exact HB.out | apply below_alloc | apply pw_below_drewN | apply below_drew1 | refine below_set ?_ GE330.out | refine below_set ?_ GE331.out | refine below_set ?_ GE336.out | refine below_set ?_ GE341.out | refine below_set ?_ GE346.out | refine below_set ?_ GE386.out) | exact HB.out)) hb); clear HO_331000 HO_332000 HO_337000 HO_342000 HO_347000 HO_387000 BK330 BK331 BK336 BK341 BK346 BK386 HB; have HO_331000 := n0_; have HO_332000 := n1_; have HO_337000 := n2_; have HO_342000 := n3_; have HO_347000 := n4_; have HO_387000 := n5_; have BK330 := n6_; have BK331 := n7_; have BK336 := n8_; have BK341 := n9_
                    have BK346 := n10_; have BK386 := n11_; have HB := n12_; clear n0_ n1_ n2_ n3_ n4_ n5_ n6_ n7_ n8_ n9_ n10_ n11_ n12_; (try clear hb); (try clear hb2); (try clear hk); (try clear hi)
                    refine hK.out _ _ ⟨(blk_cell BK331.out 0).trans rfl, (blk_cell BK330.out 0).trans rfl⟩ (fun hHeld => ?_)
                    clear hK K
                    refine norm_ (a' := ?_) ?_ ?_
                    rotate_left
                    · show Act.put _ (some 113) _ = _
                      simp only [Act.put, List.setIfInBounds_toArray, List.set_cons_zero, List.set_cons_succ, i64_w, i32_w]
                      rfl
                    refine pure_ (i := 8) (N := some 114) (v := ?_) (a' := ?_) #[true, true, true, true, true, true, true, true, true, false, false] rfl rfl (any_of HT_.out (by kernel_rfl)) (fun _ _ _ h => h) (Or.inl ⟨by rfl, ?_⟩) ?_ ?_
                    rotate_left
                    · intro w'
                      go_simp
                      with_reducible rfl
                    rotate_left
                    · simp only [Act.put, List.setIfInBounds_toArray, List.set_cons_zero, List.set_cons_succ, i64_w, i32_w]
                      rfl
                    refine pure_ (i := 9) (N := some 115) (v := ?_) (a' := ?_) #[true, true, true, true, true, true, true, true, true, true, false] rfl rfl (any_of HT_.out (by kernel_rfl)) (fun _ _ _ h => h) (Or.inl ⟨by rfl, ?_⟩) ?_ ?_
                    rotate_left
                    · intro w'
                      go_simp
                      with_reducible rfl
                    rotate_left
                    · simp only [Act.put, List.setIfInBounds_toArray, List.set_cons_zero, List.set_cons_succ, i64_w, i32_w]
                      rfl
                    refine pure_ (i := 10) (N := some 15) (v := ?_) (a' := ?_) #[true, true, true, true, true, true, true, true, true, true, true] rfl rfl (any_of HT_.out (by kernel_rfl)) (fun _ _ _ h => h) (Or.inl ⟨by rfl, ?_⟩) ?_ ?_
                    rotate_left
                    · intro w'
                      go_simp
                      with_reducible rfl
                    rotate_left
                    · simp only [Act.put, List.setIfInBounds_toArray, List.set_cons_zero, List.set_cons_succ, i64_w, i32_w]
                      rfl
                    refine done_ (done_of HT_.out (by kernel_rfl)) ?_
                    try go_wp2
                    go_meet
                    case rel => exact ⟨_, (decide (t388 > t389)), (by first | rfl | (simp; done) | (simp [*]; done)), H', ⟨by have := HJ9.out; have := HK2.out; first | omega | exact Nat.le_refl _⟩, ⟨by (with_reducible repeat (first | apply Kd.R_alloc | apply Kd.R_drewN | apply Kd.R_drew)); exact HO_331000.out⟩, ⟨by (with_reducible repeat (first | apply Kd.R_alloc | apply Kd.R_drewN | apply Kd.R_drew)); exact HO_332000.out⟩, ⟨by (with_reducible repeat (first | apply Kd.R_alloc | apply Kd.R_drewN | apply Kd.R_drew)); exact HO_337000.out⟩, ⟨by (with_reducible repeat (first | apply Kd.R_alloc | apply Kd.R_drewN | apply Kd.R_drew)); exact HO_342000.out⟩, ⟨by (with_reducible repeat (first | apply Kd.R_alloc | apply Kd.R_drewN | apply Kd.R_drew)); exact HO_347000.out⟩, ⟨by (with_reducible repeat (first | apply Kd.R_alloc | apply Kd.R_drewN | apply Kd.R_drew)); exact HO_387000.out⟩, ⟨by (with_reducible repeat (first | refine blk_drewN ?_ _ | refine blk_drew ?_ | refine blk_alloc ?_ _)); exact BK330.out⟩, ⟨by (with_reducible repeat (first | refine blk_drewN ?_ _ | refine blk_drew ?_ | refine blk_alloc ?_ _)); exact BK331.out⟩, ⟨by (with_reducible repeat (first | refine blk_drewN ?_ _ | refine blk_drew ?_ | refine blk_alloc ?_ _)); exact BK336.out⟩, ⟨by (with_reducible repeat (first | refine blk_drewN ?_ _ | refine blk_drew ?_ | refine blk_alloc ?_ _)); exact BK341.out⟩, ⟨by (with_reducible repeat (first | refine blk_drewN ?_ _ | refine blk_drew ?_ | refine blk_alloc ?_ _)); exact BK346.out⟩, ⟨by (with_reducible repeat (first | refine blk_drewN ?_ _ | refine blk_drew ?_ | refine blk_alloc ?_ _)); exact BK386.out⟩, ⟨by repeat (first | (with_reducible first | exact HB.out | apply below_alloc | apply pw_below_drewN | apply below_drew1 | refine below_set ?_ GE330.out | refine below_set ?_ GE331.out | refine below_set ?_ GE336.out | refine below_set ?_ GE341.out | refine below_set ?_ GE346.out | refine below_set ?_ GE386.out) | exact HB.out)⟩⟩
                case rest =>
                  clear HC136; (try clear c1); (try clear c2); (try clear p2); (try clear c3); (try clear c4); (try clear c5); (try clear c11); (try clear c12); (try clear c13); (try clear c19); (try clear c29); (try clear c32); (try clear c34); (try clear c35); (try clear c46); (try clear c46b0); (try clear c46b1); (try clear c47); (try clear c47b0); (try clear c47b1); (try clear c48); (try clear c48b0); (try clear c48b1); (try clear c51); (try clear c54); (try clear c56); (try clear c58); (try clear c115); (try clear c117); (try clear c118); (try clear c119); (try clear c120); (try clear c122); (try clear c123); (try clear c124); (try clear c129); (try clear c130); (try clear c131); (try clear c132); (try clear c133); (try clear c135); (try clear c135b0); (try clear c137); (try clear hcz121_0); (try clear hcz125_0); (try clear hcz134_0); (try clear hfz121_0); (try clear hfz125_0); (try clear hfz134_0); (try clear p2); obtain ⟨kq, x15_135, rfl, HA, HJ135, HO_331000, HO_332000, HO_337000, HO_342000, HO_347000, HO_387000, BK330, BK331, BK336, BK341, BK346, BK386, HB⟩ := hcut
                  cases kq with
                  | zero => exact absurd HA.out (by simp [sleuthlaw21_HistogramMerges.j2])
                  | succ kj135 =>
                    have H := HA.out; clear HA
                    simp only [sleuthlaw21_HistogramMerges.j2] at H
                    by_cases c144 : t385 = 0
                    · rw [if_pos c144] at H
                      have c144b0 : (t385 == 0) = true := beq_iff_eq.mpr c144
                      have c144b1 : (t385 != 0) = false := bne_eq_false_iff_eq.mpr c144
                      clear c144; replace H := Option.bind_eq_some_iff.mp H; obtain ⟨t390, A1450, H⟩ := H; (try dsimp only at H); have A145 := Aside0.mk A1450; clear A1450; replace H := Option.bind_eq_some_iff.mp H; obtain ⟨t391, A1460, H⟩ := H; (try dsimp only at H); have A146 := Aside0.mk A1460; clear A1460; replace H := Option.bind_eq_some_iff.mp H; obtain ⟨t392, A1470, H⟩ := H; (try dsimp only at H); have A147 := Aside0.mk A1470; clear A1470
                      by_cases c148 : t390 = (wrap64 (t391 - t392))
                      · rw [if_pos c148] at H
                        have c148b0 : (t390 == (wrap64 (t391 - t392))) = true := beq_iff_eq.mpr c148
                        have c148b1 : (t390 != (wrap64 (t391 - t392))) = false := bne_eq_false_iff_eq.mpr c148
                        clear c148; have H' := Aside0.mk H; clear H
                        try go_wp2
                        have n0_ := Aside0.mk (Kd.R_drew HO_331000.out); have n1_ := Aside0.mk (Kd.R_drew HO_332000.out); have n2_ := Aside0.mk (Kd.R_drew HO_337000.out); have n3_ := Aside0.mk (Kd.R_drew HO_342000.out); have n4_ := Aside0.mk (Kd.R_drew HO_347000.out); have n5_ := Aside0.mk (Kd.R_drew HO_387000.out); have n6_ := Aside0.mk (blk_drew BK330.out); have n7_ := Aside0.mk (blk_drew BK331.out); have n8_ := Aside0.mk (blk_drew BK336.out); have n9_ := Aside0.mk (blk_drew BK341.out); have n10_ := Aside0.mk (blk_drew BK346.out); have n11_ := Aside0.mk (blk_drew BK386.out); have n12_ := Aside0.mk (below_drew1 HB.out); clear HO_331000 HO_332000 HO_337000 HO_342000 HO_347000 HO_387000 BK330 BK331 BK336 BK341 BK346 BK386 HB; have HO_331000 := n0_; have HO_332000 := n1_; have HO_337000 := n2_; have HO_342000 := n3_; have HO_347000 := n4_; have HO_387000 := n5_; have BK330 := n6_; have BK331 := n7_; have BK336 := n8_; have BK341 := n9_; have BK346 := n10_; have BK386 := n11_; have HB := n12_; clear n0_ n1_ n2_ n3_ n4_ n5_ n6_ n7_ n8_ n9_ n10_ n11_ n12_
                        refine start_ (n := 15) (S := fun w' => w'.cell? ⟨gb386, 0, none⟩ = some (.slice Ao128 t382.length co128) ∧ w'.cell? ⟨gb330, 0, none⟩ = some (.slice Ao16 t324.length co16) ∧ w'.cell? ⟨gb331, 0, none⟩ = some (.slice Ao19 t327.length co19)) (ds := []) (tfs true [0, 15]).toArray (by kernel_rfl) rfl rfl ⟨(blk_cell BK386.out 0).trans rfl, (blk_cell BK330.out 0).trans rfl, (blk_cell BK331.out 0).trans rfl⟩ (fun hHeld => ?_); refine with_tabW sleuthlaw21_HistogramMerges.tab15 sleuthlaw21_HistogramMerges.bits15 (fun HT_ HW_ => ?_)
                        generalize wc.drew = w149 at HO_331000 HO_332000 HO_337000 HO_342000 HO_347000 HO_387000 BK330 BK331 BK336 BK341 BK346 BK386 HB hHeld ⊢
                        refine pure_ (i := 0) (N := some 116) (v := ?_) (a' := ?_) (tfs true [1, 14]).toArray rfl rfl (any_of HT_.out (by kernel_rfl)) (fun _ _ _ h => h) (Or.inl ⟨by rfl, ?_⟩) ?_ ?_
                        rotate_left
                        · intro w'
                          go_simp
                          with_reducible rfl
                        rotate_left
                        · simp only [Act.put, List.setIfInBounds_toArray, List.set_cons_zero, List.set_cons_succ, i64_w, i32_w]
                          rfl
                        refine pure_ (i := 1) (N := some 117) (v := ?_) (a' := ?_) (tfs true [2, 13]).toArray rfl rfl (any_of HT_.out (by kernel_rfl)) (fun _ _ _ h => h) (Or.inl ⟨by rfl, ?_⟩) ?_ ?_
                        rotate_left
                        · intro w'
                          go_simp
                          with_reducible rfl
                        rotate_left
                        · simp only [Act.put, List.setIfInBounds_toArray, List.set_cons_zero, List.set_cons_succ, i64_w, i32_w]
                          rfl
                        refine pure_ (i := 2) (N := some 118) (v := ?_) (a' := ?_) (tfs true [3, 12]).toArray rfl rfl (any_of HT_.out (by kernel_rfl)) (fun _ _ _ h => h) (Or.inl ⟨by rfl, ?_⟩) ?_ ?_
                        rotate_left
                        · intro w'
                          go_simp
                          with_reducible rfl
                        rotate_left
                        · simp only [Act.put, List.setIfInBounds_toArray, List.set_cons_zero, List.set_cons_succ, i64_w, i32_w]
                          rfl
                        refine pure_ (i := 4) (N := some 120) (v := ?_) (a' := ?_) (tfs true [3, 1, 1, 10]).toArray rfl rfl (any_of HT_.out (by kernel_rfl)) (fun _ _ _ h => h) (Or.inl ⟨by rfl, ?_⟩) ?_ ?_
                        rotate_left
                        · intro w'
                          go_simp
                          with_reducible rfl
                        rotate_left
                        · simp only [Act.put, List.setIfInBounds_toArray, List.set_cons_zero, List.set_cons_succ, i64_w, i32_w]
                          rfl
                        refine pure_ (i := 7) (N := some 123) (v := ?_) (a' := ?_) (tfs true [3, 1, 1, 2, 1, 7]).toArray rfl rfl (any_of HT_.out (by kernel_rfl)) (fun _ _ _ h => h) (Or.inl ⟨by rfl, ?_⟩) ?_ ?_
                        rotate_left
                        · intro w'
                          go_simp
                          with_reducible rfl
                        rotate_left
                        · simp only [Act.put, List.setIfInBounds_toArray, List.set_cons_zero, List.set_cons_succ, i64_w, i32_w]
                          rfl
                        refine pure_ (i := 10) (N := some 126) (v := ?_) (a' := ?_) (tfs true [3, 1, 1, 2, 1, 2, 1, 4]).toArray rfl rfl (any_of HT_.out (by kernel_rfl)) (fun _ _ _ h => h) (Or.inl ⟨by rfl, ?_⟩) ?_ ?_
                        rotate_left
                        · intro w'
                          go_simp
                          with_reducible rfl
                        rotate_left
                        · simp only [Act.put, List.setIfInBounds_toArray, List.set_cons_zero, List.set_cons_succ, i64_w, i32_w]
                          rfl
                        refine take_ (i := 3) (N := some 119) (v := ?_) (a' := ?_) (tfs true [5, 2, 1, 2, 1, 4]).toArray rfl rfl (take_ofW HT_.out HW_.out (by kernel_rfl)) (fun _ _ _ h => h) (Or.inl ⟨by rfl, ?_⟩) hHeld ?_ ?_
                        rotate_left
                        · rintro w' ⟨s0, s1, s2⟩
                          go_simp
                          with_reducible rfl
                        rotate_left
                        · simp only [Act.put, List.setIfInBounds_toArray, List.set_cons_zero, List.set_cons_succ, i64_w, i32_w]
                          rfl
                        refine take_ (i := 6) (N := some 122) (v := ?_) (a' := ?_) (tfs true [5, 1, 2, 2, 1, 4]).toArray rfl rfl (take_ofW HT_.out HW_.out (by kernel_rfl)) (fun _ _ _ h => h) (Or.inl ⟨by rfl, ?_⟩) hHeld ?_ ?_
                        rotate_left
                        · rintro w' ⟨s0, s1, s2⟩
                          go_simp
                          with_reducible rfl
                        rotate_left
                        · simp only [Act.put, List.setIfInBounds_toArray, List.set_cons_zero, List.set_cons_succ, i64_w, i32_w]
                          rfl
                        refine take_ (i := 9) (N := some 125) (v := ?_) (a' := ?_) (tfs true [5, 1, 2, 1, 2, 4]).toArray rfl rfl (take_ofW HT_.out HW_.out (by kernel_rfl)) (fun _ _ _ h => h) (Or.inl ⟨by rfl, ?_⟩) hHeld ?_ ?_
                        rotate_left
                        · rintro w' ⟨s0, s1, s2⟩
                          go_simp
                          with_reducible rfl
                        rotate_left
                        · simp only [Act.put, List.setIfInBounds_toArray, List.set_cons_zero, List.set_cons_succ, i64_w, i32_w]
                          rfl
                        refine one_ (i := 5) (N := some 121) (tfs true [8, 1, 2, 4]).toArray rfl rfl (one_of HT_.out (by kernel_rfl)) (by decide) (fun K hK => ?_)
                        refine goes_ Try.func32 (by kernel_rfl) rfl #[.agg #[.slice Ao128 t382.length co128], .int .i64 x16_2] (by rfl) rfl rfl (by (try simp only [List.map_toArray, List.map_cons, List.map_nil]); first | done | rfl | (simp only [List.length_drop, List.length_take]; rfl)) ?_
                        with_reducible refine (sleuthlaw21_at.calls kj135 _ _ t382 x16_2 t390 _ ?side1 ?side2 A145.out).mono ?_
                        (case side1 => repeat (first | exact (Kd.R_reads' HO_387000.out).2.2 | (with_reducible refine Kd.C_alloc ?_ _) | (with_reducible refine Kd.C_drewN ?_ _) | (with_reducible refine Kd.C_drew ?_)))
                        (case side2 => exact (Kd.R_reads' HO_387000.out).2.1)
                        rintro e w150 ⟨rfl, hb⟩
                        refine ⟨_, rfl, ?_⟩
                        have n0_ := Aside0.mk (Kd.R_below (by (with_reducible repeat (first | apply Kd.R_alloc | apply Kd.R_drewN | apply Kd.R_drew)); exact HO_331000.out) hb); have n1_ := Aside0.mk (Kd.R_below (by (with_reducible repeat (first | apply Kd.R_alloc | apply Kd.R_drewN | apply Kd.R_drew)); exact HO_332000.out) hb); have n2_ := Aside0.mk (Kd.R_below (by (with_reducible repeat (first | apply Kd.R_alloc | apply Kd.R_drewN | apply Kd.R_drew)); exact HO_337000.out) hb); have n3_ := Aside0.mk (Kd.R_below (by (with_reducible repeat (first | apply Kd.R_alloc | apply Kd.R_drewN | apply Kd.R_drew)); exact HO_342000.out) hb); have n4_ := Aside0.mk (Kd.R_below (by (with_reducible repeat (first | apply Kd.R_alloc | apply Kd.R_drewN | apply Kd.R_drew)); exact HO_347000.out) hb); have n5_ := Aside0.mk (Kd.R_below (by (with_reducible repeat (first | apply Kd.R_alloc | apply Kd.R_drewN | apply Kd.R_drew)); exact HO_387000.out) hb); have n6_ := Aside0.mk (blk_below (g := gb330) (o := .cells #[.slice Ao16 t324.length co16] 33 (0, 0)) (by (with_reducible repeat (first | refine blk_drewN ?_ _ | refine blk_drew ?_ | refine blk_alloc ?_ _)); exact BK330.out) hb); have n7_ := Aside0.mk (blk_below (g := gb331) (o := .cells #[.slice Ao19 t327.length co19] 33 (0, 0)) (by (with_reducible repeat (first | refine blk_drewN ?_ _ | refine blk_drew ?_ | refine blk_alloc ?_ _)); exact BK331.out) hb); have n8_ := Aside0.mk (blk_below (g := gb336) (o := .cells #[.slice Ao23 t332.length co23] 33 (0, 0)) (by (with_reducible repeat (first | refine blk_drewN ?_ _ | refine blk_drew ?_ | refine blk_alloc ?_ _)); exact BK336.out) hb); have n9_ := Aside0.mk (blk_below (g := gb341) (o := .cells #[.slice Ao31 t337.length co31] 33 (0, 0)) (by (with_reducible repeat (first | refine blk_drewN ?_ _ | refine blk_drew ?_ | refine blk_alloc ?_ _)); exact BK341.out) hb); have n10_ := Aside0.mk (blk_below (g := gb346) (o := .cells #[.slice Ao40 t342.length co40] 33 (0, 0)) (by (with_reducible repeat (first | refine blk_drewN ?_ _ | refine blk_drew ?_ | refine blk_alloc ?_ _)); exact BK346.out) hb); have n11_ := Aside0.mk (blk_below (g := gb386) (o := .cells #[.slice Ao128 t382.length co128] 33 (0, 0)) (by (with_reducible repeat (first | refine blk_drewN ?_ _ | refine blk_drew ?_ | refine blk_alloc ?_ _)); exact BK386.out) hb); have n12_ := Aside0.mk (below_step (by repeat (first | (with_reducible first | exact HB.out | apply below_alloc | apply pw_below_drewN | apply below_drew1 | refine below_set ?_ GE330.out | refine below_set ?_ GE331.out | refine below_set ?_ GE336.out | refine below_set ?_ GE341.out | refine below_set ?_ GE346.out | refine below_set ?_ GE386.out) | exact HB.out)) hb); clear HO_331000 HO_332000 HO_337000 HO_342000 HO_347000 HO_387000 BK330 BK331 BK336 BK341 BK346 BK386 HB; have HO_331000 := n0_; have HO_332000 := n1_; have HO_337000 := n2_; have HO_342000 := n3_; have HO_347000 := n4_; have HO_387000 := n5_; have BK330 := n6_; have BK331 := n7_; have BK336 := n8_; have BK341 := n9_
                        have BK346 := n10_; have BK386 := n11_; have HB := n12_; clear n0_ n1_ n2_ n3_ n4_ n5_ n6_ n7_ n8_ n9_ n10_ n11_ n12_; (try clear hb); (try clear hb2); (try clear hk); (try clear hi)
                        refine hK.out _ _ ⟨(blk_cell BK386.out 0).trans rfl, (blk_cell BK330.out 0).trans rfl, (blk_cell BK331.out 0).trans rfl⟩ (fun hHeld => ?_)
                        clear hK K
                        refine norm_ (a' := ?_) ?_ ?_
                        rotate_left
                        · show Act.put _ (some 121) _ = _
                          simp only [Act.put, List.setIfInBounds_toArray, List.set_cons_zero, List.set_cons_succ, i64_w, i32_w]
                          rfl
                        refine one_ (i := 8) (N := some 124) (tfs true [11, 4]).toArray rfl rfl (one_of HT_.out (by kernel_rfl)) (by decide) (fun K hK => ?_)
                        refine goes_ Try.func32 (by kernel_rfl) rfl #[.agg #[.slice Ao16 t324.length co16], .int .i64 x16_2] (by rfl) rfl rfl (by (try simp only [List.map_toArray, List.map_cons, List.map_nil]); first | done | rfl | (simp only [List.length_drop, List.length_take]; rfl)) ?_
                        with_reducible refine (sleuthlaw21_at.calls kj135 _ _ t324 x16_2 t391 _ ?side1 ?side2 A146.out).mono ?_
                        (case side1 => repeat (first | exact (Kd.R_reads' HO_331000.out).2.2 | (with_reducible refine Kd.C_alloc ?_ _) | (with_reducible refine Kd.C_drewN ?_ _) | (with_reducible refine Kd.C_drew ?_)))
                        (case side2 => exact (Kd.R_reads' HO_331000.out).2.1)
                        rintro e w151 ⟨rfl, hb⟩
                        refine ⟨_, rfl, ?_⟩
                        have n0_ := Aside0.mk (Kd.R_below (by (with_reducible repeat (first | apply Kd.R_alloc | apply Kd.R_drewN | apply Kd.R_drew)); exact HO_331000.out) hb); have n1_ := Aside0.mk (Kd.R_below (by (with_reducible repeat (first | apply Kd.R_alloc | apply Kd.R_drewN | apply Kd.R_drew)); exact HO_332000.out) hb); have n2_ := Aside0.mk (Kd.R_below (by (with_reducible repeat (first | apply Kd.R_alloc | apply Kd.R_drewN | apply Kd.R_drew)); exact HO_337000.out) hb); have n3_ := Aside0.mk (Kd.R_below (by (with_reducible repeat (first | apply Kd.R_alloc | apply Kd.R_drewN | apply Kd.R_drew)); exact HO_342000.out) hb); have n4_ := Aside0.mk (Kd.R_below (by (with_reducible repeat (first | apply Kd.R_alloc | apply Kd.R_drewN | apply Kd.R_drew)); exact HO_347000.out) hb); have n5_ := Aside0.mk (Kd.R_below (by (with_reducible repeat (first | apply Kd.R_alloc | apply Kd.R_drewN | apply Kd.R_drew)); exact HO_387000.out) hb); have n6_ := Aside0.mk (blk_below (g := gb330) (o := .cells #[.slice Ao16 t324.length co16] 33 (0, 0)) (by (with_reducible repeat (first | refine blk_drewN ?_ _ | refine blk_drew ?_ | refine blk_alloc ?_ _)); exact BK330.out) hb); have n7_ := Aside0.mk (blk_below (g := gb331) (o := .cells #[.slice Ao19 t327.length co19] 33 (0, 0)) (by (with_reducible repeat (first | refine blk_drewN ?_ _ | refine blk_drew ?_ | refine blk_alloc ?_ _)); exact BK331.out) hb); have n8_ := Aside0.mk (blk_below (g := gb336) (o := .cells #[.slice Ao23 t332.length co23] 33 (0, 0)) (by (with_reducible repeat (first | refine blk_drewN ?_ _ | refine blk_drew ?_ | refine blk_alloc ?_ _)); exact BK336.out) hb); have n9_ := Aside0.mk (blk_below (g := gb341) (o := .cells #[.slice Ao31 t337.length co31] 33 (0, 0)) (by (with_reducible repeat (first | refine blk_drewN ?_ _ | refine blk_drew ?_ | refine blk_alloc ?_ _)); exact BK341.out) hb); have n10_ := Aside0.mk (blk_below (g := gb346) (o := .cells #[.slice Ao40 t342.length co40] 33 (0, 0)) (by (with_reducible repeat (first | refine blk_drewN ?_ _ | refine blk_drew ?_ | refine blk_alloc ?_ _)); exact BK346.out) hb); have n11_ := Aside0.mk (blk_below (g := gb386) (o := .cells #[.slice Ao128 t382.length co128] 33 (0, 0)) (by (with_reducible repeat (first | refine blk_drewN ?_ _ | refine blk_drew ?_ | refine blk_alloc ?_ _)); exact BK386.out) hb); have n12_ := Aside0.mk (below_step (by repeat (first | (with_reducible first | exact HB.out | apply below_alloc | apply pw_below_drewN | apply below_drew1 | refine below_set ?_ GE330.out | refine below_set ?_ GE331.out | refine below_set ?_ GE336.out | refine below_set ?_ GE341.out | refine below_set ?_ GE346.out | refine below_set ?_ GE386.out) | exact HB.out)) hb); clear HO_331000 HO_332000 HO_337000 HO_342000 HO_347000 HO_387000 BK330 BK331 BK336 BK341 BK346 BK386 HB; have HO_331000 := n0_; have HO_332000 := n1_; have HO_337000 := n2_; have HO_342000 := n3_; have HO_347000 := n4_; have HO_387000 := n5_; have BK330 := n6_; have BK331 := n7_; have BK336 := n8_; have BK341 := n9_
                        have BK346 := n10_; have BK386 := n11_; have HB := n12_; clear n0_ n1_ n2_ n3_ n4_ n5_ n6_ n7_ n8_ n9_ n10_ n11_ n12_; (try clear hb); (try clear hb2); (try clear hk); (try clear hi)
                        refine hK.out _ _ ⟨(blk_cell BK386.out 0).trans rfl, (blk_cell BK330.out 0).trans rfl, (blk_cell BK331.out 0).trans rfl⟩ (fun hHeld => ?_)
                        clear hK K
                        refine norm_ (a' := ?_) ?_ ?_
                        rotate_left
                        · show Act.put _ (some 124) _ = _
                          simp only [Act.put, List.setIfInBounds_toArray, List.set_cons_zero, List.set_cons_succ, i64_w, i32_w]
                          rfl
                        refine one_ (i := 11) (N := some 127) (tfs true [12, 3]).toArray rfl rfl (one_of HT_.out (by kernel_rfl)) (by decide) (fun K hK => ?_)
                        refine goes_ Try.func32 (by kernel_rfl) rfl #[.agg #[.slice Ao19 t327.length co19], .int .i64 x16_2] (by rfl) rfl rfl (by (try simp only [List.map_toArray, List.map_cons, List.map_nil]); first | done | rfl | (simp only [List.length_drop, List.length_take]; rfl)) ?_
                        with_reducible refine (sleuthlaw21_at.calls kj135 _ _ t327 x16_2 t392 _ ?side1 ?side2 A147.out).mono ?_
                        (case side1 => repeat (first | exact (Kd.R_reads' HO_332000.out).2.2 | (with_reducible refine Kd.C_alloc ?_ _) | (with_reducible refine Kd.C_drewN ?_ _) | (with_reducible refine Kd.C_drew ?_)))
                        (case side2 => exact (Kd.R_reads' HO_332000.out).2.1)
                        rintro e w152 ⟨rfl, hb⟩
                        refine ⟨_, rfl, ?_⟩
                        have n0_ := Aside0.mk (Kd.R_below (by (with_reducible repeat (first | apply Kd.R_alloc | apply Kd.R_drewN | apply Kd.R_drew)); exact HO_331000.out) hb); have n1_ := Aside0.mk (Kd.R_below (by (with_reducible repeat (first | apply Kd.R_alloc | apply Kd.R_drewN | apply Kd.R_drew)); exact HO_332000.out) hb); have n2_ := Aside0.mk (Kd.R_below (by (with_reducible repeat (first | apply Kd.R_alloc | apply Kd.R_drewN | apply Kd.R_drew)); exact HO_337000.out) hb); have n3_ := Aside0.mk (Kd.R_below (by (with_reducible repeat (first | apply Kd.R_alloc | apply Kd.R_drewN | apply Kd.R_drew)); exact HO_342000.out) hb); have n4_ := Aside0.mk (Kd.R_below (by (with_reducible repeat (first | apply Kd.R_alloc | apply Kd.R_drewN | apply Kd.R_drew)); exact HO_347000.out) hb); have n5_ := Aside0.mk (Kd.R_below (by (with_reducible repeat (first | apply Kd.R_alloc | apply Kd.R_drewN | apply Kd.R_drew)); exact HO_387000.out) hb); have n6_ := Aside0.mk (blk_below (g := gb330) (o := .cells #[.slice Ao16 t324.length co16] 33 (0, 0)) (by (with_reducible repeat (first | refine blk_drewN ?_ _ | refine blk_drew ?_ | refine blk_alloc ?_ _)); exact BK330.out) hb); have n7_ := Aside0.mk (blk_below (g := gb331) (o := .cells #[.slice Ao19 t327.length co19] 33 (0, 0)) (by (with_reducible repeat (first | refine blk_drewN ?_ _ | refine blk_drew ?_ | refine blk_alloc ?_ _)); exact BK331.out) hb); have n8_ := Aside0.mk (blk_below (g := gb336) (o := .cells #[.slice Ao23 t332.length co23] 33 (0, 0)) (by (with_reducible repeat (first | refine blk_drewN ?_ _ | refine blk_drew ?_ | refine blk_alloc ?_ _)); exact BK336.out) hb); have n9_ := Aside0.mk (blk_below (g := gb341) (o := .cells #[.slice Ao31 t337.length co31] 33 (0, 0)) (by (with_reducible repeat (first | refine blk_drewN ?_ _ | refine blk_drew ?_ | refine blk_alloc ?_ _)); exact BK341.out) hb); have n10_ := Aside0.mk (blk_below (g := gb346) (o := .cells #[.slice Ao40 t342.length co40] 33 (0, 0)) (by (with_reducible repeat (first | refine blk_drewN ?_ _ | refine blk_drew ?_ | refine blk_alloc ?_ _)); exact BK346.out) hb); have n11_ := Aside0.mk (blk_below (g := gb386) (o := .cells #[.slice Ao128 t382.length co128] 33 (0, 0)) (by (with_reducible repeat (first | refine blk_drewN ?_ _ | refine blk_drew ?_ | refine blk_alloc ?_ _)); exact BK386.out) hb); have n12_ := Aside0.mk (below_step (by repeat (first | (with_reducible first | exact HB.out | apply below_alloc | apply pw_below_drewN | apply below_drew1 | refine below_set ?_ GE330.out | refine below_set ?_ GE331.out | refine below_set ?_ GE336.out | refine below_set ?_ GE341.out | refine below_set ?_ GE346.out | refine below_set ?_ GE386.out) | exact HB.out)) hb); clear HO_331000 HO_332000 HO_337000 HO_342000 HO_347000 HO_387000 BK330 BK331 BK336 BK341 BK346 BK386 HB; have HO_331000 := n0_; have HO_332000 := n1_; have HO_337000 := n2_; have HO_342000 := n3_; have HO_347000 := n4_; have HO_387000 := n5_; have BK330 := n6_; have BK331 := n7_; have BK336 := n8_; have BK341 := n9_
                        have BK346 := n10_; have BK386 := n11_; have HB := n12_; clear n0_ n1_ n2_ n3_ n4_ n5_ n6_ n7_ n8_ n9_ n10_ n11_ n12_; (try clear hb); (try clear hb2); (try clear hk); (try clear hi)
                        refine hK.out _ _ ⟨(blk_cell BK386.out 0).trans rfl, (blk_cell BK330.out 0).trans rfl, (blk_cell BK331.out 0).trans rfl⟩ (fun hHeld => ?_)
                        clear hK K
                        refine norm_ (a' := ?_) ?_ ?_
                        rotate_left
                        · show Act.put _ (some 127) _ = _
                          simp only [Act.put, List.setIfInBounds_toArray, List.set_cons_zero, List.set_cons_succ, i64_w, i32_w]
                          rfl
                        refine pure_ (i := 12) (N := some 128) (v := ?_) (a' := ?_) (tfs true [13, 2]).toArray rfl rfl (any_of HT_.out (by kernel_rfl)) (fun _ _ _ h => h) (Or.inl ⟨by rfl, ?_⟩) ?_ ?_
                        rotate_left
                        · intro w'
                          go_simp
                          with_reducible rfl
                        rotate_left
                        · simp only [Act.put, List.setIfInBounds_toArray, List.set_cons_zero, List.set_cons_succ, i64_w, i32_w]
                          rfl
                        refine pure_ (i := 13) (N := some 129) (v := ?_) (a' := ?_) (tfs true [14, 1]).toArray rfl rfl (any_of HT_.out (by kernel_rfl)) (fun _ _ _ h => h) (Or.inl ⟨by rfl, ?_⟩) ?_ ?_
                        rotate_left
                        · intro w'
                          go_simp
                          with_reducible rfl
                        rotate_left
                        · simp only [Act.put, List.setIfInBounds_toArray, List.set_cons_zero, List.set_cons_succ, i64_w, i32_w]
                          rfl
                        refine pure_ (i := 14) (N := some 130) (v := ?_) (a' := ?_) (tfs true [15]).toArray rfl rfl (any_of HT_.out (by kernel_rfl)) (fun _ _ _ h => h) (Or.inl ⟨by rfl, ?_⟩) ?_ ?_
                        rotate_left
                        · intro w'
                          go_simp
                          with_reducible rfl
                        rotate_left
                        · simp only [Act.put, List.setIfInBounds_toArray, List.set_cons_zero, List.set_cons_succ, i64_w, i32_w]
                          rfl
                        refine done_ (done_of HT_.out (by kernel_rfl)) ?_
                        try go_wp2
                        go_roundg kj135
                        case measure => have := HJ9.out; have := HK2.out; have := HJ135.out; omega
                        case rel => exact ⟨(x15_135), (wrap64 (x16_2 + 1)), (by first | rfl | (simp; done) | (simp [*]; done)), (by first | rfl | (simp; done) | (simp [*]; done)), H', ⟨by have := HJ9.out; have := HK2.out; have := HJ135.out; omega⟩, ⟨by (with_reducible repeat (first | apply Kd.R_alloc | apply Kd.R_drewN | apply Kd.R_drew)); exact HO_331000.out⟩, ⟨by (with_reducible repeat (first | apply Kd.R_alloc | apply Kd.R_drewN | apply Kd.R_drew)); exact HO_332000.out⟩, ⟨by (with_reducible repeat (first | apply Kd.R_alloc | apply Kd.R_drewN | apply Kd.R_drew)); exact HO_337000.out⟩, ⟨by (with_reducible repeat (first | apply Kd.R_alloc | apply Kd.R_drewN | apply Kd.R_drew)); exact HO_342000.out⟩, ⟨by (with_reducible repeat (first | apply Kd.R_alloc | apply Kd.R_drewN | apply Kd.R_drew)); exact HO_347000.out⟩, ⟨by (with_reducible repeat (first | apply Kd.R_alloc | apply Kd.R_drewN | apply Kd.R_drew)); exact HO_387000.out⟩, ⟨by (with_reducible repeat (first | refine blk_drewN ?_ _ | refine blk_drew ?_ | refine blk_alloc ?_ _)); exact BK330.out⟩, ⟨by (with_reducible repeat (first | refine blk_drewN ?_ _ | refine blk_drew ?_ | refine blk_alloc ?_ _)); exact BK331.out⟩, ⟨by (with_reducible repeat (first | refine blk_drewN ?_ _ | refine blk_drew ?_ | refine blk_alloc ?_ _)); exact BK336.out⟩, ⟨by (with_reducible repeat (first | refine blk_drewN ?_ _ | refine blk_drew ?_ | refine blk_alloc ?_ _)); exact BK341.out⟩, ⟨by (with_reducible repeat (first | refine blk_drewN ?_ _ | refine blk_drew ?_ | refine blk_alloc ?_ _)); exact BK346.out⟩, ⟨by (with_reducible repeat (first | refine blk_drewN ?_ _ | refine blk_drew ?_ | refine blk_alloc ?_ _)); exact BK386.out⟩, ⟨by repeat (first | (with_reducible first | exact HB.out | apply below_alloc | apply pw_below_drewN | apply below_drew1 | refine below_set ?_ GE330.out | refine below_set ?_ GE331.out | refine below_set ?_ GE336.out | refine below_set ?_ GE341.out | refine below_set ?_ GE346.out | refine below_set ?_ GE386.out) | exact HB.out)⟩⟩
                      · rw [if_neg c148] at H
                        have c148b0 : (t390 == (wrap64 (t391 - t392))) = false := beq_eq_false_iff_ne.mpr c148
                        have c148b1 : (t390 != (wrap64 (t391 - t392))) = true := bne_iff_ne.mpr c148
                        exact absurd (H.trans (congrArg some hr_)) (by decide)
                    · rw [if_neg c144] at H
                      have c144b0 : (t385 == 0) = false := beq_eq_false_iff_ne.mpr c144
                      have c144b1 : (t385 != 0) = true := bne_iff_ne.mpr c144
                      have H' := Aside0.mk H; clear H
                      try go_wp2
                      have n0_ := Aside0.mk (Kd.R_drew HO_331000.out); have n1_ := Aside0.mk (Kd.R_drew HO_332000.out); have n2_ := Aside0.mk (Kd.R_drew HO_337000.out); have n3_ := Aside0.mk (Kd.R_drew HO_342000.out); have n4_ := Aside0.mk (Kd.R_drew HO_347000.out); have n5_ := Aside0.mk (Kd.R_drew HO_387000.out); have n6_ := Aside0.mk (blk_drew BK330.out); have n7_ := Aside0.mk (blk_drew BK331.out); have n8_ := Aside0.mk (blk_drew BK336.out); have n9_ := Aside0.mk (blk_drew BK341.out); have n10_ := Aside0.mk (blk_drew BK346.out); have n11_ := Aside0.mk (blk_drew BK386.out); have n12_ := Aside0.mk (below_drew1 HB.out); clear HO_331000 HO_332000 HO_337000 HO_342000 HO_347000 HO_387000 BK330 BK331 BK336 BK341 BK346 BK386 HB; have HO_331000 := n0_; have HO_332000 := n1_; have HO_337000 := n2_; have HO_342000 := n3_; have HO_347000 := n4_; have HO_387000 := n5_; have BK330 := n6_; have BK331 := n7_; have BK336 := n8_; have BK341 := n9_; have BK346 := n10_; have BK386 := n11_; have HB := n12_; clear n0_ n1_ n2_ n3_ n4_ n5_ n6_ n7_ n8_ n9_ n10_ n11_ n12_
                      refine start_ (n := 15) (S := fun w' => True) (ds := []) (tfs true [0, 15]).toArray (by kernel_rfl) rfl rfl trivial (fun hHeld => ?_); refine with_tabW sleuthlaw21_HistogramMerges.tab15 sleuthlaw21_HistogramMerges.bits15 (fun HT_ HW_ => ?_)
                      generalize wc.drew = w153 at HO_331000 HO_332000 HO_337000 HO_342000 HO_347000 HO_387000 BK330 BK331 BK336 BK341 BK346 BK386 HB hHeld ⊢
                      refine pure_ (i := 0) (N := some 116) (v := ?_) (a' := ?_) (tfs true [1, 14]).toArray rfl rfl (any_of HT_.out (by kernel_rfl)) (fun _ _ _ h => h) (Or.inl ⟨by rfl, ?_⟩) ?_ ?_
                      rotate_left
                      · intro w'
                        go_simp
                        with_reducible rfl
                      rotate_left
                      · simp only [Act.put, List.setIfInBounds_toArray, List.set_cons_zero, List.set_cons_succ, i64_w, i32_w]
                        rfl
                      refine pure_ (i := 1) (N := some 117) (v := ?_) (a' := ?_) (tfs true [2, 13]).toArray rfl rfl (any_of HT_.out (by kernel_rfl)) (fun _ _ _ h => h) (Or.inl ⟨by rfl, ?_⟩) ?_ ?_
                      rotate_left
                      · intro w'
                        go_simp
                        with_reducible rfl
                      rotate_left
                      · simp only [Act.put, List.setIfInBounds_toArray, List.set_cons_zero, List.set_cons_succ, i64_w, i32_w]
                        rfl
                      refine pure_ (i := 2) (N := some 118) (v := ?_) (a' := ?_) (tfs true [3, 12]).toArray rfl rfl (any_of HT_.out (by kernel_rfl)) (fun _ _ _ h => h) (Or.inl ⟨by rfl, ?_⟩) ?_ ?_
                      rotate_left
                      · intro w'
                        go_simp
                        with_reducible rfl
                      rotate_left
                      · simp only [Act.put, List.setIfInBounds_toArray, List.set_cons_zero, List.set_cons_succ, i64_w, i32_w]
                        rfl
                      refine pure_ (i := 3) (N := some 119) (v := undef) (a' := ?_) (tfs true [4, 11]).toArray rfl rfl (any_of HT_.out (by kernel_rfl)) (fun _ _ _ h => h) (Or.inr ⟨by rfl, rfl⟩) ?_ ?_
                      rotate_left
                      · simp only [Act.put, List.setIfInBounds_toArray, List.set_cons_zero, List.set_cons_succ, i64_w, i32_w]
                        rfl
                      refine pure_ (i := 4) (N := some 120) (v := undef) (a' := ?_) (tfs true [5, 10]).toArray rfl rfl (any_of HT_.out (by kernel_rfl)) (fun _ _ _ h => h) (Or.inr ⟨by rfl, rfl⟩) ?_ ?_
                      rotate_left
                      · simp only [Act.put, List.setIfInBounds_toArray, List.set_cons_zero, List.set_cons_succ, i64_w, i32_w]
                        rfl
                      refine pure_ (i := 5) (N := some 121) (v := undef) (a' := ?_) (tfs true [6, 9]).toArray rfl rfl (any_of HT_.out (by kernel_rfl)) (fun _ _ _ h => h) (Or.inr ⟨by rfl, rfl⟩) ?_ ?_
                      rotate_left
                      · simp only [Act.put, List.setIfInBounds_toArray, List.set_cons_zero, List.set_cons_succ, i64_w, i32_w]
                        rfl
                      refine pure_ (i := 6) (N := some 122) (v := undef) (a' := ?_) (tfs true [7, 8]).toArray rfl rfl (any_of HT_.out (by kernel_rfl)) (fun _ _ _ h => h) (Or.inr ⟨by rfl, rfl⟩) ?_ ?_
                      rotate_left
                      · simp only [Act.put, List.setIfInBounds_toArray, List.set_cons_zero, List.set_cons_succ, i64_w, i32_w]
                        rfl
                      refine pure_ (i := 7) (N := some 123) (v := undef) (a' := ?_) (tfs true [8, 7]).toArray rfl rfl (any_of HT_.out (by kernel_rfl)) (fun _ _ _ h => h) (Or.inr ⟨by rfl, rfl⟩) ?_ ?_
                      rotate_left
                      · simp only [Act.put, List.setIfInBounds_toArray, List.set_cons_zero, List.set_cons_succ, i64_w, i32_w]
                        rfl
                      refine pure_ (i := 8) (N := some 124) (v := undef) (a' := ?_) (tfs true [9, 6]).toArray rfl rfl (any_of HT_.out (by kernel_rfl)) (fun _ _ _ h => h) (Or.inr ⟨by rfl, rfl⟩) ?_ ?_
                      rotate_left
                      · simp only [Act.put, List.setIfInBounds_toArray, List.set_cons_zero, List.set_cons_succ, i64_w, i32_w]
                        rfl
                      refine pure_ (i := 9) (N := some 125) (v := undef) (a' := ?_) (tfs true [10, 5]).toArray rfl rfl (any_of HT_.out (by kernel_rfl)) (fun _ _ _ h => h) (Or.inr ⟨by rfl, rfl⟩) ?_ ?_
                      rotate_left
                      · simp only [Act.put, List.setIfInBounds_toArray, List.set_cons_zero, List.set_cons_succ, i64_w, i32_w]
                        rfl
                      refine pure_ (i := 10) (N := some 126) (v := undef) (a' := ?_) (tfs true [11, 4]).toArray rfl rfl (any_of HT_.out (by kernel_rfl)) (fun _ _ _ h => h) (Or.inr ⟨by rfl, rfl⟩) ?_ ?_
                      rotate_left
                      · simp only [Act.put, List.setIfInBounds_toArray, List.set_cons_zero, List.set_cons_succ, i64_w, i32_w]
                        rfl
                      refine pure_ (i := 11) (N := some 127) (v := undef) (a' := ?_) (tfs true [12, 3]).toArray rfl rfl (any_of HT_.out (by kernel_rfl)) (fun _ _ _ h => h) (Or.inr ⟨by rfl, rfl⟩) ?_ ?_
                      rotate_left
                      · simp only [Act.put, List.setIfInBounds_toArray, List.set_cons_zero, List.set_cons_succ, i64_w, i32_w]
                        rfl
                      refine pure_ (i := 12) (N := some 128) (v := undef) (a' := ?_) (tfs true [13, 2]).toArray rfl rfl (any_of HT_.out (by kernel_rfl)) (fun _ _ _ h => h) (Or.inr ⟨by rfl, rfl⟩) ?_ ?_
                      rotate_left
                      · simp only [Act.put, List.setIfInBounds_toArray, List.set_cons_zero, List.set_cons_succ, i64_w, i32_w]
                        rfl
                      refine pure_ (i := 13) (N := some 129) (v := undef) (a' := ?_) (tfs true [14, 1]).toArray rfl rfl (any_of HT_.out (by kernel_rfl)) (fun _ _ _ h => h) (Or.inr ⟨by rfl, rfl⟩) ?_ ?_
                      rotate_left
                      · simp only [Act.put, List.setIfInBounds_toArray, List.set_cons_zero, List.set_cons_succ, i64_w, i32_w]
                        rfl
                      refine pure_ (i := 14) (N := some 130) (v := ?_) (a' := ?_) (tfs true [15]).toArray rfl rfl (any_of HT_.out (by kernel_rfl)) (fun _ _ _ h => h) (Or.inl ⟨by rfl, ?_⟩) ?_ ?_
                      rotate_left
                      · intro w'
                        go_simp
                        with_reducible rfl
                      rotate_left
                      · simp only [Act.put, List.setIfInBounds_toArray, List.set_cons_zero, List.set_cons_succ, i64_w, i32_w]
                        rfl
                      refine done_ (done_of HT_.out (by kernel_rfl)) ?_
                      try go_wp2
                      go_roundg kj135
                      case measure => have := HJ9.out; have := HK2.out; have := HJ135.out; omega
                      case rel => exact ⟨(x15_135), (wrap64 (x16_2 + 1)), (by first | rfl | (simp; done) | (simp [*]; done)), (by first | rfl | (simp; done) | (simp [*]; done)), H', ⟨by have := HJ9.out; have := HK2.out; have := HJ135.out; omega⟩, ⟨by (with_reducible repeat (first | apply Kd.R_alloc | apply Kd.R_drewN | apply Kd.R_drew)); exact HO_331000.out⟩, ⟨by (with_reducible repeat (first | apply Kd.R_alloc | apply Kd.R_drewN | apply Kd.R_drew)); exact HO_332000.out⟩, ⟨by (with_reducible repeat (first | apply Kd.R_alloc | apply Kd.R_drewN | apply Kd.R_drew)); exact HO_337000.out⟩, ⟨by (with_reducible repeat (first | apply Kd.R_alloc | apply Kd.R_drewN | apply Kd.R_drew)); exact HO_342000.out⟩, ⟨by (with_reducible repeat (first | apply Kd.R_alloc | apply Kd.R_drewN | apply Kd.R_drew)); exact HO_347000.out⟩, ⟨by (with_reducible repeat (first | apply Kd.R_alloc | apply Kd.R_drewN | apply Kd.R_drew)); exact HO_387000.out⟩, ⟨by (with_reducible repeat (first | refine blk_drewN ?_ _ | refine blk_drew ?_ | refine blk_alloc ?_ _)); exact BK330.out⟩, ⟨by (with_reducible repeat (first | refine blk_drewN ?_ _ | refine blk_drew ?_ | refine blk_alloc ?_ _)); exact BK331.out⟩, ⟨by (with_reducible repeat (first | refine blk_drewN ?_ _ | refine blk_drew ?_ | refine blk_alloc ?_ _)); exact BK336.out⟩, ⟨by (with_reducible repeat (first | refine blk_drewN ?_ _ | refine blk_drew ?_ | refine blk_alloc ?_ _)); exact BK341.out⟩, ⟨by (with_reducible repeat (first | refine blk_drewN ?_ _ | refine blk_drew ?_ | refine blk_alloc ?_ _)); exact BK346.out⟩, ⟨by (with_reducible repeat (first | refine blk_drewN ?_ _ | refine blk_drew ?_ | refine blk_alloc ?_ _)); exact BK386.out⟩, ⟨by repeat (first | (with_reducible first | exact HB.out | apply below_alloc | apply pw_below_drewN | apply below_drew1 | refine below_set ?_ GE330.out | refine below_set ?_ GE331.out | refine below_set ?_ GE336.out | refine below_set ?_ GE341.out | refine below_set ?_ GE346.out | refine below_set ?_ GE386.out) | exact HB.out)⟩⟩
              · rw [if_neg c135] at H
                have c135b0 : decide (x16_2 < 305) = false := decide_eq_false c135
                clear c135
                by_cases c154 : x15_2 = true
                · subst c154
                  (rw [if_pos rfl] at H)
                  by_cases c155 : t385 = 17
                  · rw [if_pos c155] at H
                    have c155b0 : (t385 == 17) = true := beq_iff_eq.mpr c155
                    have c155b1 : (t385 != 17) = false := bne_eq_false_iff_eq.mpr c155
                    clear c155
                    obtain rfl := Option.some.inj H
                    have hnb156 := NB386_330.out; have hnc156 := NB330_386.out; have hnb157 := NB386_331.out; have hnc157 := NB331_386.out; have hnb158 := NB386_336.out; have hnc158 := NB336_386.out; have hnb159 := NB386_341.out; have hnc159 := NB341_386.out; have hnb160 := NB386_346.out; have hnc160 := NB346_386.out
                    have hcz161_0 : wr.cell? ⟨gb386, 0, none⟩ = some (.slice Ao128 t382.length co128) := (blk_cell BK386.out 0).trans rfl
                    have hfz161_0 := blk_frozen BK386.out 0
                    go_wp2
                    go_ret
                    exact ⟨by first | rfl | (simp [errW_none, errW_some] <;> rfl) | (simp [*, errW_none, errW_some] <;> rfl), by repeat (first | (with_reducible first | exact HB.out | apply below_alloc | apply pw_below_drewN | apply below_drew1 | refine below_set ?_ GE330.out | refine below_set ?_ GE331.out | refine below_set ?_ GE336.out | refine below_set ?_ GE341.out | refine below_set ?_ GE346.out | refine below_set ?_ GE386.out) | exact HB.out)⟩
                  · rw [if_neg c155] at H
                    have c155b0 : (t385 == 17) = false := beq_eq_false_iff_ne.mpr c155
                    have c155b1 : (t385 != 17) = true := bne_iff_ne.mpr c155
                    exact absurd (H.trans (congrArg some hr_)) (by decide)
                · replace c154 := Bool.eq_false_iff.mpr c154
                  subst c154
                  have H1 : (if t385 = 0 then ((histogram_Check.f k2 t382).bind fun t387 => (some (t387 == 0))) else (some false)) = some r := by rw [if_neg (show ¬ (false = true) by decide)] at H; exact H
                  clear H; have H := H1; clear H1
                  by_cases c162 : t385 = 0
                  · rw [if_pos c162] at H
                    have c162b0 : (t385 == 0) = true := beq_iff_eq.mpr c162
                    have c162b1 : (t385 != 0) = false := bne_eq_false_iff_eq.mpr c162
                    clear c162; replace H := Option.bind_eq_some_iff.mp H; obtain ⟨t387, A1630, H⟩ := H
                    replace H : (some (t387 == 0)) = some r := H
                    have A163 := Aside0.mk A1630; clear A1630
                    obtain rfl := Option.some.inj H
                    have hnb164 := NB386_330.out; have hnc164 := NB330_386.out; have hnb165 := NB386_331.out; have hnc165 := NB331_386.out; have hnb166 := NB386_336.out; have hnc166 := NB336_386.out; have hnb167 := NB386_341.out; have hnc167 := NB341_386.out; have hnb168 := NB386_346.out; have hnc168 := NB346_386.out
                    have hcz169_0 : wr.cell? ⟨gb386, 0, none⟩ = some (.slice Ao128 t382.length co128) := (blk_cell BK386.out 0).trans rfl
                    have hfz169_0 := blk_frozen BK386.out 0
                    go_wp2_with (first | (go_at_call 24; (with_reducible refine (histogram_Check.calls k2 _ _ t382 t387 _ ?side1 ?side2 A163.out).mono ?_); (case side1 => repeat (first | exact (Kd.R_reads' HO_387000.out).2.2 | (with_reducible refine Kd.C_alloc ?_ _) | (with_reducible refine Kd.C_drewN ?_ _) | (with_reducible refine Kd.C_drew ?_))); (case side2 => exact (Kd.R_reads' HO_387000.out).2.1); rintro e w170 ⟨rfl, hb⟩; have n0_ := Aside0.mk (Kd.R_below (by (with_reducible repeat (first | apply Kd.R_alloc | apply Kd.R_drewN | apply Kd.R_drew)); exact HO_331000.out) hb); have n1_ := Aside0.mk (Kd.R_below (by (with_reducible repeat (first | apply Kd.R_alloc | apply Kd.R_drewN | apply Kd.R_drew)); exact HO_332000.out) hb); have n2_ := Aside0.mk (Kd.R_below (by (with_reducible repeat (first | apply Kd.R_alloc | apply Kd.R_drewN | apply Kd.R_drew)); exact HO_337000.out) hb); have n3_ := Aside0.mk (Kd.R_below (by (with_reducible repeat (first | apply Kd.R_alloc | apply Kd.R_drewN | apply Kd.R_drew)); exact HO_342000.out) hb); have n4_ := Aside0.mk (Kd.R_below (by (with_reducible repeat (first | apply Kd.R_alloc | apply Kd.R_drewN | apply Kd.R_drew)); exact HO_347000.out) hb); have n5_ := Aside0.mk (Kd.R_below (by (with_reducible repeat (first | apply Kd.R_alloc | apply Kd.R_drewN | apply Kd.R_drew)); exact HO_387000.out) hb); have n6_ := Aside0.mk (blk_below (g := gb330) (o := .cells #[.slice Ao16 t324.length co16] 33 (0, 0)) (by (with_reducible repeat (first | refine blk_drewN ?_ _ | refine blk_drew ?_ | refine blk_alloc ?_ _)); exact BK330.out) hb); have n7_ := Aside0.mk (blk_below (g := gb331) (o := .cells #[.slice Ao19 t327.length co19] 33 (0, 0)) (by (with_reducible repeat (first | refine blk_drewN ?_ _ | refine blk_drew ?_ | refine blk_alloc ?_ _)); exact BK331.out) hb); have n8_ := Aside0.mk (blk_below (g := gb336) (o := .cells #[.slice Ao23 t332.length co23] 33 (0, 0)) (by (with_reducible repeat (first | refine blk_drewN ?_ _ | refine blk_drew ?_ | refine blk_alloc ?_ _)); exact BK336.out) hb); have n9_ := Aside0.mk (blk_below (g := gb341) (o := .cells #[.slice Ao31 t337.length co31] 33 (0, 0)) (by (with_reducible repeat (first | refine blk_drewN ?_ _ | refine blk_drew ?_ | refine blk_alloc ?_ _)); exact BK341.out) hb); have n10_ := Aside0.mk (blk_below (g := gb346) (o := .cells #[.slice Ao40 t342.length co40] 33 (0, 0)) (by (with_reducible repeat (first | refine blk_drewN ?_ _ | refine blk_drew ?_ | refine blk_alloc ?_ _)); exact BK346.out) hb); have n11_ := Aside0.mk (blk_below (g := gb386) (o := .cells #[.slice Ao128 t382.length co128] 33 (0, 0)) (by (with_reducible repeat (first | refine blk_drewN ?_ _ | refine blk_drew ?_ | refine blk_alloc ?_ _)); exact BK386.out) hb); have n12_ := Aside0.mk (below_step (by repeat (first | (with_reducible first | exact HB.out | apply below_alloc | apply pw_below_drewN | apply below_drew1 | refine below_set ?_ GE330.out | refine below_set ?_ GE331.out | refine below_set ?_ GE336.out | refine below_set ?_ GE341.out | refine below_set ?_ GE346.out | refine below_set ?_ GE386.out) | exact HB.out)) hb); clear HO_331000; clear HO_332000; clear HO_337000; clear HO_342000; clear HO_347000; clear HO_387000; clear BK330; clear BK331; clear BK336; clear BK341; clear BK346; clear BK386; clear HB; have HO_331000 := n0_; have HO_332000 := n1_; have HO_337000 := n2_; have HO_342000 := n3_; have HO_347000 := n4_; have HO_387000 := n5_; have BK330 := n6_; have BK331 := n7_; have BK336 := n8_; have BK341 := n9_; have BK346 := n10_; have BK386 := n11_; have HB := n12_; clear n0_ n1_ n2_ n3_ n4_ n5_ n6_ n7_ n8_ n9_ n10_ n11_ n12_; (try clear hb); (try clear hb2); (try clear hk); (try clear hi)))
                    go_ret
                    exact ⟨by first | rfl | (simp [errW_none, errW_some] <;> rfl) | (simp [*, errW_none, errW_some] <;> rfl), by repeat (first | (with_reducible first | exact HB.out | apply below_alloc | apply pw_below_drewN | apply below_drew1 | refine below_set ?_ GE330.out | refine below_set ?_ GE331.out | refine below_set ?_ GE336.out | refine below_set ?_ GE341.out | refine below_set ?_ GE346.out | refine below_set ?_ GE386.out) | exact HB.out)⟩
                  · rw [if_neg c162] at H
                    have c162b0 : (t385 == 0) = false := beq_eq_false_iff_ne.mpr c162
                    have c162b1 : (t385 != 0) = true := bne_iff_ne.mpr c162
                    exact absurd (H.trans (congrArg some hr_)) (by decide)
  · replace c4 := Bool.eq_false_iff.mpr c4
    subst c4
    have H1 : (some false) = some r := by rw [if_neg (show ¬ (false = true) by decide)] at H; exact H
    clear H; have H := H1; clear H1
    exact absurd A3.out (sleuthlaw21_known.never _)

/-- THE ONE PURE STATEMENT of sleuthlaw21_HistogramMerges: yours. -/
def sleuthlaw21_HistogramMerges.Pure : Prop := ∀ (l0 : List Int) (l1 : List Int), l0.length ≤ maxLen → l0.length * 8 ≤ 140737488351232 → (∀ x ∈ l0, (Lit.int .i64 x).wf = true) → l1.length ≤ maxLen → l1.length * 8 ≤ 140737488351232 → (∀ x ∈ l1, (Lit.int .i64 x).wf = true) → ∃ k, sleuthlaw21_HistogramMerges.f k l0 l1 = some true
theorem sleuthlaw21_HistogramMerges.walk (P : sleuthlaw21_HistogramMerges.Pure) (a0 : Option Addr) (len0 cap0 : Nat) (z0 : List Int) (a1 : Option Addr) (len1 cap1 : Nat) (z1 : List Int) (w : World) (w0 : (a0 = none ∧ len0 = 0 ∧ cap0 = 0 ∧ z0 = []) ∨ ∃ x, a0 = some x ∧ len0 ≤ cap0 ∧ cap0 ≤ maxLen ∧ z0.length = cap0 ∧ (∀ i, i < z0.length → w.cell? (x.add i) = some (.int .i64 (z0.getD i 0))) ∧ ∀ n ∈ z0, (Lit.int .i64 n).wf = true) (y0 : len0 * 8 ≤ 140737488351232) (w1 : (a1 = none ∧ len1 = 0 ∧ cap1 = 0 ∧ z1 = []) ∨ ∃ x, a1 = some x ∧ len1 ≤ cap1 ∧ cap1 ≤ maxLen ∧ z1.length = cap1 ∧ (∀ i, i < z1.length → w.cell? (x.add i) = some (.int .i64 (z1.getD i 0))) ∧ ∀ n ∈ z1, (Lit.int .i64 n).wf = true) (y1 : len1 * 8 ≤ 140737488351232) :
    Calls Try.prog 10 #[.slice a0 len0 cap0, .slice a1 len1 cap1] w fun e w' => e = .returned (.bool true) ∧ Below w.heap.size w w' := by
  obtain ⟨l0, rfl, hr0, hm0, hw0, hc0⟩ := ReadsInt.ofRowC w0; obtain ⟨l1, rfl, hr1, hm1, hw1, hc1⟩ := ReadsInt.ofRowC w1; obtain ⟨k, h⟩ := P l0 l1 hm0 y0 hw0 hm1 y1 hw1
  refine (sleuthlaw21_HistogramMerges.calls k _ _ l0 _ _ l1 true w (Kd.C_of_reads (d := (0 : Int)) (h1 := fun _ => rfl) hr0) hc0 (Kd.C_of_reads (d := (0 : Int)) (h1 := fun _ => rfl) hr1) hc1 h rfl).mono ?_
  rintro e w' ⟨rfl, hd⟩
  exact ⟨rfl, hd⟩

end Go.Proofs.Ytfnhicmjdfeanaa.PH
