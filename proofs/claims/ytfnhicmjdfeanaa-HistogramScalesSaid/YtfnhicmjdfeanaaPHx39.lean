-- Written by a program of this session (gprint.py) out of Lean's own print of the program. Lean checks it.
import Derived.Test.YtfnhicmjdfeanaaPHx0
import Derived.Test.YtfnhicmjdfeanaaPHx5
import Derived.Test.YtfnhicmjdfeanaaPHx17
import Derived.Test.YtfnhicmjdfeanaaPHx23
import Derived.Test.YtfnhicmjdfeanaaPHx27
import Derived.Test.YtfnhicmjdfeanaaPHx33
import Derived.Test.YtfnhicmjdfeanaaPHx34
import Derived.Test.YtfnhicmjdfeanaaPHx36
import Derived.Test.YtfnhicmjdfeanaaPHx37
import Derived.Test.YtfnhicmjdfeanaaPHx38
namespace Go.Proofs.Ytfnhicmjdfeanaa.PH
open Go.RowKit Go.Proofs.YtfnhicmjdfeanaaW.PrintWords Go.Proofs.YtfnhicmjdfeanaaW.PrintLast Go.Proofs.YtfnhicmjdfeanaaW.PrintMore
attribute [local go_sem] max2_int min2_int max_two min_two max_three min_three max_four min_four   -- for this text's walks alone
set_option linter.unusedVariables false
set_option linter.unusedSimpArgs false

/-! ### sleuthlaw21_HistogramScales: function 11 -/
mutual
def sleuthlaw21_HistogramScales.j0 : Nat → Int → Int → Int → Bool → List (S67) → List (S67) → Option (Bool)
  | 0, _, _, _, _, _, _ => none
  | k + 1, x1, x6, x8, x57, x398000, x404000 => if x57 = true then (some false) else (if x1 < 0 then (if x8 = 2 then (some ((x404000.length : Int) == 0)) else (some false)) else (if x6 > 0 then (if x6 = 0 then (none) else (if x1 > (wrap64 ((1048576 : Int) / x6)) then (if x8 = 20 then (some ((x404000.length : Int) == 0)) else (some false)) else (sleuthlaw21_HistogramScales.j1 k x1 x6 x8 x398000 x404000))) else (sleuthlaw21_HistogramScales.j1 k x1 x6 x8 x398000 x404000)))
def sleuthlaw21_HistogramScales.j1 : Nat → Int → Int → Int → List (S67) → List (S67) → Option (Bool)
  | 0, _, _, _, _, _ => none
  | k + 1, x1, x6, x8, x398000, x404000 => sleuthlaw21_HistogramScales.l0 k x1 x6 x8 0 x398000 x404000
def sleuthlaw21_HistogramScales.l0 : Nat → Int → Int → Int → Int → List (S67) → List (S67) → Option (Bool)
  | 0, _, _, _, _, _, _ => none
  | k + 1, x1, x6, x8, x13, x398000, x404000 => if x13 < 305 then ((sleuthlaw21_at.f k x404000 x13).bind fun t414 => ((sleuthlaw21_at.f k x398000 x13).bind fun t415 => (if t414 = (wrap64 (t415 * x1)) then (sleuthlaw21_HistogramScales.l0 k x1 x6 x8 (wrap64 (x13 + 1)) x398000 x404000) else (some false)))) else ((histogram_Merge.f k x398000 x398000).bind fun bt416 => ((histogram_Scale.f k x398000 2).bind fun bt421 => (if x8 = 0 then ((histogram_Check.f k x404000).bind fun t426 => (if t426 = 0 then (if bt416.2 = 0 then (if bt421.2 = 0 then ((histogram_Equal.f k bt416.1 bt421.1).bind fun t427 => (if t427 = true then (if x6 > 0 then (some true) else (some ((x404000.length : Int) == 0))) else (some false))) else (some false)) else (some false)) else (some false))) else (some false))))
end
def sleuthlaw21_HistogramScales.f (k : Nat) (l0 : List Int) (a1 : Int) : Option (Bool) := (sleuthlaw21_known.f k).bind fun t393 => (if t393 = true then ((sleuthlaw21_of.f k l0).bind fun t394 => ((histogram_Total.f k t394).bind fun t398 => ((histogram_Scale.f k t394 a1).bind fun bt399 => ((histogram_Add.f k ([] : List (S67)) 7 1048576).bind fun bt404 => ((histogram_Merge.f k bt404.1 t394).bind fun bt409 => (if bt404.2 = 0 then (if ((bt409.2 == 0) != (t398 == 0)) = true then (sleuthlaw21_HistogramScales.j0 k a1 t398 bt399.2 true t394 bt399.1) else (if bt409.2 = 0 then (sleuthlaw21_HistogramScales.j0 k a1 t398 bt399.2 false t394 bt399.1) else (sleuthlaw21_HistogramScales.j0 k a1 t398 bt399.2 (bt409.2 != 20) t394 bt399.1))) else (sleuthlaw21_HistogramScales.j0 k a1 t398 bt399.2 true t394 bt399.1))))))) else (some false))
theorem sleuthlaw21_HistogramScales.mono_l : ∀ k, (∀ y0 y1 y2 y3 y4 y5, LeO (sleuthlaw21_HistogramScales.j0 k y0 y1 y2 y3 y4 y5) (sleuthlaw21_HistogramScales.j0 (k + 1) y0 y1 y2 y3 y4 y5)) ∧ (∀ y0 y1 y2 y3 y4, LeO (sleuthlaw21_HistogramScales.j1 k y0 y1 y2 y3 y4) (sleuthlaw21_HistogramScales.j1 (k + 1) y0 y1 y2 y3 y4)) ∧ (∀ y0 y1 y2 y3 y4 y5, LeO (sleuthlaw21_HistogramScales.l0 k y0 y1 y2 y3 y4 y5) (sleuthlaw21_HistogramScales.l0 (k + 1) y0 y1 y2 y3 y4 y5))
  | 0 => ⟨fun _ _ _ _ _ _ r h => by simp [sleuthlaw21_HistogramScales.j0] at h, fun _ _ _ _ _ r h => by simp [sleuthlaw21_HistogramScales.j1] at h, fun _ _ _ _ _ _ r h => by simp [sleuthlaw21_HistogramScales.l0] at h⟩
  | k + 1 => by
    obtain ⟨ih0, ih1, ih2⟩ := sleuthlaw21_HistogramScales.mono_l k
    refine ⟨?_, ?_, ?_⟩
    · intro y0 y1 y2 y3 y4 y5
      unfold sleuthlaw21_HistogramScales.j0
      repeat' first
      | (with_reducible exact ih0 _ _ _ _ _ _)
      | (with_reducible exact ih1 _ _ _ _ _)
      | (with_reducible exact ih2 _ _ _ _ _ _)
      | (with_reducible exact histogram_Add.mono _ _ _ _)
      | (with_reducible exact histogram_Check.mono _ _)
      | (with_reducible exact histogram_Equal.mono _ _ _)
      | (with_reducible exact histogram_Merge.mono _ _ _)
      | (with_reducible exact histogram_Scale.mono _ _ _)
      | (with_reducible exact histogram_Total.mono _ _)
      | (with_reducible exact sleuthlaw21_at.mono _ _ _)
      | (with_reducible exact sleuthlaw21_known.mono _)
      | (with_reducible exact sleuthlaw21_of.mono _ _)
      | (with_reducible exact LeO.refl _)
      | (with_reducible exact LeO.none _)
      | (with_reducible refine LeO.ite ?_ ?_)
      | (with_reducible refine LeO.bind ?_ (fun _ => ?_))
      | exact ih0 _ _ _ _ _ _
      | exact ih1 _ _ _ _ _
      | exact ih2 _ _ _ _ _ _
      | exact histogram_Add.mono _ _ _ _
      | exact histogram_Check.mono _ _
      | exact histogram_Equal.mono _ _ _
      | exact histogram_Merge.mono _ _ _
      | exact histogram_Scale.mono _ _ _
      | exact histogram_Total.mono _ _
      | exact sleuthlaw21_at.mono _ _ _
      | exact sleuthlaw21_known.mono _
      | exact sleuthlaw21_of.mono _ _
      | exact LeO.none _
      | refine LeO.ite ?_ ?_
      | refine LeO.bind ?_ (fun _ => ?_)
    · intro y0 y1 y2 y3 y4
      unfold sleuthlaw21_HistogramScales.j1
      repeat' first
      | (with_reducible exact ih0 _ _ _ _ _ _)
      | (with_reducible exact ih1 _ _ _ _ _)
      | (with_reducible exact ih2 _ _ _ _ _ _)
      | (with_reducible exact histogram_Add.mono _ _ _ _)
      | (with_reducible exact histogram_Check.mono _ _)
      | (with_reducible exact histogram_Equal.mono _ _ _)
      | (with_reducible exact histogram_Merge.mono _ _ _)
      | (with_reducible exact histogram_Scale.mono _ _ _)
      | (with_reducible exact histogram_Total.mono _ _)
      | (with_reducible exact sleuthlaw21_at.mono _ _ _)
      | (with_reducible exact sleuthlaw21_known.mono _)
      | (with_reducible exact sleuthlaw21_of.mono _ _)
      | (with_reducible exact LeO.refl _)
      | (with_reducible exact LeO.none _)
      | (with_reducible refine LeO.ite ?_ ?_)
      | (with_reducible refine LeO.bind ?_ (fun _ => ?_))
      | exact ih0 _ _ _ _ _ _
      | exact ih1 _ _ _ _ _
      | exact ih2 _ _ _ _ _ _
      | exact histogram_Add.mono _ _ _ _
      | exact histogram_Check.mono _ _
      | exact histogram_Equal.mono _ _ _
      | exact histogram_Merge.mono _ _ _
      | exact histogram_Scale.mono _ _ _
      | exact histogram_Total.mono _ _
      | exact sleuthlaw21_at.mono _ _ _
      | exact sleuthlaw21_known.mono _
      | exact sleuthlaw21_of.mono _ _
      | exact LeO.none _
      | refine LeO.ite ?_ ?_
      | refine LeO.bind ?_ (fun _ => ?_)
    · intro y0 y1 y2 y3 y4 y5
      unfold sleuthlaw21_HistogramScales.l0
      repeat' first
      | (with_reducible exact ih0 _ _ _ _ _ _)
      | (with_reducible exact ih1 _ _ _ _ _)
      | (with_reducible exact ih2 _ _ _ _ _ _)
      | (with_reducible exact histogram_Add.mono _ _ _ _)
      | (with_reducible exact histogram_Check.mono _ _)
      | (with_reducible exact histogram_Equal.mono _ _ _)
      | (with_reducible exact histogram_Merge.mono _ _ _)
      | (with_reducible exact histogram_Scale.mono _ _ _)
      | (with_reducible exact histogram_Total.mono _ _)
      | (with_reducible exact sleuthlaw21_at.mono _ _ _)
      | (with_reducible exact sleuthlaw21_known.mono _)
      | (with_reducible exact sleuthlaw21_of.mono _ _)
      | (with_reducible exact LeO.refl _)
      | (with_reducible exact LeO.none _)
      | (with_reducible refine LeO.ite ?_ ?_)
      | (with_reducible refine LeO.bind ?_ (fun _ => ?_))
      | exact ih0 _ _ _ _ _ _
      | exact ih1 _ _ _ _ _
      | exact ih2 _ _ _ _ _ _
      | exact histogram_Add.mono _ _ _ _
      | exact histogram_Check.mono _ _
      | exact histogram_Equal.mono _ _ _
      | exact histogram_Merge.mono _ _ _
      | exact histogram_Scale.mono _ _ _
      | exact histogram_Total.mono _ _
      | exact sleuthlaw21_at.mono _ _ _
      | exact sleuthlaw21_known.mono _
      | exact sleuthlaw21_of.mono _ _
      | exact LeO.none _
      | refine LeO.ite ?_ ?_
      | refine LeO.bind ?_ (fun _ => ?_)
theorem sleuthlaw21_HistogramScales.mono : ∀ a0 a1 k, LeO (sleuthlaw21_HistogramScales.f k a0 a1) (sleuthlaw21_HistogramScales.f (k + 1) a0 a1) := by
  intro a0 a1 k
  obtain ⟨ih0, ih1, ih2⟩ := sleuthlaw21_HistogramScales.mono_l k
  unfold sleuthlaw21_HistogramScales.f
  repeat' first
      | (with_reducible exact ih0 _ _ _ _ _ _)
      | (with_reducible exact ih1 _ _ _ _ _)
      | (with_reducible exact ih2 _ _ _ _ _ _)
      | (with_reducible exact histogram_Add.mono _ _ _ _)
      | (with_reducible exact histogram_Check.mono _ _)
      | (with_reducible exact histogram_Equal.mono _ _ _)
      | (with_reducible exact histogram_Merge.mono _ _ _)
      | (with_reducible exact histogram_Scale.mono _ _ _)
      | (with_reducible exact histogram_Total.mono _ _)
      | (with_reducible exact sleuthlaw21_at.mono _ _ _)
      | (with_reducible exact sleuthlaw21_known.mono _)
      | (with_reducible exact sleuthlaw21_of.mono _ _)
      | (with_reducible exact LeO.refl _)
      | (with_reducible exact LeO.none _)
      | (with_reducible refine LeO.ite ?_ ?_)
      | (with_reducible refine LeO.bind ?_ (fun _ => ?_))
      | exact ih0 _ _ _ _ _ _
      | exact ih1 _ _ _ _ _
      | exact ih2 _ _ _ _ _ _
      | exact histogram_Add.mono _ _ _ _
      | exact histogram_Check.mono _ _
      | exact histogram_Equal.mono _ _ _
      | exact histogram_Merge.mono _ _ _
      | exact histogram_Scale.mono _ _ _
      | exact histogram_Total.mono _ _
      | exact sleuthlaw21_at.mono _ _ _
      | exact sleuthlaw21_known.mono _
      | exact sleuthlaw21_of.mono _ _
      | exact LeO.none _
      | refine LeO.ite ?_ ?_
      | refine LeO.bind ?_ (fun _ => ?_)
def sleuthlaw21_HistogramScales.T17 : Bool × List (List Nat × List Nat) := (true, [([], []), ([], []), ([0, 1], [0, 1]), ([], []), ([], []), ([3, 4, 2], [3, 4]), ([], []), ([5, 6], [5, 6]), ([2, 7], [2, 7])])
def sleuthlaw21_HistogramScales.B17 : List Nat := [0, 0, 3, 0, 0, 31, 0, 127, 255]
theorem sleuthlaw21_HistogramScales.tab17 : rtab .any (opsOf Try.f11 17) = sleuthlaw21_HistogramScales.T17 := by kernel_rfl
theorem sleuthlaw21_HistogramScales.bits17 : waitsOk sleuthlaw21_HistogramScales.T17.2 sleuthlaw21_HistogramScales.B17 = true := by kernel_rfl
set_option maxHeartbeats 8000000 in
set_option maxRecDepth 100000 in
theorem sleuthlaw21_HistogramScales.calls (k : Nat) (A0 : Option Addr) (c0 : Nat) (l0 : List Int) (a1 : Int) (r : Bool) (w : World) (hr0 : Kd.C (Kd.int .i64) w A0 l0.length l0) (hc0 : l0.length ≤ c0) (h : sleuthlaw21_HistogramScales.f k l0 a1 = some r) (hr_ : r = true) :
    Calls Try.prog 11 #[.slice A0 l0.length c0, .int .i64 a1] w fun e w' => e = .returned (.bool r) ∧ Below w.heap.size w w' := by
  have hu33 := Try.underlying33
  have HR0 := Aside0.mk hr0
  have HC0 := Aside0.mk hc0
  clear hr0 hc0
  have HB := Aside0.mk (Below.refl w.heap.size w)
  have H : ((sleuthlaw21_known.f k).bind fun t393 => (if t393 = true then ((sleuthlaw21_of.f k l0).bind fun t394 => ((histogram_Total.f k t394).bind fun t398 => ((histogram_Scale.f k t394 a1).bind fun bt399 => ((histogram_Add.f k ([] : List (S67)) 7 1048576).bind fun bt404 => ((histogram_Merge.f k bt404.1 t394).bind fun bt409 => (if bt404.2 = 0 then (if ((bt409.2 == 0) != (t398 == 0)) = true then (sleuthlaw21_HistogramScales.j0 k a1 t398 bt399.2 true t394 bt399.1) else (if bt409.2 = 0 then (sleuthlaw21_HistogramScales.j0 k a1 t398 bt399.2 false t394 bt399.1) else (sleuthlaw21_HistogramScales.j0 k a1 t398 bt399.2 (bt409.2 != 20) t394 bt399.1))) else (sleuthlaw21_HistogramScales.j0 k a1 t398 bt399.2 true t394 bt399.1))))))) else (some false))) = some r := h
  clear h
  replace H := Option.bind_eq_some_iff.mp H
  obtain ⟨t393, A30, H⟩ := H
  replace H : (if t393 = true then ((sleuthlaw21_of.f k l0).bind fun t394 => ((histogram_Total.f k t394).bind fun t398 => ((histogram_Scale.f k t394 a1).bind fun bt399 => ((histogram_Add.f k ([] : List (S67)) 7 1048576).bind fun bt404 => ((histogram_Merge.f k bt404.1 t394).bind fun bt409 => (if bt404.2 = 0 then (if ((bt409.2 == 0) != (t398 == 0)) = true then (sleuthlaw21_HistogramScales.j0 k a1 t398 bt399.2 true t394 bt399.1) else (if bt409.2 = 0 then (sleuthlaw21_HistogramScales.j0 k a1 t398 bt399.2 false t394 bt399.1) else (sleuthlaw21_HistogramScales.j0 k a1 t398 bt399.2 (bt409.2 != 20) t394 bt399.1))) else (sleuthlaw21_HistogramScales.j0 k a1 t398 bt399.2 true t394 bt399.1))))))) else (some false)) = some r := H
  have A3 := Aside0.mk A30
  clear A30
  by_cases c4 : t393 = true
  · subst c4
    have H1 : ((sleuthlaw21_of.f k l0).bind fun t394 => ((histogram_Total.f k t394).bind fun t398 => ((histogram_Scale.f k t394 a1).bind fun bt399 => ((histogram_Add.f k ([] : List (S67)) 7 1048576).bind fun bt404 => ((histogram_Merge.f k bt404.1 t394).bind fun bt409 => (if bt404.2 = 0 then (if ((bt409.2 == 0) != (t398 == 0)) = true then (sleuthlaw21_HistogramScales.j0 k a1 t398 bt399.2 true t394 bt399.1) else (if bt409.2 = 0 then (sleuthlaw21_HistogramScales.j0 k a1 t398 bt399.2 false t394 bt399.1) else (sleuthlaw21_HistogramScales.j0 k a1 t398 bt399.2 (bt409.2 != 20) t394 bt399.1))) else (sleuthlaw21_HistogramScales.j0 k a1 t398 bt399.2 true t394 bt399.1))))))) = some r := by rw [if_pos rfl] at H; exact H
    clear H
    have H := H1
    clear H1
    replace H := Option.bind_eq_some_iff.mp H
    obtain ⟨t394, A50, H⟩ := H
    replace H : ((histogram_Total.f k t394).bind fun t398 => ((histogram_Scale.f k t394 a1).bind fun bt399 => ((histogram_Add.f k ([] : List (S67)) 7 1048576).bind fun bt404 => ((histogram_Merge.f k bt404.1 t394).bind fun bt409 => (if bt404.2 = 0 then (if ((bt409.2 == 0) != (t398 == 0)) = true then (sleuthlaw21_HistogramScales.j0 k a1 t398 bt399.2 true t394 bt399.1) else (if bt409.2 = 0 then (sleuthlaw21_HistogramScales.j0 k a1 t398 bt399.2 false t394 bt399.1) else (sleuthlaw21_HistogramScales.j0 k a1 t398 bt399.2 (bt409.2 != 20) t394 bt399.1))) else (sleuthlaw21_HistogramScales.j0 k a1 t398 bt399.2 true t394 bt399.1)))))) = some r := H
    have A5 := Aside0.mk A50
    clear A50
    replace H := Option.bind_eq_some_iff.mp H
    obtain ⟨t398, A60, H⟩ := H
    replace H : ((histogram_Scale.f k t394 a1).bind fun bt399 => ((histogram_Add.f k ([] : List (S67)) 7 1048576).bind fun bt404 => ((histogram_Merge.f k bt404.1 t394).bind fun bt409 => (if bt404.2 = 0 then (if ((bt409.2 == 0) != (t398 == 0)) = true then (sleuthlaw21_HistogramScales.j0 k a1 t398 bt399.2 true t394 bt399.1) else (if bt409.2 = 0 then (sleuthlaw21_HistogramScales.j0 k a1 t398 bt399.2 false t394 bt399.1) else (sleuthlaw21_HistogramScales.j0 k a1 t398 bt399.2 (bt409.2 != 20) t394 bt399.1))) else (sleuthlaw21_HistogramScales.j0 k a1 t398 bt399.2 true t394 bt399.1))))) = some r := H
    have A6 := Aside0.mk A60
    clear A60
    replace H := Option.bind_eq_some_iff.mp H
    obtain ⟨⟨t399, t402⟩, A70, H⟩ := H
    replace H : ((histogram_Add.f k ([] : List (S67)) 7 1048576).bind fun bt404 => ((histogram_Merge.f k bt404.1 t394).bind fun bt409 => (if bt404.2 = 0 then (if ((bt409.2 == 0) != (t398 == 0)) = true then (sleuthlaw21_HistogramScales.j0 k a1 t398 t402 true t394 t399) else (if bt409.2 = 0 then (sleuthlaw21_HistogramScales.j0 k a1 t398 t402 false t394 t399) else (sleuthlaw21_HistogramScales.j0 k a1 t398 t402 (bt409.2 != 20) t394 t399))) else (sleuthlaw21_HistogramScales.j0 k a1 t398 t402 true t394 t399)))) = some r := H
    have A7 := Aside0.mk A70
    clear A70
    replace H := Option.bind_eq_some_iff.mp H
    obtain ⟨⟨t404, t407⟩, A80, H⟩ := H
    replace H : ((histogram_Merge.f k t404 t394).bind fun bt409 => (if t407 = 0 then (if ((bt409.2 == 0) != (t398 == 0)) = true then (sleuthlaw21_HistogramScales.j0 k a1 t398 t402 true t394 t399) else (if bt409.2 = 0 then (sleuthlaw21_HistogramScales.j0 k a1 t398 t402 false t394 t399) else (sleuthlaw21_HistogramScales.j0 k a1 t398 t402 (bt409.2 != 20) t394 t399))) else (sleuthlaw21_HistogramScales.j0 k a1 t398 t402 true t394 t399))) = some r := H
    have A8 := Aside0.mk A80
    clear A80
    replace H := Option.bind_eq_some_iff.mp H
    obtain ⟨⟨t409, t412⟩, A90, H⟩ := H
    replace H : (if t407 = 0 then (if ((t412 == 0) != (t398 == 0)) = true then (sleuthlaw21_HistogramScales.j0 k a1 t398 t402 true t394 t399) else (if t412 = 0 then (sleuthlaw21_HistogramScales.j0 k a1 t398 t402 false t394 t399) else (sleuthlaw21_HistogramScales.j0 k a1 t398 t402 (t412 != 20) t394 t399))) else (sleuthlaw21_HistogramScales.j0 k a1 t398 t402 true t394 t399)) = some r := H
    have A9 := Aside0.mk A90
    clear A90
    have HC10 := Aside0.mk H
    clear H
    go_enter Try.func11, Try.ntmps11
    go_upto_region 8 with (first | ((with_reducible refine gate_callee (f := 12) rfl ?_); refine goesL_ (some 18) rfl rfl Try.func12 (by kernel_rfl) rfl #[] rfl (by (try simp only [List.map_toArray, List.map_cons, List.map_nil]); first | done | rfl | (simp only [List.length_drop, List.length_take]; rfl)) ?_; (with_reducible refine (sleuthlaw21_known.calls k  true _ A3.out (by first | rfl | assumption)).mono ?_); rintro e w11 ⟨rfl, hb⟩; refine ⟨_, rfl, ?_⟩; have n0_ := Aside0.mk (below_step (by repeat (first | (with_reducible first | exact HB.out | apply below_alloc | apply pw_below_drewN | apply below_drew1) | exact HB.out)) hb); clear HB; have HB := n0_; clear n0_; (try clear hb); (try clear hb2); (try clear hk); (try clear hi)) | ((with_reducible refine gate_callee (f := 18) rfl ?_); refine goesL_ (some 21) rfl rfl Try.func18 (by kernel_rfl) rfl #[.slice A0 l0.length c0] rfl (by (try simp only [List.map_toArray, List.map_cons, List.map_nil]); first | done | rfl | (simp only [List.length_drop, List.length_take]; rfl)) ?_; (with_reducible refine (sleuthlaw21_of.calls k _ _ l0 t394 _ ?side1 ?side2 A5.out).mono ?_); (case side1 => repeat (first | exact (Kd.C_below HR0.out HB.out) | (with_reducible refine Kd.C_alloc ?_ _) | (with_reducible refine Kd.C_drewN ?_ _) | (with_reducible refine Kd.C_drew ?_))); (case side2 => exact HC0.out); rintro e w12 ⟨v395, rfl, ho0, hb⟩; refine ⟨_, rfl, ?_⟩; have n0_ := Aside0.mk (Kd.R_lower ho0 (below_size (by repeat (first | (with_reducible first | exact HB.out | apply below_alloc | apply pw_below_drewN | apply below_drew1) | exact HB.out)))); have n1_ := Aside0.mk (below_step (by repeat (first | (with_reducible first | exact HB.out | apply below_alloc | apply pw_below_drewN | apply below_drew1) | exact HB.out)) hb); clear HB; have HO396 := n0_; have HB := n1_; clear n0_ n1_; (try clear hb); (try clear hb2); (try clear hk); (try clear hi); (try clear ho0)) | ((with_reducible refine gate_dst (N := 5) rfl ?_); (try (refine gate_guard (by rfl) ?_; dsimp only)); refine box_event ?hg (N := 5) ?hd (cs := #[.slice none 0 0]) (t := 33) ?hr ?_; (case hd => rfl); (case hg => rfl); (case hr => first | (go_simp; done) | (go_simp; rfl)); intro gb397 hg w13 hbox hb; have n0_ := Aside0.mk (Kd.R_below (by (with_reducible repeat (first | apply Kd.R_alloc | apply Kd.R_drewN | apply Kd.R_drew)); exact HO396.out) hb); have n1_ := Aside0.mk (below_step (by repeat (first | (with_reducible first | exact HB.out | apply below_alloc | apply pw_below_drewN | apply below_drew1) | exact HB.out)) hb); have n2_ := Aside0.mk (hbox); have n3_ := Aside0.mk ((by rw [hg]; exact (below_size (by repeat (first | (with_reducible first | exact HB.out | apply below_alloc | apply pw_below_drewN | apply below_drew1) | exact HB.out))) : w.heap.size ≤ gb397)); have n4_ := Aside0.mk ((by rw [hg]; exact (below_size (by repeat (first | (with_reducible first | exact HB.out | apply below_alloc | apply pw_below_drewN | apply below_drew1) | exact HB.out))) : w.heap.size ≤ gb397)); clear HO396; clear HB; have HO396 := n0_; have HB := n1_; have BK397 := n2_; have GW397 := n3_; have GE397 := n4_; clear n0_ n1_ n2_ n3_ n4_; clear hb hbox hg; obtain ⟨Ao14, co14, eo14⟩ := Kd.R_slice HO396.out; subst eo14; have hcz15_0 : w13.cell? ⟨gb397, 0, none⟩ = some (.slice none 0 0) := (blk_cell BK397.out 0).trans rfl; have hfz15_0 := blk_frozen BK397.out 0) | ((with_reducible refine gate_callee (f := 30) rfl ?_); refine goesL_ (some 23) rfl rfl Try.func30 (by kernel_rfl) rfl #[.agg #[.slice Ao14 t394.length co14]] rfl (by (try simp only [List.map_toArray, List.map_cons, List.map_nil]); first | done | rfl | (simp only [List.length_drop, List.length_take]; rfl)) ?_; (with_reducible refine (histogram_Total.calls k _ _ t394 t398 _ ?side1 ?side2 A6.out).mono ?_); (case side1 => refine (Kd.R_reads' (e := 67) (base := w.heap.size) (ok := fun k_ => True) (n := t394.length) (c := co14) ?_).2.2; exact (by (with_reducible repeat (first | apply Kd.R_alloc | apply Kd.R_drewN | apply Kd.R_drew)); exact (Kd.R_mono (Kd.R_far (p := ⟨gb397, 0, none⟩) (Kd.R_types HO396.out BK397.out (by decide)) (fun _ hk => hk.2) (.slice Ao14 t394.length co14)) (fun _ h_ => h_.1)))); (case side2 => exact (Kd.R_reads' HO396.out).2.1); rintro e w16 ⟨rfl, hb⟩; refine ⟨_, rfl, ?_⟩; have n0_ := Aside0.mk (Kd.R_below (by (with_reducible repeat (first | apply Kd.R_alloc | apply Kd.R_drewN | apply Kd.R_drew)); exact (Kd.R_mono (Kd.R_far (p := ⟨gb397, 0, none⟩) (Kd.R_types HO396.out BK397.out (by decide)) (fun _ hk => hk.2) (.slice Ao14 t394.length co14)) (fun _ h_ => h_.1))) hb); have n1_ := Aside0.mk (blk_below (g := gb397) (o := .cells #[.slice Ao14 t394.length co14] 33 (0, 0)) (by (with_reducible repeat (first | refine blk_drewN ?_ _ | refine blk_drew ?_ | refine blk_alloc ?_ _)); refine blk_put (cs := #[.slice none 0 0]) ?_ 0 _ rfl; (with_reducible repeat (first | refine blk_drewN ?_ _ | refine blk_drew ?_ | refine blk_alloc ?_ _)); exact BK397.out) hb); have n2_ := Aside0.mk (below_step (by repeat (first | (with_reducible first | exact HB.out | apply below_alloc | apply pw_below_drewN | apply below_drew1 | refine below_set ?_ GE397.out) | exact HB.out)) hb); clear HO396; clear BK397; clear HB; have HO396 := n0_; have BK397 := n1_; have HB := n2_; clear n0_ n1_ n2_; (try clear hb); (try clear hb2); (try clear hk); (try clear hi); have hcz17_0 : w16.cell? ⟨gb397, 0, none⟩ = some (.slice Ao14 t394.length co14) := (blk_cell BK397.out 0).trans rfl; have hfz17_0 := blk_frozen BK397.out 0) | ((with_reducible refine gate_callee (f := 36) rfl ?_); refine goesL_ (some 27) rfl rfl Try.func36 (by kernel_rfl) rfl #[.agg #[.slice Ao14 t394.length co14], .int .i64 a1] rfl (by (try simp only [List.map_toArray, List.map_cons, List.map_nil]); first | done | rfl | (simp only [List.length_drop, List.length_take]; rfl)) ?_; (with_reducible refine (histogram_Scale.calls k _ _ t394 a1 t399 t402 _ ?side1 ?side2 A7.out).mono ?_); (case side1 => repeat (first | exact (Kd.R_reads' HO396.out).2.2 | (with_reducible refine Kd.C_alloc ?_ _) | (with_reducible refine Kd.C_drewN ?_ _) | (with_reducible refine Kd.C_drew ?_))); (case side2 => exact (Kd.R_reads' HO396.out).2.1); rintro e w18 ⟨v400, rfl, ho0, hb⟩; refine ⟨_, rfl, ?_⟩; have n0_ := Aside0.mk (Kd.R_elder' (by (with_reducible repeat (first | apply Kd.R_alloc | apply Kd.R_drewN | apply Kd.R_drew)); exact HO396.out) (Kd.R_base ho0) hb); have n1_ := Aside0.mk (Kd.R_lower (Kd.R_new' ho0 (Kd.R_lt (by (with_reducible repeat (first | apply Kd.R_alloc | apply Kd.R_drewN | apply Kd.R_drew)); exact HO396.out))) (below_size (by repeat (first | (with_reducible first | exact HB.out | apply below_alloc | apply pw_below_drewN | apply below_drew1 | refine below_set ?_ GE397.out) | exact HB.out)))); have n2_ := Aside0.mk (blk_below (g := gb397) (o := .cells #[.slice Ao14 t394.length co14] 33 (0, 0)) (by (with_reducible repeat (first | refine blk_drewN ?_ _ | refine blk_drew ?_ | refine blk_alloc ?_ _)); exact BK397.out) hb); have n3_ := Aside0.mk (below_step (by repeat (first | (with_reducible first | exact HB.out | apply below_alloc | apply pw_below_drewN | apply below_drew1 | refine below_set ?_ GE397.out) | exact HB.out)) hb); clear HO396; clear BK397; clear HB; have HO396 := n0_; have HO401 := n1_; have BK397 := n2_; have HB := n3_; clear n0_ n1_ n2_ n3_; (try clear hb); (try clear hb2); (try clear hk); (try clear hi); (try clear ho0)) | ((with_reducible refine gate_dst (N := 7) rfl ?_); (try (refine gate_guard (by rfl) ?_; dsimp only)); refine box_event ?hg (N := 7) ?hd (cs := #[.slice none 0 0]) (t := 33) ?hr ?_; (case hd => rfl); (case hg => rfl); (case hr => first | (go_simp; done) | (go_simp; rfl)); intro gb403 hg w19 hbox hb; have n0_ := Aside0.mk (Kd.R_below (by (with_reducible repeat (first | apply Kd.R_alloc | apply Kd.R_drewN | apply Kd.R_drew)); exact HO396.out) hb); have n1_ := Aside0.mk (Kd.R_below (by (with_reducible repeat (first | apply Kd.R_alloc | apply Kd.R_drewN | apply Kd.R_drew)); exact HO401.out) hb); have n2_ := Aside0.mk (blk_below (g := gb397) (o := .cells #[.slice Ao14 t394.length co14] 33 (0, 0)) (by (with_reducible repeat (first | refine blk_drewN ?_ _ | refine blk_drew ?_ | refine blk_alloc ?_ _)); exact BK397.out) hb); have n3_ := Aside0.mk (below_step (by repeat (first | (with_reducible first | exact HB.out | apply below_alloc | apply pw_below_drewN | apply below_drew1 | refine below_set ?_ GE397.out) | exact HB.out)) hb); have n4_ := Aside0.mk (hbox); have n5_ := Aside0.mk ((by rw [hg]; exact (below_size (by repeat (first | (with_reducible first | exact HB.out | apply below_alloc | apply pw_below_drewN | apply below_drew1 | refine below_set ?_ GE397.out) | exact HB.out))) : w.heap.size ≤ gb403)); have n6_ := Aside0.mk ((by rw [hg]; exact (below_size (by repeat (first | (with_reducible first | exact HB.out | apply below_alloc | apply pw_below_drewN | apply below_drew1 | refine below_set ?_ GE397.out) | exact HB.out))) : w.heap.size ≤ gb403)); have n7_ := Aside0.mk ((by rw [hg]; exact Nat.ne_of_lt (blk_lt (g := gb397) (o := .cells #[.slice Ao14 t394.length co14] 33 (0, 0)) (by (with_reducible repeat (first | refine blk_drewN ?_ _ | refine blk_drew ?_ | refine blk_alloc ?_ _)); exact BK397.out)) : gb397 ≠ gb403)); have n8_ := Aside0.mk ((by rw [hg]; exact Nat.ne_of_gt (blk_lt (g := gb397) (o := .cells #[.slice Ao14 t394.length co14] 33 (0, 0)) (by (with_reducible repeat (first | refine blk_drewN ?_ _ | refine blk_drew ?_ | refine blk_alloc ?_ _)); exact BK397.out)) : gb403 ≠ gb397)); clear HO396; clear HO401; clear BK397; clear HB; have HO396 := n0_; have HO401 := n1_; have BK397 := n2_; have HB := n3_; have BK403 := n4_; have GW403 := n5_; have GE403 := n6_; have NB397_403 := n7_; have NB403_397 := n8_; clear n0_ n1_ n2_ n3_ n4_ n5_ n6_ n7_ n8_; clear hb hbox hg; obtain ⟨Ao20, co20, eo20⟩ := Kd.R_slice HO401.out; subst eo20; have hnb21 := NB403_397.out; have hnc21 := NB397_403.out; have hcz22_0 : w19.cell? ⟨gb403, 0, none⟩ = some (.slice none 0 0) := (blk_cell BK403.out 0).trans rfl; have hfz22_0 := blk_frozen BK403.out 0) | ((with_reducible refine gate_callee (f := 31) rfl ?_); refine goesL_ (some 32) rfl rfl Try.func31 (by kernel_rfl) rfl #[.agg #[.slice none 0 0], .int .i64 7, .int .i64 1048576] rfl (by (try simp only [List.map_toArray, List.map_cons, List.map_nil]); first | done | rfl | (simp only [List.length_drop, List.length_take]; rfl)) ?_; (refine (histogram_Add.calls k _ _ ([] : List (S67)) 7 1048576 t404 t407 _ ?side1 ?side2 A8.out).mono ?_); (case side1 => exact Kd.C_nil _ _); (case side2 => exact Nat.le_refl _); rintro e w23 ⟨v405, rfl, ho0, hb⟩; refine ⟨_, rfl, ?_⟩; have n0_ := Aside0.mk (Kd.R_elder' (by (with_reducible repeat (first | apply Kd.R_alloc | apply Kd.R_drewN | apply Kd.R_drew)); exact (Kd.R_mono (Kd.R_far (p := ⟨gb403, 0, none⟩) (Kd.R_types HO396.out BK403.out (by decide)) (fun _ hk => hk.2) (.slice Ao20 t399.length co20)) (fun _ h_ => h_.1))) (Kd.R_base ho0) hb); have n1_ := Aside0.mk (Kd.R_elder' (by (with_reducible repeat (first | apply Kd.R_alloc | apply Kd.R_drewN | apply Kd.R_drew)); exact (Kd.R_mono (Kd.R_far (p := ⟨gb403, 0, none⟩) (Kd.R_types HO401.out BK403.out (by decide)) (fun _ hk => hk.2) (.slice Ao20 t399.length co20)) (fun _ h_ => h_.1))) (Kd.R_base ho0) hb); have n2_ := Aside0.mk (Kd.R_lower (Kd.R_new' (Kd.R_new' ho0 (Kd.R_lt (by (with_reducible repeat (first | apply Kd.R_alloc | apply Kd.R_drewN | apply Kd.R_drew)); exact (Kd.R_mono (Kd.R_far (p := ⟨gb403, 0, none⟩) (Kd.R_types HO396.out BK403.out (by decide)) (fun _ hk => hk.2) (.slice Ao20 t399.length co20)) (fun _ h_ => h_.1))))) (Kd.R_lt (by (with_reducible repeat (first | apply Kd.R_alloc | apply Kd.R_drewN | apply Kd.R_drew)); exact (Kd.R_mono (Kd.R_far (p := ⟨gb403, 0, none⟩) (Kd.R_types HO401.out BK403.out (by decide)) (fun _ hk => hk.2) (.slice Ao20 t399.length co20)) (fun _ h_ => h_.1))))) (below_size (by repeat (first | (with_reducible first | exact HB.out | apply below_alloc | apply pw_below_drewN | apply below_drew1 | refine below_set ?_ GE397.out | refine below_set ?_ GE403.out) | exact HB.out)))); have n3_ := Aside0.mk (blk_below (g := gb397) (o := .cells #[.slice Ao14 t394.length co14] 33 (0, 0)) (by (with_reducible repeat (first | refine blk_drewN ?_ _ | refine blk_drew ?_ | refine blk_alloc ?_ _)); refine blk_far ?_ NB397_403.out _; (with_reducible repeat (first | refine blk_drewN ?_ _ | refine blk_drew ?_ | refine blk_alloc ?_ _)); exact BK397.out) hb); have n4_ := Aside0.mk (blk_below (g := gb403) (o := .cells #[.slice Ao20 t399.length co20] 33 (0, 0)) (by (with_reducible repeat (first | refine blk_drewN ?_ _ | refine blk_drew ?_ | refine blk_alloc ?_ _)); refine blk_put (cs := #[.slice none 0 0]) ?_ 0 _ rfl; (with_reducible repeat (first | refine blk_drewN ?_ _ | refine blk_drew ?_ | refine blk_alloc ?_ _)); exact BK403.out) hb); have n5_ := Aside0.mk (below_step (by repeat (first | (with_reducible first | exact HB.out | apply below_alloc | apply pw_below_drewN | apply below_drew1 | refine below_set ?_ GE397.out | refine below_set ?_ GE403.out) | exact HB.out)) hb); clear HO396; clear HO401; clear BK397; clear BK403; clear HB; have HO396 := n0_; have HO401 := n1_; have HO406 := n2_; have BK397 := n3_; have BK403 := n4_; have HB := n5_; clear n0_ n1_ n2_ n3_ n4_ n5_; (try clear hb); (try clear hb2); (try clear hk); (try clear hi); (try clear ho0)) | ((with_reducible refine gate_dst (N := 9) rfl ?_); (try (refine gate_guard (by rfl) ?_; dsimp only)); refine box_event ?hg (N := 9) ?hd (cs := #[.slice none 0 0]) (t := 33) ?hr ?_; (case hd => rfl); (case hg => rfl); (case hr => first | (go_simp; done) | (go_simp; rfl)); intro gb408 hg w24 hbox hb; have n0_ := Aside0.mk (Kd.R_below (by (with_reducible repeat (first | apply Kd.R_alloc | apply Kd.R_drewN | apply Kd.R_drew)); exact HO396.out) hb); have n1_ := Aside0.mk (Kd.R_below (by (with_reducible repeat (first | apply Kd.R_alloc | apply Kd.R_drewN | apply Kd.R_drew)); exact HO401.out) hb); have n2_ := Aside0.mk (Kd.R_below (by (with_reducible repeat (first | apply Kd.R_alloc | apply Kd.R_drewN | apply Kd.R_drew)); exact HO406.out) hb); have n3_ := Aside0.mk (blk_below (g := gb397) (o := .cells #[.slice Ao14 t394.length co14] 33 (0, 0)) (by (with_reducible repeat (first | refine blk_drewN ?_ _ | refine blk_drew ?_ | refine blk_alloc ?_ _)); exact BK397.out) hb); have n4_ := Aside0.mk (blk_below (g := gb403) (o := .cells #[.slice Ao20 t399.length co20] 33 (0, 0)) (by (with_reducible repeat (first | refine blk_drewN ?_ _ | refine blk_drew ?_ | refine blk_alloc ?_ _)); exact BK403.out) hb); have n5_ := Aside0.mk (below_step (by repeat (first | (with_reducible first | exact HB.out | apply below_alloc | apply pw_below_drewN | apply below_drew1 | refine below_set ?_ GE397.out | refine below_set ?_ GE403.out) | exact HB.out)) hb); have n6_ := Aside0.mk (hbox); have n7_ := Aside0.mk ((by rw [hg]; exact (below_size (by repeat (first | (with_reducible first | exact HB.out | apply below_alloc | apply pw_below_drewN | apply below_drew1 | refine below_set ?_ GE397.out | refine below_set ?_ GE403.out) | exact HB.out))) : w.heap.size ≤ gb408)); have n8_ := Aside0.mk ((by rw [hg]; exact (below_size (by repeat (first | (with_reducible first | exact HB.out | apply below_alloc | apply pw_below_drewN | apply below_drew1 | refine below_set ?_ GE397.out | refine below_set ?_ GE403.out) | exact HB.out))) : w.heap.size ≤ gb408)); have n9_ := Aside0.mk ((by rw [hg]; exact Nat.ne_of_lt (blk_lt (g := gb397) (o := .cells #[.slice Ao14 t394.length co14] 33 (0, 0)) (by (with_reducible repeat (first | refine blk_drewN ?_ _ | refine blk_drew ?_ | refine blk_alloc ?_ _)); exact BK397.out)) : gb397 ≠ gb408)); have n10_ := Aside0.mk ((by rw [hg]; exact Nat.ne_of_gt (blk_lt (g := gb397) (o := .cells #[.slice Ao14 t394.length co14] 33 (0, 0)) (by (with_reducible repeat (first | refine blk_drewN ?_ _ | refine blk_drew ?_ | refine blk_alloc ?_ _)); exact BK397.out)) : gb408 ≠ gb397)); have n11_ := Aside0.mk ((by rw [hg]; exact Nat.ne_of_lt (blk_lt (g := gb403) (o := .cells #[.slice Ao20 t399.length co20] 33 (0, 0)) (by (with_reducible repeat (first | refine blk_drewN ?_ _ | refine blk_drew ?_ | refine blk_alloc ?_ _)); exact BK403.out)) : gb403 ≠ gb408)); have n12_ := Aside0.mk ((by rw [hg]; exact Nat.ne_of_gt (blk_lt (g := gb403) (o := .cells #[.slice Ao20 t399.length co20] 33 (0, 0)) (by (with_reducible repeat (first | refine blk_drewN ?_ _ | refine blk_drew ?_ | refine blk_alloc ?_ _)); exact BK403.out)) : gb408 ≠ gb403)); clear HO396; clear HO401; clear HO406; clear BK397; clear BK403; clear HB; have HO396 := n0_; have HO401 := n1_; have HO406 := n2_; have BK397 := n3_; have BK403 := n4_; have HB := n5_; have BK408 := n6_; have GW408 := n7_; have GE408 := n8_; have NB397_408 := n9_; have NB408_397 := n10_; have NB403_408 := n11_; have NB408_403 := n12_; clear n0_ n1_ n2_ n3_ n4_ n5_ n6_ n7_ n8_ n9_ n10_ n11_ n12_; clear hb hbox hg; obtain ⟨Ao25, co25, eo25⟩ := Kd.R_slice HO406.out; subst eo25; have hnb26 := NB408_397.out; have hnc26 := NB397_408.out; have hnb27 := NB408_403.out; have hnc27 := NB403_408.out; have hcz28_0 : w24.cell? ⟨gb408, 0, none⟩ = some (.slice none 0 0) := (blk_cell BK408.out 0).trans rfl; have hfz28_0 := blk_frozen BK408.out 0; have hcz29_0 : w24.cell? ⟨gb397, 0, none⟩ = some (.slice Ao14 t394.length co14) := (blk_cell BK397.out 0).trans rfl; have hfz29_0 := blk_frozen BK397.out 0) | ((with_reducible refine gate_callee (f := 33) rfl ?_); refine goesL_ (some 38) rfl rfl Try.func33 (by kernel_rfl) rfl #[.agg #[.slice Ao25 t404.length co25], .agg #[.slice Ao14 t394.length co14]] rfl (by (try simp only [List.map_toArray, List.map_cons, List.map_nil]); first | done | rfl | (simp only [List.length_drop, List.length_take]; rfl)) ?_; (with_reducible refine (histogram_Merge.calls k _ _ t404 _ _ t394 t409 t412 _ ?side1 ?side2 ?side3 ?side4 A9.out).mono ?_); (case side1 => refine (Kd.R_reads' (e := 67) (base := w.heap.size) (ok := fun k_ => ((True ∧ some k_ ≠ (.slice Ao14 t394.length co14 : Value).ownBlock) ∧ some k_ ≠ (.slice Ao20 t399.length co20 : Value).ownBlock)) (n := t404.length) (c := co25) ?_).2.2; exact (by (with_reducible repeat (first | apply Kd.R_alloc | apply Kd.R_drewN | apply Kd.R_drew)); exact (Kd.R_mono (Kd.R_far (p := ⟨gb408, 0, none⟩) (Kd.R_types HO406.out BK408.out (by decide)) (fun _ hk => hk.2) (.slice Ao25 t404.length co25)) (fun _ h_ => h_.1)))); (case side2 => exact (Kd.R_reads' HO406.out).2.1); (case side3 => refine (Kd.R_reads' (e := 67) (base := w.heap.size) (ok := fun k_ => ((True ∧ some k_ ≠ (.slice Ao20 t399.length co20 : Value).ownBlock) ∧ some k_ ≠ (.slice Ao25 t404.length co25 : Value).ownBlock)) (n := t394.length) (c := co14) ?_).2.2; exact (by (with_reducible repeat (first | apply Kd.R_alloc | apply Kd.R_drewN | apply Kd.R_drew)); exact (Kd.R_mono (Kd.R_far (p := ⟨gb408, 0, none⟩) (Kd.R_types HO396.out BK408.out (by decide)) (fun _ hk => hk.2) (.slice Ao25 t404.length co25)) (fun _ h_ => h_.1)))); (case side4 => exact (Kd.R_reads' HO396.out).2.1); rintro e w30 ⟨v410, rfl, ho0, hb⟩; refine ⟨_, rfl, ?_⟩; have n0_ := Aside0.mk (Kd.R_elder' (by (with_reducible repeat (first | apply Kd.R_alloc | apply Kd.R_drewN | apply Kd.R_drew)); exact (Kd.R_mono (Kd.R_far (p := ⟨gb408, 0, none⟩) (Kd.R_types HO396.out BK408.out (by decide)) (fun _ hk => hk.2) (.slice Ao25 t404.length co25)) (fun _ h_ => h_.1))) (Kd.R_base ho0) hb); have n1_ := Aside0.mk (Kd.R_elder' (by (with_reducible repeat (first | apply Kd.R_alloc | apply Kd.R_drewN | apply Kd.R_drew)); exact (Kd.R_mono (Kd.R_far (p := ⟨gb408, 0, none⟩) (Kd.R_types HO401.out BK408.out (by decide)) (fun _ hk => hk.2) (.slice Ao25 t404.length co25)) (fun _ h_ => h_.1))) (Kd.R_base ho0) hb); have n2_ := Aside0.mk (Kd.R_elder' (by (with_reducible repeat (first | apply Kd.R_alloc | apply Kd.R_drewN | apply Kd.R_drew)); exact (Kd.R_mono (Kd.R_far (p := ⟨gb408, 0, none⟩) (Kd.R_types HO406.out BK408.out (by decide)) (fun _ hk => hk.2) (.slice Ao25 t404.length co25)) (fun _ h_ => h_.1))) (Kd.R_base ho0) hb); have n3_ := Aside0.mk (Kd.R_lower (Kd.R_new' (Kd.R_new' (Kd.R_new' ho0 (Kd.R_lt (by (with_reducible repeat (first | apply Kd.R_alloc | apply Kd.R_drewN | apply Kd.R_drew)); exact (Kd.R_mono (Kd.R_far (p := ⟨gb408, 0, none⟩) (Kd.R_types HO396.out BK408.out (by decide)) (fun _ hk => hk.2) (.slice Ao25 t404.length co25)) (fun _ h_ => h_.1))))) (Kd.R_lt (by (with_reducible repeat (first | apply Kd.R_alloc | apply Kd.R_drewN | apply Kd.R_drew)); exact (Kd.R_mono (Kd.R_far (p := ⟨gb408, 0, none⟩) (Kd.R_types HO401.out BK408.out (by decide)) (fun _ hk => hk.2) (.slice Ao25 t404.length co25)) (fun _ h_ => h_.1))))) (Kd.R_lt (by (with_reducible repeat (first | apply Kd.R_alloc | apply Kd.R_drewN | apply Kd.R_drew)); exact (Kd.R_mono (Kd.R_far (p := ⟨gb408, 0, none⟩) (Kd.R_types HO406.out BK408.out (by decide)) (fun _ hk => hk.2) (.slice Ao25 t404.length co25)) (fun _ h_ => h_.1))))) (below_size (by repeat (first | (with_reducible first | exact HB.out | apply below_alloc | apply pw_below_drewN | apply below_drew1 | refine below_set ?_ GE397.out | refine below_set ?_ GE403.out | refine below_set ?_ GE408.out) | exact HB.out)))); have n4_ := Aside0.mk (blk_below (g := gb397) (o := .cells #[.slice Ao14 t394.length co14] 33 (0, 0)) (by (with_reducible repeat (first | refine blk_drewN ?_ _ | refine blk_drew ?_ | refine blk_alloc ?_ _)); refine blk_far ?_ NB397_408.out _; (with_reducible repeat (first | refine blk_drewN ?_ _ | refine blk_drew ?_ | refine blk_alloc ?_ _)); exact BK397.out) hb); have n5_ := Aside0.mk (blk_below (g := gb403) (o := .cells #[.slice Ao20 t399.length co20] 33 (0, 0)) (by (with_reducible repeat (first | refine blk_drewN ?_ _ | refine blk_drew ?_ | refine blk_alloc ?_ _)); refine blk_far ?_ NB403_408.out _; (with_reducible repeat (first | refine blk_drewN ?_ _ | refine blk_drew ?_ | refine blk_alloc ?_ _)); exact BK403.out) hb); have n6_ := Aside0.mk (blk_below (g := gb408) (o := .cells #[.slice Ao25 t404.length co25] 33 (0, 0)) (by (with_reducible repeat (first | refine blk_drewN ?_ _ | refine blk_drew ?_ | refine blk_alloc ?_ _)); refine blk_put (cs := #[.slice none 0 0]) ?_ 0 _ rfl; (with_reducible repeat (first | refine blk_drewN ?_ _ | refine blk_drew ?_ | refine blk_alloc ?_ _)); exact BK408.out) hb); have n7_ := Aside0.mk (below_step (by repeat (first | (with_reducible first | exact HB.out | apply below_alloc | apply pw_below_drewN | apply below_drew1 | refine below_set ?_ GE397.out | refine below_set ?_ GE403.out | refine below_set ?_ GE408.out) | exact HB.out)) hb); clear HO396; clear HO401; clear HO406; clear BK397; clear BK403; clear BK408; clear HB; have HO396 := n0_; have HO401 := n1_; have HO406 := n2_; have HO411 := n3_; have BK397 := n4_; have BK403 := n5_; have BK408 := n6_; have HB := n7_; clear n0_ n1_ n2_ n3_ n4_ n5_ n6_ n7_; (try clear hb); (try clear hb2); (try clear hk); (try clear hi); (try clear ho0)) | ((with_reducible refine gate_dst (N := 11) rfl ?_); (try (refine gate_guard (by rfl) ?_; dsimp only)); refine box_event ?hg (N := 11) ?hd (cs := #[.slice none 0 0]) (t := 33) ?hr ?_; (case hd => rfl); (case hg => rfl); (case hr => first | (go_simp; done) | (go_simp; rfl)); intro gb413 hg w31 hbox hb; have n0_ := Aside0.mk (Kd.R_below (by (with_reducible repeat (first | apply Kd.R_alloc | apply Kd.R_drewN | apply Kd.R_drew)); exact HO396.out) hb); have n1_ := Aside0.mk (Kd.R_below (by (with_reducible repeat (first | apply Kd.R_alloc | apply Kd.R_drewN | apply Kd.R_drew)); exact HO401.out) hb); have n2_ := Aside0.mk (Kd.R_below (by (with_reducible repeat (first | apply Kd.R_alloc | apply Kd.R_drewN | apply Kd.R_drew)); exact HO406.out) hb); have n3_ := Aside0.mk (Kd.R_below (by (with_reducible repeat (first | apply Kd.R_alloc | apply Kd.R_drewN | apply Kd.R_drew)); exact HO411.out) hb); have n4_ := Aside0.mk (blk_below (g := gb397) (o := .cells #[.slice Ao14 t394.length co14] 33 (0, 0)) (by (with_reducible repeat (first | refine blk_drewN ?_ _ | refine blk_drew ?_ | refine blk_alloc ?_ _)); exact BK397.out) hb); have n5_ := Aside0.mk (blk_below (g := gb403) (o := .cells #[.slice Ao20 t399.length co20] 33 (0, 0)) (by (with_reducible repeat (first | refine blk_drewN ?_ _ | refine blk_drew ?_ | refine blk_alloc ?_ _)); exact BK403.out) hb); have n6_ := Aside0.mk (blk_below (g := gb408) (o := .cells #[.slice Ao25 t404.length co25] 33 (0, 0)) (by (with_reducible repeat (first | refine blk_drewN ?_ _ | refine blk_drew ?_ | refine blk_alloc ?_ _)); exact BK408.out) hb); have n7_ := Aside0.mk (below_step (by repeat (first | (with_reducible first | exact HB.out | apply below_alloc | apply pw_below_drewN | apply below_drew1 | refine below_set ?_ GE397.out | refine below_set ?_ GE403.out | refine below_set ?_ GE408.out) | exact HB.out)) hb); have n8_ := Aside0.mk (hbox); have n9_ := Aside0.mk ((by rw [hg]; exact (below_size (by repeat (first | (with_reducible first | exact HB.out | apply below_alloc | apply pw_below_drewN | apply below_drew1 | refine below_set ?_ GE397.out | refine below_set ?_ GE403.out | refine below_set ?_ GE408.out) | exact HB.out))) : w.heap.size ≤ gb413)); have n10_ := Aside0.mk ((by rw [hg]; exact (below_size (by repeat (first | (with_reducible first | exact HB.out | apply below_alloc | apply pw_below_drewN | apply below_drew1 | refine below_set ?_ GE397.out | refine below_set ?_ GE403.out | refine below_set ?_ GE408.out) | exact HB.out))) : w.heap.size ≤ gb413)); have n11_ := Aside0.mk ((by rw [hg]; exact Nat.ne_of_lt (blk_lt (g := gb397) (o := .cells #[.slice Ao14 t394.length co14] 33 (0, 0)) (by (with_reducible repeat (first | refine blk_drewN ?_ _ | refine blk_drew ?_ | refine blk_alloc ?_ _)); exact BK397.out)) : gb397 ≠ gb413)); have n12_ := Aside0.mk ((by rw [hg]; exact Nat.ne_of_gt (blk_lt (g := gb397) (o := .cells #[.slice Ao14 t394.length co14] 33 (0, 0)) (by (with_reducible repeat (first | refine blk_drewN ?_ _ | refine blk_drew ?_ | refine blk_alloc ?_ _)); exact BK397.out)) : gb413 ≠ gb397)); have n13_ := Aside0.mk ((by rw [hg]; exact Nat.ne_of_lt (blk_lt (g := gb403) (o := .cells #[.slice Ao20 t399.length co20] 33 (0, 0)) (by (with_reducible repeat (first | refine blk_drewN ?_ _ | refine blk_drew ?_ | refine blk_alloc ?_ _)); exact BK403.out)) : gb403 ≠ gb413)); have n14_ := Aside0.mk ((by rw [hg]; exact Nat.ne_of_gt (blk_lt (g := gb403) (o := .cells #[.slice Ao20 t399.length co20] 33 (0, 0)) (by (with_reducible repeat (first | refine blk_drewN ?_ _ | refine blk_drew ?_ | refine blk_alloc ?_ _)); exact BK403.out)) : gb413 ≠ gb403)); have n15_ := Aside0.mk ((by rw [hg]; exact Nat.ne_of_lt (blk_lt (g := gb408) (o := .cells #[.slice Ao25 t404.length co25] 33 (0, 0)) (by (with_reducible repeat (first | refine blk_drewN ?_ _ | refine blk_drew ?_ | refine blk_alloc ?_ _)); exact BK408.out)) : gb408 ≠ gb413)); have n16_ := Aside0.mk ((by rw [hg]; exact Nat.ne_of_gt (blk_lt (g := gb408) (o := .cells #[.slice Ao25 t404.length co25] 33 (0, 0)) (by (with_reducible repeat (first | refine blk_drewN ?_ _ | refine blk_drew ?_ | refine blk_alloc ?_ _)); exact BK408.out)) : gb413 ≠ gb408)); clear HO396; clear HO401; clear HO406; clear HO411; clear BK397; clear BK403; clear BK408; clear HB; have HO396 := n0_; have HO401 := n1_; have HO406 := n2_; have HO411 := n3_; have BK397 := n4_; have BK403 := n5_; have BK408 := n6_; have HB := n7_; have BK413 := n8_; have GW413 := n9_; have GE413 := n10_; have NB397_413 := n11_; have NB413_397 := n12_; have NB403_413 := n13_; have NB413_403 := n14_; have NB408_413 := n15_; have NB413_408 := n16_; clear n0_ n1_ n2_ n3_ n4_ n5_ n6_ n7_ n8_ n9_ n10_ n11_ n12_ n13_ n14_ n15_ n16_; clear hb hbox hg; obtain ⟨Ao32, co32, eo32⟩ := Kd.R_slice HO411.out; subst eo32; have hnb33 := NB413_397.out; have hnc33 := NB397_413.out; have hnb34 := NB413_403.out; have hnc34 := NB403_413.out; have hnb35 := NB413_408.out; have hnc35 := NB408_413.out; have hcz36_0 : w31.cell? ⟨gb413, 0, none⟩ = some (.slice none 0 0) := (blk_cell BK413.out 0).trans rfl; have hfz36_0 := blk_frozen BK413.out 0))
    (try simp only [Act.put, List.setIfInBounds_toArray, List.set_cons_zero, List.set_cons_succ])
    go_cut [57] (fun v57 wc => ∃ (kq : Nat) (x57_9 : Bool), v57 = .bool x57_9 ∧ Aside0 (sleuthlaw21_HistogramScales.j0 kq a1 t398 t402 x57_9 t394 t399 = some r) ∧ Aside0 (kq ≤ k) ∧ Aside0 (Kd.R k67 67 wc w.heap.size (fun k_ => some k_ ≠ ((.slice Ao20 t399.length co20) : Value).ownBlock ∧ some k_ ≠ ((.slice Ao25 t404.length co25) : Value).ownBlock ∧ some k_ ≠ ((.slice Ao32 t409.length co32) : Value).ownBlock) (.slice Ao14 t394.length co14) t394) ∧ Aside0 (Kd.R k67 67 wc w.heap.size (fun k_ => some k_ ≠ ((.slice Ao14 t394.length co14) : Value).ownBlock ∧ some k_ ≠ ((.slice Ao25 t404.length co25) : Value).ownBlock ∧ some k_ ≠ ((.slice Ao32 t409.length co32) : Value).ownBlock) (.slice Ao20 t399.length co20) t399) ∧ Aside0 (Kd.R k67 67 wc w.heap.size (fun k_ => some k_ ≠ ((.slice Ao14 t394.length co14) : Value).ownBlock ∧ some k_ ≠ ((.slice Ao20 t399.length co20) : Value).ownBlock ∧ some k_ ≠ ((.slice Ao32 t409.length co32) : Value).ownBlock) (.slice Ao25 t404.length co25) t404) ∧ Aside0 (Kd.R k67 67 wc w.heap.size (fun k_ => some k_ ≠ ((.slice Ao14 t394.length co14) : Value).ownBlock ∧ some k_ ≠ ((.slice Ao20 t399.length co20) : Value).ownBlock ∧ some k_ ≠ ((.slice Ao25 t404.length co25) : Value).ownBlock) (.slice Ao32 t409.length co32) t409) ∧ Aside0 (wc.heap[gb397]? = some (.cells #[(.slice Ao14 t394.length co14)] 33 (0, 0))) ∧ Aside0 (wc.heap[gb403]? = some (.cells #[(.slice Ao20 t399.length co20)] 33 (0, 0))) ∧ Aside0 (wc.heap[gb408]? = some (.cells #[(.slice Ao25 t404.length co25)] 33 (0, 0))) ∧ Aside0 (wc.heap[gb413]? = some (.cells #[(.slice Ao32 t409.length co32)] 33 (0, 0))) ∧ Aside0 (Below w.heap.size w wc))
    case first =>
      have H := HC10.out
      clear HC10
      by_cases c37 : t407 = 0
      · rw [if_pos c37] at H
        have c37b0 : (t407 == 0) = true := beq_iff_eq.mpr c37
        have c37b1 : (t407 != 0) = false := bne_eq_false_iff_eq.mpr c37
        clear c37
        (first | rw [c37b0] | (simp only [i64_w, i32_w]; rw [c37b0]) | skip)
        by_cases c38 : ((t412 == 0) != (t398 == 0)) = true
        · rw [if_pos c38] at H
          have c38b0 : ((t412 == 0) != (t398 == 0)) = true := c38
          (try (have c38b1 : decide ((t412 == 0) = (t398 == 0)) = false := by simpa using c38))
          (try (have c38b2 : ((t412 == 0) == (t398 == 0)) = false := by simpa using c38))
          (try (have c38b3 : ¬ ((t412 == 0) = (t398 == 0)) := by simpa using c38))
          clear c38
          exact absurd (H.trans (congrArg some hr_)) (by cases k <;> simp [sleuthlaw21_HistogramScales.j0])
        · rw [if_neg c38] at H
          have c38b0 : ((t412 == 0) != (t398 == 0)) = false := by simpa using c38
          (try (have c38b1 : decide ((t412 == 0) = (t398 == 0)) = true := by simpa using c38))
          (try (have c38b2 : ((t412 == 0) == (t398 == 0)) = true := by simpa using c38))
          clear c38
          by_cases c39 : t412 = 0
          · rw [if_pos c39] at H
            have c39b0 : (t412 == 0) = true := beq_iff_eq.mpr c39
            have c39b1 : (t412 != 0) = false := bne_eq_false_iff_eq.mpr c39
            have c38c : (t398 == 0) = true := by simpa [c39b0] using c38b2
            clear c39
            have H' := Aside0.mk H
            clear H
            go_wp2
            go_meet
            case rel => exact ⟨_, (false), (by first | rfl | (simp; done) | (simp [*]; done)), H', ⟨by first | omega | exact Nat.le_refl _⟩, ⟨by (with_reducible repeat (first | apply Kd.R_alloc | apply Kd.R_drewN | apply Kd.R_drew)); exact Kd.R_mono (Kd.R_far (p := ⟨gb413, 0, none⟩) (Kd.R_types HO396.out BK413.out (by decide)) (fun _ hk => hk.2) (.slice Ao32 t409.length co32)) (fun _ hk => ⟨hk.1.1.1.2, ⟨hk.1.1.2, hk.1.2⟩⟩)⟩, ⟨by (with_reducible repeat (first | apply Kd.R_alloc | apply Kd.R_drewN | apply Kd.R_drew)); exact Kd.R_mono (Kd.R_far (p := ⟨gb413, 0, none⟩) (Kd.R_types HO401.out BK413.out (by decide)) (fun _ hk => hk.2) (.slice Ao32 t409.length co32)) (fun _ hk => ⟨hk.1.1.1.2, ⟨hk.1.1.2, hk.1.2⟩⟩)⟩, ⟨by (with_reducible repeat (first | apply Kd.R_alloc | apply Kd.R_drewN | apply Kd.R_drew)); exact Kd.R_mono (Kd.R_far (p := ⟨gb413, 0, none⟩) (Kd.R_types HO406.out BK413.out (by decide)) (fun _ hk => hk.2) (.slice Ao32 t409.length co32)) (fun _ hk => ⟨hk.1.1.1.2, ⟨hk.1.1.2, hk.1.2⟩⟩)⟩, ⟨by (with_reducible repeat (first | apply Kd.R_alloc | apply Kd.R_drewN | apply Kd.R_drew)); exact Kd.R_mono (Kd.R_far (p := ⟨gb413, 0, none⟩) (Kd.R_types HO411.out BK413.out (by decide)) (fun _ hk => hk.2) (.slice Ao32 t409.length co32)) (fun _ hk => ⟨hk.1.1.1.2, ⟨hk.1.1.2, hk.1.2⟩⟩)⟩, ⟨by (with_reducible repeat (first | refine blk_drewN ?_ _ | refine blk_drew ?_ | refine blk_alloc ?_ _)); refine blk_far ?_ NB397_413.out _; (with_reducible repeat (first | refine blk_drewN ?_ _ | refine blk_drew ?_ | refine blk_alloc ?_ _)); exact BK397.out⟩, ⟨by (with_reducible repeat (first | refine blk_drewN ?_ _ | refine blk_drew ?_ | refine blk_alloc ?_ _)); refine blk_far ?_ NB403_413.out _; (with_reducible repeat (first | refine blk_drewN ?_ _ | refine blk_drew ?_ | refine blk_alloc ?_ _)); exact BK403.out⟩, ⟨by (with_reducible repeat (first | refine blk_drewN ?_ _ | refine blk_drew ?_ | refine blk_alloc ?_ _)); refine blk_far ?_ NB408_413.out _; (with_reducible repeat (first | refine blk_drewN ?_ _ | refine blk_drew ?_ | refine blk_alloc ?_ _)); exact BK408.out⟩, ⟨by (with_reducible repeat (first | refine blk_drewN ?_ _ | refine blk_drew ?_ | refine blk_alloc ?_ _)); refine blk_put (cs := #[.slice none 0 0]) ?_ 0 _ rfl; (with_reducible repeat (first | refine blk_drewN ?_ _ | refine blk_drew ?_ | refine blk_alloc ?_ _)); exact BK413.out⟩, ⟨by repeat (first | (with_reducible first | exact HB.out | apply below_alloc | apply pw_below_drewN | apply below_drew1 | refine below_set ?_ GE397.out | refine below_set ?_ GE403.out | refine below_set ?_ GE408.out | refine below_set ?_ GE413.out) | exact HB.out)⟩⟩
          · rw [if_neg c39] at H
            have c39b0 : (t412 == 0) = false := beq_eq_false_iff_ne.mpr c39
            have c39b1 : (t412 != 0) = true := bne_iff_ne.mpr c39
            have c38c : (t398 == 0) = false := by simpa [c39b0] using c38b2
            have H' := Aside0.mk H
            clear H
            go_wp2
            go_meet
            case rel => exact ⟨_, ((t412 != 20)), (by first | rfl | (simp; done) | (simp [*]; done)), H', ⟨by first | omega | exact Nat.le_refl _⟩, ⟨by (with_reducible repeat (first | apply Kd.R_alloc | apply Kd.R_drewN | apply Kd.R_drew)); exact Kd.R_mono (Kd.R_far (p := ⟨gb413, 0, none⟩) (Kd.R_types HO396.out BK413.out (by decide)) (fun _ hk => hk.2) (.slice Ao32 t409.length co32)) (fun _ hk => ⟨hk.1.1.1.2, ⟨hk.1.1.2, hk.1.2⟩⟩)⟩, ⟨by (with_reducible repeat (first | apply Kd.R_alloc | apply Kd.R_drewN | apply Kd.R_drew)); exact Kd.R_mono (Kd.R_far (p := ⟨gb413, 0, none⟩) (Kd.R_types HO401.out BK413.out (by decide)) (fun _ hk => hk.2) (.slice Ao32 t409.length co32)) (fun _ hk => ⟨hk.1.1.1.2, ⟨hk.1.1.2, hk.1.2⟩⟩)⟩, ⟨by (with_reducible repeat (first | apply Kd.R_alloc | apply Kd.R_drewN | apply Kd.R_drew)); exact Kd.R_mono (Kd.R_far (p := ⟨gb413, 0, none⟩) (Kd.R_types HO406.out BK413.out (by decide)) (fun _ hk => hk.2) (.slice Ao32 t409.length co32)) (fun _ hk => ⟨hk.1.1.1.2, ⟨hk.1.1.2, hk.1.2⟩⟩)⟩, ⟨by (with_reducible repeat (first | apply Kd.R_alloc | apply Kd.R_drewN | apply Kd.R_drew)); exact Kd.R_mono (Kd.R_far (p := ⟨gb413, 0, none⟩) (Kd.R_types HO411.out BK413.out (by decide)) (fun _ hk => hk.2) (.slice Ao32 t409.length co32)) (fun _ hk => ⟨hk.1.1.1.2, ⟨hk.1.1.2, hk.1.2⟩⟩)⟩, ⟨by (with_reducible repeat (first | refine blk_drewN ?_ _ | refine blk_drew ?_ | refine blk_alloc ?_ _)); refine blk_far ?_ NB397_413.out _; (with_reducible repeat (first | refine blk_drewN ?_ _ | refine blk_drew ?_ | refine blk_alloc ?_ _)); exact BK397.out⟩, ⟨by (with_reducible repeat (first | refine blk_drewN ?_ _ | refine blk_drew ?_ | refine blk_alloc ?_ _)); refine blk_far ?_ NB403_413.out _; (with_reducible repeat (first | refine blk_drewN ?_ _ | refine blk_drew ?_ | refine blk_alloc ?_ _)); exact BK403.out⟩, ⟨by (with_reducible repeat (first | refine blk_drewN ?_ _ | refine blk_drew ?_ | refine blk_alloc ?_ _)); refine blk_far ?_ NB408_413.out _; (with_reducible repeat (first | refine blk_drewN ?_ _ | refine blk_drew ?_ | refine blk_alloc ?_ _)); exact BK408.out⟩, ⟨by (with_reducible repeat (first | refine blk_drewN ?_ _ | refine blk_drew ?_ | refine blk_alloc ?_ _)); refine blk_put (cs := #[.slice none 0 0]) ?_ 0 _ rfl; (with_reducible repeat (first | refine blk_drewN ?_ _ | refine blk_drew ?_ | refine blk_alloc ?_ _)); exact BK413.out⟩, ⟨by repeat (first | (with_reducible first | exact HB.out | apply below_alloc | apply pw_below_drewN | apply below_drew1 | refine below_set ?_ GE397.out | refine below_set ?_ GE403.out | refine below_set ?_ GE408.out | refine below_set ?_ GE413.out) | exact HB.out)⟩⟩
      · rw [if_neg c37] at H
        have c37b0 : (t407 == 0) = false := beq_eq_false_iff_ne.mpr c37
        have c37b1 : (t407 != 0) = true := bne_iff_ne.mpr c37
        (first | rw [c37b0] | (simp only [i64_w, i32_w]; rw [c37b0]) | skip)
        exact absurd (H.trans (congrArg some hr_)) (by cases k <;> simp [sleuthlaw21_HistogramScales.j0])
    case rest =>
      clear HC10
      try clear c1
      try clear c2
      try clear p2
      try clear c3
      try clear c4
      try clear c11
      try clear c12
      try clear c18
      try clear c21
      try clear c26
      try clear c27
      try clear c30
      try clear c31
      try clear c33
      try clear c34
      try clear c35
      try clear c36
      try clear c37
      try clear c37b0
      try clear c37b1
      try clear c38
      try clear c38b0
      try clear c38b1
      try clear c38b2
      try clear c39
      try clear c39b0
      try clear c39b1
      try clear hcz15_0
      try clear hcz17_0
      try clear hcz22_0
      try clear hcz28_0
      try clear hcz29_0
      try clear hcz36_0
      try clear hfz15_0
      try clear hfz17_0
      try clear hfz22_0
      try clear hfz28_0
      try clear hfz29_0
      try clear hfz36_0
      obtain ⟨kq, x57_9, rfl, HA, HJ9, HO_398000, HO_404000, HO_409000, HO_414000, BK397, BK403, BK408, BK413, HB⟩ := hcut
      cases kq with
      | zero => exact absurd HA.out (by simp [sleuthlaw21_HistogramScales.j0])
      | succ kj9 =>
        have H := HA.out
        clear HA
        simp only [sleuthlaw21_HistogramScales.j0] at H
        by_cases c40 : x57_9 = true
        · subst c40
          have H1 : (some false) = some r := by rw [if_pos rfl] at H; exact H
          clear H
          have H := H1
          clear H1
          exact absurd (H.trans (congrArg some hr_)) (by decide)
        · replace c40 := Bool.eq_false_iff.mpr c40
          subst c40
          have H1 : (if a1 < 0 then (if t402 = 2 then (some ((t399.length : Int) == 0)) else (some false)) else (if t398 > 0 then (if t398 = 0 then (none) else (if a1 > (wrap64 ((1048576 : Int) / t398)) then (if t402 = 20 then (some ((t399.length : Int) == 0)) else (some false)) else (sleuthlaw21_HistogramScales.j1 kj9 a1 t398 t402 t394 t399))) else (sleuthlaw21_HistogramScales.j1 kj9 a1 t398 t402 t394 t399))) = some r := by rw [if_neg (show ¬ (false = true) by decide)] at H; exact H
          clear H
          have H := H1
          clear H1
          have HC41 := Aside0.mk H
          clear H
          go_upto_block 0 with (fail)
          go_cut [] (fun wc => ∃ (kq : Nat), Aside0 (sleuthlaw21_HistogramScales.j1 kq a1 t398 t402 t394 t399 = some r) ∧ Aside0 (kq ≤ kj9) ∧ Aside0 (Kd.R k67 67 wc w.heap.size (fun k_ => some k_ ≠ ((.slice Ao20 t399.length co20) : Value).ownBlock ∧ some k_ ≠ ((.slice Ao25 t404.length co25) : Value).ownBlock ∧ some k_ ≠ ((.slice Ao32 t409.length co32) : Value).ownBlock) (.slice Ao14 t394.length co14) t394) ∧ Aside0 (Kd.R k67 67 wc w.heap.size (fun k_ => some k_ ≠ ((.slice Ao14 t394.length co14) : Value).ownBlock ∧ some k_ ≠ ((.slice Ao25 t404.length co25) : Value).ownBlock ∧ some k_ ≠ ((.slice Ao32 t409.length co32) : Value).ownBlock) (.slice Ao20 t399.length co20) t399) ∧ Aside0 (Kd.R k67 67 wc w.heap.size (fun k_ => some k_ ≠ ((.slice Ao14 t394.length co14) : Value).ownBlock ∧ some k_ ≠ ((.slice Ao20 t399.length co20) : Value).ownBlock ∧ some k_ ≠ ((.slice Ao32 t409.length co32) : Value).ownBlock) (.slice Ao25 t404.length co25) t404) ∧ Aside0 (Kd.R k67 67 wc w.heap.size (fun k_ => some k_ ≠ ((.slice Ao14 t394.length co14) : Value).ownBlock ∧ some k_ ≠ ((.slice Ao20 t399.length co20) : Value).ownBlock ∧ some k_ ≠ ((.slice Ao25 t404.length co25) : Value).ownBlock) (.slice Ao32 t409.length co32) t409) ∧ Aside0 (wc.heap[gb397]? = some (.cells #[(.slice Ao14 t394.length co14)] 33 (0, 0))) ∧ Aside0 (wc.heap[gb403]? = some (.cells #[(.slice Ao20 t399.length co20)] 33 (0, 0))) ∧ Aside0 (wc.heap[gb408]? = some (.cells #[(.slice Ao25 t404.length co25)] 33 (0, 0))) ∧ Aside0 (wc.heap[gb413]? = some (.cells #[(.slice Ao32 t409.length co32)] 33 (0, 0))) ∧ Aside0 (Below w.heap.size w wc))
          case first =>
            have H := HC41.out
            clear HC41
            by_cases c42 : a1 < 0
            · rw [if_pos c42] at H
              have c42b0 : decide (a1 < 0) = true := decide_eq_true c42
              clear c42
              (first | rw [c42b0] | (simp only [i64_w, i32_w]; rw [c42b0]) | skip)
              by_cases c43 : t402 = 2
              · rw [if_pos c43] at H
                have c43b0 : (t402 == 2) = true := beq_iff_eq.mpr c43
                have c43b1 : (t402 != 2) = false := bne_eq_false_iff_eq.mpr c43
                clear c43
                obtain rfl := Option.some.inj H
                have hnb44 := NB403_397.out
                have hnc44 := NB397_403.out
                have hnb45 := NB403_408.out
                have hnc45 := NB408_403.out
                have hnb46 := NB403_413.out
                have hnc46 := NB413_403.out
                have hcz47_0 : wc.cell? ⟨gb403, 0, none⟩ = some (.slice Ao20 t399.length co20) := (blk_cell BK403.out 0).trans rfl
                have hfz47_0 := blk_frozen BK403.out 0
                go_wp2
                go_ret
                exact ⟨by first | rfl | (simp [errW_none, errW_some] <;> rfl) | (simp [*, errW_none, errW_some] <;> rfl), by repeat (first | (with_reducible first | exact HB.out | apply below_alloc | apply pw_below_drewN | apply below_drew1 | refine below_set ?_ GE397.out | refine below_set ?_ GE403.out | refine below_set ?_ GE408.out | refine below_set ?_ GE413.out) | exact HB.out)⟩
              · rw [if_neg c43] at H
                have c43b0 : (t402 == 2) = false := beq_eq_false_iff_ne.mpr c43
                have c43b1 : (t402 != 2) = true := bne_iff_ne.mpr c43
                exact absurd (H.trans (congrArg some hr_)) (by decide)
            · rw [if_neg c42] at H
              have c42b0 : decide (a1 < 0) = false := decide_eq_false c42
              clear c42
              (first | rw [c42b0] | (simp only [i64_w, i32_w]; rw [c42b0]) | skip)
              by_cases c48 : t398 > 0
              · rw [if_pos c48] at H
                have c48b0 : decide (0 < t398) = true := decide_eq_true c48
                clear c48
                by_cases c49 : t398 = 0
                · rw [if_pos c49] at H
                  exact absurd H (by simp)
                · rw [if_neg c49] at H
                  have c49b0 : (t398 == 0) = false := beq_eq_false_iff_ne.mpr c49
                  have c49b1 : (t398 != 0) = true := bne_iff_ne.mpr c49
                  by_cases c50 : a1 > (wrap64 ((1048576 : Int) / t398))
                  · rw [if_pos c50] at H
                    have c50b0 : decide ((wrap64 ((1048576 : Int) / t398)) < a1) = true := decide_eq_true c50
                    have c50b9 : decide ((wrap64 (Int.tdiv 1048576 t398)) < a1) = true := by rw [Int.tdiv_eq_ediv_of_nonneg (by decide)]; exact c50b0
                    clear c50
                    by_cases c51 : t402 = 20
                    · rw [if_pos c51] at H
                      have c51b0 : (t402 == 20) = true := beq_iff_eq.mpr c51
                      have c51b1 : (t402 != 20) = false := bne_eq_false_iff_eq.mpr c51
                      clear c51
                      obtain rfl := Option.some.inj H
                      have hnb52 := NB403_397.out
                      have hnc52 := NB397_403.out
                      have hnb53 := NB403_408.out
                      have hnc53 := NB408_403.out
                      have hnb54 := NB403_413.out
                      have hnc54 := NB413_403.out
                      have hcz55_0 : wc.cell? ⟨gb403, 0, none⟩ = some (.slice Ao20 t399.length co20) := (blk_cell BK403.out 0).trans rfl
                      have hfz55_0 := blk_frozen BK403.out 0
                      go_wp2
                      go_ret
                      exact ⟨by first | rfl | (simp [errW_none, errW_some] <;> rfl) | (simp [*, errW_none, errW_some] <;> rfl), by repeat (first | (with_reducible first | exact HB.out | apply below_alloc | apply pw_below_drewN | apply below_drew1 | refine below_set ?_ GE397.out | refine below_set ?_ GE403.out | refine below_set ?_ GE408.out | refine below_set ?_ GE413.out) | exact HB.out)⟩
                    · rw [if_neg c51] at H
                      have c51b0 : (t402 == 20) = false := beq_eq_false_iff_ne.mpr c51
                      have c51b1 : (t402 != 20) = true := bne_iff_ne.mpr c51
                      exact absurd (H.trans (congrArg some hr_)) (by decide)
                  · rw [if_neg c50] at H
                    have c50b0 : decide ((wrap64 ((1048576 : Int) / t398)) < a1) = false := decide_eq_false c50
                    have c50b9 : decide ((wrap64 (Int.tdiv 1048576 t398)) < a1) = false := by rw [Int.tdiv_eq_ediv_of_nonneg (by decide)]; exact c50b0
                    clear c50
                    have H' := Aside0.mk H
                    clear H
                    go_wp2
                    go_meet
                    case rel => exact ⟨_, H', ⟨by have := HJ9.out; first | omega | exact Nat.le_refl _⟩, ⟨by (with_reducible repeat (first | apply Kd.R_alloc | apply Kd.R_drewN | apply Kd.R_drew)); exact HO_398000.out⟩, ⟨by (with_reducible repeat (first | apply Kd.R_alloc | apply Kd.R_drewN | apply Kd.R_drew)); exact HO_404000.out⟩, ⟨by (with_reducible repeat (first | apply Kd.R_alloc | apply Kd.R_drewN | apply Kd.R_drew)); exact HO_409000.out⟩, ⟨by (with_reducible repeat (first | apply Kd.R_alloc | apply Kd.R_drewN | apply Kd.R_drew)); exact HO_414000.out⟩, ⟨by (with_reducible repeat (first | refine blk_drewN ?_ _ | refine blk_drew ?_ | refine blk_alloc ?_ _)); exact BK397.out⟩, ⟨by (with_reducible repeat (first | refine blk_drewN ?_ _ | refine blk_drew ?_ | refine blk_alloc ?_ _)); exact BK403.out⟩, ⟨by (with_reducible repeat (first | refine blk_drewN ?_ _ | refine blk_drew ?_ | refine blk_alloc ?_ _)); exact BK408.out⟩, ⟨by (with_reducible repeat (first | refine blk_drewN ?_ _ | refine blk_drew ?_ | refine blk_alloc ?_ _)); exact BK413.out⟩, ⟨by repeat (first | (with_reducible first | exact HB.out | apply below_alloc | apply pw_below_drewN | apply below_drew1 | refine below_set ?_ GE397.out | refine below_set ?_ GE403.out | refine below_set ?_ GE408.out | refine below_set ?_ GE413.out) | exact HB.out)⟩⟩
              · rw [if_neg c48] at H
                have c48b0 : decide (0 < t398) = false := decide_eq_false c48
                clear c48
                have H' := Aside0.mk H
                clear H
                go_wp2
                go_meet
                case rel => exact ⟨_, H', ⟨by have := HJ9.out; first | omega | exact Nat.le_refl _⟩, ⟨by (with_reducible repeat (first | apply Kd.R_alloc | apply Kd.R_drewN | apply Kd.R_drew)); exact HO_398000.out⟩, ⟨by (with_reducible repeat (first | apply Kd.R_alloc | apply Kd.R_drewN | apply Kd.R_drew)); exact HO_404000.out⟩, ⟨by (with_reducible repeat (first | apply Kd.R_alloc | apply Kd.R_drewN | apply Kd.R_drew)); exact HO_409000.out⟩, ⟨by (with_reducible repeat (first | apply Kd.R_alloc | apply Kd.R_drewN | apply Kd.R_drew)); exact HO_414000.out⟩, ⟨by (with_reducible repeat (first | refine blk_drewN ?_ _ | refine blk_drew ?_ | refine blk_alloc ?_ _)); exact BK397.out⟩, ⟨by (with_reducible repeat (first | refine blk_drewN ?_ _ | refine blk_drew ?_ | refine blk_alloc ?_ _)); exact BK403.out⟩, ⟨by (with_reducible repeat (first | refine blk_drewN ?_ _ | refine blk_drew ?_ | refine blk_alloc ?_ _)); exact BK408.out⟩, ⟨by (with_reducible repeat (first | refine blk_drewN ?_ _ | refine blk_drew ?_ | refine blk_alloc ?_ _)); exact BK413.out⟩, ⟨by repeat (first | (with_reducible first | exact HB.out | apply below_alloc | apply pw_below_drewN | apply below_drew1 | refine below_set ?_ GE397.out | refine below_set ?_ GE403.out | refine below_set ?_ GE408.out | refine below_set ?_ GE413.out) | exact HB.out)⟩⟩
          case rest =>
            clear HC41
            try clear c1
            try clear c2
            try clear p2
            try clear c3
            try clear c4
            try clear c5
            try clear p6
            try clear c11
            try clear c12
            try clear c18
            try clear c21
            try clear c26
            try clear c27
            try clear c30
            try clear c31
            try clear c33
            try clear c34
            try clear c35
            try clear c36
            try clear c37
            try clear c37b0
            try clear c37b1
            try clear c38
            try clear c38b0
            try clear c38b1
            try clear c38b2
            try clear c39
            try clear c39b0
            try clear c39b1
            try clear c40
            try clear c42
            try clear c42b0
            try clear c43
            try clear c43b0
            try clear c43b1
            try clear c44
            try clear c45
            try clear c46
            try clear c48
            try clear c48b0
            try clear c49
            try clear c49b0
            try clear c49b1
            try clear c50
            try clear c50b0
            try clear c51
            try clear c51b0
            try clear c51b1
            try clear c52
            try clear c53
            try clear c54
            try clear hcz15_0
            try clear hcz17_0
            try clear hcz22_0
            try clear hcz28_0
            try clear hcz29_0
            try clear hcz36_0
            try clear hcz47_0
            try clear hcz55_0
            try clear hfz15_0
            try clear hfz17_0
            try clear hfz22_0
            try clear hfz28_0
            try clear hfz29_0
            try clear hfz36_0
            try clear hfz47_0
            try clear hfz55_0
            try clear p2
            obtain ⟨kq, HA, HJ40, HO_398000, HO_404000, HO_409000, HO_414000, BK397, BK403, BK408, BK413, HB⟩ := hcut
            cases kq with
            | zero => exact absurd HA.out (by simp [sleuthlaw21_HistogramScales.j1])
            | succ kj40 =>
              have H := HA.out
              clear HA
              simp only [sleuthlaw21_HistogramScales.j1] at H
              have H' := Aside0.mk H
              clear H
              go_wp2
              go_loopg [13] kj40 (fun kq v13 w' => ∃ (x13_3 : Int), v13 = .int .i64 x13_3 ∧ Aside0 (sleuthlaw21_HistogramScales.l0 kq a1 t398 t402 x13_3 t394 t399 = some r) ∧ Aside0 (kq ≤ kj40) ∧ Aside0 (Kd.R k67 67 w' w.heap.size (fun k_ => some k_ ≠ ((.slice Ao20 t399.length co20) : Value).ownBlock ∧ some k_ ≠ ((.slice Ao25 t404.length co25) : Value).ownBlock ∧ some k_ ≠ ((.slice Ao32 t409.length co32) : Value).ownBlock) (.slice Ao14 t394.length co14) t394) ∧ Aside0 (Kd.R k67 67 w' w.heap.size (fun k_ => some k_ ≠ ((.slice Ao14 t394.length co14) : Value).ownBlock ∧ some k_ ≠ ((.slice Ao25 t404.length co25) : Value).ownBlock ∧ some k_ ≠ ((.slice Ao32 t409.length co32) : Value).ownBlock) (.slice Ao20 t399.length co20) t399) ∧ Aside0 (Kd.R k67 67 w' w.heap.size (fun k_ => some k_ ≠ ((.slice Ao14 t394.length co14) : Value).ownBlock ∧ some k_ ≠ ((.slice Ao20 t399.length co20) : Value).ownBlock ∧ some k_ ≠ ((.slice Ao32 t409.length co32) : Value).ownBlock) (.slice Ao25 t404.length co25) t404) ∧ Aside0 (Kd.R k67 67 w' w.heap.size (fun k_ => some k_ ≠ ((.slice Ao14 t394.length co14) : Value).ownBlock ∧ some k_ ≠ ((.slice Ao20 t399.length co20) : Value).ownBlock ∧ some k_ ≠ ((.slice Ao25 t404.length co25) : Value).ownBlock) (.slice Ao32 t409.length co32) t409) ∧ Aside0 (w'.heap[gb397]? = some (.cells #[(.slice Ao14 t394.length co14)] 33 (0, 0))) ∧ Aside0 (w'.heap[gb403]? = some (.cells #[(.slice Ao20 t399.length co20)] 33 (0, 0))) ∧ Aside0 (w'.heap[gb408]? = some (.cells #[(.slice Ao25 t404.length co25)] 33 (0, 0))) ∧ Aside0 (w'.heap[gb413]? = some (.cells #[(.slice Ao32 t409.length co32)] 33 (0, 0))) ∧ Aside0 (Below w.heap.size w w'))
              case atStart => exact ⟨(0), (by first | rfl | (simp; done) | (simp [*]; done)), H', ⟨Nat.le_refl _⟩, ⟨by (with_reducible repeat (first | apply Kd.R_alloc | apply Kd.R_drewN | apply Kd.R_drew)); exact HO_398000.out⟩, ⟨by (with_reducible repeat (first | apply Kd.R_alloc | apply Kd.R_drewN | apply Kd.R_drew)); exact HO_404000.out⟩, ⟨by (with_reducible repeat (first | apply Kd.R_alloc | apply Kd.R_drewN | apply Kd.R_drew)); exact HO_409000.out⟩, ⟨by (with_reducible repeat (first | apply Kd.R_alloc | apply Kd.R_drewN | apply Kd.R_drew)); exact HO_414000.out⟩, ⟨by (with_reducible repeat (first | refine blk_drewN ?_ _ | refine blk_drew ?_ | refine blk_alloc ?_ _)); exact BK397.out⟩, ⟨by (with_reducible repeat (first | refine blk_drewN ?_ _ | refine blk_drew ?_ | refine blk_alloc ?_ _)); exact BK403.out⟩, ⟨by (with_reducible repeat (first | refine blk_drewN ?_ _ | refine blk_drew ?_ | refine blk_alloc ?_ _)); exact BK408.out⟩, ⟨by (with_reducible repeat (first | refine blk_drewN ?_ _ | refine blk_drew ?_ | refine blk_alloc ?_ _)); exact BK413.out⟩, ⟨by repeat (first | (with_reducible first | exact HB.out | apply below_alloc | apply pw_below_drewN | apply below_drew1 | refine below_set ?_ GE397.out | refine below_set ?_ GE403.out | refine below_set ?_ GE408.out | refine below_set ?_ GE413.out) | exact HB.out)⟩⟩
              case round =>
                clear H'
                try clear c1
                try clear c2
                try clear p2
                try clear c3
                try clear c4
                try clear c5
                try clear p6
                try clear c11
                try clear c12
                try clear c18
                try clear c21
                try clear c26
                try clear c27
                try clear c30
                try clear c31
                try clear c33
                try clear c34
                try clear c35
                try clear c36
                try clear c37
                try clear c37b0
                try clear c37b1
                try clear c38
                try clear c38b0
                try clear c38b1
                try clear c38b2
                try clear c39
                try clear c39b0
                try clear c39b1
                try clear c40
                try clear c42
                try clear c42b0
                try clear c43
                try clear c43b0
                try clear c43b1
                try clear c44
                try clear c45
                try clear c46
                try clear c48
                try clear c48b0
                try clear c49
                try clear c49b0
                try clear c49b1
                try clear c50
                try clear c50b0
                try clear c51
                try clear c51b0
                try clear c51b1
                try clear c52
                try clear c53
                try clear c54
                try clear hcz15_0
                try clear hcz17_0
                try clear hcz22_0
                try clear hcz28_0
                try clear hcz29_0
                try clear hcz36_0
                try clear hcz47_0
                try clear hcz55_0
                try clear hfz15_0
                try clear hfz17_0
                try clear hfz22_0
                try clear hfz28_0
                try clear hfz29_0
                try clear hfz36_0
                try clear hfz47_0
                try clear hfz55_0
                try clear p2
                try clear p6
                obtain ⟨x13_3, rfl, HA, HK3, HO_398000, HO_404000, HO_409000, HO_414000, BK397, BK403, BK408, BK413, HB⟩ := hrel
                cases gk with
                | zero => exact absurd HA.out (by simp [sleuthlaw21_HistogramScales.l0])
                | succ k3 =>
                  have H := HA.out
                  clear HA
                  simp only [sleuthlaw21_HistogramScales.l0] at H
                  by_cases c56 : x13_3 < 305
                  · rw [if_pos c56] at H
                    have c56b0 : decide (x13_3 < 305) = true := decide_eq_true c56
                    clear c56
                    replace H := Option.bind_eq_some_iff.mp H
                    obtain ⟨t414, A570, H⟩ := H
                    replace H : ((sleuthlaw21_at.f k3 t394 x13_3).bind fun t415 => (if t414 = (wrap64 (t415 * a1)) then (sleuthlaw21_HistogramScales.l0 k3 a1 t398 t402 (wrap64 (x13_3 + 1)) t394 t399) else (some false))) = some r := H
                    have A57 := Aside0.mk A570
                    clear A570
                    replace H := Option.bind_eq_some_iff.mp H
                    obtain ⟨t415, A580, H⟩ := H
                    replace H : (if t414 = (wrap64 (t415 * a1)) then (sleuthlaw21_HistogramScales.l0 k3 a1 t398 t402 (wrap64 (x13_3 + 1)) t394 t399) else (some false)) = some r := H
                    have A58 := Aside0.mk A580
                    clear A580
                    by_cases c59 : t414 = (wrap64 (t415 * a1))
                    · rw [if_pos c59] at H
                      have c59b0 : (t414 == (wrap64 (t415 * a1))) = true := beq_iff_eq.mpr c59
                      have c59b1 : (t414 != (wrap64 (t415 * a1))) = false := bne_eq_false_iff_eq.mpr c59
                      clear c59
                      have H' := Aside0.mk H
                      clear H
                      try go_wp2
                      have n0_ := Aside0.mk (Kd.R_drew HO_398000.out)
                      have n1_ := Aside0.mk (Kd.R_drew HO_404000.out)
                      have n2_ := Aside0.mk (Kd.R_drew HO_409000.out)
                      have n3_ := Aside0.mk (Kd.R_drew HO_414000.out)
                      have n4_ := Aside0.mk (blk_drew BK397.out)
                      have n5_ := Aside0.mk (blk_drew BK403.out)
                      have n6_ := Aside0.mk (blk_drew BK408.out)
                      have n7_ := Aside0.mk (blk_drew BK413.out)
                      have n8_ := Aside0.mk (below_drew1 HB.out)
                      clear HO_398000
                      clear HO_404000
                      clear HO_409000
                      clear HO_414000
                      clear BK397
                      clear BK403
                      clear BK408
                      clear BK413
                      clear HB
                      have HO_398000 := n0_
                      have HO_404000 := n1_
                      have HO_409000 := n2_
                      have HO_414000 := n3_
                      have BK397 := n4_
                      have BK403 := n5_
                      have BK408 := n6_
                      have BK413 := n7_
                      have HB := n8_
                      clear n0_ n1_ n2_ n3_ n4_ n5_ n6_ n7_ n8_
                      refine start_ (n := 9) (S := fun w' => w'.cell? ⟨gb403, 0, none⟩ = some (.slice Ao20 t399.length co20) ∧ w'.cell? ⟨gb397, 0, none⟩ = some (.slice Ao14 t394.length co14)) (ds := []) #[false, false, false, false, false, false, false, false, false] (by kernel_rfl) rfl rfl ⟨(blk_cell BK403.out 0).trans rfl, (blk_cell BK397.out 0).trans rfl⟩ (fun hHeld => ?_); refine with_tabW sleuthlaw21_HistogramScales.tab17 sleuthlaw21_HistogramScales.bits17 (fun HT_ HW_ => ?_)
                      generalize wr.drew = w60 at HO_398000 HO_404000 HO_409000 HO_414000 BK397 BK403 BK408 BK413 HB hHeld ⊢
                      refine pure_ (i := 1) (N := some 91) (v := ?_) (a' := ?_) #[false, true, false, false, false, false, false, false, false] rfl rfl (any_of HT_.out (by kernel_rfl)) (fun _ _ _ h => h) (Or.inl ⟨by rfl, ?_⟩) ?_ ?_
                      rotate_left
                      · intro w'
                        go_simp
                        with_reducible rfl
                      rotate_left
                      · simp only [Act.put, List.setIfInBounds_toArray, List.set_cons_zero, List.set_cons_succ, i64_w, i32_w]
                        rfl
                      refine pure_ (i := 4) (N := some 94) (v := ?_) (a' := ?_) #[false, true, false, false, true, false, false, false, false] rfl rfl (any_of HT_.out (by kernel_rfl)) (fun _ _ _ h => h) (Or.inl ⟨by rfl, ?_⟩) ?_ ?_
                      rotate_left
                      · intro w'
                        go_simp
                        with_reducible rfl
                      rotate_left
                      · simp only [Act.put, List.setIfInBounds_toArray, List.set_cons_zero, List.set_cons_succ, i64_w, i32_w]
                        rfl
                      refine pure_ (i := 6) (N := some 96) (v := ?_) (a' := ?_) #[false, true, false, false, true, false, true, false, false] rfl rfl (any_of HT_.out (by kernel_rfl)) (fun _ _ _ h => h) (Or.inl ⟨by rfl, ?_⟩) ?_ ?_
                      rotate_left
                      · intro w'
                        go_simp
                        with_reducible rfl
                      rotate_left
                      · simp only [Act.put, List.setIfInBounds_toArray, List.set_cons_zero, List.set_cons_succ, i64_w, i32_w]
                        rfl
                      refine take_ (i := 0) (N := some 90) (v := ?_) (a' := ?_) #[true, true, false, false, true, false, true, false, false] rfl rfl (take_ofW HT_.out HW_.out (by kernel_rfl)) (fun _ _ _ h => h) (Or.inl ⟨by rfl, ?_⟩) hHeld ?_ ?_
                      rotate_left
                      · rintro w' ⟨s0, s1⟩
                        go_simp
                        with_reducible rfl
                      rotate_left
                      · simp only [Act.put, List.setIfInBounds_toArray, List.set_cons_zero, List.set_cons_succ, i64_w, i32_w]
                        rfl
                      refine take_ (i := 3) (N := some 93) (v := ?_) (a' := ?_) #[true, true, false, true, true, false, true, false, false] rfl rfl (take_ofW HT_.out HW_.out (by kernel_rfl)) (fun _ _ _ h => h) (Or.inl ⟨by rfl, ?_⟩) hHeld ?_ ?_
                      rotate_left
                      · rintro w' ⟨s0, s1⟩
                        go_simp
                        with_reducible rfl
                      rotate_left
                      · simp only [Act.put, List.setIfInBounds_toArray, List.set_cons_zero, List.set_cons_succ, i64_w, i32_w]
                        rfl
                      refine one_ (i := 2) (N := some 92) #[true, true, true, true, true, false, true, false, false] rfl rfl (one_of HT_.out (by kernel_rfl)) (by decide) (fun K hK => ?_)
                      refine goes_ Try.func32 (by kernel_rfl) rfl #[.agg #[.slice Ao20 t399.length co20], .int .i64 x13_3] (by rfl) rfl rfl (by (try simp only [List.map_toArray, List.map_cons, List.map_nil]); first | done | rfl | (simp only [List.length_drop, List.length_take]; rfl)) ?_
                      with_reducible refine (sleuthlaw21_at.calls k3 _ _ t399 x13_3 t414 _ ?side1 ?side2 A57.out).mono ?_
                      (case side1 => repeat (first | exact (Kd.R_reads' HO_404000.out).2.2 | (with_reducible refine Kd.C_alloc ?_ _) | (with_reducible refine Kd.C_drewN ?_ _) | (with_reducible refine Kd.C_drew ?_)))
                      (case side2 => exact (Kd.R_reads' HO_404000.out).2.1)
                      rintro e w61 ⟨rfl, hb⟩
                      refine ⟨_, rfl, ?_⟩
                      have n0_ := Aside0.mk (Kd.R_below (by (with_reducible repeat (first | apply Kd.R_alloc | apply Kd.R_drewN | apply Kd.R_drew)); exact HO_398000.out) hb)
                      have n1_ := Aside0.mk (Kd.R_below (by (with_reducible repeat (first | apply Kd.R_alloc | apply Kd.R_drewN | apply Kd.R_drew)); exact HO_404000.out) hb)
                      have n2_ := Aside0.mk (Kd.R_below (by (with_reducible repeat (first | apply Kd.R_alloc | apply Kd.R_drewN | apply Kd.R_drew)); exact HO_409000.out) hb)
                      have n3_ := Aside0.mk (Kd.R_below (by (with_reducible repeat (first | apply Kd.R_alloc | apply Kd.R_drewN | apply Kd.R_drew)); exact HO_414000.out) hb)
                      have n4_ := Aside0.mk (blk_below (g := gb397) (o := .cells #[.slice Ao14 t394.length co14] 33 (0, 0)) (by (with_reducible repeat (first | refine blk_drewN ?_ _ | refine blk_drew ?_ | refine blk_alloc ?_ _)); exact BK397.out) hb)
                      have n5_ := Aside0.mk (blk_below (g := gb403) (o := .cells #[.slice Ao20 t399.length co20] 33 (0, 0)) (by (with_reducible repeat (first | refine blk_drewN ?_ _ | refine blk_drew ?_ | refine blk_alloc ?_ _)); exact BK403.out) hb)
                      have n6_ := Aside0.mk (blk_below (g := gb408) (o := .cells #[.slice Ao25 t404.length co25] 33 (0, 0)) (by (with_reducible repeat (first | refine blk_drewN ?_ _ | refine blk_drew ?_ | refine blk_alloc ?_ _)); exact BK408.out) hb)
                      have n7_ := Aside0.mk (blk_below (g := gb413) (o := .cells #[.slice Ao32 t409.length co32] 33 (0, 0)) (by (with_reducible repeat (first | refine blk_drewN ?_ _ | refine blk_drew ?_ | refine blk_alloc ?_ _)); exact BK413.out) hb)
                      have n8_ := Aside0.mk (below_step (by repeat (first | (with_reducible first | exact HB.out | apply below_alloc | apply pw_below_drewN | apply below_drew1 | refine below_set ?_ GE397.out | refine below_set ?_ GE403.out | refine below_set ?_ GE408.out | refine below_set ?_ GE413.out) | exact HB.out)) hb)
                      clear HO_398000
                      clear HO_404000
                      clear HO_409000
                      clear HO_414000
                      clear BK397
                      clear BK403
                      clear BK408
                      clear BK413
                      clear HB
                      have HO_398000 := n0_
                      have HO_404000 := n1_
                      have HO_409000 := n2_
                      have HO_414000 := n3_
                      have BK397 := n4_
                      have BK403 := n5_
                      have BK408 := n6_
                      have BK413 := n7_
                      have HB := n8_
                      clear n0_ n1_ n2_ n3_ n4_ n5_ n6_ n7_ n8_
                      (try clear hb)
                      (try clear hb2)
                      (try clear hk)
                      (try clear hi)
                      refine hK.out _ _ ⟨(blk_cell BK403.out 0).trans rfl, (blk_cell BK397.out 0).trans rfl⟩ (fun hHeld => ?_)
                      clear hK K
                      refine norm_ (a' := ?_) ?_ ?_
                      rotate_left
                      · show Act.put _ (some 92) _ = _
                        simp only [Act.put, List.setIfInBounds_toArray, List.set_cons_zero, List.set_cons_succ, i64_w, i32_w]
                        rfl
                      refine one_ (i := 5) (N := some 95) #[true, true, true, true, true, true, true, false, false] rfl rfl (one_of HT_.out (by kernel_rfl)) (by decide) (fun K hK => ?_)
                      refine goes_ Try.func32 (by kernel_rfl) rfl #[.agg #[.slice Ao14 t394.length co14], .int .i64 x13_3] (by rfl) rfl rfl (by (try simp only [List.map_toArray, List.map_cons, List.map_nil]); first | done | rfl | (simp only [List.length_drop, List.length_take]; rfl)) ?_
                      with_reducible refine (sleuthlaw21_at.calls k3 _ _ t394 x13_3 t415 _ ?side1 ?side2 A58.out).mono ?_
                      (case side1 => repeat (first | exact (Kd.R_reads' HO_398000.out).2.2 | (with_reducible refine Kd.C_alloc ?_ _) | (with_reducible refine Kd.C_drewN ?_ _) | (with_reducible refine Kd.C_drew ?_)))
                      (case side2 => exact (Kd.R_reads' HO_398000.out).2.1)
                      rintro e w62 ⟨rfl, hb⟩
                      refine ⟨_, rfl, ?_⟩
                      have n0_ := Aside0.mk (Kd.R_below (by (with_reducible repeat (first | apply Kd.R_alloc | apply Kd.R_drewN | apply Kd.R_drew)); exact HO_398000.out) hb)
                      have n1_ := Aside0.mk (Kd.R_below (by (with_reducible repeat (first | apply Kd.R_alloc | apply Kd.R_drewN | apply Kd.R_drew)); exact HO_404000.out) hb)
                      have n2_ := Aside0.mk (Kd.R_below (by (with_reducible repeat (first | apply Kd.R_alloc | apply Kd.R_drewN | apply Kd.R_drew)); exact HO_409000.out) hb)
                      have n3_ := Aside0.mk (Kd.R_below (by (with_reducible repeat (first | apply Kd.R_alloc | apply Kd.R_drewN | apply Kd.R_drew)); exact HO_414000.out) hb)
                      have n4_ := Aside0.mk (blk_below (g := gb397) (o := .cells #[.slice Ao14 t394.length co14] 33 (0, 0)) (by (with_reducible repeat (first | refine blk_drewN ?_ _ | refine blk_drew ?_ | refine blk_alloc ?_ _)); exact BK397.out) hb)
                      have n5_ := Aside0.mk (blk_below (g := gb403) (o := .cells #[.slice Ao20 t399.length co20] 33 (0, 0)) (by (with_reducible repeat (first | refine blk_drewN ?_ _ | refine blk_drew ?_ | refine blk_alloc ?_ _)); exact BK403.out) hb)
                      have n6_ := Aside0.mk (blk_below (g := gb408) (o := .cells #[.slice Ao25 t404.length co25] 33 (0, 0)) (by (with_reducible repeat (first | refine blk_drewN ?_ _ | refine blk_drew ?_ | refine blk_alloc ?_ _)); exact BK408.out) hb)
                      have n7_ := Aside0.mk (blk_below (g := gb413) (o := .cells #[.slice Ao32 t409.length co32] 33 (0, 0)) (by (with_reducible repeat (first | refine blk_drewN ?_ _ | refine blk_drew ?_ | refine blk_alloc ?_ _)); exact BK413.out) hb)
                      have n8_ := Aside0.mk (below_step (by repeat (first | (with_reducible first | exact HB.out | apply below_alloc | apply pw_below_drewN | apply below_drew1 | refine below_set ?_ GE397.out | refine below_set ?_ GE403.out | refine below_set ?_ GE408.out | refine below_set ?_ GE413.out) | exact HB.out)) hb)
                      clear HO_398000
                      clear HO_404000
                      clear HO_409000
                      clear HO_414000
                      clear BK397
                      clear BK403
                      clear BK408
                      clear BK413
                      clear HB
                      have HO_398000 := n0_
                      have HO_404000 := n1_
                      have HO_409000 := n2_
                      have HO_414000 := n3_
                      have BK397 := n4_
                      have BK403 := n5_
                      have BK408 := n6_
                      have BK413 := n7_
                      have HB := n8_
                      clear n0_ n1_ n2_ n3_ n4_ n5_ n6_ n7_ n8_
                      (try clear hb)
                      (try clear hb2)
                      (try clear hk)
                      (try clear hi)
                      refine hK.out _ _ ⟨(blk_cell BK403.out 0).trans rfl, (blk_cell BK397.out 0).trans rfl⟩ (fun hHeld => ?_)
                      clear hK K
                      refine norm_ (a' := ?_) ?_ ?_
                      rotate_left
                      · show Act.put _ (some 95) _ = _
                        simp only [Act.put, List.setIfInBounds_toArray, List.set_cons_zero, List.set_cons_succ, i64_w, i32_w]
                        rfl
                      refine pure_ (i := 7) (N := some 97) (v := ?_) (a' := ?_) #[true, true, true, true, true, true, true, true, false] rfl rfl (any_of HT_.out (by kernel_rfl)) (fun _ _ _ h => h) (Or.inl ⟨by rfl, ?_⟩) ?_ ?_
                      rotate_left
                      · intro w'
                        go_simp
                        with_reducible rfl
                      rotate_left
                      · simp only [Act.put, List.setIfInBounds_toArray, List.set_cons_zero, List.set_cons_succ, i64_w, i32_w]
                        rfl
                      refine pure_ (i := 8) (N := some 98) (v := ?_) (a' := ?_) #[true, true, true, true, true, true, true, true, true] rfl rfl (any_of HT_.out (by kernel_rfl)) (fun _ _ _ h => h) (Or.inl ⟨by rfl, ?_⟩) ?_ ?_
                      rotate_left
                      · intro w'
                        go_simp
                        with_reducible rfl
                      rotate_left
                      · simp only [Act.put, List.setIfInBounds_toArray, List.set_cons_zero, List.set_cons_succ, i64_w, i32_w]
                        rfl
                      refine done_ (done_of HT_.out (by kernel_rfl)) ?_
                      try go_wp2
                      go_roundg k3
                      case measure => have := HJ9.out; have := HJ40.out; have := HK3.out; omega
                      case rel => exact ⟨(wrap64 (x13_3 + 1)), (by first | rfl | (simp; done) | (simp [*]; done)), H', ⟨by have := HJ9.out; have := HJ40.out; have := HK3.out; omega⟩, ⟨by (with_reducible repeat (first | apply Kd.R_alloc | apply Kd.R_drewN | apply Kd.R_drew)); exact HO_398000.out⟩, ⟨by (with_reducible repeat (first | apply Kd.R_alloc | apply Kd.R_drewN | apply Kd.R_drew)); exact HO_404000.out⟩, ⟨by (with_reducible repeat (first | apply Kd.R_alloc | apply Kd.R_drewN | apply Kd.R_drew)); exact HO_409000.out⟩, ⟨by (with_reducible repeat (first | apply Kd.R_alloc | apply Kd.R_drewN | apply Kd.R_drew)); exact HO_414000.out⟩, ⟨by (with_reducible repeat (first | refine blk_drewN ?_ _ | refine blk_drew ?_ | refine blk_alloc ?_ _)); exact BK397.out⟩, ⟨by (with_reducible repeat (first | refine blk_drewN ?_ _ | refine blk_drew ?_ | refine blk_alloc ?_ _)); exact BK403.out⟩, ⟨by (with_reducible repeat (first | refine blk_drewN ?_ _ | refine blk_drew ?_ | refine blk_alloc ?_ _)); exact BK408.out⟩, ⟨by (with_reducible repeat (first | refine blk_drewN ?_ _ | refine blk_drew ?_ | refine blk_alloc ?_ _)); exact BK413.out⟩, ⟨by repeat (first | (with_reducible first | exact HB.out | apply below_alloc | apply pw_below_drewN | apply below_drew1 | refine below_set ?_ GE397.out | refine below_set ?_ GE403.out | refine below_set ?_ GE408.out | refine below_set ?_ GE413.out) | exact HB.out)⟩⟩
                    · rw [if_neg c59] at H
                      have c59b0 : (t414 == (wrap64 (t415 * a1))) = false := beq_eq_false_iff_ne.mpr c59
                      have c59b1 : (t414 != (wrap64 (t415 * a1))) = true := bne_iff_ne.mpr c59
                      exact absurd (H.trans (congrArg some hr_)) (by decide)
                  · rw [if_neg c56] at H
                    have c56b0 : decide (x13_3 < 305) = false := decide_eq_false c56
                    clear c56
                    replace H := Option.bind_eq_some_iff.mp H
                    obtain ⟨⟨t416, t419⟩, A630, H⟩ := H
                    replace H : ((histogram_Scale.f k3 t394 2).bind fun bt421 => (if t402 = 0 then ((histogram_Check.f k3 t399).bind fun t426 => (if t426 = 0 then (if t419 = 0 then (if bt421.2 = 0 then ((histogram_Equal.f k3 t416 bt421.1).bind fun t427 => (if t427 = true then (if t398 > 0 then (some true) else (some ((t399.length : Int) == 0))) else (some false))) else (some false)) else (some false)) else (some false))) else (some false))) = some r := H
                    have A63 := Aside0.mk A630
                    clear A630
                    replace H := Option.bind_eq_some_iff.mp H
                    obtain ⟨⟨t421, t424⟩, A640, H⟩ := H
                    replace H : (if t402 = 0 then ((histogram_Check.f k3 t399).bind fun t426 => (if t426 = 0 then (if t419 = 0 then (if t424 = 0 then ((histogram_Equal.f k3 t416 t421).bind fun t427 => (if t427 = true then (if t398 > 0 then (some true) else (some ((t399.length : Int) == 0))) else (some false))) else (some false)) else (some false)) else (some false))) else (some false)) = some r := H
                    have A64 := Aside0.mk A640
                    clear A640
                    by_cases c65 : t402 = 0
                    · rw [if_pos c65] at H
                      have c65b0 : (t402 == 0) = true := beq_iff_eq.mpr c65
                      have c65b1 : (t402 != 0) = false := bne_eq_false_iff_eq.mpr c65
                      clear c65
                      replace H := Option.bind_eq_some_iff.mp H
                      obtain ⟨t426, A660, H⟩ := H
                      replace H : (if t426 = 0 then (if t419 = 0 then (if t424 = 0 then ((histogram_Equal.f k3 t416 t421).bind fun t427 => (if t427 = true then (if t398 > 0 then (some true) else (some ((t399.length : Int) == 0))) else (some false))) else (some false)) else (some false)) else (some false)) = some r := H
                      have A66 := Aside0.mk A660
                      clear A660
                      by_cases c67 : t426 = 0
                      · rw [if_pos c67] at H
                        have c67b0 : (t426 == 0) = true := beq_iff_eq.mpr c67
                        have c67b1 : (t426 != 0) = false := bne_eq_false_iff_eq.mpr c67
                        clear c67
                        by_cases c68 : t419 = 0
                        · rw [if_pos c68] at H
                          have c68b0 : (t419 == 0) = true := beq_iff_eq.mpr c68
                          have c68b1 : (t419 != 0) = false := bne_eq_false_iff_eq.mpr c68
                          clear c68
                          by_cases c69 : t424 = 0
                          · rw [if_pos c69] at H
                            have c69b0 : (t424 == 0) = true := beq_iff_eq.mpr c69
                            have c69b1 : (t424 != 0) = false := bne_eq_false_iff_eq.mpr c69
                            clear c69
                            replace H := Option.bind_eq_some_iff.mp H
                            obtain ⟨t427, A700, H⟩ := H
                            replace H : (if t427 = true then (if t398 > 0 then (some true) else (some ((t399.length : Int) == 0))) else (some false)) = some r := H
                            have A70 := Aside0.mk A700
                            clear A700
                            by_cases c71 : t427 = true
                            · subst c71
                              have H1 : (if t398 > 0 then (some true) else (some ((t399.length : Int) == 0))) = some r := by rw [if_pos rfl] at H; exact H
                              clear H
                              have H := H1
                              clear H1
                              by_cases c72 : t398 > 0
                              · rw [if_pos c72] at H
                                have c72b0 : decide (0 < t398) = true := decide_eq_true c72
                                clear c72
                                obtain rfl := Option.some.inj H
                                have hnb73 := NB397_403.out
                                have hnc73 := NB403_397.out
                                have hnb74 := NB397_408.out
                                have hnc74 := NB408_397.out
                                have hnb75 := NB397_413.out
                                have hnc75 := NB413_397.out
                                have hcz76_0 : wr.cell? ⟨gb397, 0, none⟩ = some (.slice Ao14 t394.length co14) := (blk_cell BK397.out 0).trans rfl
                                have hfz76_0 := blk_frozen BK397.out 0
                                go_wp2_with (first | ((with_reducible refine gate_callee (f := 33) rfl ?_); refine goesL_ (some 102) rfl rfl Try.func33 (by kernel_rfl) rfl #[.agg #[.slice Ao14 t394.length co14], .agg #[.slice Ao14 t394.length co14]] rfl (by (try simp only [List.map_toArray, List.map_cons, List.map_nil]); first | done | rfl | (simp only [List.length_drop, List.length_take]; rfl)) ?_; (with_reducible refine (histogram_Merge.calls k3 _ _ t394 _ _ t394 t416 t419 _ ?side1 ?side2 ?side3 ?side4 A63.out).mono ?_); (case side1 => repeat (first | exact (Kd.R_reads' HO_398000.out).2.2 | (with_reducible refine Kd.C_alloc ?_ _) | (with_reducible refine Kd.C_drewN ?_ _) | (with_reducible refine Kd.C_drew ?_))); (case side2 => exact (Kd.R_reads' HO_398000.out).2.1); (case side3 => repeat (first | exact (Kd.R_reads' HO_398000.out).2.2 | (with_reducible refine Kd.C_alloc ?_ _) | (with_reducible refine Kd.C_drewN ?_ _) | (with_reducible refine Kd.C_drew ?_))); (case side4 => exact (Kd.R_reads' HO_398000.out).2.1); rintro e w77 ⟨v417, rfl, ho0, hb⟩; refine ⟨_, rfl, ?_⟩; have n0_ := Aside0.mk (Kd.R_elder' (by (with_reducible repeat (first | apply Kd.R_alloc | apply Kd.R_drewN | apply Kd.R_drew)); exact HO_398000.out) (Kd.R_base ho0) hb); have n1_ := Aside0.mk (Kd.R_elder' (by (with_reducible repeat (first | apply Kd.R_alloc | apply Kd.R_drewN | apply Kd.R_drew)); exact HO_404000.out) (Kd.R_base ho0) hb); have n2_ := Aside0.mk (Kd.R_elder' (by (with_reducible repeat (first | apply Kd.R_alloc | apply Kd.R_drewN | apply Kd.R_drew)); exact HO_409000.out) (Kd.R_base ho0) hb); have n3_ := Aside0.mk (Kd.R_elder' (by (with_reducible repeat (first | apply Kd.R_alloc | apply Kd.R_drewN | apply Kd.R_drew)); exact HO_414000.out) (Kd.R_base ho0) hb); have n4_ := Aside0.mk (Kd.R_lower (Kd.R_new' (Kd.R_new' (Kd.R_new' (Kd.R_new' ho0 (Kd.R_lt (by (with_reducible repeat (first | apply Kd.R_alloc | apply Kd.R_drewN | apply Kd.R_drew)); exact HO_398000.out))) (Kd.R_lt (by (with_reducible repeat (first | apply Kd.R_alloc | apply Kd.R_drewN | apply Kd.R_drew)); exact HO_404000.out))) (Kd.R_lt (by (with_reducible repeat (first | apply Kd.R_alloc | apply Kd.R_drewN | apply Kd.R_drew)); exact HO_409000.out))) (Kd.R_lt (by (with_reducible repeat (first | apply Kd.R_alloc | apply Kd.R_drewN | apply Kd.R_drew)); exact HO_414000.out))) (below_size (by repeat (first | (with_reducible first | exact HB.out | apply below_alloc | apply pw_below_drewN | apply below_drew1 | refine below_set ?_ GE397.out | refine below_set ?_ GE403.out | refine below_set ?_ GE408.out | refine below_set ?_ GE413.out) | exact HB.out)))); have n5_ := Aside0.mk (blk_below (g := gb397) (o := .cells #[.slice Ao14 t394.length co14] 33 (0, 0)) (by (with_reducible repeat (first | refine blk_drewN ?_ _ | refine blk_drew ?_ | refine blk_alloc ?_ _)); exact BK397.out) hb); have n6_ := Aside0.mk (blk_below (g := gb403) (o := .cells #[.slice Ao20 t399.length co20] 33 (0, 0)) (by (with_reducible repeat (first | refine blk_drewN ?_ _ | refine blk_drew ?_ | refine blk_alloc ?_ _)); exact BK403.out) hb); have n7_ := Aside0.mk (blk_below (g := gb408) (o := .cells #[.slice Ao25 t404.length co25] 33 (0, 0)) (by (with_reducible repeat (first | refine blk_drewN ?_ _ | refine blk_drew ?_ | refine blk_alloc ?_ _)); exact BK408.out) hb); have n8_ := Aside0.mk (blk_below (g := gb413) (o := .cells #[.slice Ao32 t409.length co32] 33 (0, 0)) (by (with_reducible repeat (first | refine blk_drewN ?_ _ | refine blk_drew ?_ | refine blk_alloc ?_ _)); exact BK413.out) hb); have n9_ := Aside0.mk (below_step (by repeat (first | (with_reducible first | exact HB.out | apply below_alloc | apply pw_below_drewN | apply below_drew1 | refine below_set ?_ GE397.out | refine below_set ?_ GE403.out | refine below_set ?_ GE408.out | refine below_set ?_ GE413.out) | exact HB.out)) hb); clear HO_398000; clear HO_404000; clear HO_409000; clear HO_414000; clear BK397; clear BK403; clear BK408; clear BK413; clear HB; have HO_398000 := n0_; have HO_404000 := n1_; have HO_409000 := n2_; have HO_414000 := n3_; have HO418 := n4_; have BK397 := n5_; have BK403 := n6_; have BK408 := n7_; have BK413 := n8_; have HB := n9_; clear n0_ n1_ n2_ n3_ n4_ n5_ n6_ n7_ n8_ n9_; (try clear hb); (try clear hb2); (try clear hk); (try clear hi); (try clear ho0)) | ((with_reducible refine gate_dst (N := 14) rfl ?_); (try (refine gate_guard (by rfl) ?_; dsimp only)); refine box_event ?hg (N := 14) ?hd (cs := #[.slice none 0 0]) (t := 33) ?hr ?_; (case hd => rfl); (case hg => rfl); (case hr => first | (go_simp; done) | (go_simp; rfl)); intro gb420 hg w78 hbox hb; have n0_ := Aside0.mk (Kd.R_below (by (with_reducible repeat (first | apply Kd.R_alloc | apply Kd.R_drewN | apply Kd.R_drew)); exact HO_398000.out) hb); have n1_ := Aside0.mk (Kd.R_below (by (with_reducible repeat (first | apply Kd.R_alloc | apply Kd.R_drewN | apply Kd.R_drew)); exact HO_404000.out) hb); have n2_ := Aside0.mk (Kd.R_below (by (with_reducible repeat (first | apply Kd.R_alloc | apply Kd.R_drewN | apply Kd.R_drew)); exact HO_409000.out) hb); have n3_ := Aside0.mk (Kd.R_below (by (with_reducible repeat (first | apply Kd.R_alloc | apply Kd.R_drewN | apply Kd.R_drew)); exact HO_414000.out) hb); have n4_ := Aside0.mk (Kd.R_below (by (with_reducible repeat (first | apply Kd.R_alloc | apply Kd.R_drewN | apply Kd.R_drew)); exact HO418.out) hb); have n5_ := Aside0.mk (blk_below (g := gb397) (o := .cells #[.slice Ao14 t394.length co14] 33 (0, 0)) (by (with_reducible repeat (first | refine blk_drewN ?_ _ | refine blk_drew ?_ | refine blk_alloc ?_ _)); exact BK397.out) hb); have n6_ := Aside0.mk (blk_below (g := gb403) (o := .cells #[.slice Ao20 t399.length co20] 33 (0, 0)) (by (with_reducible repeat (first | refine blk_drewN ?_ _ | refine blk_drew ?_ | refine blk_alloc ?_ _)); exact BK403.out) hb); have n7_ := Aside0.mk (blk_below (g := gb408) (o := .cells #[.slice Ao25 t404.length co25] 33 (0, 0)) (by (with_reducible repeat (first | refine blk_drewN ?_ _ | refine blk_drew ?_ | refine blk_alloc ?_ _)); exact BK408.out) hb); have n8_ := Aside0.mk (blk_below (g := gb413) (o := .cells #[.slice Ao32 t409.length co32] 33 (0, 0)) (by (with_reducible repeat (first | refine blk_drewN ?_ _ | refine blk_drew ?_ | refine blk_alloc ?_ _)); exact BK413.out) hb); have n9_ := Aside0.mk (below_step (by repeat (first | (with_reducible first | exact HB.out | apply below_alloc | apply pw_below_drewN | apply below_drew1 | refine below_set ?_ GE397.out | refine below_set ?_ GE403.out | refine below_set ?_ GE408.out | refine below_set ?_ GE413.out) | exact HB.out)) hb); have n10_ := Aside0.mk (hbox); have n11_ := Aside0.mk ((by rw [hg]; exact (below_size (by repeat (first | (with_reducible first | exact HB.out | apply below_alloc | apply pw_below_drewN | apply below_drew1 | refine below_set ?_ GE397.out | refine below_set ?_ GE403.out | refine below_set ?_ GE408.out | refine below_set ?_ GE413.out) | exact HB.out))) : w.heap.size ≤ gb420)); have n12_ := Aside0.mk ((by rw [hg]; exact (below_size (by repeat (first | (with_reducible first | exact HB.out | apply below_alloc | apply pw_below_drewN | apply below_drew1 | refine below_set ?_ GE397.out | refine below_set ?_ GE403.out | refine below_set ?_ GE408.out | refine below_set ?_ GE413.out) | exact HB.out))) : w.heap.size ≤ gb420)); have n13_ := Aside0.mk ((by rw [hg]; exact Nat.ne_of_lt (blk_lt (g := gb397) (o := .cells #[.slice Ao14 t394.length co14] 33 (0, 0)) (by (with_reducible repeat (first | refine blk_drewN ?_ _ | refine blk_drew ?_ | refine blk_alloc ?_ _)); exact BK397.out)) : gb397 ≠ gb420)); have n14_ := Aside0.mk ((by rw [hg]; exact Nat.ne_of_gt (blk_lt (g := gb397) (o := .cells #[.slice Ao14 t394.length co14] 33 (0, 0)) (by (with_reducible repeat (first | refine blk_drewN ?_ _ | refine blk_drew ?_ | refine blk_alloc ?_ _)); exact BK397.out)) : gb420 ≠ gb397)); have n15_ := Aside0.mk ((by rw [hg]; exact Nat.ne_of_lt (blk_lt (g := gb403) (o := .cells #[.slice Ao20 t399.length co20] 33 (0, 0)) (by (with_reducible repeat (first | refine blk_drewN ?_ _ | refine blk_drew ?_ | refine blk_alloc ?_ _)); exact BK403.out)) : gb403 ≠ gb420)); have n16_ := Aside0.mk ((by rw [hg]; exact Nat.ne_of_gt (blk_lt (g := gb403) (o := .cells #[.slice Ao20 t399.length co20] 33 (0, 0)) (by (with_reducible repeat (first | refine blk_drewN ?_ _ | refine blk_drew ?_ | refine blk_alloc ?_ _)); exact BK403.out)) : gb420 ≠ gb403)); have n17_ := Aside0.mk ((by rw [hg]; exact Nat.ne_of_lt (blk_lt (g := gb408) (o := .cells #[.slice Ao25 t404.length co25] 33 (0, 0)) (by (with_reducible repeat (first | refine blk_drewN ?_ _ | refine blk_drew ?_ | refine blk_alloc ?_ _)); exact BK408.out)) : gb408 ≠ gb420)); have n18_ := Aside0.mk ((by rw [hg]; exact Nat.ne_of_gt (blk_lt (g := gb408) (o := .cells #[.slice Ao25 t404.length co25] 33 (0, 0)) (by (with_reducible repeat (first | refine blk_drewN ?_ _ | refine blk_drew ?_ | refine blk_alloc ?_ _)); exact BK408.out)) : gb420 ≠ gb408)); have n19_ := Aside0.mk ((by rw [hg]; exact Nat.ne_of_lt (blk_lt (g := gb413) (o := .cells #[.slice Ao32 t409.length co32] 33 (0, 0)) (by (with_reducible repeat (first | refine blk_drewN ?_ _ | refine blk_drew ?_ | refine blk_alloc ?_ _)); exact BK413.out)) : gb413 ≠ gb420)); have n20_ := Aside0.mk ((by rw [hg]; exact Nat.ne_of_gt (blk_lt (g := gb413) (o := .cells #[.slice Ao32 t409.length co32] 33 (0, 0)) (by (with_reducible repeat (first | refine blk_drewN ?_ _ | refine blk_drew ?_ | refine blk_alloc ?_ _)); exact BK413.out)) : gb420 ≠ gb413)); clear HO_398000; clear HO_404000; clear HO_409000; clear HO_414000; clear HO418; clear BK397; clear BK403; clear BK408; clear BK413; clear HB; have HO_398000 := n0_; have HO_404000 := n1_; have HO_409000 := n2_; have HO_414000 := n3_; have HO418 := n4_; have BK397 := n5_; have BK403 := n6_; have BK408 := n7_; have BK413 := n8_; have HB := n9_; have BK420 := n10_; have GW420 := n11_; have GE420 := n12_; have NB397_420 := n13_; have NB420_397 := n14_; have NB403_420 := n15_; have NB420_403 := n16_; have NB408_420 := n17_; have NB420_408 := n18_; have NB413_420 := n19_; have NB420_413 := n20_; clear n0_ n1_ n2_ n3_ n4_ n5_ n6_ n7_ n8_ n9_ n10_ n11_ n12_ n13_ n14_ n15_ n16_ n17_ n18_ n19_ n20_; clear hb hbox hg; obtain ⟨Ao79, co79, eo79⟩ := Kd.R_slice HO418.out; subst eo79; have hnb80 := NB420_397.out; have hnc80 := NB397_420.out; have hnb81 := NB420_403.out; have hnc81 := NB403_420.out; have hnb82 := NB420_408.out; have hnc82 := NB408_420.out; have hnb83 := NB420_413.out; have hnc83 := NB413_420.out; have hcz84_0 : w78.cell? ⟨gb420, 0, none⟩ = some (.slice none 0 0) := (blk_cell BK420.out 0).trans rfl; have hfz84_0 := blk_frozen BK420.out 0; have hcz85_0 : w78.cell? ⟨gb397, 0, none⟩ = some (.slice Ao14 t394.length co14) := (blk_cell BK397.out 0).trans rfl; have hfz85_0 := blk_frozen BK397.out 0) | ((with_reducible refine gate_callee (f := 36) rfl ?_); refine goesL_ (some 107) rfl rfl Try.func36 (by kernel_rfl) rfl #[.agg #[.slice Ao14 t394.length co14], .int .i64 2] rfl (by (try simp only [List.map_toArray, List.map_cons, List.map_nil]); first | done | rfl | (simp only [List.length_drop, List.length_take]; rfl)) ?_; (with_reducible refine (histogram_Scale.calls k3 _ _ t394 2 t421 t424 _ ?side1 ?side2 A64.out).mono ?_); (case side1 => refine (Kd.R_reads' (e := 67) (base := w.heap.size) (ok := fun k_ => ((some k_ ≠ (.slice Ao20 t399.length co20 : Value).ownBlock ∧ (some k_ ≠ (.slice Ao25 t404.length co25 : Value).ownBlock ∧ some k_ ≠ (.slice Ao32 t409.length co32 : Value).ownBlock)) ∧ some k_ ≠ (.slice Ao79 t416.length co79 : Value).ownBlock)) (n := t394.length) (c := co14) ?_).2.2; exact (by (with_reducible repeat (first | apply Kd.R_alloc | apply Kd.R_drewN | apply Kd.R_drew)); exact (Kd.R_mono (Kd.R_far (p := ⟨gb420, 0, none⟩) (Kd.R_types HO_398000.out BK420.out (by decide)) (fun _ hk => hk.2) (.slice Ao79 t416.length co79)) (fun _ h_ => h_.1)))); (case side2 => exact (Kd.R_reads' HO_398000.out).2.1); rintro e w86 ⟨v422, rfl, ho0, hb⟩; refine ⟨_, rfl, ?_⟩; have n0_ := Aside0.mk (Kd.R_elder' (by (with_reducible repeat (first | apply Kd.R_alloc | apply Kd.R_drewN | apply Kd.R_drew)); exact (Kd.R_mono (Kd.R_far (p := ⟨gb420, 0, none⟩) (Kd.R_types HO_398000.out BK420.out (by decide)) (fun _ hk => hk.2) (.slice Ao79 t416.length co79)) (fun _ h_ => h_.1))) (Kd.R_base ho0) hb); have n1_ := Aside0.mk (Kd.R_elder' (by (with_reducible repeat (first | apply Kd.R_alloc | apply Kd.R_drewN | apply Kd.R_drew)); exact (Kd.R_mono (Kd.R_far (p := ⟨gb420, 0, none⟩) (Kd.R_types HO_404000.out BK420.out (by decide)) (fun _ hk => hk.2) (.slice Ao79 t416.length co79)) (fun _ h_ => h_.1))) (Kd.R_base ho0) hb); have n2_ := Aside0.mk (Kd.R_elder' (by (with_reducible repeat (first | apply Kd.R_alloc | apply Kd.R_drewN | apply Kd.R_drew)); exact (Kd.R_mono (Kd.R_far (p := ⟨gb420, 0, none⟩) (Kd.R_types HO_409000.out BK420.out (by decide)) (fun _ hk => hk.2) (.slice Ao79 t416.length co79)) (fun _ h_ => h_.1))) (Kd.R_base ho0) hb); have n3_ := Aside0.mk (Kd.R_elder' (by (with_reducible repeat (first | apply Kd.R_alloc | apply Kd.R_drewN | apply Kd.R_drew)); exact (Kd.R_mono (Kd.R_far (p := ⟨gb420, 0, none⟩) (Kd.R_types HO_414000.out BK420.out (by decide)) (fun _ hk => hk.2) (.slice Ao79 t416.length co79)) (fun _ h_ => h_.1))) (Kd.R_base ho0) hb); have n4_ := Aside0.mk (Kd.R_elder' (by (with_reducible repeat (first | apply Kd.R_alloc | apply Kd.R_drewN | apply Kd.R_drew)); exact (Kd.R_mono (Kd.R_far (p := ⟨gb420, 0, none⟩) (Kd.R_types HO418.out BK420.out (by decide)) (fun _ hk => hk.2) (.slice Ao79 t416.length co79)) (fun _ h_ => h_.1))) (Kd.R_base ho0) hb); have n5_ := Aside0.mk (Kd.R_lower (Kd.R_new' (Kd.R_new' (Kd.R_new' (Kd.R_new' (Kd.R_new' ho0 (Kd.R_lt (by (with_reducible repeat (first | apply Kd.R_alloc | apply Kd.R_drewN | apply Kd.R_drew)); exact (Kd.R_mono (Kd.R_far (p := ⟨gb420, 0, none⟩) (Kd.R_types HO_398000.out BK420.out (by decide)) (fun _ hk => hk.2) (.slice Ao79 t416.length co79)) (fun _ h_ => h_.1))))) (Kd.R_lt (by (with_reducible repeat (first | apply Kd.R_alloc | apply Kd.R_drewN | apply Kd.R_drew)); exact (Kd.R_mono (Kd.R_far (p := ⟨gb420, 0, none⟩) (Kd.R_types HO_404000.out BK420.out (by decide)) (fun _ hk => hk.2) (.slice Ao79 t416.length co79)) (fun _ h_ => h_.1))))) (Kd.R_lt (by (with_reducible repeat (first | apply Kd.R_alloc | apply Kd.R_drewN | apply Kd.R_drew)); exact (Kd.R_mono (Kd.R_far (p := ⟨gb420, 0, none⟩) (Kd.R_types HO_409000.out BK420.out (by decide)) (fun _ hk => hk.2) (.slice Ao79 t416.length co79)) (fun _ h_ => h_.1))))) (Kd.R_lt (by (with_reducible repeat (first | apply Kd.R_alloc | apply Kd.R_drewN | apply Kd.R_drew)); exact (Kd.R_mono (Kd.R_far (p := ⟨gb420, 0, none⟩) (Kd.R_types HO_414000.out BK420.out (by decide)) (fun _ hk => hk.2) (.slice Ao79 t416.length co79)) (fun _ h_ => h_.1))))) (Kd.R_lt (by (with_reducible repeat (first | apply Kd.R_alloc | apply Kd.R_drewN | apply Kd.R_drew)); exact (Kd.R_mono (Kd.R_far (p := ⟨gb420, 0, none⟩) (Kd.R_types HO418.out BK420.out (by decide)) (fun _ hk => hk.2) (.slice Ao79 t416.length co79)) (fun _ h_ => h_.1))))) (below_size (by repeat (first | (with_reducible first | exact HB.out | apply below_alloc | apply pw_below_drewN | apply below_drew1 | refine below_set ?_ GE397.out | refine below_set ?_ GE403.out | refine below_set ?_ GE408.out | refine below_set ?_ GE413.out | refine below_set ?_ GE420.out) | exact HB.out)))); have n6_ := Aside0.mk (blk_below (g := gb397) (o := .cells #[.slice Ao14 t394.length co14] 33 (0, 0)) (by (with_reducible repeat (first | refine blk_drewN ?_ _ | refine blk_drew ?_ | refine blk_alloc ?_ _)); refine blk_far ?_ NB397_420.out _; (with_reducible repeat (first | refine blk_drewN ?_ _ | refine blk_drew ?_ | refine blk_alloc ?_ _)); exact BK397.out) hb); have n7_ := Aside0.mk (blk_below (g := gb403) (o := .cells #[.slice Ao20 t399.length co20] 33 (0, 0)) (by (with_reducible repeat (first | refine blk_drewN ?_ _ | refine blk_drew ?_ | refine blk_alloc ?_ _)); refine blk_far ?_ NB403_420.out _; (with_reducible repeat (first | refine blk_drewN ?_ _ | refine blk_drew ?_ | refine blk_alloc ?_ _)); exact BK403.out) hb); have n8_ := Aside0.mk (blk_below (g := gb408) (o := .cells #[.slice Ao25 t404.length co25] 33 (0, 0)) (by (with_reducible repeat (first | refine blk_drewN ?_ _ | refine blk_drew ?_ | refine blk_alloc ?_ _)); refine blk_far ?_ NB408_420.out _; (with_reducible repeat (first | refine blk_drewN ?_ _ | refine blk_drew ?_ | refine blk_alloc ?_ _)); exact BK408.out) hb); have n9_ := Aside0.mk (blk_below (g := gb413) (o := .cells #[.slice Ao32 t409.length co32] 33 (0, 0)) (by (with_reducible repeat (first | refine blk_drewN ?_ _ | refine blk_drew ?_ | refine blk_alloc ?_ _)); refine blk_far ?_ NB413_420.out _; (with_reducible repeat (first | refine blk_drewN ?_ _ | refine blk_drew ?_ | refine blk_alloc ?_ _)); exact BK413.out) hb); have n10_ := Aside0.mk (blk_below (g := gb420) (o := .cells #[.slice Ao79 t416.length co79] 33 (0, 0)) (by (with_reducible repeat (first | refine blk_drewN ?_ _ | refine blk_drew ?_ | refine blk_alloc ?_ _)); refine blk_put (cs := #[.slice none 0 0]) ?_ 0 _ rfl; (with_reducible repeat (first | refine blk_drewN ?_ _ | refine blk_drew ?_ | refine blk_alloc ?_ _)); exact BK420.out) hb); have n11_ := Aside0.mk (below_step (by repeat (first | (with_reducible first | exact HB.out | apply below_alloc | apply pw_below_drewN | apply below_drew1 | refine below_set ?_ GE397.out | refine below_set ?_ GE403.out | refine below_set ?_ GE408.out | refine below_set ?_ GE413.out | refine below_set ?_ GE420.out) | exact HB.out)) hb); clear HO_398000; clear HO_404000; clear HO_409000; clear HO_414000; clear HO418; clear BK397; clear BK403; clear BK408; clear BK413; clear BK420; clear HB; have HO_398000 := n0_; have HO_404000 := n1_; have HO_409000 := n2_; have HO_414000 := n3_; have HO418 := n4_; have HO423 := n5_; have BK397 := n6_; have BK403 := n7_; have BK408 := n8_; have BK413 := n9_; have BK420 := n10_; have HB := n11_; clear n0_ n1_ n2_ n3_ n4_ n5_ n6_ n7_ n8_ n9_ n10_ n11_; (try clear hb); (try clear hb2); (try clear hk); (try clear hi); (try clear ho0)) | ((with_reducible refine gate_dst (N := 16) rfl ?_); (try (refine gate_guard (by rfl) ?_; dsimp only)); refine box_event ?hg (N := 16) ?hd (cs := #[.slice none 0 0]) (t := 33) ?hr ?_; (case hd => rfl); (case hg => rfl); (case hr => first | (go_simp; done) | (go_simp; rfl)); intro gb425 hg w87 hbox hb; have n0_ := Aside0.mk (Kd.R_below (by (with_reducible repeat (first | apply Kd.R_alloc | apply Kd.R_drewN | apply Kd.R_drew)); exact HO_398000.out) hb); have n1_ := Aside0.mk (Kd.R_below (by (with_reducible repeat (first | apply Kd.R_alloc | apply Kd.R_drewN | apply Kd.R_drew)); exact HO_404000.out) hb); have n2_ := Aside0.mk (Kd.R_below (by (with_reducible repeat (first | apply Kd.R_alloc | apply Kd.R_drewN | apply Kd.R_drew)); exact HO_409000.out) hb); have n3_ := Aside0.mk (Kd.R_below (by (with_reducible repeat (first | apply Kd.R_alloc | apply Kd.R_drewN | apply Kd.R_drew)); exact HO_414000.out) hb); have n4_ := Aside0.mk (Kd.R_below (by (with_reducible repeat (first | apply Kd.R_alloc | apply Kd.R_drewN | apply Kd.R_drew)); exact HO418.out) hb); have n5_ := Aside0.mk (Kd.R_below (by (with_reducible repeat (first | apply Kd.R_alloc | apply Kd.R_drewN | apply Kd.R_drew)); exact HO423.out) hb); have n6_ := Aside0.mk (blk_below (g := gb397) (o := .cells #[.slice Ao14 t394.length co14] 33 (0, 0)) (by (with_reducible repeat (first | refine blk_drewN ?_ _ | refine blk_drew ?_ | refine blk_alloc ?_ _)); exact BK397.out) hb); have n7_ := Aside0.mk (blk_below (g := gb403) (o := .cells #[.slice Ao20 t399.length co20] 33 (0, 0)) (by (with_reducible repeat (first | refine blk_drewN ?_ _ | refine blk_drew ?_ | refine blk_alloc ?_ _)); exact BK403.out) hb); have n8_ := Aside0.mk (blk_below (g := gb408) (o := .cells #[.slice Ao25 t404.length co25] 33 (0, 0)) (by (with_reducible repeat (first | refine blk_drewN ?_ _ | refine blk_drew ?_ | refine blk_alloc ?_ _)); exact BK408.out) hb); have n9_ := Aside0.mk (blk_below (g := gb413) (o := .cells #[.slice Ao32 t409.length co32] 33 (0, 0)) (by (with_reducible repeat (first | refine blk_drewN ?_ _ | refine blk_drew ?_ | refine blk_alloc ?_ _)); exact BK413.out) hb); have n10_ := Aside0.mk (blk_below (g := gb420) (o := .cells #[.slice Ao79 t416.length co79] 33 (0, 0)) (by (with_reducible repeat (first | refine blk_drewN ?_ _ | refine blk_drew ?_ | refine blk_alloc ?_ _)); exact BK420.out) hb); have n11_ := Aside0.mk (below_step (by repeat (first | (with_reducible first | exact HB.out | apply below_alloc | apply pw_below_drewN | apply below_drew1 | refine below_set ?_ GE397.out | refine below_set ?_ GE403.out | refine below_set ?_ GE408.out | refine below_set ?_ GE413.out | refine below_set ?_ GE420.out) | exact HB.out)) hb); have n12_ := Aside0.mk (hbox); have n13_ := Aside0.mk ((by rw [hg]; exact (below_size (by repeat (first | (with_reducible first | exact HB.out | apply below_alloc | apply pw_below_drewN | apply below_drew1 | refine below_set ?_ GE397.out | refine below_set ?_ GE403.out | refine below_set ?_ GE408.out | refine below_set ?_ GE413.out | refine below_set ?_ GE420.out) | exact HB.out))) : w.heap.size ≤ gb425)); have n14_ := Aside0.mk ((by rw [hg]; exact (below_size (by repeat (first | (with_reducible first | exact HB.out | apply below_alloc | apply pw_below_drewN | apply below_drew1 | refine below_set ?_ GE397.out | refine below_set ?_ GE403.out | refine below_set ?_ GE408.out | refine below_set ?_ GE413.out | refine below_set ?_ GE420.out) | exact HB.out))) : w.heap.size ≤ gb425)); have n15_ := Aside0.mk ((by rw [hg]; exact Nat.ne_of_lt (blk_lt (g := gb397) (o := .cells #[.slice Ao14 t394.length co14] 33 (0, 0)) (by (with_reducible repeat (first | refine blk_drewN ?_ _ | refine blk_drew ?_ | refine blk_alloc ?_ _)); exact BK397.out)) : gb397 ≠ gb425)); have n16_ := Aside0.mk ((by rw [hg]; exact Nat.ne_of_gt (blk_lt (g := gb397) (o := .cells #[.slice Ao14 t394.length co14] 33 (0, 0)) (by (with_reducible repeat (first | refine blk_drewN ?_ _ | refine blk_drew ?_ | refine blk_alloc ?_ _)); exact BK397.out)) : gb425 ≠ gb397)); have n17_ := Aside0.mk ((by rw [hg]; exact Nat.ne_of_lt (blk_lt (g := gb403) (o := .cells #[.slice Ao20 t399.length co20] 33 (0, 0)) (by (with_reducible repeat (first | refine blk_drewN ?_ _ | refine blk_drew ?_ | refine blk_alloc ?_ _)); exact BK403.out)) : gb403 ≠ gb425)); have n18_ := Aside0.mk ((by rw [hg]; exact Nat.ne_of_gt (blk_lt (g := gb403) (o := .cells #[.slice Ao20 t399.length co20] 33 (0, 0)) (by (with_reducible repeat (first | refine blk_drewN ?_ _ | refine blk_drew ?_ | refine blk_alloc ?_ _)); exact BK403.out)) : gb425 ≠ gb403)); have n19_ := Aside0.mk ((by rw [hg]; exact Nat.ne_of_lt (blk_lt (g := gb408) (o := .cells #[.slice Ao25 t404.length co25] 33 (0, 0)) (by (with_reducible repeat (first | refine blk_drewN ?_ _ | refine blk_drew ?_ | refine blk_alloc ?_ _)); exact BK408.out)) : gb408 ≠ gb425)); have n20_ := Aside0.mk ((by rw [hg]; exact Nat.ne_of_gt (blk_lt (g := gb408) (o := .cells #[.slice Ao25 t404.length co25] 33 (0, 0)) (by (with_reducible repeat (first | refine blk_drewN ?_ _ | refine blk_drew ?_ | refine blk_alloc ?_ _)); exact BK408.out)) : gb425 ≠ gb408)); have n21_ := Aside0.mk ((by rw [hg]; exact Nat.ne_of_lt (blk_lt (g := gb413) (o := .cells #[.slice Ao32 t409.length co32] 33 (0, 0)) (by (with_reducible repeat (first | refine blk_drewN ?_ _ | refine blk_drew ?_ | refine blk_alloc ?_ _)); exact BK413.out)) : gb413 ≠ gb425)); have n22_ := Aside0.mk ((by rw [hg]; exact Nat.ne_of_gt (blk_lt (g := gb413) (o := .cells #[.slice Ao32 t409.length co32] 33 (0, 0)) (by (with_reducible repeat (first | refine blk_drewN ?_ _ | refine blk_drew ?_ | refine blk_alloc ?_ _)); exact BK413.out)) : gb425 ≠ gb413)); have n23_ := Aside0.mk ((by rw [hg]; exact Nat.ne_of_lt (blk_lt (g := gb420) (o := .cells #[.slice Ao79 t416.length co79] 33 (0, 0)) (by (with_reducible repeat (first | refine blk_drewN ?_ _ | refine blk_drew ?_ | refine blk_alloc ?_ _)); exact BK420.out)) : gb420 ≠ gb425)); have n24_ := Aside0.mk ((by rw [hg]; exact Nat.ne_of_gt (blk_lt (g := gb420) (o := .cells #[.slice Ao79 t416.length co79] 33 (0, 0)) (by (with_reducible repeat (first | refine blk_drewN ?_ _ | refine blk_drew ?_ | refine blk_alloc ?_ _)); exact BK420.out)) : gb425 ≠ gb420)); clear HO_398000; clear HO_404000; clear HO_409000; clear HO_414000; clear HO418; clear HO423; clear BK397; clear BK403; clear BK408; clear BK413; clear BK420; clear HB; have HO_398000 := n0_; have HO_404000 := n1_; have HO_409000 := n2_; have HO_414000 := n3_; have HO418 := n4_; have HO423 := n5_; have BK397 := n6_; have BK403 := n7_; have BK408 := n8_; have BK413 := n9_; have BK420 := n10_; have HB := n11_; have BK425 := n12_; have GW425 := n13_; have GE425 := n14_; have NB397_425 := n15_; have NB425_397 := n16_; have NB403_425 := n17_; have NB425_403 := n18_; have NB408_425 := n19_; have NB425_408 := n20_; have NB413_425 := n21_; have NB425_413 := n22_; have NB420_425 := n23_; have NB425_420 := n24_; clear n0_ n1_ n2_ n3_ n4_ n5_ n6_ n7_ n8_ n9_ n10_ n11_ n12_ n13_ n14_ n15_ n16_ n17_ n18_ n19_ n20_ n21_ n22_ n23_ n24_; clear hb hbox hg; obtain ⟨Ao88, co88, eo88⟩ := Kd.R_slice HO423.out; subst eo88; have hnb89 := NB425_397.out; have hnc89 := NB397_425.out; have hnb90 := NB425_403.out; have hnc90 := NB403_425.out; have hnb91 := NB425_408.out; have hnc91 := NB408_425.out; have hnb92 := NB425_413.out; have hnc92 := NB413_425.out; have hnb93 := NB425_420.out; have hnc93 := NB420_425.out; have hcz94_0 : w87.cell? ⟨gb425, 0, none⟩ = some (.slice none 0 0) := (blk_cell BK425.out 0).trans rfl; have hfz94_0 := blk_frozen BK425.out 0; have hnb95 := NB403_408.out; have hnc95 := NB408_403.out; have hnb96 := NB403_413.out; have hnc96 := NB413_403.out; have hcz97_0 : w87.cell? ⟨gb403, 0, none⟩ = some (.slice Ao20 t399.length co20) := (blk_cell BK403.out 0).trans rfl; have hfz97_0 := blk_frozen BK403.out 0) | (go_at_call 24; (with_reducible refine (histogram_Check.calls k3 _ _ t399 t426 _ ?side1 ?side2 A66.out).mono ?_); (case side1 => refine (Kd.R_reads' (e := 67) (base := w.heap.size) (ok := fun k_ => (((some k_ ≠ (.slice Ao14 t394.length co14 : Value).ownBlock ∧ (some k_ ≠ (.slice Ao25 t404.length co25 : Value).ownBlock ∧ some k_ ≠ (.slice Ao32 t409.length co32 : Value).ownBlock)) ∧ some k_ ≠ (.slice Ao79 t416.length co79 : Value).ownBlock) ∧ some k_ ≠ (.slice Ao88 t421.length co88 : Value).ownBlock)) (n := t399.length) (c := co20) ?_).2.2; exact (by (with_reducible repeat (first | apply Kd.R_alloc | apply Kd.R_drewN | apply Kd.R_drew)); exact (Kd.R_mono (Kd.R_far (p := ⟨gb425, 0, none⟩) (Kd.R_types HO_404000.out BK425.out (by decide)) (fun _ hk => hk.2) (.slice Ao88 t421.length co88)) (fun _ h_ => h_.1)))); (case side2 => exact (Kd.R_reads' HO_404000.out).2.1); rintro e w98 ⟨rfl, hb⟩; have n0_ := Aside0.mk (Kd.R_below (by (with_reducible repeat (first | apply Kd.R_alloc | apply Kd.R_drewN | apply Kd.R_drew)); exact (Kd.R_mono (Kd.R_far (p := ⟨gb425, 0, none⟩) (Kd.R_types HO_398000.out BK425.out (by decide)) (fun _ hk => hk.2) (.slice Ao88 t421.length co88)) (fun _ h_ => h_.1))) hb); have n1_ := Aside0.mk (Kd.R_below (by (with_reducible repeat (first | apply Kd.R_alloc | apply Kd.R_drewN | apply Kd.R_drew)); exact (Kd.R_mono (Kd.R_far (p := ⟨gb425, 0, none⟩) (Kd.R_types HO_404000.out BK425.out (by decide)) (fun _ hk => hk.2) (.slice Ao88 t421.length co88)) (fun _ h_ => h_.1))) hb); have n2_ := Aside0.mk (Kd.R_below (by (with_reducible repeat (first | apply Kd.R_alloc | apply Kd.R_drewN | apply Kd.R_drew)); exact (Kd.R_mono (Kd.R_far (p := ⟨gb425, 0, none⟩) (Kd.R_types HO_409000.out BK425.out (by decide)) (fun _ hk => hk.2) (.slice Ao88 t421.length co88)) (fun _ h_ => h_.1))) hb); have n3_ := Aside0.mk (Kd.R_below (by (with_reducible repeat (first | apply Kd.R_alloc | apply Kd.R_drewN | apply Kd.R_drew)); exact (Kd.R_mono (Kd.R_far (p := ⟨gb425, 0, none⟩) (Kd.R_types HO_414000.out BK425.out (by decide)) (fun _ hk => hk.2) (.slice Ao88 t421.length co88)) (fun _ h_ => h_.1))) hb); have n4_ := Aside0.mk (Kd.R_below (by (with_reducible repeat (first | apply Kd.R_alloc | apply Kd.R_drewN | apply Kd.R_drew)); exact (Kd.R_mono (Kd.R_far (p := ⟨gb425, 0, none⟩) (Kd.R_types HO418.out BK425.out (by decide)) (fun _ hk => hk.2) (.slice Ao88 t421.length co88)) (fun _ h_ => h_.1))) hb); have n5_ := Aside0.mk (Kd.R_below (by (with_reducible repeat (first | apply Kd.R_alloc | apply Kd.R_drewN | apply Kd.R_drew)); exact (Kd.R_mono (Kd.R_far (p := ⟨gb425, 0, none⟩) (Kd.R_types HO423.out BK425.out (by decide)) (fun _ hk => hk.2) (.slice Ao88 t421.length co88)) (fun _ h_ => h_.1))) hb); have n6_ := Aside0.mk (blk_below (g := gb397) (o := .cells #[.slice Ao14 t394.length co14] 33 (0, 0)) (by (with_reducible repeat (first | refine blk_drewN ?_ _ | refine blk_drew ?_ | refine blk_alloc ?_ _)); refine blk_far ?_ NB397_425.out _; (with_reducible repeat (first | refine blk_drewN ?_ _ | refine blk_drew ?_ | refine blk_alloc ?_ _)); exact BK397.out) hb); have n7_ := Aside0.mk (blk_below (g := gb403) (o := .cells #[.slice Ao20 t399.length co20] 33 (0, 0)) (by (with_reducible repeat (first | refine blk_drewN ?_ _ | refine blk_drew ?_ | refine blk_alloc ?_ _)); refine blk_far ?_ NB403_425.out _; (with_reducible repeat (first | refine blk_drewN ?_ _ | refine blk_drew ?_ | refine blk_alloc ?_ _)); exact BK403.out) hb); have n8_ := Aside0.mk (blk_below (g := gb408) (o := .cells #[.slice Ao25 t404.length co25] 33 (0, 0)) (by (with_reducible repeat (first | refine blk_drewN ?_ _ | refine blk_drew ?_ | refine blk_alloc ?_ _)); refine blk_far ?_ NB408_425.out _; (with_reducible repeat (first | refine blk_drewN ?_ _ | refine blk_drew ?_ | refine blk_alloc ?_ _)); exact BK408.out) hb); have n9_ := Aside0.mk (blk_below (g := gb413) (o := .cells #[.slice Ao32 t409.length co32] 33 (0, 0)) (by (with_reducible repeat (first | refine blk_drewN ?_ _ | refine blk_drew ?_ | refine blk_alloc ?_ _)); refine blk_far ?_ NB413_425.out _; (with_reducible repeat (first | refine blk_drewN ?_ _ | refine blk_drew ?_ | refine blk_alloc ?_ _)); exact BK413.out) hb); have n10_ := Aside0.mk (blk_below (g := gb420) (o := .cells #[.slice Ao79 t416.length co79] 33 (0, 0)) (by (with_reducible repeat (first | refine blk_drewN ?_ _ | refine blk_drew ?_ | refine blk_alloc ?_ _)); refine blk_far ?_ NB420_425.out _; (with_reducible repeat (first | refine blk_drewN ?_ _ | refine blk_drew ?_ | refine blk_alloc ?_ _)); exact BK420.out) hb); have n11_ := Aside0.mk (blk_below (g := gb425) (o := .cells #[.slice Ao88 t421.length co88] 33 (0, 0)) (by (with_reducible repeat (first | refine blk_drewN ?_ _ | refine blk_drew ?_ | refine blk_alloc ?_ _)); refine blk_put (cs := #[.slice none 0 0]) ?_ 0 _ rfl; (with_reducible repeat (first | refine blk_drewN ?_ _ | refine blk_drew ?_ | refine blk_alloc ?_ _)); exact BK425.out) hb); have n12_ := Aside0.mk (below_step (by repeat (first | (with_reducible first | exact HB.out | apply below_alloc | apply pw_below_drewN | apply below_drew1 | refine below_set ?_ GE397.out | refine below_set ?_ GE403.out | refine below_set ?_ GE408.out | refine below_set ?_ GE413.out | refine below_set ?_ GE420.out | refine below_set ?_ GE425.out) | exact HB.out)) hb); clear HO_398000; clear HO_404000; clear HO_409000; clear HO_414000; clear HO418; clear HO423; clear BK397; clear BK403; clear BK408; clear BK413; clear BK420; clear BK425; clear HB; have HO_398000 := n0_; have HO_404000 := n1_; have HO_409000 := n2_; have HO_414000 := n3_; have HO418 := n4_; have HO423 := n5_; have BK397 := n6_; have BK403 := n7_; have BK408 := n8_; have BK413 := n9_; have BK420 := n10_; have BK425 := n11_; have HB := n12_; clear n0_ n1_ n2_ n3_ n4_ n5_ n6_ n7_ n8_ n9_ n10_ n11_ n12_; (try clear hb); (try clear hb2); (try clear hk); (try clear hi); have hcz99_0 : w98.cell? ⟨gb420, 0, none⟩ = some (.slice Ao79 t416.length co79) := (blk_cell BK420.out 0).trans rfl; have hfz99_0 := blk_frozen BK420.out 0; have hcz100_0 : w98.cell? ⟨gb425, 0, none⟩ = some (.slice Ao88 t421.length co88) := (blk_cell BK425.out 0).trans rfl; have hfz100_0 := blk_frozen BK425.out 0) | (go_at_call 35; (with_reducible refine (histogram_Equal.calls k3 _ _ t416 _ _ t421 true _ ?side1 ?side2 ?side3 ?side4 A70.out).mono ?_); (case side1 => repeat (first | exact (Kd.R_reads' HO418.out).2.2 | (with_reducible refine Kd.C_alloc ?_ _) | (with_reducible refine Kd.C_drewN ?_ _) | (with_reducible refine Kd.C_drew ?_))); (case side2 => exact (Kd.R_reads' HO418.out).2.1); (case side3 => repeat (first | exact (Kd.R_reads' HO423.out).2.2 | (with_reducible refine Kd.C_alloc ?_ _) | (with_reducible refine Kd.C_drewN ?_ _) | (with_reducible refine Kd.C_drew ?_))); (case side4 => exact (Kd.R_reads' HO423.out).2.1); rintro e w101 ⟨rfl, hb⟩; have n0_ := Aside0.mk (Kd.R_below (by (with_reducible repeat (first | apply Kd.R_alloc | apply Kd.R_drewN | apply Kd.R_drew)); exact HO_398000.out) hb); have n1_ := Aside0.mk (Kd.R_below (by (with_reducible repeat (first | apply Kd.R_alloc | apply Kd.R_drewN | apply Kd.R_drew)); exact HO_404000.out) hb); have n2_ := Aside0.mk (Kd.R_below (by (with_reducible repeat (first | apply Kd.R_alloc | apply Kd.R_drewN | apply Kd.R_drew)); exact HO_409000.out) hb); have n3_ := Aside0.mk (Kd.R_below (by (with_reducible repeat (first | apply Kd.R_alloc | apply Kd.R_drewN | apply Kd.R_drew)); exact HO_414000.out) hb); have n4_ := Aside0.mk (Kd.R_below (by (with_reducible repeat (first | apply Kd.R_alloc | apply Kd.R_drewN | apply Kd.R_drew)); exact HO418.out) hb); have n5_ := Aside0.mk (Kd.R_below (by (with_reducible repeat (first | apply Kd.R_alloc | apply Kd.R_drewN | apply Kd.R_drew)); exact HO423.out) hb); have n6_ := Aside0.mk (blk_below (g := gb397) (o := .cells #[.slice Ao14 t394.length co14] 33 (0, 0)) (by (with_reducible repeat (first | refine blk_drewN ?_ _ | refine blk_drew ?_ | refine blk_alloc ?_ _)); exact BK397.out) hb); have n7_ := Aside0.mk (blk_below (g := gb403) (o := .cells #[.slice Ao20 t399.length co20] 33 (0, 0)) (by (with_reducible repeat (first | refine blk_drewN ?_ _ | refine blk_drew ?_ | refine blk_alloc ?_ _)); exact BK403.out) hb); have n8_ := Aside0.mk (blk_below (g := gb408) (o := .cells #[.slice Ao25 t404.length co25] 33 (0, 0)) (by (with_reducible repeat (first | refine blk_drewN ?_ _ | refine blk_drew ?_ | refine blk_alloc ?_ _)); exact BK408.out) hb); have n9_ := Aside0.mk (blk_below (g := gb413) (o := .cells #[.slice Ao32 t409.length co32] 33 (0, 0)) (by (with_reducible repeat (first | refine blk_drewN ?_ _ | refine blk_drew ?_ | refine blk_alloc ?_ _)); exact BK413.out) hb); have n10_ := Aside0.mk (blk_below (g := gb420) (o := .cells #[.slice Ao79 t416.length co79] 33 (0, 0)) (by (with_reducible repeat (first | refine blk_drewN ?_ _ | refine blk_drew ?_ | refine blk_alloc ?_ _)); exact BK420.out) hb); have n11_ := Aside0.mk (blk_below (g := gb425) (o := .cells #[.slice Ao88 t421.length co88] 33 (0, 0)) (by (with_reducible repeat (first | refine blk_drewN ?_ _ | refine blk_drew ?_ | refine blk_alloc ?_ _)); exact BK425.out) hb); have n12_ := Aside0.mk (below_step (by repeat (first | (with_reducible first | exact HB.out | apply below_alloc | apply pw_below_drewN | apply below_drew1 | refine below_set ?_ GE397.out | refine below_set ?_ GE403.out | refine below_set ?_ GE408.out | refine below_set ?_ GE413.out | refine below_set ?_ GE420.out | refine below_set ?_ GE425.out) | exact HB.out)) hb); clear HO_398000; clear HO_404000; clear HO_409000; clear HO_414000; clear HO418; clear HO423; clear BK397; clear BK403; clear BK408; clear BK413; clear BK420; clear BK425; clear HB; have HO_398000 := n0_; have HO_404000 := n1_; have HO_409000 := n2_; have HO_414000 := n3_; have HO418 := n4_; have HO423 := n5_; have BK397 := n6_; have BK403 := n7_; have BK408 := n8_; have BK413 := n9_; have BK420 := n10_; have BK425 := n11_; have HB := n12_; clear n0_ n1_ n2_ n3_ n4_ n5_ n6_ n7_ n8_ n9_ n10_ n11_ n12_; (try clear hb); (try clear hb2); (try clear hk); (try clear hi)))
                                go_ret
                                exact ⟨by first | rfl | (simp [errW_none, errW_some] <;> rfl) | (simp [*, errW_none, errW_some] <;> rfl), by repeat (first | (with_reducible first | exact HB.out | apply below_alloc | apply pw_below_drewN | apply below_drew1 | refine below_set ?_ GE397.out | refine below_set ?_ GE403.out | refine below_set ?_ GE408.out | refine below_set ?_ GE413.out | refine below_set ?_ GE420.out | refine below_set ?_ GE425.out) | exact HB.out)⟩
                              · rw [if_neg c72] at H
                                have c72b0 : decide (0 < t398) = false := decide_eq_false c72
                                clear c72
                                obtain rfl := Option.some.inj H
                                have hnb102 := NB397_403.out
                                have hnc102 := NB403_397.out
                                have hnb103 := NB397_408.out
                                have hnc103 := NB408_397.out
                                have hnb104 := NB397_413.out
                                have hnc104 := NB413_397.out
                                have hcz105_0 : wr.cell? ⟨gb397, 0, none⟩ = some (.slice Ao14 t394.length co14) := (blk_cell BK397.out 0).trans rfl
                                have hfz105_0 := blk_frozen BK397.out 0
                                go_wp2_with (first | ((with_reducible refine gate_callee (f := 33) rfl ?_); refine goesL_ (some 102) rfl rfl Try.func33 (by kernel_rfl) rfl #[.agg #[.slice Ao14 t394.length co14], .agg #[.slice Ao14 t394.length co14]] rfl (by (try simp only [List.map_toArray, List.map_cons, List.map_nil]); first | done | rfl | (simp only [List.length_drop, List.length_take]; rfl)) ?_; (with_reducible refine (histogram_Merge.calls k3 _ _ t394 _ _ t394 t416 t419 _ ?side1 ?side2 ?side3 ?side4 A63.out).mono ?_); (case side1 => repeat (first | exact (Kd.R_reads' HO_398000.out).2.2 | (with_reducible refine Kd.C_alloc ?_ _) | (with_reducible refine Kd.C_drewN ?_ _) | (with_reducible refine Kd.C_drew ?_))); (case side2 => exact (Kd.R_reads' HO_398000.out).2.1); (case side3 => repeat (first | exact (Kd.R_reads' HO_398000.out).2.2 | (with_reducible refine Kd.C_alloc ?_ _) | (with_reducible refine Kd.C_drewN ?_ _) | (with_reducible refine Kd.C_drew ?_))); (case side4 => exact (Kd.R_reads' HO_398000.out).2.1); rintro e w106 ⟨v417, rfl, ho0, hb⟩; refine ⟨_, rfl, ?_⟩; have n0_ := Aside0.mk (Kd.R_elder' (by (with_reducible repeat (first | apply Kd.R_alloc | apply Kd.R_drewN | apply Kd.R_drew)); exact HO_398000.out) (Kd.R_base ho0) hb); have n1_ := Aside0.mk (Kd.R_elder' (by (with_reducible repeat (first | apply Kd.R_alloc | apply Kd.R_drewN | apply Kd.R_drew)); exact HO_404000.out) (Kd.R_base ho0) hb); have n2_ := Aside0.mk (Kd.R_elder' (by (with_reducible repeat (first | apply Kd.R_alloc | apply Kd.R_drewN | apply Kd.R_drew)); exact HO_409000.out) (Kd.R_base ho0) hb); have n3_ := Aside0.mk (Kd.R_elder' (by (with_reducible repeat (first | apply Kd.R_alloc | apply Kd.R_drewN | apply Kd.R_drew)); exact HO_414000.out) (Kd.R_base ho0) hb); have n4_ := Aside0.mk (Kd.R_lower (Kd.R_new' (Kd.R_new' (Kd.R_new' (Kd.R_new' ho0 (Kd.R_lt (by (with_reducible repeat (first | apply Kd.R_alloc | apply Kd.R_drewN | apply Kd.R_drew)); exact HO_398000.out))) (Kd.R_lt (by (with_reducible repeat (first | apply Kd.R_alloc | apply Kd.R_drewN | apply Kd.R_drew)); exact HO_404000.out))) (Kd.R_lt (by (with_reducible repeat (first | apply Kd.R_alloc | apply Kd.R_drewN | apply Kd.R_drew)); exact HO_409000.out))) (Kd.R_lt (by (with_reducible repeat (first | apply Kd.R_alloc | apply Kd.R_drewN | apply Kd.R_drew)); exact HO_414000.out))) (below_size (by repeat (first | (with_reducible first | exact HB.out | apply below_alloc | apply pw_below_drewN | apply below_drew1 | refine below_set ?_ GE397.out | refine below_set ?_ GE403.out | refine below_set ?_ GE408.out | refine below_set ?_ GE413.out) | exact HB.out)))); have n5_ := Aside0.mk (blk_below (g := gb397) (o := .cells #[.slice Ao14 t394.length co14] 33 (0, 0)) (by (with_reducible repeat (first | refine blk_drewN ?_ _ | refine blk_drew ?_ | refine blk_alloc ?_ _)); exact BK397.out) hb); have n6_ := Aside0.mk (blk_below (g := gb403) (o := .cells #[.slice Ao20 t399.length co20] 33 (0, 0)) (by (with_reducible repeat (first | refine blk_drewN ?_ _ | refine blk_drew ?_ | refine blk_alloc ?_ _)); exact BK403.out) hb); have n7_ := Aside0.mk (blk_below (g := gb408) (o := .cells #[.slice Ao25 t404.length co25] 33 (0, 0)) (by (with_reducible repeat (first | refine blk_drewN ?_ _ | refine blk_drew ?_ | refine blk_alloc ?_ _)); exact BK408.out) hb); have n8_ := Aside0.mk (blk_below (g := gb413) (o := .cells #[.slice Ao32 t409.length co32] 33 (0, 0)) (by (with_reducible repeat (first | refine blk_drewN ?_ _ | refine blk_drew ?_ | refine blk_alloc ?_ _)); exact BK413.out) hb); have n9_ := Aside0.mk (below_step (by repeat (first | (with_reducible first | exact HB.out | apply below_alloc | apply pw_below_drewN | apply below_drew1 | refine below_set ?_ GE397.out | refine below_set ?_ GE403.out | refine below_set ?_ GE408.out | refine below_set ?_ GE413.out) | exact HB.out)) hb); clear HO_398000; clear HO_404000; clear HO_409000; clear HO_414000; clear BK397; clear BK403; clear BK408; clear BK413; clear HB; have HO_398000 := n0_; have HO_404000 := n1_; have HO_409000 := n2_; have HO_414000 := n3_; have HO418 := n4_; have BK397 := n5_; have BK403 := n6_; have BK408 := n7_; have BK413 := n8_; have HB := n9_; clear n0_ n1_ n2_ n3_ n4_ n5_ n6_ n7_ n8_ n9_; (try clear hb); (try clear hb2); (try clear hk); (try clear hi); (try clear ho0)) | ((with_reducible refine gate_dst (N := 14) rfl ?_); (try (refine gate_guard (by rfl) ?_; dsimp only)); refine box_event ?hg (N := 14) ?hd (cs := #[.slice none 0 0]) (t := 33) ?hr ?_; (case hd => rfl); (case hg => rfl); (case hr => first | (go_simp; done) | (go_simp; rfl)); intro gb420 hg w107 hbox hb; have n0_ := Aside0.mk (Kd.R_below (by (with_reducible repeat (first | apply Kd.R_alloc | apply Kd.R_drewN | apply Kd.R_drew)); exact HO_398000.out) hb); have n1_ := Aside0.mk (Kd.R_below (by (with_reducible repeat (first | apply Kd.R_alloc | apply Kd.R_drewN | apply Kd.R_drew)); exact HO_404000.out) hb); have n2_ := Aside0.mk (Kd.R_below (by (with_reducible repeat (first | apply Kd.R_alloc | apply Kd.R_drewN | apply Kd.R_drew)); exact HO_409000.out) hb); have n3_ := Aside0.mk (Kd.R_below (by (with_reducible repeat (first | apply Kd.R_alloc | apply Kd.R_drewN | apply Kd.R_drew)); exact HO_414000.out) hb); have n4_ := Aside0.mk (Kd.R_below (by (with_reducible repeat (first | apply Kd.R_alloc | apply Kd.R_drewN | apply Kd.R_drew)); exact HO418.out) hb); have n5_ := Aside0.mk (blk_below (g := gb397) (o := .cells #[.slice Ao14 t394.length co14] 33 (0, 0)) (by (with_reducible repeat (first | refine blk_drewN ?_ _ | refine blk_drew ?_ | refine blk_alloc ?_ _)); exact BK397.out) hb); have n6_ := Aside0.mk (blk_below (g := gb403) (o := .cells #[.slice Ao20 t399.length co20] 33 (0, 0)) (by (with_reducible repeat (first | refine blk_drewN ?_ _ | refine blk_drew ?_ | refine blk_alloc ?_ _)); exact BK403.out) hb); have n7_ := Aside0.mk (blk_below (g := gb408) (o := .cells #[.slice Ao25 t404.length co25] 33 (0, 0)) (by (with_reducible repeat (first | refine blk_drewN ?_ _ | refine blk_drew ?_ | refine blk_alloc ?_ _)); exact BK408.out) hb); have n8_ := Aside0.mk (blk_below (g := gb413) (o := .cells #[.slice Ao32 t409.length co32] 33 (0, 0)) (by (with_reducible repeat (first | refine blk_drewN ?_ _ | refine blk_drew ?_ | refine blk_alloc ?_ _)); exact BK413.out) hb); have n9_ := Aside0.mk (below_step (by repeat (first | (with_reducible first | exact HB.out | apply below_alloc | apply pw_below_drewN | apply below_drew1 | refine below_set ?_ GE397.out | refine below_set ?_ GE403.out | refine below_set ?_ GE408.out | refine below_set ?_ GE413.out) | exact HB.out)) hb); have n10_ := Aside0.mk (hbox); have n11_ := Aside0.mk ((by rw [hg]; exact (below_size (by repeat (first | (with_reducible first | exact HB.out | apply below_alloc | apply pw_below_drewN | apply below_drew1 | refine below_set ?_ GE397.out | refine below_set ?_ GE403.out | refine below_set ?_ GE408.out | refine below_set ?_ GE413.out) | exact HB.out))) : w.heap.size ≤ gb420)); have n12_ := Aside0.mk ((by rw [hg]; exact (below_size (by repeat (first | (with_reducible first | exact HB.out | apply below_alloc | apply pw_below_drewN | apply below_drew1 | refine below_set ?_ GE397.out | refine below_set ?_ GE403.out | refine below_set ?_ GE408.out | refine below_set ?_ GE413.out) | exact HB.out))) : w.heap.size ≤ gb420)); have n13_ := Aside0.mk ((by rw [hg]; exact Nat.ne_of_lt (blk_lt (g := gb397) (o := .cells #[.slice Ao14 t394.length co14] 33 (0, 0)) (by (with_reducible repeat (first | refine blk_drewN ?_ _ | refine blk_drew ?_ | refine blk_alloc ?_ _)); exact BK397.out)) : gb397 ≠ gb420)); have n14_ := Aside0.mk ((by rw [hg]; exact Nat.ne_of_gt (blk_lt (g := gb397) (o := .cells #[.slice Ao14 t394.length co14] 33 (0, 0)) (by (with_reducible repeat (first | refine blk_drewN ?_ _ | refine blk_drew ?_ | refine blk_alloc ?_ _)); exact BK397.out)) : gb420 ≠ gb397)); have n15_ := Aside0.mk ((by rw [hg]; exact Nat.ne_of_lt (blk_lt (g := gb403) (o := .cells #[.slice Ao20 t399.length co20] 33 (0, 0)) (by (with_reducible repeat (first | refine blk_drewN ?_ _ | refine blk_drew ?_ | refine blk_alloc ?_ _)); exact BK403.out)) : gb403 ≠ gb420)); have n16_ := Aside0.mk ((by rw [hg]; exact Nat.ne_of_gt (blk_lt (g := gb403) (o := .cells #[.slice Ao20 t399.length co20] 33 (0, 0)) (by (with_reducible repeat (first | refine blk_drewN ?_ _ | refine blk_drew ?_ | refine blk_alloc ?_ _)); exact BK403.out)) : gb420 ≠ gb403)); have n17_ := Aside0.mk ((by rw [hg]; exact Nat.ne_of_lt (blk_lt (g := gb408) (o := .cells #[.slice Ao25 t404.length co25] 33 (0, 0)) (by (with_reducible repeat (first | refine blk_drewN ?_ _ | refine blk_drew ?_ | refine blk_alloc ?_ _)); exact BK408.out)) : gb408 ≠ gb420)); have n18_ := Aside0.mk ((by rw [hg]; exact Nat.ne_of_gt (blk_lt (g := gb408) (o := .cells #[.slice Ao25 t404.length co25] 33 (0, 0)) (by (with_reducible repeat (first | refine blk_drewN ?_ _ | refine blk_drew ?_ | refine blk_alloc ?_ _)); exact BK408.out)) : gb420 ≠ gb408)); have n19_ := Aside0.mk ((by rw [hg]; exact Nat.ne_of_lt (blk_lt (g := gb413) (o := .cells #[.slice Ao32 t409.length co32] 33 (0, 0)) (by (with_reducible repeat (first | refine blk_drewN ?_ _ | refine blk_drew ?_ | refine blk_alloc ?_ _)); exact BK413.out)) : gb413 ≠ gb420)); have n20_ := Aside0.mk ((by rw [hg]; exact Nat.ne_of_gt (blk_lt (g := gb413) (o := .cells #[.slice Ao32 t409.length co32] 33 (0, 0)) (by (with_reducible repeat (first | refine blk_drewN ?_ _ | refine blk_drew ?_ | refine blk_alloc ?_ _)); exact BK413.out)) : gb420 ≠ gb413)); clear HO_398000; clear HO_404000; clear HO_409000; clear HO_414000; clear HO418; clear BK397; clear BK403; clear BK408; clear BK413; clear HB; have HO_398000 := n0_; have HO_404000 := n1_; have HO_409000 := n2_; have HO_414000 := n3_; have HO418 := n4_; have BK397 := n5_; have BK403 := n6_; have BK408 := n7_; have BK413 := n8_; have HB := n9_; have BK420 := n10_; have GW420 := n11_; have GE420 := n12_; have NB397_420 := n13_; have NB420_397 := n14_; have NB403_420 := n15_; have NB420_403 := n16_; have NB408_420 := n17_; have NB420_408 := n18_; have NB413_420 := n19_; have NB420_413 := n20_; clear n0_ n1_ n2_ n3_ n4_ n5_ n6_ n7_ n8_ n9_ n10_ n11_ n12_ n13_ n14_ n15_ n16_ n17_ n18_ n19_ n20_; clear hb hbox hg; obtain ⟨Ao108, co108, eo108⟩ := Kd.R_slice HO418.out; subst eo108; have hnb109 := NB420_397.out; have hnc109 := NB397_420.out; have hnb110 := NB420_403.out; have hnc110 := NB403_420.out; have hnb111 := NB420_408.out; have hnc111 := NB408_420.out; have hnb112 := NB420_413.out; have hnc112 := NB413_420.out; have hcz113_0 : w107.cell? ⟨gb420, 0, none⟩ = some (.slice none 0 0) := (blk_cell BK420.out 0).trans rfl; have hfz113_0 := blk_frozen BK420.out 0; have hcz114_0 : w107.cell? ⟨gb397, 0, none⟩ = some (.slice Ao14 t394.length co14) := (blk_cell BK397.out 0).trans rfl; have hfz114_0 := blk_frozen BK397.out 0) | ((with_reducible refine gate_callee (f := 36) rfl ?_); refine goesL_ (some 107) rfl rfl Try.func36 (by kernel_rfl) rfl #[.agg #[.slice Ao14 t394.length co14], .int .i64 2] rfl (by (try simp only [List.map_toArray, List.map_cons, List.map_nil]); first | done | rfl | (simp only [List.length_drop, List.length_take]; rfl)) ?_; (with_reducible refine (histogram_Scale.calls k3 _ _ t394 2 t421 t424 _ ?side1 ?side2 A64.out).mono ?_); (case side1 => refine (Kd.R_reads' (e := 67) (base := w.heap.size) (ok := fun k_ => ((some k_ ≠ (.slice Ao20 t399.length co20 : Value).ownBlock ∧ (some k_ ≠ (.slice Ao25 t404.length co25 : Value).ownBlock ∧ some k_ ≠ (.slice Ao32 t409.length co32 : Value).ownBlock)) ∧ some k_ ≠ (.slice Ao108 t416.length co108 : Value).ownBlock)) (n := t394.length) (c := co14) ?_).2.2; exact (by (with_reducible repeat (first | apply Kd.R_alloc | apply Kd.R_drewN | apply Kd.R_drew)); exact (Kd.R_mono (Kd.R_far (p := ⟨gb420, 0, none⟩) (Kd.R_types HO_398000.out BK420.out (by decide)) (fun _ hk => hk.2) (.slice Ao108 t416.length co108)) (fun _ h_ => h_.1)))); (case side2 => exact (Kd.R_reads' HO_398000.out).2.1); rintro e w115 ⟨v422, rfl, ho0, hb⟩; refine ⟨_, rfl, ?_⟩; have n0_ := Aside0.mk (Kd.R_elder' (by (with_reducible repeat (first | apply Kd.R_alloc | apply Kd.R_drewN | apply Kd.R_drew)); exact (Kd.R_mono (Kd.R_far (p := ⟨gb420, 0, none⟩) (Kd.R_types HO_398000.out BK420.out (by decide)) (fun _ hk => hk.2) (.slice Ao108 t416.length co108)) (fun _ h_ => h_.1))) (Kd.R_base ho0) hb); have n1_ := Aside0.mk (Kd.R_elder' (by (with_reducible repeat (first | apply Kd.R_alloc | apply Kd.R_drewN | apply Kd.R_drew)); exact (Kd.R_mono (Kd.R_far (p := ⟨gb420, 0, none⟩) (Kd.R_types HO_404000.out BK420.out (by decide)) (fun _ hk => hk.2) (.slice Ao108 t416.length co108)) (fun _ h_ => h_.1))) (Kd.R_base ho0) hb); have n2_ := Aside0.mk (Kd.R_elder' (by (with_reducible repeat (first | apply Kd.R_alloc | apply Kd.R_drewN | apply Kd.R_drew)); exact (Kd.R_mono (Kd.R_far (p := ⟨gb420, 0, none⟩) (Kd.R_types HO_409000.out BK420.out (by decide)) (fun _ hk => hk.2) (.slice Ao108 t416.length co108)) (fun _ h_ => h_.1))) (Kd.R_base ho0) hb); have n3_ := Aside0.mk (Kd.R_elder' (by (with_reducible repeat (first | apply Kd.R_alloc | apply Kd.R_drewN | apply Kd.R_drew)); exact (Kd.R_mono (Kd.R_far (p := ⟨gb420, 0, none⟩) (Kd.R_types HO_414000.out BK420.out (by decide)) (fun _ hk => hk.2) (.slice Ao108 t416.length co108)) (fun _ h_ => h_.1))) (Kd.R_base ho0) hb); have n4_ := Aside0.mk (Kd.R_elder' (by (with_reducible repeat (first | apply Kd.R_alloc | apply Kd.R_drewN | apply Kd.R_drew)); exact (Kd.R_mono (Kd.R_far (p := ⟨gb420, 0, none⟩) (Kd.R_types HO418.out BK420.out (by decide)) (fun _ hk => hk.2) (.slice Ao108 t416.length co108)) (fun _ h_ => h_.1))) (Kd.R_base ho0) hb); have n5_ := Aside0.mk (Kd.R_lower (Kd.R_new' (Kd.R_new' (Kd.R_new' (Kd.R_new' (Kd.R_new' ho0 (Kd.R_lt (by (with_reducible repeat (first | apply Kd.R_alloc | apply Kd.R_drewN | apply Kd.R_drew)); exact (Kd.R_mono (Kd.R_far (p := ⟨gb420, 0, none⟩) (Kd.R_types HO_398000.out BK420.out (by decide)) (fun _ hk => hk.2) (.slice Ao108 t416.length co108)) (fun _ h_ => h_.1))))) (Kd.R_lt (by (with_reducible repeat (first | apply Kd.R_alloc | apply Kd.R_drewN | apply Kd.R_drew)); exact (Kd.R_mono (Kd.R_far (p := ⟨gb420, 0, none⟩) (Kd.R_types HO_404000.out BK420.out (by decide)) (fun _ hk => hk.2) (.slice Ao108 t416.length co108)) (fun _ h_ => h_.1))))) (Kd.R_lt (by (with_reducible repeat (first | apply Kd.R_alloc | apply Kd.R_drewN | apply Kd.R_drew)); exact (Kd.R_mono (Kd.R_far (p := ⟨gb420, 0, none⟩) (Kd.R_types HO_409000.out BK420.out (by decide)) (fun _ hk => hk.2) (.slice Ao108 t416.length co108)) (fun _ h_ => h_.1))))) (Kd.R_lt (by (with_reducible repeat (first | apply Kd.R_alloc | apply Kd.R_drewN | apply Kd.R_drew)); exact (Kd.R_mono (Kd.R_far (p := ⟨gb420, 0, none⟩) (Kd.R_types HO_414000.out BK420.out (by decide)) (fun _ hk => hk.2) (.slice Ao108 t416.length co108)) (fun _ h_ => h_.1))))) (Kd.R_lt (by (with_reducible repeat (first | apply Kd.R_alloc | apply Kd.R_drewN | apply Kd.R_drew)); exact (Kd.R_mono (Kd.R_far (p := ⟨gb420, 0, none⟩) (Kd.R_types HO418.out BK420.out (by decide)) (fun _ hk => hk.2) (.slice Ao108 t416.length co108)) (fun _ h_ => h_.1))))) (below_size (by repeat (first | (with_reducible first | exact HB.out | apply below_alloc | apply pw_below_drewN | apply below_drew1 | refine below_set ?_ GE397.out | refine below_set ?_ GE403.out | refine below_set ?_ GE408.out | refine below_set ?_ GE413.out | refine below_set ?_ GE420.out) | exact HB.out)))); have n6_ := Aside0.mk (blk_below (g := gb397) (o := .cells #[.slice Ao14 t394.length co14] 33 (0, 0)) (by (with_reducible repeat (first | refine blk_drewN ?_ _ | refine blk_drew ?_ | refine blk_alloc ?_ _)); refine blk_far ?_ NB397_420.out _; (with_reducible repeat (first | refine blk_drewN ?_ _ | refine blk_drew ?_ | refine blk_alloc ?_ _)); exact BK397.out) hb); have n7_ := Aside0.mk (blk_below (g := gb403) (o := .cells #[.slice Ao20 t399.length co20] 33 (0, 0)) (by (with_reducible repeat (first | refine blk_drewN ?_ _ | refine blk_drew ?_ | refine blk_alloc ?_ _)); refine blk_far ?_ NB403_420.out _; (with_reducible repeat (first | refine blk_drewN ?_ _ | refine blk_drew ?_ | refine blk_alloc ?_ _)); exact BK403.out) hb); have n8_ := Aside0.mk (blk_below (g := gb408) (o := .cells #[.slice Ao25 t404.length co25] 33 (0, 0)) (by (with_reducible repeat (first | refine blk_drewN ?_ _ | refine blk_drew ?_ | refine blk_alloc ?_ _)); refine blk_far ?_ NB408_420.out _; (with_reducible repeat (first | refine blk_drewN ?_ _ | refine blk_drew ?_ | refine blk_alloc ?_ _)); exact BK408.out) hb); have n9_ := Aside0.mk (blk_below (g := gb413) (o := .cells #[.slice Ao32 t409.length co32] 33 (0, 0)) (by (with_reducible repeat (first | refine blk_drewN ?_ _ | refine blk_drew ?_ | refine blk_alloc ?_ _)); refine blk_far ?_ NB413_420.out _; (with_reducible repeat (first | refine blk_drewN ?_ _ | refine blk_drew ?_ | refine blk_alloc ?_ _)); exact BK413.out) hb); have n10_ := Aside0.mk (blk_below (g := gb420) (o := .cells #[.slice Ao108 t416.length co108] 33 (0, 0)) (by (with_reducible repeat (first | refine blk_drewN ?_ _ | refine blk_drew ?_ | refine blk_alloc ?_ _)); refine blk_put (cs := #[.slice none 0 0]) ?_ 0 _ rfl; (with_reducible repeat (first | refine blk_drewN ?_ _ | refine blk_drew ?_ | refine blk_alloc ?_ _)); exact BK420.out) hb); have n11_ := Aside0.mk (below_step (by repeat (first | (with_reducible first | exact HB.out | apply below_alloc | apply pw_below_drewN | apply below_drew1 | refine below_set ?_ GE397.out | refine below_set ?_ GE403.out | refine below_set ?_ GE408.out | refine below_set ?_ GE413.out | refine below_set ?_ GE420.out) | exact HB.out)) hb); clear HO_398000; clear HO_404000; clear HO_409000; clear HO_414000; clear HO418; clear BK397; clear BK403; clear BK408; clear BK413; clear BK420; clear HB; have HO_398000 := n0_; have HO_404000 := n1_; have HO_409000 := n2_; have HO_414000 := n3_; have HO418 := n4_; have HO423 := n5_; have BK397 := n6_; have BK403 := n7_; have BK408 := n8_; have BK413 := n9_; have BK420 := n10_; have HB := n11_; clear n0_ n1_ n2_ n3_ n4_ n5_ n6_ n7_ n8_ n9_ n10_ n11_; (try clear hb); (try clear hb2); (try clear hk); (try clear hi); (try clear ho0)) | ((with_reducible refine gate_dst (N := 16) rfl ?_); (try (refine gate_guard (by rfl) ?_; dsimp only)); refine box_event ?hg (N := 16) ?hd (cs := #[.slice none 0 0]) (t := 33) ?hr ?_; (case hd => rfl); (case hg => rfl); (case hr => first | (go_simp; done) | (go_simp; rfl)); intro gb425 hg w116 hbox hb; have n0_ := Aside0.mk (Kd.R_below (by (with_reducible repeat (first | apply Kd.R_alloc | apply Kd.R_drewN | apply Kd.R_drew)); exact HO_398000.out) hb); have n1_ := Aside0.mk (Kd.R_below (by (with_reducible repeat (first | apply Kd.R_alloc | apply Kd.R_drewN | apply Kd.R_drew)); exact HO_404000.out) hb); have n2_ := Aside0.mk (Kd.R_below (by (with_reducible repeat (first | apply Kd.R_alloc | apply Kd.R_drewN | apply Kd.R_drew)); exact HO_409000.out) hb); have n3_ := Aside0.mk (Kd.R_below (by (with_reducible repeat (first | apply Kd.R_alloc | apply Kd.R_drewN | apply Kd.R_drew)); exact HO_414000.out) hb); have n4_ := Aside0.mk (Kd.R_below (by (with_reducible repeat (first | apply Kd.R_alloc | apply Kd.R_drewN | apply Kd.R_drew)); exact HO418.out) hb); have n5_ := Aside0.mk (Kd.R_below (by (with_reducible repeat (first | apply Kd.R_alloc | apply Kd.R_drewN | apply Kd.R_drew)); exact HO423.out) hb); have n6_ := Aside0.mk (blk_below (g := gb397) (o := .cells #[.slice Ao14 t394.length co14] 33 (0, 0)) (by (with_reducible repeat (first | refine blk_drewN ?_ _ | refine blk_drew ?_ | refine blk_alloc ?_ _)); exact BK397.out) hb); have n7_ := Aside0.mk (blk_below (g := gb403) (o := .cells #[.slice Ao20 t399.length co20] 33 (0, 0)) (by (with_reducible repeat (first | refine blk_drewN ?_ _ | refine blk_drew ?_ | refine blk_alloc ?_ _)); exact BK403.out) hb); have n8_ := Aside0.mk (blk_below (g := gb408) (o := .cells #[.slice Ao25 t404.length co25] 33 (0, 0)) (by (with_reducible repeat (first | refine blk_drewN ?_ _ | refine blk_drew ?_ | refine blk_alloc ?_ _)); exact BK408.out) hb); have n9_ := Aside0.mk (blk_below (g := gb413) (o := .cells #[.slice Ao32 t409.length co32] 33 (0, 0)) (by (with_reducible repeat (first | refine blk_drewN ?_ _ | refine blk_drew ?_ | refine blk_alloc ?_ _)); exact BK413.out) hb); have n10_ := Aside0.mk (blk_below (g := gb420) (o := .cells #[.slice Ao108 t416.length co108] 33 (0, 0)) (by (with_reducible repeat (first | refine blk_drewN ?_ _ | refine blk_drew ?_ | refine blk_alloc ?_ _)); exact BK420.out) hb); have n11_ := Aside0.mk (below_step (by repeat (first | (with_reducible first | exact HB.out | apply below_alloc | apply pw_below_drewN | apply below_drew1 | refine below_set ?_ GE397.out | refine below_set ?_ GE403.out | refine below_set ?_ GE408.out | refine below_set ?_ GE413.out | refine below_set ?_ GE420.out) | exact HB.out)) hb); have n12_ := Aside0.mk (hbox); have n13_ := Aside0.mk ((by rw [hg]; exact (below_size (by repeat (first | (with_reducible first | exact HB.out | apply below_alloc | apply pw_below_drewN | apply below_drew1 | refine below_set ?_ GE397.out | refine below_set ?_ GE403.out | refine below_set ?_ GE408.out | refine below_set ?_ GE413.out | refine below_set ?_ GE420.out) | exact HB.out))) : w.heap.size ≤ gb425)); have n14_ := Aside0.mk ((by rw [hg]; exact (below_size (by repeat (first | (with_reducible first | exact HB.out | apply below_alloc | apply pw_below_drewN | apply below_drew1 | refine below_set ?_ GE397.out | refine below_set ?_ GE403.out | refine below_set ?_ GE408.out | refine below_set ?_ GE413.out | refine below_set ?_ GE420.out) | exact HB.out))) : w.heap.size ≤ gb425)); have n15_ := Aside0.mk ((by rw [hg]; exact Nat.ne_of_lt (blk_lt (g := gb397) (o := .cells #[.slice Ao14 t394.length co14] 33 (0, 0)) (by (with_reducible repeat (first | refine blk_drewN ?_ _ | refine blk_drew ?_ | refine blk_alloc ?_ _)); exact BK397.out)) : gb397 ≠ gb425)); have n16_ := Aside0.mk ((by rw [hg]; exact Nat.ne_of_gt (blk_lt (g := gb397) (o := .cells #[.slice Ao14 t394.length co14] 33 (0, 0)) (by (with_reducible repeat (first | refine blk_drewN ?_ _ | refine blk_drew ?_ | refine blk_alloc ?_ _)); exact BK397.out)) : gb425 ≠ gb397)); have n17_ := Aside0.mk ((by rw [hg]; exact Nat.ne_of_lt (blk_lt (g := gb403) (o := .cells #[.slice Ao20 t399.length co20] 33 (0, 0)) (by (with_reducible repeat (first | refine blk_drewN ?_ _ | refine blk_drew ?_ | refine blk_alloc ?_ _)); exact BK403.out)) : gb403 ≠ gb425)); have n18_ := Aside0.mk ((by rw [hg]; exact Nat.ne_of_gt (blk_lt (g := gb403) (o := .cells #[.slice Ao20 t399.length co20] 33 (0, 0)) (by (with_reducible repeat (first | refine blk_drewN ?_ _ | refine blk_drew ?_ | refine blk_alloc ?_ _)); exact BK403.out)) : gb425 ≠ gb403)); have n19_ := Aside0.mk ((by rw [hg]; exact Nat.ne_of_lt (blk_lt (g := gb408) (o := .cells #[.slice Ao25 t404.length co25] 33 (0, 0)) (by (with_reducible repeat (first | refine blk_drewN ?_ _ | refine blk_drew ?_ | refine blk_alloc ?_ _)); exact BK408.out)) : gb408 ≠ gb425)); have n20_ := Aside0.mk ((by rw [hg]; exact Nat.ne_of_gt (blk_lt (g := gb408) (o := .cells #[.slice Ao25 t404.length co25] 33 (0, 0)) (by (with_reducible repeat (first | refine blk_drewN ?_ _ | refine blk_drew ?_ | refine blk_alloc ?_ _)); exact BK408.out)) : gb425 ≠ gb408)); have n21_ := Aside0.mk ((by rw [hg]; exact Nat.ne_of_lt (blk_lt (g := gb413) (o := .cells #[.slice Ao32 t409.length co32] 33 (0, 0)) (by (with_reducible repeat (first | refine blk_drewN ?_ _ | refine blk_drew ?_ | refine blk_alloc ?_ _)); exact BK413.out)) : gb413 ≠ gb425)); have n22_ := Aside0.mk ((by rw [hg]; exact Nat.ne_of_gt (blk_lt (g := gb413) (o := .cells #[.slice Ao32 t409.length co32] 33 (0, 0)) (by (with_reducible repeat (first | refine blk_drewN ?_ _ | refine blk_drew ?_ | refine blk_alloc ?_ _)); exact BK413.out)) : gb425 ≠ gb413)); have n23_ := Aside0.mk ((by rw [hg]; exact Nat.ne_of_lt (blk_lt (g := gb420) (o := .cells #[.slice Ao108 t416.length co108] 33 (0, 0)) (by (with_reducible repeat (first | refine blk_drewN ?_ _ | refine blk_drew ?_ | refine blk_alloc ?_ _)); exact BK420.out)) : gb420 ≠ gb425)); have n24_ := Aside0.mk ((by rw [hg]; exact Nat.ne_of_gt (blk_lt (g := gb420) (o := .cells #[.slice Ao108 t416.length co108] 33 (0, 0)) (by (with_reducible repeat (first | refine blk_drewN ?_ _ | refine blk_drew ?_ | refine blk_alloc ?_ _)); exact BK420.out)) : gb425 ≠ gb420)); clear HO_398000; clear HO_404000; clear HO_409000; clear HO_414000; clear HO418; clear HO423; clear BK397; clear BK403; clear BK408; clear BK413; clear BK420; clear HB; have HO_398000 := n0_; have HO_404000 := n1_; have HO_409000 := n2_; have HO_414000 := n3_; have HO418 := n4_; have HO423 := n5_; have BK397 := n6_; have BK403 := n7_; have BK408 := n8_; have BK413 := n9_; have BK420 := n10_; have HB := n11_; have BK425 := n12_; have GW425 := n13_; have GE425 := n14_; have NB397_425 := n15_; have NB425_397 := n16_; have NB403_425 := n17_; have NB425_403 := n18_; have NB408_425 := n19_; have NB425_408 := n20_; have NB413_425 := n21_; have NB425_413 := n22_; have NB420_425 := n23_; have NB425_420 := n24_; clear n0_ n1_ n2_ n3_ n4_ n5_ n6_ n7_ n8_ n9_ n10_ n11_ n12_ n13_ n14_ n15_ n16_ n17_ n18_ n19_ n20_ n21_ n22_ n23_ n24_; clear hb hbox hg; obtain ⟨Ao117, co117, eo117⟩ := Kd.R_slice HO423.out; subst eo117; have hnb118 := NB425_397.out; have hnc118 := NB397_425.out; have hnb119 := NB425_403.out; have hnc119 := NB403_425.out; have hnb120 := NB425_408.out; have hnc120 := NB408_425.out; have hnb121 := NB425_413.out; have hnc121 := NB413_425.out; have hnb122 := NB425_420.out; have hnc122 := NB420_425.out; have hcz123_0 : w116.cell? ⟨gb425, 0, none⟩ = some (.slice none 0 0) := (blk_cell BK425.out 0).trans rfl; have hfz123_0 := blk_frozen BK425.out 0; have hnb124 := NB403_408.out; have hnc124 := NB408_403.out; have hnb125 := NB403_413.out; have hnc125 := NB413_403.out; have hcz126_0 : w116.cell? ⟨gb403, 0, none⟩ = some (.slice Ao20 t399.length co20) := (blk_cell BK403.out 0).trans rfl; have hfz126_0 := blk_frozen BK403.out 0) | (go_at_call 24; (with_reducible refine (histogram_Check.calls k3 _ _ t399 t426 _ ?side1 ?side2 A66.out).mono ?_); (case side1 => refine (Kd.R_reads' (e := 67) (base := w.heap.size) (ok := fun k_ => (((some k_ ≠ (.slice Ao14 t394.length co14 : Value).ownBlock ∧ (some k_ ≠ (.slice Ao25 t404.length co25 : Value).ownBlock ∧ some k_ ≠ (.slice Ao32 t409.length co32 : Value).ownBlock)) ∧ some k_ ≠ (.slice Ao108 t416.length co108 : Value).ownBlock) ∧ some k_ ≠ (.slice Ao117 t421.length co117 : Value).ownBlock)) (n := t399.length) (c := co20) ?_).2.2; exact (by (with_reducible repeat (first | apply Kd.R_alloc | apply Kd.R_drewN | apply Kd.R_drew)); exact (Kd.R_mono (Kd.R_far (p := ⟨gb425, 0, none⟩) (Kd.R_types HO_404000.out BK425.out (by decide)) (fun _ hk => hk.2) (.slice Ao117 t421.length co117)) (fun _ h_ => h_.1)))); (case side2 => exact (Kd.R_reads' HO_404000.out).2.1); rintro e w127 ⟨rfl, hb⟩; have n0_ := Aside0.mk (Kd.R_below (by (with_reducible repeat (first | apply Kd.R_alloc | apply Kd.R_drewN | apply Kd.R_drew)); exact (Kd.R_mono (Kd.R_far (p := ⟨gb425, 0, none⟩) (Kd.R_types HO_398000.out BK425.out (by decide)) (fun _ hk => hk.2) (.slice Ao117 t421.length co117)) (fun _ h_ => h_.1))) hb); have n1_ := Aside0.mk (Kd.R_below (by (with_reducible repeat (first | apply Kd.R_alloc | apply Kd.R_drewN | apply Kd.R_drew)); exact (Kd.R_mono (Kd.R_far (p := ⟨gb425, 0, none⟩) (Kd.R_types HO_404000.out BK425.out (by decide)) (fun _ hk => hk.2) (.slice Ao117 t421.length co117)) (fun _ h_ => h_.1))) hb); have n2_ := Aside0.mk (Kd.R_below (by (with_reducible repeat (first | apply Kd.R_alloc | apply Kd.R_drewN | apply Kd.R_drew)); exact (Kd.R_mono (Kd.R_far (p := ⟨gb425, 0, none⟩) (Kd.R_types HO_409000.out BK425.out (by decide)) (fun _ hk => hk.2) (.slice Ao117 t421.length co117)) (fun _ h_ => h_.1))) hb); have n3_ := Aside0.mk (Kd.R_below (by (with_reducible repeat (first | apply Kd.R_alloc | apply Kd.R_drewN | apply Kd.R_drew)); exact (Kd.R_mono (Kd.R_far (p := ⟨gb425, 0, none⟩) (Kd.R_types HO_414000.out BK425.out (by decide)) (fun _ hk => hk.2) (.slice Ao117 t421.length co117)) (fun _ h_ => h_.1))) hb); have n4_ := Aside0.mk (Kd.R_below (by (with_reducible repeat (first | apply Kd.R_alloc | apply Kd.R_drewN | apply Kd.R_drew)); exact (Kd.R_mono (Kd.R_far (p := ⟨gb425, 0, none⟩) (Kd.R_types HO418.out BK425.out (by decide)) (fun _ hk => hk.2) (.slice Ao117 t421.length co117)) (fun _ h_ => h_.1))) hb); have n5_ := Aside0.mk (Kd.R_below (by (with_reducible repeat (first | apply Kd.R_alloc | apply Kd.R_drewN | apply Kd.R_drew)); exact (Kd.R_mono (Kd.R_far (p := ⟨gb425, 0, none⟩) (Kd.R_types HO423.out BK425.out (by decide)) (fun _ hk => hk.2) (.slice Ao117 t421.length co117)) (fun _ h_ => h_.1))) hb); have n6_ := Aside0.mk (blk_below (g := gb397) (o := .cells #[.slice Ao14 t394.length co14] 33 (0, 0)) (by (with_reducible repeat (first | refine blk_drewN ?_ _ | refine blk_drew ?_ | refine blk_alloc ?_ _)); refine blk_far ?_ NB397_425.out _; (with_reducible repeat (first | refine blk_drewN ?_ _ | refine blk_drew ?_ | refine blk_alloc ?_ _)); exact BK397.out) hb); have n7_ := Aside0.mk (blk_below (g := gb403) (o := .cells #[.slice Ao20 t399.length co20] 33 (0, 0)) (by (with_reducible repeat (first | refine blk_drewN ?_ _ | refine blk_drew ?_ | refine blk_alloc ?_ _)); refine blk_far ?_ NB403_425.out _; (with_reducible repeat (first | refine blk_drewN ?_ _ | refine blk_drew ?_ | refine blk_alloc ?_ _)); exact BK403.out) hb); have n8_ := Aside0.mk (blk_below (g := gb408) (o := .cells #[.slice Ao25 t404.length co25] 33 (0, 0)) (by (with_reducible repeat (first | refine blk_drewN ?_ _ | refine blk_drew ?_ | refine blk_alloc ?_ _)); refine blk_far ?_ NB408_425.out _; (with_reducible repeat (first | refine blk_drewN ?_ _ | refine blk_drew ?_ | refine blk_alloc ?_ _)); exact BK408.out) hb); have n9_ := Aside0.mk (blk_below (g := gb413) (o := .cells #[.slice Ao32 t409.length co32] 33 (0, 0)) (by (with_reducible repeat (first | refine blk_drewN ?_ _ | refine blk_drew ?_ | refine blk_alloc ?_ _)); refine blk_far ?_ NB413_425.out _; (with_reducible repeat (first | refine blk_drewN ?_ _ | refine blk_drew ?_ | refine blk_alloc ?_ _)); exact BK413.out) hb); have n10_ := Aside0.mk (blk_below (g := gb420) (o := .cells #[.slice Ao108 t416.length co108] 33 (0, 0)) (by (with_reducible repeat (first | refine blk_drewN ?_ _ | refine blk_drew ?_ | refine blk_alloc ?_ _)); refine blk_far ?_ NB420_425.out _; (with_reducible repeat (first | refine blk_drewN ?_ _ | refine blk_drew ?_ | refine blk_alloc ?_ _)); exact BK420.out) hb); have n11_ := Aside0.mk (blk_below (g := gb425) (o := .cells #[.slice Ao117 t421.length co117] 33 (0, 0)) (by (with_reducible repeat (first | refine blk_drewN ?_ _ | refine blk_drew ?_ | refine blk_alloc ?_ _)); refine blk_put (cs := #[.slice none 0 0]) ?_ 0 _ rfl; (with_reducible repeat (first | refine blk_drewN ?_ _ | refine blk_drew ?_ | refine blk_alloc ?_ _)); exact BK425.out) hb); have n12_ := Aside0.mk (below_step (by repeat (first | (with_reducible first | exact HB.out | apply below_alloc | apply pw_below_drewN | apply below_drew1 | refine below_set ?_ GE397.out | refine below_set ?_ GE403.out | refine below_set ?_ GE408.out | refine below_set ?_ GE413.out | refine below_set ?_ GE420.out | refine below_set ?_ GE425.out) | exact HB.out)) hb); clear HO_398000; clear HO_404000; clear HO_409000; clear HO_414000; clear HO418; clear HO423; clear BK397; clear BK403; clear BK408; clear BK413; clear BK420; clear BK425; clear HB; have HO_398000 := n0_; have HO_404000 := n1_; have HO_409000 := n2_; have HO_414000 := n3_; have HO418 := n4_; have HO423 := n5_; have BK397 := n6_; have BK403 := n7_; have BK408 := n8_; have BK413 := n9_; have BK420 := n10_; have BK425 := n11_; have HB := n12_; clear n0_ n1_ n2_ n3_ n4_ n5_ n6_ n7_ n8_ n9_ n10_ n11_ n12_; (try clear hb); (try clear hb2); (try clear hk); (try clear hi); have hcz128_0 : w127.cell? ⟨gb420, 0, none⟩ = some (.slice Ao108 t416.length co108) := (blk_cell BK420.out 0).trans rfl; have hfz128_0 := blk_frozen BK420.out 0; have hcz129_0 : w127.cell? ⟨gb425, 0, none⟩ = some (.slice Ao117 t421.length co117) := (blk_cell BK425.out 0).trans rfl; have hfz129_0 := blk_frozen BK425.out 0) | (go_at_call 35; (with_reducible refine (histogram_Equal.calls k3 _ _ t416 _ _ t421 true _ ?side1 ?side2 ?side3 ?side4 A70.out).mono ?_); (case side1 => repeat (first | exact (Kd.R_reads' HO418.out).2.2 | (with_reducible refine Kd.C_alloc ?_ _) | (with_reducible refine Kd.C_drewN ?_ _) | (with_reducible refine Kd.C_drew ?_))); (case side2 => exact (Kd.R_reads' HO418.out).2.1); (case side3 => repeat (first | exact (Kd.R_reads' HO423.out).2.2 | (with_reducible refine Kd.C_alloc ?_ _) | (with_reducible refine Kd.C_drewN ?_ _) | (with_reducible refine Kd.C_drew ?_))); (case side4 => exact (Kd.R_reads' HO423.out).2.1); rintro e w130 ⟨rfl, hb⟩; have n0_ := Aside0.mk (Kd.R_below (by (with_reducible repeat (first | apply Kd.R_alloc | apply Kd.R_drewN | apply Kd.R_drew)); exact HO_398000.out) hb); have n1_ := Aside0.mk (Kd.R_below (by (with_reducible repeat (first | apply Kd.R_alloc | apply Kd.R_drewN | apply Kd.R_drew)); exact HO_404000.out) hb); have n2_ := Aside0.mk (Kd.R_below (by (with_reducible repeat (first | apply Kd.R_alloc | apply Kd.R_drewN | apply Kd.R_drew)); exact HO_409000.out) hb); have n3_ := Aside0.mk (Kd.R_below (by (with_reducible repeat (first | apply Kd.R_alloc | apply Kd.R_drewN | apply Kd.R_drew)); exact HO_414000.out) hb); have n4_ := Aside0.mk (Kd.R_below (by (with_reducible repeat (first | apply Kd.R_alloc | apply Kd.R_drewN | apply Kd.R_drew)); exact HO418.out) hb); have n5_ := Aside0.mk (Kd.R_below (by (with_reducible repeat (first | apply Kd.R_alloc | apply Kd.R_drewN | apply Kd.R_drew)); exact HO423.out) hb); have n6_ := Aside0.mk (blk_below (g := gb397) (o := .cells #[.slice Ao14 t394.length co14] 33 (0, 0)) (by (with_reducible repeat (first | refine blk_drewN ?_ _ | refine blk_drew ?_ | refine blk_alloc ?_ _)); exact BK397.out) hb); have n7_ := Aside0.mk (blk_below (g := gb403) (o := .cells #[.slice Ao20 t399.length co20] 33 (0, 0)) (by (with_reducible repeat (first | refine blk_drewN ?_ _ | refine blk_drew ?_ | refine blk_alloc ?_ _)); exact BK403.out) hb); have n8_ := Aside0.mk (blk_below (g := gb408) (o := .cells #[.slice Ao25 t404.length co25] 33 (0, 0)) (by (with_reducible repeat (first | refine blk_drewN ?_ _ | refine blk_drew ?_ | refine blk_alloc ?_ _)); exact BK408.out) hb); have n9_ := Aside0.mk (blk_below (g := gb413) (o := .cells #[.slice Ao32 t409.length co32] 33 (0, 0)) (by (with_reducible repeat (first | refine blk_drewN ?_ _ | refine blk_drew ?_ | refine blk_alloc ?_ _)); exact BK413.out) hb); have n10_ := Aside0.mk (blk_below (g := gb420) (o := .cells #[.slice Ao108 t416.length co108] 33 (0, 0)) (by (with_reducible repeat (first | refine blk_drewN ?_ _ | refine blk_drew ?_ | refine blk_alloc ?_ _)); exact BK420.out) hb); have n11_ := Aside0.mk (blk_below (g := gb425) (o := .cells #[.slice Ao117 t421.length co117] 33 (0, 0)) (by (with_reducible repeat (first | refine blk_drewN ?_ _ | refine blk_drew ?_ | refine blk_alloc ?_ _)); exact BK425.out) hb); have n12_ := Aside0.mk (below_step (by repeat (first | (with_reducible first | exact HB.out | apply below_alloc | apply pw_below_drewN | apply below_drew1 | refine below_set ?_ GE397.out | refine below_set ?_ GE403.out | refine below_set ?_ GE408.out | refine below_set ?_ GE413.out | refine below_set ?_ GE420.out | refine below_set ?_ GE425.out) | exact HB.out)) hb); clear HO_398000; clear HO_404000; clear HO_409000; clear HO_414000; clear HO418; clear HO423; clear BK397; clear BK403; clear BK408; clear BK413; clear BK420; clear BK425; clear HB; have HO_398000 := n0_; have HO_404000 := n1_; have HO_409000 := n2_; have HO_414000 := n3_; have HO418 := n4_; have HO423 := n5_; have BK397 := n6_; have BK403 := n7_; have BK408 := n8_; have BK413 := n9_; have BK420 := n10_; have BK425 := n11_; have HB := n12_; clear n0_ n1_ n2_ n3_ n4_ n5_ n6_ n7_ n8_ n9_ n10_ n11_ n12_; (try clear hb); (try clear hb2); (try clear hk); (try clear hi); have hcz131_0 : w130.cell? ⟨gb403, 0, none⟩ = some (.slice Ao20 t399.length co20) := (blk_cell BK403.out 0).trans rfl; have hfz131_0 := blk_frozen BK403.out 0))
                                go_ret
                                exact ⟨by first | rfl | (simp [errW_none, errW_some] <;> rfl) | (simp [*, errW_none, errW_some] <;> rfl), by repeat (first | (with_reducible first | exact HB.out | apply below_alloc | apply pw_below_drewN | apply below_drew1 | refine below_set ?_ GE397.out | refine below_set ?_ GE403.out | refine below_set ?_ GE408.out | refine below_set ?_ GE413.out | refine below_set ?_ GE420.out | refine below_set ?_ GE425.out) | exact HB.out)⟩
                            · replace c71 := Bool.eq_false_iff.mpr c71
                              subst c71
                              have H1 : (some false) = some r := by rw [if_neg (show ¬ (false = true) by decide)] at H; exact H
                              clear H
                              have H := H1
                              clear H1
                              exact absurd (H.trans (congrArg some hr_)) (by decide)
                          · rw [if_neg c69] at H
                            have c69b0 : (t424 == 0) = false := beq_eq_false_iff_ne.mpr c69
                            have c69b1 : (t424 != 0) = true := bne_iff_ne.mpr c69
                            exact absurd (H.trans (congrArg some hr_)) (by decide)
                        · rw [if_neg c68] at H
                          have c68b0 : (t419 == 0) = false := beq_eq_false_iff_ne.mpr c68
                          have c68b1 : (t419 != 0) = true := bne_iff_ne.mpr c68
                          exact absurd (H.trans (congrArg some hr_)) (by decide)
                      · rw [if_neg c67] at H
                        have c67b0 : (t426 == 0) = false := beq_eq_false_iff_ne.mpr c67
                        have c67b1 : (t426 != 0) = true := bne_iff_ne.mpr c67
                        exact absurd (H.trans (congrArg some hr_)) (by decide)
                    · rw [if_neg c65] at H
                      have c65b0 : (t402 == 0) = false := beq_eq_false_iff_ne.mpr c65
                      have c65b1 : (t402 != 0) = true := bne_iff_ne.mpr c65
                      exact absurd (H.trans (congrArg some hr_)) (by decide)
  · replace c4 := Bool.eq_false_iff.mpr c4
    subst c4
    have H1 : (some false) = some r := by rw [if_neg (show ¬ (false = true) by decide)] at H; exact H
    clear H
    have H := H1
    clear H1
    exact absurd (H.trans (congrArg some hr_)) (by decide)

/-- THE ONE PURE STATEMENT of sleuthlaw21_HistogramScales: yours. -/
def sleuthlaw21_HistogramScales.Pure : Prop := ∀ (l0 : List Int) (a1 : Int), l0.length ≤ maxLen → l0.length * 8 ≤ 140737488351232 → (∀ x ∈ l0, (Lit.int .i64 x).wf = true) → (Lit.int .i64 a1).wf = true → ∃ k, sleuthlaw21_HistogramScales.f k l0 a1 = some true
theorem sleuthlaw21_HistogramScales.walk (P : sleuthlaw21_HistogramScales.Pure) (a0 : Option Addr) (len0 cap0 : Nat) (z0 : List Int) (a1 : Int) (w : World) (w0 : (a0 = none ∧ len0 = 0 ∧ cap0 = 0 ∧ z0 = []) ∨ ∃ x, a0 = some x ∧ len0 ≤ cap0 ∧ cap0 ≤ maxLen ∧ z0.length = cap0 ∧ (∀ i, i < z0.length → w.cell? (x.add i) = some (.int .i64 (z0.getD i 0))) ∧ ∀ n ∈ z0, (Lit.int .i64 n).wf = true) (y0 : len0 * 8 ≤ 140737488351232) (w1 : (Lit.int .i64 a1).wf = true) :
    Calls Try.prog 11 #[.slice a0 len0 cap0, .int .i64 a1] w fun e w' => e = .returned (.bool true) ∧ Below w.heap.size w w' := by
  obtain ⟨l0, rfl, hr0, hm0, hw0, hc0⟩ := ReadsInt.ofRowC w0
  obtain ⟨k, h⟩ := P l0 a1 hm0 y0 hw0 w1
  refine (sleuthlaw21_HistogramScales.calls k _ _ l0 a1 true w (Kd.C_of_reads (d := (0 : Int)) (h1 := fun _ => rfl) hr0) hc0 h rfl).mono ?_
  rintro e w' ⟨rfl, hd⟩
  exact ⟨rfl, hd⟩

end Go.Proofs.Ytfnhicmjdfeanaa.PH
