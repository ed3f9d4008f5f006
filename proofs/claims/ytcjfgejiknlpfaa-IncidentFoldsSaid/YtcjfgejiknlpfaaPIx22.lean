-- Written by a program of this session (gprint.py) out of Lean's own print of the program. Lean checks it.
import Derived.Test.YtcjfgejiknlpfaaJ0
namespace Go.Proofs.Ytcjfgejiknlpfaa.PI
open Go.RowKit Go.Proofs.YtcjfgejiknlpfaaW.PrintWords Go.Proofs.YtcjfgejiknlpfaaW.PrintLast Go.Proofs.YtcjfgejiknlpfaaW.PrintMore
attribute [local go_sem] str_gtr str_leq str_geq max2_int min2_int max_two min_two max_three min_three max_four min_four   -- for this text's walks alone
set_option linter.unusedVariables false
set_option linter.unusedSimpArgs false

attribute [local go_sem high] eqA25 eqA49 eqA51
/-! ### sleuthlaw51_same: function 21 -/
mutual
def sleuthlaw51_same.j0 : Nat → Bool → Int → ByteArray → Int → Int → ByteArray → Int → List (S49) → List (S51) → Int → Int → ByteArray → Int → Int → ByteArray → Int → List (S49) → List (S51) → Int → Option (Bool)
  | 0, _, _, _, _, _, _, _, _, _, _, _, _, _, _, _, _, _, _, _ => none
  | k + 1, x64, x378000, x378001, x378002, x378003, x378004, x378005, x378006, x378007, x378008, x379000, x379001, x379002, x379003, x379004, x379005, x379006, x379007, x379008 => if x64 = true then (some false) else (sleuthlaw51_same.l0 k 0 x378000 x378001 x378002 x378003 x378004 x378005 x378006 x378007 x378008 x379000 x379001 x379002 x379003 x379004 x379005 x379006 x379007 x379008)
def sleuthlaw51_same.l0 : Nat → Int → Int → ByteArray → Int → Int → ByteArray → Int → List (S49) → List (S51) → Int → Int → ByteArray → Int → Int → ByteArray → Int → List (S49) → List (S51) → Int → Option (Bool)
  | 0, _, _, _, _, _, _, _, _, _, _, _, _, _, _, _, _, _, _, _ => none
  | k + 1, x5, x378000, x378001, x378002, x378003, x378004, x378005, x378006, x378007, x378008, x379000, x379001, x379002, x379003, x379004, x379005, x379006, x379007, x379008 => if x5 < (x378006.length : Int) then (if 0 ≤ x5 then (if x5 < (x379006.length : Int) then (if (!((((rd_T49 x378006 x5).f0).toList) == (((rd_T49 x379006 x5).f0).toList)) || (!(((rd_T49 x378006 x5).f1) == ((rd_T49 x379006 x5).f1)))) = true then (some false) else (sleuthlaw51_same.l0 k (wrap64 (x5 + 1)) x378000 x378001 x378002 x378003 x378004 x378005 x378006 x378007 x378008 x379000 x379001 x379002 x379003 x379004 x379005 x379006 x379007 x379008)) else (none)) else (none)) else (sleuthlaw51_same.l1 k 0 x378000 x378001 x378002 x378003 x378004 x378005 x378006 x378007 x378008 x379000 x379001 x379002 x379003 x379004 x379005 x379006 x379007 x379008)
def sleuthlaw51_same.l1 : Nat → Int → Int → ByteArray → Int → Int → ByteArray → Int → List (S49) → List (S51) → Int → Int → ByteArray → Int → Int → ByteArray → Int → List (S49) → List (S51) → Int → Option (Bool)
  | 0, _, _, _, _, _, _, _, _, _, _, _, _, _, _, _, _, _, _, _ => none
  | k + 1, x6, x378000, x378001, x378002, x378003, x378004, x378005, x378006, x378007, x378008, x379000, x379001, x379002, x379003, x379004, x379005, x379006, x379007, x379008 => if x6 < (x378007.length : Int) then (if 0 ≤ x6 then (if x6 < (x379007.length : Int) then (if ((!((((rd_T51 x378007 x6).f0.f0).toList) == (((rd_T51 x379007 x6).f0.f0).toList)) || (!(((rd_T51 x378007 x6).f0.f1) == ((rd_T51 x379007 x6).f0.f1)))) || (!((((rd_T51 x378007 x6).f1).toList) == (((rd_T51 x379007 x6).f1).toList)) || (!(((rd_T51 x378007 x6).f2) == ((rd_T51 x379007 x6).f2))))) = true then (some false) else (sleuthlaw51_same.l1 k (wrap64 (x6 + 1)) x378000 x378001 x378002 x378003 x378004 x378005 x378006 x378007 x378008 x379000 x379001 x379002 x379003 x379004 x379005 x379006 x379007 x379008)) else (none)) else (none)) else (some true)
end
def sleuthlaw51_same.f (k : Nat) (a0_0 : Int) (a0_1 : ByteArray) (a0_2 : Int) (a0_3 : Int) (a0_4 : ByteArray) (a0_5 : Int) (l0_6 : List (S49)) (l0_7 : List (S51)) (a0_8 : Int) (a1_0 : Int) (a1_1 : ByteArray) (a1_2 : Int) (a1_3 : Int) (a1_4 : ByteArray) (a1_5 : Int) (l1_6 : List (S49)) (l1_7 : List (S51)) (a1_8 : Int) : Option (Bool) := if a0_0 = a1_0 then (if a0_1.toList = a1_1.toList then (if a0_2 = a1_2 then (if a0_3 = a1_3 then (if (!(a0_4.toList == a1_4.toList) || (!(a0_5 == a1_5))) = true then (sleuthlaw51_same.j0 k true a0_0 a0_1 a0_2 a0_3 a0_4 a0_5 l0_6 l0_7 a0_8 a1_0 a1_1 a1_2 a1_3 a1_4 a1_5 l1_6 l1_7 a1_8) else (if a0_8 = a1_8 then (if (l0_6.length : Int) = (l1_6.length : Int) then (sleuthlaw51_same.j0 k ((l0_7.length : Int) != (l1_7.length : Int)) a0_0 a0_1 a0_2 a0_3 a0_4 a0_5 l0_6 l0_7 a0_8 a1_0 a1_1 a1_2 a1_3 a1_4 a1_5 l1_6 l1_7 a1_8) else (sleuthlaw51_same.j0 k true a0_0 a0_1 a0_2 a0_3 a0_4 a0_5 l0_6 l0_7 a0_8 a1_0 a1_1 a1_2 a1_3 a1_4 a1_5 l1_6 l1_7 a1_8)) else (sleuthlaw51_same.j0 k true a0_0 a0_1 a0_2 a0_3 a0_4 a0_5 l0_6 l0_7 a0_8 a1_0 a1_1 a1_2 a1_3 a1_4 a1_5 l1_6 l1_7 a1_8))) else (sleuthlaw51_same.j0 k true a0_0 a0_1 a0_2 a0_3 a0_4 a0_5 l0_6 l0_7 a0_8 a1_0 a1_1 a1_2 a1_3 a1_4 a1_5 l1_6 l1_7 a1_8)) else (sleuthlaw51_same.j0 k true a0_0 a0_1 a0_2 a0_3 a0_4 a0_5 l0_6 l0_7 a0_8 a1_0 a1_1 a1_2 a1_3 a1_4 a1_5 l1_6 l1_7 a1_8)) else (sleuthlaw51_same.j0 k true a0_0 a0_1 a0_2 a0_3 a0_4 a0_5 l0_6 l0_7 a0_8 a1_0 a1_1 a1_2 a1_3 a1_4 a1_5 l1_6 l1_7 a1_8)) else (sleuthlaw51_same.j0 k true a0_0 a0_1 a0_2 a0_3 a0_4 a0_5 l0_6 l0_7 a0_8 a1_0 a1_1 a1_2 a1_3 a1_4 a1_5 l1_6 l1_7 a1_8)
theorem sleuthlaw51_same.mono_l : ∀ k, (∀ y0 y1 y2 y3 y4 y5 y6 y7 y8 y9 y10 y11 y12 y13 y14 y15 y16 y17 y18, LeO (sleuthlaw51_same.j0 k y0 y1 y2 y3 y4 y5 y6 y7 y8 y9 y10 y11 y12 y13 y14 y15 y16 y17 y18) (sleuthlaw51_same.j0 (k + 1) y0 y1 y2 y3 y4 y5 y6 y7 y8 y9 y10 y11 y12 y13 y14 y15 y16 y17 y18)) ∧ (∀ y0 y1 y2 y3 y4 y5 y6 y7 y8 y9 y10 y11 y12 y13 y14 y15 y16 y17 y18, LeO (sleuthlaw51_same.l0 k y0 y1 y2 y3 y4 y5 y6 y7 y8 y9 y10 y11 y12 y13 y14 y15 y16 y17 y18) (sleuthlaw51_same.l0 (k + 1) y0 y1 y2 y3 y4 y5 y6 y7 y8 y9 y10 y11 y12 y13 y14 y15 y16 y17 y18)) ∧ (∀ y0 y1 y2 y3 y4 y5 y6 y7 y8 y9 y10 y11 y12 y13 y14 y15 y16 y17 y18, LeO (sleuthlaw51_same.l1 k y0 y1 y2 y3 y4 y5 y6 y7 y8 y9 y10 y11 y12 y13 y14 y15 y16 y17 y18) (sleuthlaw51_same.l1 (k + 1) y0 y1 y2 y3 y4 y5 y6 y7 y8 y9 y10 y11 y12 y13 y14 y15 y16 y17 y18))
  | 0 => ⟨fun _ _ _ _ _ _ _ _ _ _ _ _ _ _ _ _ _ _ _ r h => by simp [sleuthlaw51_same.j0] at h, fun _ _ _ _ _ _ _ _ _ _ _ _ _ _ _ _ _ _ _ r h => by simp [sleuthlaw51_same.l0] at h, fun _ _ _ _ _ _ _ _ _ _ _ _ _ _ _ _ _ _ _ r h => by simp [sleuthlaw51_same.l1] at h⟩
  | k + 1 => by
    obtain ⟨ih0, ih1, ih2⟩ := sleuthlaw51_same.mono_l k
    refine ⟨?_, ?_, ?_⟩
    · intro y0 y1 y2 y3 y4 y5 y6 y7 y8 y9 y10 y11 y12 y13 y14 y15 y16 y17 y18
      unfold sleuthlaw51_same.j0
      repeat' first
      | (with_reducible exact ih0 _ _ _ _ _ _ _ _ _ _ _ _ _ _ _ _ _ _ _)
      | (with_reducible exact ih1 _ _ _ _ _ _ _ _ _ _ _ _ _ _ _ _ _ _ _)
      | (with_reducible exact ih2 _ _ _ _ _ _ _ _ _ _ _ _ _ _ _ _ _ _ _)
      | (with_reducible exact LeO.refl _)
      | (with_reducible exact LeO.none _)
      | (with_reducible refine LeO.ite ?_ ?_)
      | (with_reducible refine LeO.bind ?_ (fun _ => ?_))
      | exact ih0 _ _ _ _ _ _ _ _ _ _ _ _ _ _ _ _ _ _ _
      | exact ih1 _ _ _ _ _ _ _ _ _ _ _ _ _ _ _ _ _ _ _
      | exact ih2 _ _ _ _ _ _ _ _ _ _ _ _ _ _ _ _ _ _ _
      | exact LeO.none _
      | refine LeO.ite ?_ ?_
      | refine LeO.bind ?_ (fun _ => ?_)
    · intro y0 y1 y2 y3 y4 y5 y6 y7 y8 y9 y10 y11 y12 y13 y14 y15 y16 y17 y18
      unfold sleuthlaw51_same.l0
      repeat' first
      | (with_reducible exact ih0 _ _ _ _ _ _ _ _ _ _ _ _ _ _ _ _ _ _ _)
      | (with_reducible exact ih1 _ _ _ _ _ _ _ _ _ _ _ _ _ _ _ _ _ _ _)
      | (with_reducible exact ih2 _ _ _ _ _ _ _ _ _ _ _ _ _ _ _ _ _ _ _)
      | (with_reducible exact LeO.refl _)
      | (with_reducible exact LeO.none _)
      | (with_reducible refine LeO.ite ?_ ?_)
      | (with_reducible refine LeO.bind ?_ (fun _ => ?_))
      | exact ih0 _ _ _ _ _ _ _ _ _ _ _ _ _ _ _ _ _ _ _
      | exact ih1 _ _ _ _ _ _ _ _ _ _ _ _ _ _ _ _ _ _ _
      | exact ih2 _ _ _ _ _ _ _ _ _ _ _ _ _ _ _ _ _ _ _
      | exact LeO.none _
      | refine LeO.ite ?_ ?_
      | refine LeO.bind ?_ (fun _ => ?_)
    · intro y0 y1 y2 y3 y4 y5 y6 y7 y8 y9 y10 y11 y12 y13 y14 y15 y16 y17 y18
      unfold sleuthlaw51_same.l1
      repeat' first
      | (with_reducible exact ih0 _ _ _ _ _ _ _ _ _ _ _ _ _ _ _ _ _ _ _)
      | (with_reducible exact ih1 _ _ _ _ _ _ _ _ _ _ _ _ _ _ _ _ _ _ _)
      | (with_reducible exact ih2 _ _ _ _ _ _ _ _ _ _ _ _ _ _ _ _ _ _ _)
      | (with_reducible exact LeO.refl _)
      | (with_reducible exact LeO.none _)
      | (with_reducible refine LeO.ite ?_ ?_)
      | (with_reducible refine LeO.bind ?_ (fun _ => ?_))
      | exact ih0 _ _ _ _ _ _ _ _ _ _ _ _ _ _ _ _ _ _ _
      | exact ih1 _ _ _ _ _ _ _ _ _ _ _ _ _ _ _ _ _ _ _
      | exact ih2 _ _ _ _ _ _ _ _ _ _ _ _ _ _ _ _ _ _ _
      | exact LeO.none _
      | refine LeO.ite ?_ ?_
      | refine LeO.bind ?_ (fun _ => ?_)
theorem sleuthlaw51_same.mono : ∀ a0 a1 a2 a3 a4 a5 a6 a7 a8 a9 a10 a11 a12 a13 a14 a15 a16 a17 k, LeO (sleuthlaw51_same.f k a0 a1 a2 a3 a4 a5 a6 a7 a8 a9 a10 a11 a12 a13 a14 a15 a16 a17) (sleuthlaw51_same.f (k + 1) a0 a1 a2 a3 a4 a5 a6 a7 a8 a9 a10 a11 a12 a13 a14 a15 a16 a17) := by
  intro a0 a1 a2 a3 a4 a5 a6 a7 a8 a9 a10 a11 a12 a13 a14 a15 a16 a17 k
  obtain ⟨ih0, ih1, ih2⟩ := sleuthlaw51_same.mono_l k
  unfold sleuthlaw51_same.f
  repeat' first
      | (with_reducible exact ih0 _ _ _ _ _ _ _ _ _ _ _ _ _ _ _ _ _ _ _)
      | (with_reducible exact ih1 _ _ _ _ _ _ _ _ _ _ _ _ _ _ _ _ _ _ _)
      | (with_reducible exact ih2 _ _ _ _ _ _ _ _ _ _ _ _ _ _ _ _ _ _ _)
      | (with_reducible exact LeO.refl _)
      | (with_reducible exact LeO.none _)
      | (with_reducible refine LeO.ite ?_ ?_)
      | (with_reducible refine LeO.bind ?_ (fun _ => ?_))
      | exact ih0 _ _ _ _ _ _ _ _ _ _ _ _ _ _ _ _ _ _ _
      | exact ih1 _ _ _ _ _ _ _ _ _ _ _ _ _ _ _ _ _ _ _
      | exact ih2 _ _ _ _ _ _ _ _ _ _ _ _ _ _ _ _ _ _ _
      | exact LeO.none _
      | refine LeO.ite ?_ ?_
      | refine LeO.bind ?_ (fun _ => ?_)
set_option maxHeartbeats 8000000 in
set_option maxRecDepth 100000 in
theorem sleuthlaw51_same.calls (k : Nat) (a0_0 : Int) (a0_1 : ByteArray) (a0_2 : Int) (a0_3 : Int) (a0_4 : ByteArray) (a0_5 : Int) (A0_6 : Option Addr) (c0_6 : Nat) (l0_6 : List (S49)) (A0_7 : Option Addr) (c0_7 : Nat) (l0_7 : List (S51)) (a0_8 : Int) (a1_0 : Int) (a1_1 : ByteArray) (a1_2 : Int) (a1_3 : Int) (a1_4 : ByteArray) (a1_5 : Int) (A1_6 : Option Addr) (c1_6 : Nat) (l1_6 : List (S49)) (A1_7 : Option Addr) (c1_7 : Nat) (l1_7 : List (S51)) (a1_8 : Int) (r : Bool) (w : World) (hr0_6 : Kd.C k49 w A0_6 l0_6.length l0_6) (hc0_6 : l0_6.length ≤ c0_6) (hr0_7 : Kd.C k51 w A0_7 l0_7.length l0_7) (hc0_7 : l0_7.length ≤ c0_7) (hr1_6 : Kd.C k49 w A1_6 l1_6.length l1_6) (hc1_6 : l1_6.length ≤ c1_6) (hr1_7 : Kd.C k51 w A1_7 l1_7.length l1_7) (hc1_7 : l1_7.length ≤ c1_7) (h : sleuthlaw51_same.f k a0_0 a0_1 a0_2 a0_3 a0_4 a0_5 l0_6 l0_7 a0_8 a1_0 a1_1 a1_2 a1_3 a1_4 a1_5 l1_6 l1_7 a1_8 = some r) :
    Calls Try.prog 21 #[.agg #[.int .i64 a0_0, .string a0_1, .int .i64 a0_2, .int .i64 a0_3, .string a0_4, .int .i64 a0_5, .slice A0_6 l0_6.length c0_6, .slice A0_7 l0_7.length c0_7, .int .i64 a0_8], .agg #[.int .i64 a1_0, .string a1_1, .int .i64 a1_2, .int .i64 a1_3, .string a1_4, .int .i64 a1_5, .slice A1_6 l1_6.length c1_6, .slice A1_7 l1_7.length c1_7, .int .i64 a1_8]] w fun e w' => e = .returned (.bool r) ∧ Below w.heap.size w w' := by
  have hu40 := Try.underlying40
  have hu25 := Try.underlying25
  have hu49 := Try.underlying49
  have hu51 := Try.underlying51
  have HR0_6 := Aside0.mk hr0_6
  have HC0_6 := Aside0.mk hc0_6
  clear hr0_6 hc0_6
  have HR0_7 := Aside0.mk hr0_7
  have HC0_7 := Aside0.mk hc0_7
  clear hr0_7 hc0_7
  have HR1_6 := Aside0.mk hr1_6
  have HC1_6 := Aside0.mk hc1_6
  clear hr1_6 hc1_6
  have HR1_7 := Aside0.mk hr1_7
  have HC1_7 := Aside0.mk hc1_7
  clear hr1_7 hc1_7
  have HB := Aside0.mk (Below.refl w.heap.size w)
  have H : (if a0_0 = a1_0 then (if a0_1.toList = a1_1.toList then (if a0_2 = a1_2 then (if a0_3 = a1_3 then (if (!(a0_4.toList == a1_4.toList) || (!(a0_5 == a1_5))) = true then (sleuthlaw51_same.j0 k true a0_0 a0_1 a0_2 a0_3 a0_4 a0_5 l0_6 l0_7 a0_8 a1_0 a1_1 a1_2 a1_3 a1_4 a1_5 l1_6 l1_7 a1_8) else (if a0_8 = a1_8 then (if (l0_6.length : Int) = (l1_6.length : Int) then (sleuthlaw51_same.j0 k ((l0_7.length : Int) != (l1_7.length : Int)) a0_0 a0_1 a0_2 a0_3 a0_4 a0_5 l0_6 l0_7 a0_8 a1_0 a1_1 a1_2 a1_3 a1_4 a1_5 l1_6 l1_7 a1_8) else (sleuthlaw51_same.j0 k true a0_0 a0_1 a0_2 a0_3 a0_4 a0_5 l0_6 l0_7 a0_8 a1_0 a1_1 a1_2 a1_3 a1_4 a1_5 l1_6 l1_7 a1_8)) else (sleuthlaw51_same.j0 k true a0_0 a0_1 a0_2 a0_3 a0_4 a0_5 l0_6 l0_7 a0_8 a1_0 a1_1 a1_2 a1_3 a1_4 a1_5 l1_6 l1_7 a1_8))) else (sleuthlaw51_same.j0 k true a0_0 a0_1 a0_2 a0_3 a0_4 a0_5 l0_6 l0_7 a0_8 a1_0 a1_1 a1_2 a1_3 a1_4 a1_5 l1_6 l1_7 a1_8)) else (sleuthlaw51_same.j0 k true a0_0 a0_1 a0_2 a0_3 a0_4 a0_5 l0_6 l0_7 a0_8 a1_0 a1_1 a1_2 a1_3 a1_4 a1_5 l1_6 l1_7 a1_8)) else (sleuthlaw51_same.j0 k true a0_0 a0_1 a0_2 a0_3 a0_4 a0_5 l0_6 l0_7 a0_8 a1_0 a1_1 a1_2 a1_3 a1_4 a1_5 l1_6 l1_7 a1_8)) else (sleuthlaw51_same.j0 k true a0_0 a0_1 a0_2 a0_3 a0_4 a0_5 l0_6 l0_7 a0_8 a1_0 a1_1 a1_2 a1_3 a1_4 a1_5 l1_6 l1_7 a1_8)) = some r := h
  clear h
  have HC3 := Aside0.mk H
  clear H
  go_enter Try.func21, Try.ntmps21
  go_upto_region 1 with (first | ((with_reducible refine gate_dst (N := 2) rfl ?_); (try (refine gate_guard (by rfl) ?_; dsimp only)); refine box_event ?hg (N := 2) ?hd (cs := #[.int .i64 a0_0, .string a0_1, .int .i64 a0_2, .int .i64 a0_3, .string a0_4, .int .i64 a0_5, .slice A0_6 l0_6.length c0_6, .slice A0_7 l0_7.length c0_7, .int .i64 a0_8]) (t := 40) ?hr ?_; (case hd => rfl); (case hg => rfl); (case hr => first | (go_simp; done) | (go_simp; rfl)); intro gb377 hg w4 hbox hb; have n0_ := Aside0.mk (below_step (by repeat (first | (with_reducible first | exact HB.out | apply below_alloc | apply pw_below_drewN | apply below_drew1) | exact HB.out)) hb); have n1_ := Aside0.mk (hbox); have n2_ := Aside0.mk ((by rw [hg]; exact (below_size (by repeat (first | (with_reducible first | exact HB.out | apply below_alloc | apply pw_below_drewN | apply below_drew1) | exact HB.out))) : w.heap.size ≤ gb377)); have n3_ := Aside0.mk ((by rw [hg]; exact (below_size (by repeat (first | (with_reducible first | exact HB.out | apply below_alloc | apply pw_below_drewN | apply below_drew1) | exact HB.out))) : w.heap.size ≤ gb377)); clear HB; have HB := n0_; have BK377 := n1_; have GW377 := n2_; have GE377 := n3_; clear n0_ n1_ n2_ n3_; clear hb hbox hg) | ((with_reducible refine gate_dst (N := 3) rfl ?_); (try (refine gate_guard (by rfl) ?_; dsimp only)); refine box_event ?hg (N := 3) ?hd (cs := #[.int .i64 a1_0, .string a1_1, .int .i64 a1_2, .int .i64 a1_3, .string a1_4, .int .i64 a1_5, .slice A1_6 l1_6.length c1_6, .slice A1_7 l1_7.length c1_7, .int .i64 a1_8]) (t := 40) ?hr ?_; (case hd => rfl); (case hg => rfl); (case hr => first | (go_simp; done) | (go_simp; rfl)); intro gb378 hg w5 hbox hb; have n0_ := Aside0.mk (blk_below (g := gb377) (o := .cells #[.int .i64 a0_0, .string a0_1, .int .i64 a0_2, .int .i64 a0_3, .string a0_4, .int .i64 a0_5, .slice A0_6 l0_6.length c0_6, .slice A0_7 l0_7.length c0_7, .int .i64 a0_8] 40 (0, 0)) (by (with_reducible repeat (first | refine blk_drewN ?_ _ | refine blk_drew ?_ | refine blk_alloc ?_ _)); exact BK377.out) hb); have n1_ := Aside0.mk (below_step (by repeat (first | (with_reducible first | exact HB.out | apply below_alloc | apply pw_below_drewN | apply below_drew1 | refine below_set ?_ GE377.out) | exact HB.out)) hb); have n2_ := Aside0.mk (hbox); have n3_ := Aside0.mk ((by rw [hg]; exact (below_size (by repeat (first | (with_reducible first | exact HB.out | apply below_alloc | apply pw_below_drewN | apply below_drew1 | refine below_set ?_ GE377.out) | exact HB.out))) : w.heap.size ≤ gb378)); have n4_ := Aside0.mk ((by rw [hg]; exact (below_size (by repeat (first | (with_reducible first | exact HB.out | apply below_alloc | apply pw_below_drewN | apply below_drew1 | refine below_set ?_ GE377.out) | exact HB.out))) : w.heap.size ≤ gb378)); have n5_ := Aside0.mk ((by rw [hg]; exact Nat.ne_of_lt (blk_lt (g := gb377) (o := .cells #[.int .i64 a0_0, .string a0_1, .int .i64 a0_2, .int .i64 a0_3, .string a0_4, .int .i64 a0_5, .slice A0_6 l0_6.length c0_6, .slice A0_7 l0_7.length c0_7, .int .i64 a0_8] 40 (0, 0)) (by (with_reducible repeat (first | refine blk_drewN ?_ _ | refine blk_drew ?_ | refine blk_alloc ?_ _)); exact BK377.out)) : gb377 ≠ gb378)); have n6_ := Aside0.mk ((by rw [hg]; exact Nat.ne_of_gt (blk_lt (g := gb377) (o := .cells #[.int .i64 a0_0, .string a0_1, .int .i64 a0_2, .int .i64 a0_3, .string a0_4, .int .i64 a0_5, .slice A0_6 l0_6.length c0_6, .slice A0_7 l0_7.length c0_7, .int .i64 a0_8] 40 (0, 0)) (by (with_reducible repeat (first | refine blk_drewN ?_ _ | refine blk_drew ?_ | refine blk_alloc ?_ _)); exact BK377.out)) : gb378 ≠ gb377)); clear BK377; clear HB; have BK377 := n0_; have HB := n1_; have BK378 := n2_; have GW378 := n3_; have GE378 := n4_; have NB377_378 := n5_; have NB378_377 := n6_; clear n0_ n1_ n2_ n3_ n4_ n5_ n6_; clear hb hbox hg))
  repeat (go_quiet (first | ((with_reducible refine gate_dst (N := 2) rfl ?_); (try (refine gate_guard (by rfl) ?_; dsimp only)); refine box_event ?hg (N := 2) ?hd (cs := #[.int .i64 a0_0, .string a0_1, .int .i64 a0_2, .int .i64 a0_3, .string a0_4, .int .i64 a0_5, .slice A0_6 l0_6.length c0_6, .slice A0_7 l0_7.length c0_7, .int .i64 a0_8]) (t := 40) ?hr ?_; (case hd => rfl); (case hg => rfl); (case hr => first | (go_simp; done) | (go_simp; rfl)); intro gb377 hg w4 hbox hb; have n0_ := Aside0.mk (below_step (by repeat (first | (with_reducible first | exact HB.out | apply below_alloc | apply pw_below_drewN | apply below_drew1) | exact HB.out)) hb); have n1_ := Aside0.mk (hbox); have n2_ := Aside0.mk ((by rw [hg]; exact (below_size (by repeat (first | (with_reducible first | exact HB.out | apply below_alloc | apply pw_below_drewN | apply below_drew1) | exact HB.out))) : w.heap.size ≤ gb377)); have n3_ := Aside0.mk ((by rw [hg]; exact (below_size (by repeat (first | (with_reducible first | exact HB.out | apply below_alloc | apply pw_below_drewN | apply below_drew1) | exact HB.out))) : w.heap.size ≤ gb377)); clear HB; have HB := n0_; have BK377 := n1_; have GW377 := n2_; have GE377 := n3_; clear n0_ n1_ n2_ n3_; clear hb hbox hg) | ((with_reducible refine gate_dst (N := 3) rfl ?_); (try (refine gate_guard (by rfl) ?_; dsimp only)); refine box_event ?hg (N := 3) ?hd (cs := #[.int .i64 a1_0, .string a1_1, .int .i64 a1_2, .int .i64 a1_3, .string a1_4, .int .i64 a1_5, .slice A1_6 l1_6.length c1_6, .slice A1_7 l1_7.length c1_7, .int .i64 a1_8]) (t := 40) ?hr ?_; (case hd => rfl); (case hg => rfl); (case hr => first | (go_simp; done) | (go_simp; rfl)); intro gb378 hg w5 hbox hb; have n0_ := Aside0.mk (blk_below (g := gb377) (o := .cells #[.int .i64 a0_0, .string a0_1, .int .i64 a0_2, .int .i64 a0_3, .string a0_4, .int .i64 a0_5, .slice A0_6 l0_6.length c0_6, .slice A0_7 l0_7.length c0_7, .int .i64 a0_8] 40 (0, 0)) (by (with_reducible repeat (first | refine blk_drewN ?_ _ | refine blk_drew ?_ | refine blk_alloc ?_ _)); exact BK377.out) hb); have n1_ := Aside0.mk (below_step (by repeat (first | (with_reducible first | exact HB.out | apply below_alloc | apply pw_below_drewN | apply below_drew1 | refine below_set ?_ GE377.out) | exact HB.out)) hb); have n2_ := Aside0.mk (hbox); have n3_ := Aside0.mk ((by rw [hg]; exact (below_size (by repeat (first | (with_reducible first | exact HB.out | apply below_alloc | apply pw_below_drewN | apply below_drew1 | refine below_set ?_ GE377.out) | exact HB.out))) : w.heap.size ≤ gb378)); have n4_ := Aside0.mk ((by rw [hg]; exact (below_size (by repeat (first | (with_reducible first | exact HB.out | apply below_alloc | apply pw_below_drewN | apply below_drew1 | refine below_set ?_ GE377.out) | exact HB.out))) : w.heap.size ≤ gb378)); have n5_ := Aside0.mk ((by rw [hg]; exact Nat.ne_of_lt (blk_lt (g := gb377) (o := .cells #[.int .i64 a0_0, .string a0_1, .int .i64 a0_2, .int .i64 a0_3, .string a0_4, .int .i64 a0_5, .slice A0_6 l0_6.length c0_6, .slice A0_7 l0_7.length c0_7, .int .i64 a0_8] 40 (0, 0)) (by (with_reducible repeat (first | refine blk_drewN ?_ _ | refine blk_drew ?_ | refine blk_alloc ?_ _)); exact BK377.out)) : gb377 ≠ gb378)); have n6_ := Aside0.mk ((by rw [hg]; exact Nat.ne_of_gt (blk_lt (g := gb377) (o := .cells #[.int .i64 a0_0, .string a0_1, .int .i64 a0_2, .int .i64 a0_3, .string a0_4, .int .i64 a0_5, .slice A0_6 l0_6.length c0_6, .slice A0_7 l0_7.length c0_7, .int .i64 a0_8] 40 (0, 0)) (by (with_reducible repeat (first | refine blk_drewN ?_ _ | refine blk_drew ?_ | refine blk_alloc ?_ _)); exact BK377.out)) : gb378 ≠ gb377)); clear BK377; clear HB; have BK377 := n0_; have HB := n1_; have BK378 := n2_; have GW378 := n3_; have GE378 := n4_; have NB377_378 := n5_; have NB378_377 := n6_; clear n0_ n1_ n2_ n3_ n4_ n5_ n6_; clear hb hbox hg)); go_upto_region 1 with (first | ((with_reducible refine gate_dst (N := 2) rfl ?_); (try (refine gate_guard (by rfl) ?_; dsimp only)); refine box_event ?hg (N := 2) ?hd (cs := #[.int .i64 a0_0, .string a0_1, .int .i64 a0_2, .int .i64 a0_3, .string a0_4, .int .i64 a0_5, .slice A0_6 l0_6.length c0_6, .slice A0_7 l0_7.length c0_7, .int .i64 a0_8]) (t := 40) ?hr ?_; (case hd => rfl); (case hg => rfl); (case hr => first | (go_simp; done) | (go_simp; rfl)); intro gb377 hg w4 hbox hb; have n0_ := Aside0.mk (below_step (by repeat (first | (with_reducible first | exact HB.out | apply below_alloc | apply pw_below_drewN | apply below_drew1) | exact HB.out)) hb); have n1_ := Aside0.mk (hbox); have n2_ := Aside0.mk ((by rw [hg]; exact (below_size (by repeat (first | (with_reducible first | exact HB.out | apply below_alloc | apply pw_below_drewN | apply below_drew1) | exact HB.out))) : w.heap.size ≤ gb377)); have n3_ := Aside0.mk ((by rw [hg]; exact (below_size (by repeat (first | (with_reducible first | exact HB.out | apply below_alloc | apply pw_below_drewN | apply below_drew1) | exact HB.out))) : w.heap.size ≤ gb377)); clear HB; have HB := n0_; have BK377 := n1_; have GW377 := n2_; have GE377 := n3_; clear n0_ n1_ n2_ n3_; clear hb hbox hg) | ((with_reducible refine gate_dst (N := 3) rfl ?_); (try (refine gate_guard (by rfl) ?_; dsimp only)); refine box_event ?hg (N := 3) ?hd (cs := #[.int .i64 a1_0, .string a1_1, .int .i64 a1_2, .int .i64 a1_3, .string a1_4, .int .i64 a1_5, .slice A1_6 l1_6.length c1_6, .slice A1_7 l1_7.length c1_7, .int .i64 a1_8]) (t := 40) ?hr ?_; (case hd => rfl); (case hg => rfl); (case hr => first | (go_simp; done) | (go_simp; rfl)); intro gb378 hg w5 hbox hb; have n0_ := Aside0.mk (blk_below (g := gb377) (o := .cells #[.int .i64 a0_0, .string a0_1, .int .i64 a0_2, .int .i64 a0_3, .string a0_4, .int .i64 a0_5, .slice A0_6 l0_6.length c0_6, .slice A0_7 l0_7.length c0_7, .int .i64 a0_8] 40 (0, 0)) (by (with_reducible repeat (first | refine blk_drewN ?_ _ | refine blk_drew ?_ | refine blk_alloc ?_ _)); exact BK377.out) hb); have n1_ := Aside0.mk (below_step (by repeat (first | (with_reducible first | exact HB.out | apply below_alloc | apply pw_below_drewN | apply below_drew1 | refine below_set ?_ GE377.out) | exact HB.out)) hb); have n2_ := Aside0.mk (hbox); have n3_ := Aside0.mk ((by rw [hg]; exact (below_size (by repeat (first | (with_reducible first | exact HB.out | apply below_alloc | apply pw_below_drewN | apply below_drew1 | refine below_set ?_ GE377.out) | exact HB.out))) : w.heap.size ≤ gb378)); have n4_ := Aside0.mk ((by rw [hg]; exact (below_size (by repeat (first | (with_reducible first | exact HB.out | apply below_alloc | apply pw_below_drewN | apply below_drew1 | refine below_set ?_ GE377.out) | exact HB.out))) : w.heap.size ≤ gb378)); have n5_ := Aside0.mk ((by rw [hg]; exact Nat.ne_of_lt (blk_lt (g := gb377) (o := .cells #[.int .i64 a0_0, .string a0_1, .int .i64 a0_2, .int .i64 a0_3, .string a0_4, .int .i64 a0_5, .slice A0_6 l0_6.length c0_6, .slice A0_7 l0_7.length c0_7, .int .i64 a0_8] 40 (0, 0)) (by (with_reducible repeat (first | refine blk_drewN ?_ _ | refine blk_drew ?_ | refine blk_alloc ?_ _)); exact BK377.out)) : gb377 ≠ gb378)); have n6_ := Aside0.mk ((by rw [hg]; exact Nat.ne_of_gt (blk_lt (g := gb377) (o := .cells #[.int .i64 a0_0, .string a0_1, .int .i64 a0_2, .int .i64 a0_3, .string a0_4, .int .i64 a0_5, .slice A0_6 l0_6.length c0_6, .slice A0_7 l0_7.length c0_7, .int .i64 a0_8] 40 (0, 0)) (by (with_reducible repeat (first | refine blk_drewN ?_ _ | refine blk_drew ?_ | refine blk_alloc ?_ _)); exact BK377.out)) : gb378 ≠ gb377)); clear BK377; clear HB; have BK377 := n0_; have HB := n1_; have BK378 := n2_; have GW378 := n3_; have GE378 := n4_; have NB377_378 := n5_; have NB378_377 := n6_; clear n0_ n1_ n2_ n3_ n4_ n5_ n6_; clear hb hbox hg)))
  (try simp only [Act.put, List.setIfInBounds_toArray, List.set_cons_zero, List.set_cons_succ])
  go_cut [64] (fun v64 wc => ∃ (kq : Nat) (x64_2 : Bool), v64 = .bool x64_2 ∧ Aside0 (sleuthlaw51_same.j0 kq x64_2 a0_0 a0_1 a0_2 a0_3 a0_4 a0_5 l0_6 l0_7 a0_8 a1_0 a1_1 a1_2 a1_3 a1_4 a1_5 l1_6 l1_7 a1_8 = some r) ∧ Aside0 (kq ≤ k) ∧ Aside0 (wc.heap[gb377]? = some (.cells #[.int .i64 a0_0, .string a0_1, .int .i64 a0_2, .int .i64 a0_3, .string a0_4, .int .i64 a0_5, (.slice A0_6 l0_6.length c0_6), (.slice A0_7 l0_7.length c0_7), .int .i64 a0_8] 40 (0, 0))) ∧ Aside0 (wc.heap[gb378]? = some (.cells #[.int .i64 a1_0, .string a1_1, .int .i64 a1_2, .int .i64 a1_3, .string a1_4, .int .i64 a1_5, (.slice A1_6 l1_6.length c1_6), (.slice A1_7 l1_7.length c1_7), .int .i64 a1_8] 40 (0, 0))) ∧ Aside0 (Below w.heap.size w wc))
  case first =>
    have H := HC3.out
    clear HC3
    by_cases c6 : a0_0 = a1_0
    · rw [if_pos c6] at H
      have c6b0 : (a0_0 == a1_0) = true := beq_iff_eq.mpr c6
      have c6b1 : (a0_0 != a1_0) = false := bne_eq_false_iff_eq.mpr c6
      clear c6
      (first | rw [c6b0] | (simp only [i64_w, i32_w]; rw [c6b0]) | skip)
      by_cases c7 : a0_1.toList = a1_1.toList
      · rw [if_pos c7] at H
        have c7b0 : (a0_1.toList == a1_1.toList) = true := beq_iff_eq.mpr c7
        have c7b1 : (a0_1.toList != a1_1.toList) = false := bne_eq_false_iff_eq.mpr c7
        clear c7
        by_cases c8 : a0_2 = a1_2
        · rw [if_pos c8] at H
          have c8b0 : (a0_2 == a1_2) = true := beq_iff_eq.mpr c8
          have c8b1 : (a0_2 != a1_2) = false := bne_eq_false_iff_eq.mpr c8
          clear c8
          by_cases c9 : a0_3 = a1_3
          · rw [if_pos c9] at H
            have c9b0 : (a0_3 == a1_3) = true := beq_iff_eq.mpr c9
            have c9b1 : (a0_3 != a1_3) = false := bne_eq_false_iff_eq.mpr c9
            clear c9
            by_cases c10 : (!(a0_4.toList == a1_4.toList) || (!(a0_5 == a1_5))) = true
            · rw [if_pos c10] at H
              have c10b0 : (!(a0_4.toList == a1_4.toList) || (!(a0_5 == a1_5))) = true := c10
              clear c10
              have H' := Aside0.mk H
              clear H
              have hnb11 := NB377_378.out
              have hnc11 := NB378_377.out
              have hcz12_0 : w5.cell? ⟨gb377, 0, none⟩ = some (.int .i64 a0_0) := (blk_cell BK377.out 0).trans rfl
              have hcz12_1 : w5.cell? ⟨gb377, 1, none⟩ = some (.string a0_1) := (blk_cell BK377.out 1).trans rfl
              have hcz12_2 : w5.cell? ⟨gb377, 2, none⟩ = some (.int .i64 a0_2) := (blk_cell BK377.out 2).trans rfl
              have hcz12_3 : w5.cell? ⟨gb377, 3, none⟩ = some (.int .i64 a0_3) := (blk_cell BK377.out 3).trans rfl
              have hcz12_4 : w5.cell? ⟨gb377, 4, none⟩ = some (.string a0_4) := (blk_cell BK377.out 4).trans rfl
              have hcz12_5 : w5.cell? ⟨gb377, 5, none⟩ = some (.int .i64 a0_5) := (blk_cell BK377.out 5).trans rfl
              have hcz12_6 : w5.cell? ⟨gb377, 6, none⟩ = some (.slice A0_6 l0_6.length c0_6) := (blk_cell BK377.out 6).trans rfl
              have hcz12_7 : w5.cell? ⟨gb377, 7, none⟩ = some (.slice A0_7 l0_7.length c0_7) := (blk_cell BK377.out 7).trans rfl
              have hcz12_8 : w5.cell? ⟨gb377, 8, none⟩ = some (.int .i64 a0_8) := (blk_cell BK377.out 8).trans rfl
              have hfz12_0 := blk_frozen BK377.out 0
              have hfz12_1 := blk_frozen BK377.out 1
              have hfz12_2 := blk_frozen BK377.out 2
              have hfz12_3 := blk_frozen BK377.out 3
              have hfz12_4 := blk_frozen BK377.out 4
              have hfz12_5 := blk_frozen BK377.out 5
              have hfz12_6 := blk_frozen BK377.out 6
              have hfz12_7 := blk_frozen BK377.out 7
              have hfz12_8 := blk_frozen BK377.out 8
              have hcz13_0 : w5.cell? ⟨gb378, 0, none⟩ = some (.int .i64 a1_0) := (blk_cell BK378.out 0).trans rfl
              have hcz13_1 : w5.cell? ⟨gb378, 1, none⟩ = some (.string a1_1) := (blk_cell BK378.out 1).trans rfl
              have hcz13_2 : w5.cell? ⟨gb378, 2, none⟩ = some (.int .i64 a1_2) := (blk_cell BK378.out 2).trans rfl
              have hcz13_3 : w5.cell? ⟨gb378, 3, none⟩ = some (.int .i64 a1_3) := (blk_cell BK378.out 3).trans rfl
              have hcz13_4 : w5.cell? ⟨gb378, 4, none⟩ = some (.string a1_4) := (blk_cell BK378.out 4).trans rfl
              have hcz13_5 : w5.cell? ⟨gb378, 5, none⟩ = some (.int .i64 a1_5) := (blk_cell BK378.out 5).trans rfl
              have hcz13_6 : w5.cell? ⟨gb378, 6, none⟩ = some (.slice A1_6 l1_6.length c1_6) := (blk_cell BK378.out 6).trans rfl
              have hcz13_7 : w5.cell? ⟨gb378, 7, none⟩ = some (.slice A1_7 l1_7.length c1_7) := (blk_cell BK378.out 7).trans rfl
              have hcz13_8 : w5.cell? ⟨gb378, 8, none⟩ = some (.int .i64 a1_8) := (blk_cell BK378.out 8).trans rfl
              have hfz13_0 := blk_frozen BK378.out 0
              have hfz13_1 := blk_frozen BK378.out 1
              have hfz13_2 := blk_frozen BK378.out 2
              have hfz13_3 := blk_frozen BK378.out 3
              have hfz13_4 := blk_frozen BK378.out 4
              have hfz13_5 := blk_frozen BK378.out 5
              have hfz13_6 := blk_frozen BK378.out 6
              have hfz13_7 := blk_frozen BK378.out 7
              have hfz13_8 := blk_frozen BK378.out 8
              go_wp2
              repeat (go_quiet (fail); try go_wp2)
              go_meet
              case rel => exact ⟨_, (true), (by first | rfl | (simp; done) | (simp [*]; done)), H', ⟨by first | omega | exact Nat.le_refl _⟩, ⟨by (with_reducible repeat (first | refine blk_drewN ?_ _ | refine blk_drew ?_ | refine blk_alloc ?_ _)); exact BK377.out⟩, ⟨by (with_reducible repeat (first | refine blk_drewN ?_ _ | refine blk_drew ?_ | refine blk_alloc ?_ _)); exact BK378.out⟩, ⟨by repeat (first | (with_reducible first | exact HB.out | apply below_alloc | apply pw_below_drewN | apply below_drew1 | refine below_set ?_ GE377.out | refine below_set ?_ GE378.out) | exact HB.out)⟩⟩
            · rw [if_neg c10] at H
              have c10b0 : (!(a0_4.toList == a1_4.toList) || (!(a0_5 == a1_5))) = false := by simpa using c10
              clear c10
              by_cases c14 : a0_8 = a1_8
              · rw [if_pos c14] at H
                have c14b0 : (a0_8 == a1_8) = true := beq_iff_eq.mpr c14
                have c14b1 : (a0_8 != a1_8) = false := bne_eq_false_iff_eq.mpr c14
                clear c14
                by_cases c15 : (l0_6.length : Int) = (l1_6.length : Int)
                · rw [if_pos c15] at H
                  have c15b0 : ((l0_6.length : Int) == (l1_6.length : Int)) = true := beq_iff_eq.mpr c15
                  have c15b1 : ((l0_6.length : Int) != (l1_6.length : Int)) = false := bne_eq_false_iff_eq.mpr c15
                  have c15b2 : (l0_6.length == l1_6.length) = true := by first | simpa using c15 | (simp at c15 ⊢; omega)
                  clear c15
                  have H' := Aside0.mk H
                  clear H
                  have hnb16 := NB377_378.out
                  have hnc16 := NB378_377.out
                  have hcz17_0 : w5.cell? ⟨gb377, 0, none⟩ = some (.int .i64 a0_0) := (blk_cell BK377.out 0).trans rfl
                  have hcz17_1 : w5.cell? ⟨gb377, 1, none⟩ = some (.string a0_1) := (blk_cell BK377.out 1).trans rfl
                  have hcz17_2 : w5.cell? ⟨gb377, 2, none⟩ = some (.int .i64 a0_2) := (blk_cell BK377.out 2).trans rfl
                  have hcz17_3 : w5.cell? ⟨gb377, 3, none⟩ = some (.int .i64 a0_3) := (blk_cell BK377.out 3).trans rfl
                  have hcz17_4 : w5.cell? ⟨gb377, 4, none⟩ = some (.string a0_4) := (blk_cell BK377.out 4).trans rfl
                  have hcz17_5 : w5.cell? ⟨gb377, 5, none⟩ = some (.int .i64 a0_5) := (blk_cell BK377.out 5).trans rfl
                  have hcz17_6 : w5.cell? ⟨gb377, 6, none⟩ = some (.slice A0_6 l0_6.length c0_6) := (blk_cell BK377.out 6).trans rfl
                  have hcz17_7 : w5.cell? ⟨gb377, 7, none⟩ = some (.slice A0_7 l0_7.length c0_7) := (blk_cell BK377.out 7).trans rfl
                  have hcz17_8 : w5.cell? ⟨gb377, 8, none⟩ = some (.int .i64 a0_8) := (blk_cell BK377.out 8).trans rfl
                  have hfz17_0 := blk_frozen BK377.out 0
                  have hfz17_1 := blk_frozen BK377.out 1
                  have hfz17_2 := blk_frozen BK377.out 2
                  have hfz17_3 := blk_frozen BK377.out 3
                  have hfz17_4 := blk_frozen BK377.out 4
                  have hfz17_5 := blk_frozen BK377.out 5
                  have hfz17_6 := blk_frozen BK377.out 6
                  have hfz17_7 := blk_frozen BK377.out 7
                  have hfz17_8 := blk_frozen BK377.out 8
                  have hcz18_0 : w5.cell? ⟨gb378, 0, none⟩ = some (.int .i64 a1_0) := (blk_cell BK378.out 0).trans rfl
                  have hcz18_1 : w5.cell? ⟨gb378, 1, none⟩ = some (.string a1_1) := (blk_cell BK378.out 1).trans rfl
                  have hcz18_2 : w5.cell? ⟨gb378, 2, none⟩ = some (.int .i64 a1_2) := (blk_cell BK378.out 2).trans rfl
                  have hcz18_3 : w5.cell? ⟨gb378, 3, none⟩ = some (.int .i64 a1_3) := (blk_cell BK378.out 3).trans rfl
                  have hcz18_4 : w5.cell? ⟨gb378, 4, none⟩ = some (.string a1_4) := (blk_cell BK378.out 4).trans rfl
                  have hcz18_5 : w5.cell? ⟨gb378, 5, none⟩ = some (.int .i64 a1_5) := (blk_cell BK378.out 5).trans rfl
                  have hcz18_6 : w5.cell? ⟨gb378, 6, none⟩ = some (.slice A1_6 l1_6.length c1_6) := (blk_cell BK378.out 6).trans rfl
                  have hcz18_7 : w5.cell? ⟨gb378, 7, none⟩ = some (.slice A1_7 l1_7.length c1_7) := (blk_cell BK378.out 7).trans rfl
                  have hcz18_8 : w5.cell? ⟨gb378, 8, none⟩ = some (.int .i64 a1_8) := (blk_cell BK378.out 8).trans rfl
                  have hfz18_0 := blk_frozen BK378.out 0
                  have hfz18_1 := blk_frozen BK378.out 1
                  have hfz18_2 := blk_frozen BK378.out 2
                  have hfz18_3 := blk_frozen BK378.out 3
                  have hfz18_4 := blk_frozen BK378.out 4
                  have hfz18_5 := blk_frozen BK378.out 5
                  have hfz18_6 := blk_frozen BK378.out 6
                  have hfz18_7 := blk_frozen BK378.out 7
                  have hfz18_8 := blk_frozen BK378.out 8
                  go_wp2
                  repeat (go_quiet (fail); try go_wp2)
                  go_meet
                  case rel => exact ⟨_, (((l0_7.length : Int) != (l1_7.length : Int))), (by first | rfl | (simp; done) | (simp [*]; done)), H', ⟨by first | omega | exact Nat.le_refl _⟩, ⟨by (with_reducible repeat (first | refine blk_drewN ?_ _ | refine blk_drew ?_ | refine blk_alloc ?_ _)); exact BK377.out⟩, ⟨by (with_reducible repeat (first | refine blk_drewN ?_ _ | refine blk_drew ?_ | refine blk_alloc ?_ _)); exact BK378.out⟩, ⟨by repeat (first | (with_reducible first | exact HB.out | apply below_alloc | apply pw_below_drewN | apply below_drew1 | refine below_set ?_ GE377.out | refine below_set ?_ GE378.out) | exact HB.out)⟩⟩
                · rw [if_neg c15] at H
                  have c15b0 : ((l0_6.length : Int) == (l1_6.length : Int)) = false := beq_eq_false_iff_ne.mpr c15
                  have c15b1 : ((l0_6.length : Int) != (l1_6.length : Int)) = true := bne_iff_ne.mpr c15
                  have c15b2 : (l0_6.length == l1_6.length) = false := by first | simpa using c15 | (simp at c15 ⊢; omega)
                  have H' := Aside0.mk H
                  clear H
                  have hnb19 := NB377_378.out
                  have hnc19 := NB378_377.out
                  have hcz20_0 : w5.cell? ⟨gb377, 0, none⟩ = some (.int .i64 a0_0) := (blk_cell BK377.out 0).trans rfl
                  have hcz20_1 : w5.cell? ⟨gb377, 1, none⟩ = some (.string a0_1) := (blk_cell BK377.out 1).trans rfl
                  have hcz20_2 : w5.cell? ⟨gb377, 2, none⟩ = some (.int .i64 a0_2) := (blk_cell BK377.out 2).trans rfl
                  have hcz20_3 : w5.cell? ⟨gb377, 3, none⟩ = some (.int .i64 a0_3) := (blk_cell BK377.out 3).trans rfl
                  have hcz20_4 : w5.cell? ⟨gb377, 4, none⟩ = some (.string a0_4) := (blk_cell BK377.out 4).trans rfl
                  have hcz20_5 : w5.cell? ⟨gb377, 5, none⟩ = some (.int .i64 a0_5) := (blk_cell BK377.out 5).trans rfl
                  have hcz20_6 : w5.cell? ⟨gb377, 6, none⟩ = some (.slice A0_6 l0_6.length c0_6) := (blk_cell BK377.out 6).trans rfl
                  have hcz20_7 : w5.cell? ⟨gb377, 7, none⟩ = some (.slice A0_7 l0_7.length c0_7) := (blk_cell BK377.out 7).trans rfl
                  have hcz20_8 : w5.cell? ⟨gb377, 8, none⟩ = some (.int .i64 a0_8) := (blk_cell BK377.out 8).trans rfl
                  have hfz20_0 := blk_frozen BK377.out 0
                  have hfz20_1 := blk_frozen BK377.out 1
                  have hfz20_2 := blk_frozen BK377.out 2
                  have hfz20_3 := blk_frozen BK377.out 3
                  have hfz20_4 := blk_frozen BK377.out 4
                  have hfz20_5 := blk_frozen BK377.out 5
                  have hfz20_6 := blk_frozen BK377.out 6
                  have hfz20_7 := blk_frozen BK377.out 7
                  have hfz20_8 := blk_frozen BK377.out 8
                  have hcz21_0 : w5.cell? ⟨gb378, 0, none⟩ = some (.int .i64 a1_0) := (blk_cell BK378.out 0).trans rfl
                  have hcz21_1 : w5.cell? ⟨gb378, 1, none⟩ = some (.string a1_1) := (blk_cell BK378.out 1).trans rfl
                  have hcz21_2 : w5.cell? ⟨gb378, 2, none⟩ = some (.int .i64 a1_2) := (blk_cell BK378.out 2).trans rfl
                  have hcz21_3 : w5.cell? ⟨gb378, 3, none⟩ = some (.int .i64 a1_3) := (blk_cell BK378.out 3).trans rfl
                  have hcz21_4 : w5.cell? ⟨gb378, 4, none⟩ = some (.string a1_4) := (blk_cell BK378.out 4).trans rfl
                  have hcz21_5 : w5.cell? ⟨gb378, 5, none⟩ = some (.int .i64 a1_5) := (blk_cell BK378.out 5).trans rfl
                  have hcz21_6 : w5.cell? ⟨gb378, 6, none⟩ = some (.slice A1_6 l1_6.length c1_6) := (blk_cell BK378.out 6).trans rfl
                  have hcz21_7 : w5.cell? ⟨gb378, 7, none⟩ = some (.slice A1_7 l1_7.length c1_7) := (blk_cell BK378.out 7).trans rfl
                  have hcz21_8 : w5.cell? ⟨gb378, 8, none⟩ = some (.int .i64 a1_8) := (blk_cell BK378.out 8).trans rfl
                  have hfz21_0 := blk_frozen BK378.out 0
                  have hfz21_1 := blk_frozen BK378.out 1
                  have hfz21_2 := blk_frozen BK378.out 2
                  have hfz21_3 := blk_frozen BK378.out 3
                  have hfz21_4 := blk_frozen BK378.out 4
                  have hfz21_5 := blk_frozen BK378.out 5
                  have hfz21_6 := blk_frozen BK378.out 6
                  have hfz21_7 := blk_frozen BK378.out 7
                  have hfz21_8 := blk_frozen BK378.out 8
                  go_wp2
                  repeat (go_quiet (fail); try go_wp2)
                  go_meet
                  case rel => exact ⟨_, (true), (by first | rfl | (simp; done) | (simp [*]; done)), H', ⟨by first | omega | exact Nat.le_refl _⟩, ⟨by (with_reducible repeat (first | refine blk_drewN ?_ _ | refine blk_drew ?_ | refine blk_alloc ?_ _)); exact BK377.out⟩, ⟨by (with_reducible repeat (first | refine blk_drewN ?_ _ | refine blk_drew ?_ | refine blk_alloc ?_ _)); exact BK378.out⟩, ⟨by repeat (first | (with_reducible first | exact HB.out | apply below_alloc | apply pw_below_drewN | apply below_drew1 | refine below_set ?_ GE377.out | refine below_set ?_ GE378.out) | exact HB.out)⟩⟩
              · rw [if_neg c14] at H
                have c14b0 : (a0_8 == a1_8) = false := beq_eq_false_iff_ne.mpr c14
                have c14b1 : (a0_8 != a1_8) = true := bne_iff_ne.mpr c14
                have H' := Aside0.mk H
                clear H
                have hnb22 := NB377_378.out
                have hnc22 := NB378_377.out
                have hcz23_0 : w5.cell? ⟨gb377, 0, none⟩ = some (.int .i64 a0_0) := (blk_cell BK377.out 0).trans rfl
                have hcz23_1 : w5.cell? ⟨gb377, 1, none⟩ = some (.string a0_1) := (blk_cell BK377.out 1).trans rfl
                have hcz23_2 : w5.cell? ⟨gb377, 2, none⟩ = some (.int .i64 a0_2) := (blk_cell BK377.out 2).trans rfl
                have hcz23_3 : w5.cell? ⟨gb377, 3, none⟩ = some (.int .i64 a0_3) := (blk_cell BK377.out 3).trans rfl
                have hcz23_4 : w5.cell? ⟨gb377, 4, none⟩ = some (.string a0_4) := (blk_cell BK377.out 4).trans rfl
                have hcz23_5 : w5.cell? ⟨gb377, 5, none⟩ = some (.int .i64 a0_5) := (blk_cell BK377.out 5).trans rfl
                have hcz23_6 : w5.cell? ⟨gb377, 6, none⟩ = some (.slice A0_6 l0_6.length c0_6) := (blk_cell BK377.out 6).trans rfl
                have hcz23_7 : w5.cell? ⟨gb377, 7, none⟩ = some (.slice A0_7 l0_7.length c0_7) := (blk_cell BK377.out 7).trans rfl
                have hcz23_8 : w5.cell? ⟨gb377, 8, none⟩ = some (.int .i64 a0_8) := (blk_cell BK377.out 8).trans rfl
                have hfz23_0 := blk_frozen BK377.out 0
                have hfz23_1 := blk_frozen BK377.out 1
                have hfz23_2 := blk_frozen BK377.out 2
                have hfz23_3 := blk_frozen BK377.out 3
                have hfz23_4 := blk_frozen BK377.out 4
                have hfz23_5 := blk_frozen BK377.out 5
                have hfz23_6 := blk_frozen BK377.out 6
                have hfz23_7 := blk_frozen BK377.out 7
                have hfz23_8 := blk_frozen BK377.out 8
                have hcz24_0 : w5.cell? ⟨gb378, 0, none⟩ = some (.int .i64 a1_0) := (blk_cell BK378.out 0).trans rfl
                have hcz24_1 : w5.cell? ⟨gb378, 1, none⟩ = some (.string a1_1) := (blk_cell BK378.out 1).trans rfl
                have hcz24_2 : w5.cell? ⟨gb378, 2, none⟩ = some (.int .i64 a1_2) := (blk_cell BK378.out 2).trans rfl
                have hcz24_3 : w5.cell? ⟨gb378, 3, none⟩ = some (.int .i64 a1_3) := (blk_cell BK378.out 3).trans rfl
                have hcz24_4 : w5.cell? ⟨gb378, 4, none⟩ = some (.string a1_4) := (blk_cell BK378.out 4).trans rfl
                have hcz24_5 : w5.cell? ⟨gb378, 5, none⟩ = some (.int .i64 a1_5) := (blk_cell BK378.out 5).trans rfl
                have hcz24_6 : w5.cell? ⟨gb378, 6, none⟩ = some (.slice A1_6 l1_6.length c1_6) := (blk_cell BK378.out 6).trans rfl
                have hcz24_7 : w5.cell? ⟨gb378, 7, none⟩ = some (.slice A1_7 l1_7.length c1_7) := (blk_cell BK378.out 7).trans rfl
                have hcz24_8 : w5.cell? ⟨gb378, 8, none⟩ = some (.int .i64 a1_8) := (blk_cell BK378.out 8).trans rfl
                have hfz24_0 := blk_frozen BK378.out 0
                have hfz24_1 := blk_frozen BK378.out 1
                have hfz24_2 := blk_frozen BK378.out 2
                have hfz24_3 := blk_frozen BK378.out 3
                have hfz24_4 := blk_frozen BK378.out 4
                have hfz24_5 := blk_frozen BK378.out 5
                have hfz24_6 := blk_frozen BK378.out 6
                have hfz24_7 := blk_frozen BK378.out 7
                have hfz24_8 := blk_frozen BK378.out 8
                go_wp2
                repeat (go_quiet (fail); try go_wp2)
                go_meet
                case rel => exact ⟨_, (true), (by first | rfl | (simp; done) | (simp [*]; done)), H', ⟨by first | omega | exact Nat.le_refl _⟩, ⟨by (with_reducible repeat (first | refine blk_drewN ?_ _ | refine blk_drew ?_ | refine blk_alloc ?_ _)); exact BK377.out⟩, ⟨by (with_reducible repeat (first | refine blk_drewN ?_ _ | refine blk_drew ?_ | refine blk_alloc ?_ _)); exact BK378.out⟩, ⟨by repeat (first | (with_reducible first | exact HB.out | apply below_alloc | apply pw_below_drewN | apply below_drew1 | refine below_set ?_ GE377.out | refine below_set ?_ GE378.out) | exact HB.out)⟩⟩
          · rw [if_neg c9] at H
            have c9b0 : (a0_3 == a1_3) = false := beq_eq_false_iff_ne.mpr c9
            have c9b1 : (a0_3 != a1_3) = true := bne_iff_ne.mpr c9
            have H' := Aside0.mk H
            clear H
            have hnb25 := NB377_378.out
            have hnc25 := NB378_377.out
            have hcz26_0 : w5.cell? ⟨gb377, 0, none⟩ = some (.int .i64 a0_0) := (blk_cell BK377.out 0).trans rfl
            have hcz26_1 : w5.cell? ⟨gb377, 1, none⟩ = some (.string a0_1) := (blk_cell BK377.out 1).trans rfl
            have hcz26_2 : w5.cell? ⟨gb377, 2, none⟩ = some (.int .i64 a0_2) := (blk_cell BK377.out 2).trans rfl
            have hcz26_3 : w5.cell? ⟨gb377, 3, none⟩ = some (.int .i64 a0_3) := (blk_cell BK377.out 3).trans rfl
            have hcz26_4 : w5.cell? ⟨gb377, 4, none⟩ = some (.string a0_4) := (blk_cell BK377.out 4).trans rfl
            have hcz26_5 : w5.cell? ⟨gb377, 5, none⟩ = some (.int .i64 a0_5) := (blk_cell BK377.out 5).trans rfl
            have hcz26_6 : w5.cell? ⟨gb377, 6, none⟩ = some (.slice A0_6 l0_6.length c0_6) := (blk_cell BK377.out 6).trans rfl
            have hcz26_7 : w5.cell? ⟨gb377, 7, none⟩ = some (.slice A0_7 l0_7.length c0_7) := (blk_cell BK377.out 7).trans rfl
            have hcz26_8 : w5.cell? ⟨gb377, 8, none⟩ = some (.int .i64 a0_8) := (blk_cell BK377.out 8).trans rfl
            have hfz26_0 := blk_frozen BK377.out 0
            have hfz26_1 := blk_frozen BK377.out 1
            have hfz26_2 := blk_frozen BK377.out 2
            have hfz26_3 := blk_frozen BK377.out 3
            have hfz26_4 := blk_frozen BK377.out 4
            have hfz26_5 := blk_frozen BK377.out 5
            have hfz26_6 := blk_frozen BK377.out 6
            have hfz26_7 := blk_frozen BK377.out 7
            have hfz26_8 := blk_frozen BK377.out 8
            have hcz27_0 : w5.cell? ⟨gb378, 0, none⟩ = some (.int .i64 a1_0) := (blk_cell BK378.out 0).trans rfl
            have hcz27_1 : w5.cell? ⟨gb378, 1, none⟩ = some (.string a1_1) := (blk_cell BK378.out 1).trans rfl
            have hcz27_2 : w5.cell? ⟨gb378, 2, none⟩ = some (.int .i64 a1_2) := (blk_cell BK378.out 2).trans rfl
            have hcz27_3 : w5.cell? ⟨gb378, 3, none⟩ = some (.int .i64 a1_3) := (blk_cell BK378.out 3).trans rfl
            have hcz27_4 : w5.cell? ⟨gb378, 4, none⟩ = some (.string a1_4) := (blk_cell BK378.out 4).trans rfl
            have hcz27_5 : w5.cell? ⟨gb378, 5, none⟩ = some (.int .i64 a1_5) := (blk_cell BK378.out 5).trans rfl
            have hcz27_6 : w5.cell? ⟨gb378, 6, none⟩ = some (.slice A1_6 l1_6.length c1_6) := (blk_cell BK378.out 6).trans rfl
            have hcz27_7 : w5.cell? ⟨gb378, 7, none⟩ = some (.slice A1_7 l1_7.length c1_7) := (blk_cell BK378.out 7).trans rfl
            have hcz27_8 : w5.cell? ⟨gb378, 8, none⟩ = some (.int .i64 a1_8) := (blk_cell BK378.out 8).trans rfl
            have hfz27_0 := blk_frozen BK378.out 0
            have hfz27_1 := blk_frozen BK378.out 1
            have hfz27_2 := blk_frozen BK378.out 2
            have hfz27_3 := blk_frozen BK378.out 3
            have hfz27_4 := blk_frozen BK378.out 4
            have hfz27_5 := blk_frozen BK378.out 5
            have hfz27_6 := blk_frozen BK378.out 6
            have hfz27_7 := blk_frozen BK378.out 7
            have hfz27_8 := blk_frozen BK378.out 8
            go_wp2
            repeat (go_quiet (fail); try go_wp2)
            go_meet
            case rel => exact ⟨_, (true), (by first | rfl | (simp; done) | (simp [*]; done)), H', ⟨by first | omega | exact Nat.le_refl _⟩, ⟨by (with_reducible repeat (first | refine blk_drewN ?_ _ | refine blk_drew ?_ | refine blk_alloc ?_ _)); exact BK377.out⟩, ⟨by (with_reducible repeat (first | refine blk_drewN ?_ _ | refine blk_drew ?_ | refine blk_alloc ?_ _)); exact BK378.out⟩, ⟨by repeat (first | (with_reducible first | exact HB.out | apply below_alloc | apply pw_below_drewN | apply below_drew1 | refine below_set ?_ GE377.out | refine below_set ?_ GE378.out) | exact HB.out)⟩⟩
        · rw [if_neg c8] at H
          have c8b0 : (a0_2 == a1_2) = false := beq_eq_false_iff_ne.mpr c8
          have c8b1 : (a0_2 != a1_2) = true := bne_iff_ne.mpr c8
          have H' := Aside0.mk H
          clear H
          have hnb28 := NB377_378.out
          have hnc28 := NB378_377.out
          have hcz29_0 : w5.cell? ⟨gb377, 0, none⟩ = some (.int .i64 a0_0) := (blk_cell BK377.out 0).trans rfl
          have hcz29_1 : w5.cell? ⟨gb377, 1, none⟩ = some (.string a0_1) := (blk_cell BK377.out 1).trans rfl
          have hcz29_2 : w5.cell? ⟨gb377, 2, none⟩ = some (.int .i64 a0_2) := (blk_cell BK377.out 2).trans rfl
          have hcz29_3 : w5.cell? ⟨gb377, 3, none⟩ = some (.int .i64 a0_3) := (blk_cell BK377.out 3).trans rfl
          have hcz29_4 : w5.cell? ⟨gb377, 4, none⟩ = some (.string a0_4) := (blk_cell BK377.out 4).trans rfl
          have hcz29_5 : w5.cell? ⟨gb377, 5, none⟩ = some (.int .i64 a0_5) := (blk_cell BK377.out 5).trans rfl
          have hcz29_6 : w5.cell? ⟨gb377, 6, none⟩ = some (.slice A0_6 l0_6.length c0_6) := (blk_cell BK377.out 6).trans rfl
          have hcz29_7 : w5.cell? ⟨gb377, 7, none⟩ = some (.slice A0_7 l0_7.length c0_7) := (blk_cell BK377.out 7).trans rfl
          have hcz29_8 : w5.cell? ⟨gb377, 8, none⟩ = some (.int .i64 a0_8) := (blk_cell BK377.out 8).trans rfl
          have hfz29_0 := blk_frozen BK377.out 0
          have hfz29_1 := blk_frozen BK377.out 1
          have hfz29_2 := blk_frozen BK377.out 2
          have hfz29_3 := blk_frozen BK377.out 3
          have hfz29_4 := blk_frozen BK377.out 4
          have hfz29_5 := blk_frozen BK377.out 5
          have hfz29_6 := blk_frozen BK377.out 6
          have hfz29_7 := blk_frozen BK377.out 7
          have hfz29_8 := blk_frozen BK377.out 8
          have hcz30_0 : w5.cell? ⟨gb378, 0, none⟩ = some (.int .i64 a1_0) := (blk_cell BK378.out 0).trans rfl
          have hcz30_1 : w5.cell? ⟨gb378, 1, none⟩ = some (.string a1_1) := (blk_cell BK378.out 1).trans rfl
          have hcz30_2 : w5.cell? ⟨gb378, 2, none⟩ = some (.int .i64 a1_2) := (blk_cell BK378.out 2).trans rfl
          have hcz30_3 : w5.cell? ⟨gb378, 3, none⟩ = some (.int .i64 a1_3) := (blk_cell BK378.out 3).trans rfl
          have hcz30_4 : w5.cell? ⟨gb378, 4, none⟩ = some (.string a1_4) := (blk_cell BK378.out 4).trans rfl
          have hcz30_5 : w5.cell? ⟨gb378, 5, none⟩ = some (.int .i64 a1_5) := (blk_cell BK378.out 5).trans rfl
          have hcz30_6 : w5.cell? ⟨gb378, 6, none⟩ = some (.slice A1_6 l1_6.length c1_6) := (blk_cell BK378.out 6).trans rfl
          have hcz30_7 : w5.cell? ⟨gb378, 7, none⟩ = some (.slice A1_7 l1_7.length c1_7) := (blk_cell BK378.out 7).trans rfl
          have hcz30_8 : w5.cell? ⟨gb378, 8, none⟩ = some (.int .i64 a1_8) := (blk_cell BK378.out 8).trans rfl
          have hfz30_0 := blk_frozen BK378.out 0
          have hfz30_1 := blk_frozen BK378.out 1
          have hfz30_2 := blk_frozen BK378.out 2
          have hfz30_3 := blk_frozen BK378.out 3
          have hfz30_4 := blk_frozen BK378.out 4
          have hfz30_5 := blk_frozen BK378.out 5
          have hfz30_6 := blk_frozen BK378.out 6
          have hfz30_7 := blk_frozen BK378.out 7
          have hfz30_8 := blk_frozen BK378.out 8
          go_wp2
          repeat (go_quiet (fail); try go_wp2)
          go_meet
          case rel => exact ⟨_, (true), (by first | rfl | (simp; done) | (simp [*]; done)), H', ⟨by first | omega | exact Nat.le_refl _⟩, ⟨by (with_reducible repeat (first | refine blk_drewN ?_ _ | refine blk_drew ?_ | refine blk_alloc ?_ _)); exact BK377.out⟩, ⟨by (with_reducible repeat (first | refine blk_drewN ?_ _ | refine blk_drew ?_ | refine blk_alloc ?_ _)); exact BK378.out⟩, ⟨by repeat (first | (with_reducible first | exact HB.out | apply below_alloc | apply pw_below_drewN | apply below_drew1 | refine below_set ?_ GE377.out | refine below_set ?_ GE378.out) | exact HB.out)⟩⟩
      · rw [if_neg c7] at H
        have c7b0 : (a0_1.toList == a1_1.toList) = false := beq_eq_false_iff_ne.mpr c7
        have c7b1 : (a0_1.toList != a1_1.toList) = true := bne_iff_ne.mpr c7
        have H' := Aside0.mk H
        clear H
        have hnb31 := NB377_378.out
        have hnc31 := NB378_377.out
        have hcz32_0 : w5.cell? ⟨gb377, 0, none⟩ = some (.int .i64 a0_0) := (blk_cell BK377.out 0).trans rfl
        have hcz32_1 : w5.cell? ⟨gb377, 1, none⟩ = some (.string a0_1) := (blk_cell BK377.out 1).trans rfl
        have hcz32_2 : w5.cell? ⟨gb377, 2, none⟩ = some (.int .i64 a0_2) := (blk_cell BK377.out 2).trans rfl
        have hcz32_3 : w5.cell? ⟨gb377, 3, none⟩ = some (.int .i64 a0_3) := (blk_cell BK377.out 3).trans rfl
        have hcz32_4 : w5.cell? ⟨gb377, 4, none⟩ = some (.string a0_4) := (blk_cell BK377.out 4).trans rfl
        have hcz32_5 : w5.cell? ⟨gb377, 5, none⟩ = some (.int .i64 a0_5) := (blk_cell BK377.out 5).trans rfl
        have hcz32_6 : w5.cell? ⟨gb377, 6, none⟩ = some (.slice A0_6 l0_6.length c0_6) := (blk_cell BK377.out 6).trans rfl
        have hcz32_7 : w5.cell? ⟨gb377, 7, none⟩ = some (.slice A0_7 l0_7.length c0_7) := (blk_cell BK377.out 7).trans rfl
        have hcz32_8 : w5.cell? ⟨gb377, 8, none⟩ = some (.int .i64 a0_8) := (blk_cell BK377.out 8).trans rfl
        have hfz32_0 := blk_frozen BK377.out 0
        have hfz32_1 := blk_frozen BK377.out 1
        have hfz32_2 := blk_frozen BK377.out 2
        have hfz32_3 := blk_frozen BK377.out 3
        have hfz32_4 := blk_frozen BK377.out 4
        have hfz32_5 := blk_frozen BK377.out 5
        have hfz32_6 := blk_frozen BK377.out 6
        have hfz32_7 := blk_frozen BK377.out 7
        have hfz32_8 := blk_frozen BK377.out 8
        have hcz33_0 : w5.cell? ⟨gb378, 0, none⟩ = some (.int .i64 a1_0) := (blk_cell BK378.out 0).trans rfl
        have hcz33_1 : w5.cell? ⟨gb378, 1, none⟩ = some (.string a1_1) := (blk_cell BK378.out 1).trans rfl
        have hcz33_2 : w5.cell? ⟨gb378, 2, none⟩ = some (.int .i64 a1_2) := (blk_cell BK378.out 2).trans rfl
        have hcz33_3 : w5.cell? ⟨gb378, 3, none⟩ = some (.int .i64 a1_3) := (blk_cell BK378.out 3).trans rfl
        have hcz33_4 : w5.cell? ⟨gb378, 4, none⟩ = some (.string a1_4) := (blk_cell BK378.out 4).trans rfl
        have hcz33_5 : w5.cell? ⟨gb378, 5, none⟩ = some (.int .i64 a1_5) := (blk_cell BK378.out 5).trans rfl
        have hcz33_6 : w5.cell? ⟨gb378, 6, none⟩ = some (.slice A1_6 l1_6.length c1_6) := (blk_cell BK378.out 6).trans rfl
        have hcz33_7 : w5.cell? ⟨gb378, 7, none⟩ = some (.slice A1_7 l1_7.length c1_7) := (blk_cell BK378.out 7).trans rfl
        have hcz33_8 : w5.cell? ⟨gb378, 8, none⟩ = some (.int .i64 a1_8) := (blk_cell BK378.out 8).trans rfl
        have hfz33_0 := blk_frozen BK378.out 0
        have hfz33_1 := blk_frozen BK378.out 1
        have hfz33_2 := blk_frozen BK378.out 2
        have hfz33_3 := blk_frozen BK378.out 3
        have hfz33_4 := blk_frozen BK378.out 4
        have hfz33_5 := blk_frozen BK378.out 5
        have hfz33_6 := blk_frozen BK378.out 6
        have hfz33_7 := blk_frozen BK378.out 7
        have hfz33_8 := blk_frozen BK378.out 8
        go_wp2
        repeat (go_quiet (fail); try go_wp2)
        go_meet
        case rel => exact ⟨_, (true), (by first | rfl | (simp; done) | (simp [*]; done)), H', ⟨by first | omega | exact Nat.le_refl _⟩, ⟨by (with_reducible repeat (first | refine blk_drewN ?_ _ | refine blk_drew ?_ | refine blk_alloc ?_ _)); exact BK377.out⟩, ⟨by (with_reducible repeat (first | refine blk_drewN ?_ _ | refine blk_drew ?_ | refine blk_alloc ?_ _)); exact BK378.out⟩, ⟨by repeat (first | (with_reducible first | exact HB.out | apply below_alloc | apply pw_below_drewN | apply below_drew1 | refine below_set ?_ GE377.out | refine below_set ?_ GE378.out) | exact HB.out)⟩⟩
    · rw [if_neg c6] at H
      have c6b0 : (a0_0 == a1_0) = false := beq_eq_false_iff_ne.mpr c6
      have c6b1 : (a0_0 != a1_0) = true := bne_iff_ne.mpr c6
      (first | rw [c6b0] | (simp only [i64_w, i32_w]; rw [c6b0]) | skip)
      have H' := Aside0.mk H
      clear H
      have hnb34 := NB377_378.out
      have hnc34 := NB378_377.out
      have hcz35_0 : w5.cell? ⟨gb377, 0, none⟩ = some (.int .i64 a0_0) := (blk_cell BK377.out 0).trans rfl
      have hcz35_1 : w5.cell? ⟨gb377, 1, none⟩ = some (.string a0_1) := (blk_cell BK377.out 1).trans rfl
      have hcz35_2 : w5.cell? ⟨gb377, 2, none⟩ = some (.int .i64 a0_2) := (blk_cell BK377.out 2).trans rfl
      have hcz35_3 : w5.cell? ⟨gb377, 3, none⟩ = some (.int .i64 a0_3) := (blk_cell BK377.out 3).trans rfl
      have hcz35_4 : w5.cell? ⟨gb377, 4, none⟩ = some (.string a0_4) := (blk_cell BK377.out 4).trans rfl
      have hcz35_5 : w5.cell? ⟨gb377, 5, none⟩ = some (.int .i64 a0_5) := (blk_cell BK377.out 5).trans rfl
      have hcz35_6 : w5.cell? ⟨gb377, 6, none⟩ = some (.slice A0_6 l0_6.length c0_6) := (blk_cell BK377.out 6).trans rfl
      have hcz35_7 : w5.cell? ⟨gb377, 7, none⟩ = some (.slice A0_7 l0_7.length c0_7) := (blk_cell BK377.out 7).trans rfl
      have hcz35_8 : w5.cell? ⟨gb377, 8, none⟩ = some (.int .i64 a0_8) := (blk_cell BK377.out 8).trans rfl
      have hfz35_0 := blk_frozen BK377.out 0
      have hfz35_1 := blk_frozen BK377.out 1
      have hfz35_2 := blk_frozen BK377.out 2
      have hfz35_3 := blk_frozen BK377.out 3
      have hfz35_4 := blk_frozen BK377.out 4
      have hfz35_5 := blk_frozen BK377.out 5
      have hfz35_6 := blk_frozen BK377.out 6
      have hfz35_7 := blk_frozen BK377.out 7
      have hfz35_8 := blk_frozen BK377.out 8
      have hcz36_0 : w5.cell? ⟨gb378, 0, none⟩ = some (.int .i64 a1_0) := (blk_cell BK378.out 0).trans rfl
      have hcz36_1 : w5.cell? ⟨gb378, 1, none⟩ = some (.string a1_1) := (blk_cell BK378.out 1).trans rfl
      have hcz36_2 : w5.cell? ⟨gb378, 2, none⟩ = some (.int .i64 a1_2) := (blk_cell BK378.out 2).trans rfl
      have hcz36_3 : w5.cell? ⟨gb378, 3, none⟩ = some (.int .i64 a1_3) := (blk_cell BK378.out 3).trans rfl
      have hcz36_4 : w5.cell? ⟨gb378, 4, none⟩ = some (.string a1_4) := (blk_cell BK378.out 4).trans rfl
      have hcz36_5 : w5.cell? ⟨gb378, 5, none⟩ = some (.int .i64 a1_5) := (blk_cell BK378.out 5).trans rfl
      have hcz36_6 : w5.cell? ⟨gb378, 6, none⟩ = some (.slice A1_6 l1_6.length c1_6) := (blk_cell BK378.out 6).trans rfl
      have hcz36_7 : w5.cell? ⟨gb378, 7, none⟩ = some (.slice A1_7 l1_7.length c1_7) := (blk_cell BK378.out 7).trans rfl
      have hcz36_8 : w5.cell? ⟨gb378, 8, none⟩ = some (.int .i64 a1_8) := (blk_cell BK378.out 8).trans rfl
      have hfz36_0 := blk_frozen BK378.out 0
      have hfz36_1 := blk_frozen BK378.out 1
      have hfz36_2 := blk_frozen BK378.out 2
      have hfz36_3 := blk_frozen BK378.out 3
      have hfz36_4 := blk_frozen BK378.out 4
      have hfz36_5 := blk_frozen BK378.out 5
      have hfz36_6 := blk_frozen BK378.out 6
      have hfz36_7 := blk_frozen BK378.out 7
      have hfz36_8 := blk_frozen BK378.out 8
      go_wp2
      repeat (go_quiet (fail); try go_wp2)
      go_meet
      case rel => exact ⟨_, (true), (by first | rfl | (simp; done) | (simp [*]; done)), H', ⟨by first | omega | exact Nat.le_refl _⟩, ⟨by (with_reducible repeat (first | refine blk_drewN ?_ _ | refine blk_drew ?_ | refine blk_alloc ?_ _)); exact BK377.out⟩, ⟨by (with_reducible repeat (first | refine blk_drewN ?_ _ | refine blk_drew ?_ | refine blk_alloc ?_ _)); exact BK378.out⟩, ⟨by repeat (first | (with_reducible first | exact HB.out | apply below_alloc | apply pw_below_drewN | apply below_drew1 | refine below_set ?_ GE377.out | refine below_set ?_ GE378.out) | exact HB.out)⟩⟩
  case rest =>
    clear HC3
    try clear c1
    try clear c2
    try clear p2
    try clear c3
    try clear c6
    try clear c6b0
    try clear c6b1
    try clear c7
    try clear c7b0
    try clear c7b1
    try clear c8
    try clear c8b0
    try clear c8b1
    try clear c9
    try clear c9b0
    try clear c9b1
    try clear c10
    try clear c10b0
    try clear c11
    try clear c14
    try clear c14b0
    try clear c14b1
    try clear c15
    try clear c15b0
    try clear c15b1
    try clear c15b2
    try clear c16
    try clear c19
    try clear c21
    try clear c22
    try clear c25
    try clear c28
    try clear c31
    try clear c34
    try clear hcz12_0
    try clear hcz12_1
    try clear hcz12_2
    try clear hcz12_3
    try clear hcz12_4
    try clear hcz12_5
    try clear hcz12_6
    try clear hcz12_7
    try clear hcz12_8
    try clear hcz13_0
    try clear hcz13_1
    try clear hcz13_2
    try clear hcz13_3
    try clear hcz13_4
    try clear hcz13_5
    try clear hcz13_6
    try clear hcz13_7
    try clear hcz13_8
    try clear hcz17_0
    try clear hcz17_1
    try clear hcz17_2
    try clear hcz17_3
    try clear hcz17_4
    try clear hcz17_5
    try clear hcz17_6
    try clear hcz17_7
    try clear hcz17_8
    try clear hcz18_0
    try clear hcz18_1
    try clear hcz18_2
    try clear hcz18_3
    try clear hcz18_4
    try clear hcz18_5
    try clear hcz18_6
    try clear hcz18_7
    try clear hcz18_8
    try clear hcz20_0
    try clear hcz20_1
    try clear hcz20_2
    try clear hcz20_3
    try clear hcz20_4
    try clear hcz20_5
    try clear hcz20_6
    try clear hcz20_7
    try clear hcz20_8
    try clear hcz21_0
    try clear hcz21_1
    try clear hcz21_2
    try clear hcz21_3
    try clear hcz21_4
    try clear hcz21_5
    try clear hcz21_6
    try clear hcz21_7
    try clear hcz21_8
    try clear hcz23_0
    try clear hcz23_1
    try clear hcz23_2
    try clear hcz23_3
    try clear hcz23_4
    try clear hcz23_5
    try clear hcz23_6
    try clear hcz23_7
    try clear hcz23_8
    try clear hcz24_0
    try clear hcz24_1
    try clear hcz24_2
    try clear hcz24_3
    try clear hcz24_4
    try clear hcz24_5
    try clear hcz24_6
    try clear hcz24_7
    try clear hcz24_8
    try clear hcz26_0
    try clear hcz26_1
    try clear hcz26_2
    try clear hcz26_3
    try clear hcz26_4
    try clear hcz26_5
    try clear hcz26_6
    try clear hcz26_7
    try clear hcz26_8
    try clear hcz27_0
    try clear hcz27_1
    try clear hcz27_2
    try clear hcz27_3
    try clear hcz27_4
    try clear hcz27_5
    try clear hcz27_6
    try clear hcz27_7
    try clear hcz27_8
    try clear hcz29_0
    try clear hcz29_1
    try clear hcz29_2
    try clear hcz29_3
    try clear hcz29_4
    try clear hcz29_5
    try clear hcz29_6
    try clear hcz29_7
    try clear hcz29_8
    try clear hcz30_0
    try clear hcz30_1
    try clear hcz30_2
    try clear hcz30_3
    try clear hcz30_4
    try clear hcz30_5
    try clear hcz30_6
    try clear hcz30_7
    try clear hcz30_8
    try clear hcz32_0
    try clear hcz32_1
    try clear hcz32_2
    try clear hcz32_3
    try clear hcz32_4
    try clear hcz32_5
    try clear hcz32_6
    try clear hcz32_7
    try clear hcz32_8
    try clear hcz33_0
    try clear hcz33_1
    try clear hcz33_2
    try clear hcz33_3
    try clear hcz33_4
    try clear hcz33_5
    try clear hcz33_6
    try clear hcz33_7
    try clear hcz33_8
    try clear hcz35_0
    try clear hcz35_1
    try clear hcz35_2
    try clear hcz35_3
    try clear hcz35_4
    try clear hcz35_5
    try clear hcz35_6
    try clear hcz35_7
    try clear hcz35_8
    try clear hcz36_0
    try clear hcz36_1
    try clear hcz36_2
    try clear hcz36_3
    try clear hcz36_4
    try clear hcz36_5
    try clear hcz36_6
    try clear hcz36_7
    try clear hcz36_8
    try clear hfz12_0
    try clear hfz12_1
    try clear hfz12_2
    try clear hfz12_3
    try clear hfz12_4
    try clear hfz12_5
    try clear hfz12_6
    try clear hfz12_7
    try clear hfz12_8
    try clear hfz13_0
    try clear hfz13_1
    try clear hfz13_2
    try clear hfz13_3
    try clear hfz13_4
    try clear hfz13_5
    try clear hfz13_6
    try clear hfz13_7
    try clear hfz13_8
    try clear hfz17_0
    try clear hfz17_1
    try clear hfz17_2
    try clear hfz17_3
    try clear hfz17_4
    try clear hfz17_5
    try clear hfz17_6
    try clear hfz17_7
    try clear hfz17_8
    try clear hfz18_0
    try clear hfz18_1
    try clear hfz18_2
    try clear hfz18_3
    try clear hfz18_4
    try clear hfz18_5
    try clear hfz18_6
    try clear hfz18_7
    try clear hfz18_8
    try clear hfz20_0
    try clear hfz20_1
    try clear hfz20_2
    try clear hfz20_3
    try clear hfz20_4
    try clear hfz20_5
    try clear hfz20_6
    try clear hfz20_7
    try clear hfz20_8
    try clear hfz21_0
    try clear hfz21_1
    try clear hfz21_2
    try clear hfz21_3
    try clear hfz21_4
    try clear hfz21_5
    try clear hfz21_6
    try clear hfz21_7
    try clear hfz21_8
    try clear hfz23_0
    try clear hfz23_1
    try clear hfz23_2
    try clear hfz23_3
    try clear hfz23_4
    try clear hfz23_5
    try clear hfz23_6
    try clear hfz23_7
    try clear hfz23_8
    try clear hfz24_0
    try clear hfz24_1
    try clear hfz24_2
    try clear hfz24_3
    try clear hfz24_4
    try clear hfz24_5
    try clear hfz24_6
    try clear hfz24_7
    try clear hfz24_8
    try clear hfz26_0
    try clear hfz26_1
    try clear hfz26_2
    try clear hfz26_3
    try clear hfz26_4
    try clear hfz26_5
    try clear hfz26_6
    try clear hfz26_7
    try clear hfz26_8
    try clear hfz27_0
    try clear hfz27_1
    try clear hfz27_2
    try clear hfz27_3
    try clear hfz27_4
    try clear hfz27_5
    try clear hfz27_6
    try clear hfz27_7
    try clear hfz27_8
    try clear hfz29_0
    try clear hfz29_1
    try clear hfz29_2
    try clear hfz29_3
    try clear hfz29_4
    try clear hfz29_5
    try clear hfz29_6
    try clear hfz29_7
    try clear hfz29_8
    try clear hfz30_0
    try clear hfz30_1
    try clear hfz30_2
    try clear hfz30_3
    try clear hfz30_4
    try clear hfz30_5
    try clear hfz30_6
    try clear hfz30_7
    try clear hfz30_8
    try clear hfz32_0
    try clear hfz32_1
    try clear hfz32_2
    try clear hfz32_3
    try clear hfz32_4
    try clear hfz32_5
    try clear hfz32_6
    try clear hfz32_7
    try clear hfz32_8
    try clear hfz33_0
    try clear hfz33_1
    try clear hfz33_2
    try clear hfz33_3
    try clear hfz33_4
    try clear hfz33_5
    try clear hfz33_6
    try clear hfz33_7
    try clear hfz33_8
    try clear hfz35_0
    try clear hfz35_1
    try clear hfz35_2
    try clear hfz35_3
    try clear hfz35_4
    try clear hfz35_5
    try clear hfz35_6
    try clear hfz35_7
    try clear hfz35_8
    try clear hfz36_0
    try clear hfz36_1
    try clear hfz36_2
    try clear hfz36_3
    try clear hfz36_4
    try clear hfz36_5
    try clear hfz36_6
    try clear hfz36_7
    try clear hfz36_8
    obtain ⟨kq, x64_2, rfl, HA, HJ2, BK377, BK378, HB⟩ := hcut
    cases kq with
    | zero => exact absurd HA.out (by simp [sleuthlaw51_same.j0])
    | succ kj2 =>
      have H := HA.out
      clear HA
      simp only [sleuthlaw51_same.j0] at H
      by_cases c37 : x64_2 = true
      · subst c37
        have H1 : (some false) = some r := by rw [if_pos rfl] at H; exact H
        clear H
        have H := H1
        clear H1
        obtain rfl := Option.some.inj H
        go_wp2
        repeat (go_quiet (fail); try go_wp2)
        go_ret
        exact ⟨by first | rfl | (simp [errW_none, errW_some] <;> rfl) | (simp [*, errW_none, errW_some] <;> rfl), by repeat (first | (with_reducible first | exact HB.out | apply below_alloc | apply pw_below_drewN | apply below_drew1 | refine below_set ?_ GE377.out | refine below_set ?_ GE378.out) | exact HB.out)⟩
      · replace c37 := Bool.eq_false_iff.mpr c37
        subst c37
        have H1 : (sleuthlaw51_same.l0 kj2 0 a0_0 a0_1 a0_2 a0_3 a0_4 a0_5 l0_6 l0_7 a0_8 a1_0 a1_1 a1_2 a1_3 a1_4 a1_5 l1_6 l1_7 a1_8) = some r := by rw [if_neg (show ¬ (false = true) by decide)] at H; exact H
        clear H
        have H := H1
        clear H1
        have H' := Aside0.mk H
        clear H
        go_wp2
        repeat (go_quiet (fail); try go_wp2)
        go_loopg [5] kj2 (fun kq v5 w' => ∃ (x5_2 : Int), v5 = .int .i64 x5_2 ∧ Aside0 (sleuthlaw51_same.l0 kq x5_2 a0_0 a0_1 a0_2 a0_3 a0_4 a0_5 l0_6 l0_7 a0_8 a1_0 a1_1 a1_2 a1_3 a1_4 a1_5 l1_6 l1_7 a1_8 = some r) ∧ Aside0 (kq ≤ kj2) ∧ Aside0 (w'.heap[gb377]? = some (.cells #[.int .i64 a0_0, .string a0_1, .int .i64 a0_2, .int .i64 a0_3, .string a0_4, .int .i64 a0_5, (.slice A0_6 l0_6.length c0_6), (.slice A0_7 l0_7.length c0_7), .int .i64 a0_8] 40 (0, 0))) ∧ Aside0 (w'.heap[gb378]? = some (.cells #[.int .i64 a1_0, .string a1_1, .int .i64 a1_2, .int .i64 a1_3, .string a1_4, .int .i64 a1_5, (.slice A1_6 l1_6.length c1_6), (.slice A1_7 l1_7.length c1_7), .int .i64 a1_8] 40 (0, 0))) ∧ Aside0 (Below w.heap.size w w'))
        case atStart => exact ⟨(0), (by first | rfl | (simp; done) | (simp [*]; done)), H', ⟨Nat.le_refl _⟩, ⟨by (with_reducible repeat (first | refine blk_drewN ?_ _ | refine blk_drew ?_ | refine blk_alloc ?_ _)); exact BK377.out⟩, ⟨by (with_reducible repeat (first | refine blk_drewN ?_ _ | refine blk_drew ?_ | refine blk_alloc ?_ _)); exact BK378.out⟩, ⟨by repeat (first | (with_reducible first | exact HB.out | apply below_alloc | apply pw_below_drewN | apply below_drew1 | refine below_set ?_ GE377.out | refine below_set ?_ GE378.out) | exact HB.out)⟩⟩
        case round =>
          clear H'
          try clear c1
          try clear c2
          try clear p2
          try clear c3
          try clear c6
          try clear c6b0
          try clear c6b1
          try clear c7
          try clear c7b0
          try clear c7b1
          try clear c8
          try clear c8b0
          try clear c8b1
          try clear c9
          try clear c9b0
          try clear c9b1
          try clear c10
          try clear c10b0
          try clear c11
          try clear c14
          try clear c14b0
          try clear c14b1
          try clear c15
          try clear c15b0
          try clear c15b1
          try clear c15b2
          try clear c16
          try clear c19
          try clear c21
          try clear c22
          try clear c25
          try clear c28
          try clear c31
          try clear c34
          try clear c37
          try clear hcz12_0
          try clear hcz12_1
          try clear hcz12_2
          try clear hcz12_3
          try clear hcz12_4
          try clear hcz12_5
          try clear hcz12_6
          try clear hcz12_7
          try clear hcz12_8
          try clear hcz13_0
          try clear hcz13_1
          try clear hcz13_2
          try clear hcz13_3
          try clear hcz13_4
          try clear hcz13_5
          try clear hcz13_6
          try clear hcz13_7
          try clear hcz13_8
          try clear hcz17_0
          try clear hcz17_1
          try clear hcz17_2
          try clear hcz17_3
          try clear hcz17_4
          try clear hcz17_5
          try clear hcz17_6
          try clear hcz17_7
          try clear hcz17_8
          try clear hcz18_0
          try clear hcz18_1
          try clear hcz18_2
          try clear hcz18_3
          try clear hcz18_4
          try clear hcz18_5
          try clear hcz18_6
          try clear hcz18_7
          try clear hcz18_8
          try clear hcz20_0
          try clear hcz20_1
          try clear hcz20_2
          try clear hcz20_3
          try clear hcz20_4
          try clear hcz20_5
          try clear hcz20_6
          try clear hcz20_7
          try clear hcz20_8
          try clear hcz21_0
          try clear hcz21_1
          try clear hcz21_2
          try clear hcz21_3
          try clear hcz21_4
          try clear hcz21_5
          try clear hcz21_6
          try clear hcz21_7
          try clear hcz21_8
          try clear hcz23_0
          try clear hcz23_1
          try clear hcz23_2
          try clear hcz23_3
          try clear hcz23_4
          try clear hcz23_5
          try clear hcz23_6
          try clear hcz23_7
          try clear hcz23_8
          try clear hcz24_0
          try clear hcz24_1
          try clear hcz24_2
          try clear hcz24_3
          try clear hcz24_4
          try clear hcz24_5
          try clear hcz24_6
          try clear hcz24_7
          try clear hcz24_8
          try clear hcz26_0
          try clear hcz26_1
          try clear hcz26_2
          try clear hcz26_3
          try clear hcz26_4
          try clear hcz26_5
          try clear hcz26_6
          try clear hcz26_7
          try clear hcz26_8
          try clear hcz27_0
          try clear hcz27_1
          try clear hcz27_2
          try clear hcz27_3
          try clear hcz27_4
          try clear hcz27_5
          try clear hcz27_6
          try clear hcz27_7
          try clear hcz27_8
          try clear hcz29_0
          try clear hcz29_1
          try clear hcz29_2
          try clear hcz29_3
          try clear hcz29_4
          try clear hcz29_5
          try clear hcz29_6
          try clear hcz29_7
          try clear hcz29_8
          try clear hcz30_0
          try clear hcz30_1
          try clear hcz30_2
          try clear hcz30_3
          try clear hcz30_4
          try clear hcz30_5
          try clear hcz30_6
          try clear hcz30_7
          try clear hcz30_8
          try clear hcz32_0
          try clear hcz32_1
          try clear hcz32_2
          try clear hcz32_3
          try clear hcz32_4
          try clear hcz32_5
          try clear hcz32_6
          try clear hcz32_7
          try clear hcz32_8
          try clear hcz33_0
          try clear hcz33_1
          try clear hcz33_2
          try clear hcz33_3
          try clear hcz33_4
          try clear hcz33_5
          try clear hcz33_6
          try clear hcz33_7
          try clear hcz33_8
          try clear hcz35_0
          try clear hcz35_1
          try clear hcz35_2
          try clear hcz35_3
          try clear hcz35_4
          try clear hcz35_5
          try clear hcz35_6
          try clear hcz35_7
          try clear hcz35_8
          try clear hcz36_0
          try clear hcz36_1
          try clear hcz36_2
          try clear hcz36_3
          try clear hcz36_4
          try clear hcz36_5
          try clear hcz36_6
          try clear hcz36_7
          try clear hcz36_8
          try clear hfz12_0
          try clear hfz12_1
          try clear hfz12_2
          try clear hfz12_3
          try clear hfz12_4
          try clear hfz12_5
          try clear hfz12_6
          try clear hfz12_7
          try clear hfz12_8
          try clear hfz13_0
          try clear hfz13_1
          try clear hfz13_2
          try clear hfz13_3
          try clear hfz13_4
          try clear hfz13_5
          try clear hfz13_6
          try clear hfz13_7
          try clear hfz13_8
          try clear hfz17_0
          try clear hfz17_1
          try clear hfz17_2
          try clear hfz17_3
          try clear hfz17_4
          try clear hfz17_5
          try clear hfz17_6
          try clear hfz17_7
          try clear hfz17_8
          try clear hfz18_0
          try clear hfz18_1
          try clear hfz18_2
          try clear hfz18_3
          try clear hfz18_4
          try clear hfz18_5
          try clear hfz18_6
          try clear hfz18_7
          try clear hfz18_8
          try clear hfz20_0
          try clear hfz20_1
          try clear hfz20_2
          try clear hfz20_3
          try clear hfz20_4
          try clear hfz20_5
          try clear hfz20_6
          try clear hfz20_7
          try clear hfz20_8
          try clear hfz21_0
          try clear hfz21_1
          try clear hfz21_2
          try clear hfz21_3
          try clear hfz21_4
          try clear hfz21_5
          try clear hfz21_6
          try clear hfz21_7
          try clear hfz21_8
          try clear hfz23_0
          try clear hfz23_1
          try clear hfz23_2
          try clear hfz23_3
          try clear hfz23_4
          try clear hfz23_5
          try clear hfz23_6
          try clear hfz23_7
          try clear hfz23_8
          try clear hfz24_0
          try clear hfz24_1
          try clear hfz24_2
          try clear hfz24_3
          try clear hfz24_4
          try clear hfz24_5
          try clear hfz24_6
          try clear hfz24_7
          try clear hfz24_8
          try clear hfz26_0
          try clear hfz26_1
          try clear hfz26_2
          try clear hfz26_3
          try clear hfz26_4
          try clear hfz26_5
          try clear hfz26_6
          try clear hfz26_7
          try clear hfz26_8
          try clear hfz27_0
          try clear hfz27_1
          try clear hfz27_2
          try clear hfz27_3
          try clear hfz27_4
          try clear hfz27_5
          try clear hfz27_6
          try clear hfz27_7
          try clear hfz27_8
          try clear hfz29_0
          try clear hfz29_1
          try clear hfz29_2
          try clear hfz29_3
          try clear hfz29_4
          try clear hfz29_5
          try clear hfz29_6
          try clear hfz29_7
          try clear hfz29_8
          try clear hfz30_0
          try clear hfz30_1
          try clear hfz30_2
          try clear hfz30_3
          try clear hfz30_4
          try clear hfz30_5
          try clear hfz30_6
          try clear hfz30_7
          try clear hfz30_8
          try clear hfz32_0
          try clear hfz32_1
          try clear hfz32_2
          try clear hfz32_3
          try clear hfz32_4
          try clear hfz32_5
          try clear hfz32_6
          try clear hfz32_7
          try clear hfz32_8
          try clear hfz33_0
          try clear hfz33_1
          try clear hfz33_2
          try clear hfz33_3
          try clear hfz33_4
          try clear hfz33_5
          try clear hfz33_6
          try clear hfz33_7
          try clear hfz33_8
          try clear hfz35_0
          try clear hfz35_1
          try clear hfz35_2
          try clear hfz35_3
          try clear hfz35_4
          try clear hfz35_5
          try clear hfz35_6
          try clear hfz35_7
          try clear hfz35_8
          try clear hfz36_0
          try clear hfz36_1
          try clear hfz36_2
          try clear hfz36_3
          try clear hfz36_4
          try clear hfz36_5
          try clear hfz36_6
          try clear hfz36_7
          try clear hfz36_8
          try clear p2
          obtain ⟨x5_2, rfl, HA, HK2, BK377, BK378, HB⟩ := hrel
          cases gk with
          | zero => exact absurd HA.out (by simp [sleuthlaw51_same.l0])
          | succ k2 =>
            have H := HA.out
            clear HA
            simp only [sleuthlaw51_same.l0] at H
            by_cases c38 : x5_2 < (l0_6.length : Int)
            · rw [if_pos c38] at H
              have c38b0 : decide (x5_2 < (l0_6.length : Int)) = true := decide_eq_true c38
              clear c38
              by_cases c39 : 0 ≤ x5_2
              · rw [if_pos c39] at H
                have c39b0 : decide (0 ≤ x5_2) = true := decide_eq_true c39
                clear c39
                by_cases c40 : x5_2 < (l1_6.length : Int)
                · rw [if_pos c40] at H
                  have c40b0 : decide (x5_2 < (l1_6.length : Int)) = true := decide_eq_true c40
                  clear c40
                  by_cases c41 : (!((((rd_T49 l0_6 x5_2).f0).toList) == (((rd_T49 l1_6 x5_2).f0).toList)) || (!(((rd_T49 l0_6 x5_2).f1) == ((rd_T49 l1_6 x5_2).f1)))) = true
                  · rw [if_pos c41] at H
                    have c41b0 : (!((((rd_T49 l0_6 x5_2).f0).toList) == (((rd_T49 l1_6 x5_2).f0).toList)) || (!(((rd_T49 l0_6 x5_2).f1) == ((rd_T49 l1_6 x5_2).f1)))) = true := c41
                    clear c41
                    obtain rfl := Option.some.inj H
                    have hnb42 := NB377_378.out
                    have hnc42 := NB378_377.out
                    have hcz43_0 : wr.cell? ⟨gb377, 0, none⟩ = some (.int .i64 a0_0) := (blk_cell BK377.out 0).trans rfl
                    have hcz43_1 : wr.cell? ⟨gb377, 1, none⟩ = some (.string a0_1) := (blk_cell BK377.out 1).trans rfl
                    have hcz43_2 : wr.cell? ⟨gb377, 2, none⟩ = some (.int .i64 a0_2) := (blk_cell BK377.out 2).trans rfl
                    have hcz43_3 : wr.cell? ⟨gb377, 3, none⟩ = some (.int .i64 a0_3) := (blk_cell BK377.out 3).trans rfl
                    have hcz43_4 : wr.cell? ⟨gb377, 4, none⟩ = some (.string a0_4) := (blk_cell BK377.out 4).trans rfl
                    have hcz43_5 : wr.cell? ⟨gb377, 5, none⟩ = some (.int .i64 a0_5) := (blk_cell BK377.out 5).trans rfl
                    have hcz43_6 : wr.cell? ⟨gb377, 6, none⟩ = some (.slice A0_6 l0_6.length c0_6) := (blk_cell BK377.out 6).trans rfl
                    have hcz43_7 : wr.cell? ⟨gb377, 7, none⟩ = some (.slice A0_7 l0_7.length c0_7) := (blk_cell BK377.out 7).trans rfl
                    have hcz43_8 : wr.cell? ⟨gb377, 8, none⟩ = some (.int .i64 a0_8) := (blk_cell BK377.out 8).trans rfl
                    have hfz43_0 := blk_frozen BK377.out 0
                    have hfz43_1 := blk_frozen BK377.out 1
                    have hfz43_2 := blk_frozen BK377.out 2
                    have hfz43_3 := blk_frozen BK377.out 3
                    have hfz43_4 := blk_frozen BK377.out 4
                    have hfz43_5 := blk_frozen BK377.out 5
                    have hfz43_6 := blk_frozen BK377.out 6
                    have hfz43_7 := blk_frozen BK377.out 7
                    have hfz43_8 := blk_frozen BK377.out 8
                    have p379 : 0 ≤ (x5_2 : Int) := of_decide_eq_true (by first | (with_reducible assumption) | assumption)
                    have q379 : x5_2 < (l0_6.length : Int) := of_decide_eq_true (by first | (with_reducible assumption) | assumption)
                    obtain ⟨ad379, e379, hx379_0, hx379_1⟩ := at_T49 HR0_6.out x5_2 p379 q379
                    cases e379
                    replace hx379_0 := (HB.out.cell (World.block_lt_of_cell? w _ hx379_0)).trans hx379_0
                    replace hx379_1 := (HB.out.cell (World.block_lt_of_cell? w _ hx379_1)).trans hx379_1
                    replace p379 := eq_true p379
                    replace q379 := eq_true q379
                    have hcz44_0 : wr.cell? ⟨gb378, 0, none⟩ = some (.int .i64 a1_0) := (blk_cell BK378.out 0).trans rfl
                    have hcz44_1 : wr.cell? ⟨gb378, 1, none⟩ = some (.string a1_1) := (blk_cell BK378.out 1).trans rfl
                    have hcz44_2 : wr.cell? ⟨gb378, 2, none⟩ = some (.int .i64 a1_2) := (blk_cell BK378.out 2).trans rfl
                    have hcz44_3 : wr.cell? ⟨gb378, 3, none⟩ = some (.int .i64 a1_3) := (blk_cell BK378.out 3).trans rfl
                    have hcz44_4 : wr.cell? ⟨gb378, 4, none⟩ = some (.string a1_4) := (blk_cell BK378.out 4).trans rfl
                    have hcz44_5 : wr.cell? ⟨gb378, 5, none⟩ = some (.int .i64 a1_5) := (blk_cell BK378.out 5).trans rfl
                    have hcz44_6 : wr.cell? ⟨gb378, 6, none⟩ = some (.slice A1_6 l1_6.length c1_6) := (blk_cell BK378.out 6).trans rfl
                    have hcz44_7 : wr.cell? ⟨gb378, 7, none⟩ = some (.slice A1_7 l1_7.length c1_7) := (blk_cell BK378.out 7).trans rfl
                    have hcz44_8 : wr.cell? ⟨gb378, 8, none⟩ = some (.int .i64 a1_8) := (blk_cell BK378.out 8).trans rfl
                    have hfz44_0 := blk_frozen BK378.out 0
                    have hfz44_1 := blk_frozen BK378.out 1
                    have hfz44_2 := blk_frozen BK378.out 2
                    have hfz44_3 := blk_frozen BK378.out 3
                    have hfz44_4 := blk_frozen BK378.out 4
                    have hfz44_5 := blk_frozen BK378.out 5
                    have hfz44_6 := blk_frozen BK378.out 6
                    have hfz44_7 := blk_frozen BK378.out 7
                    have hfz44_8 := blk_frozen BK378.out 8
                    have p380 : 0 ≤ (x5_2 : Int) := of_decide_eq_true (by first | (with_reducible assumption) | assumption)
                    have q380 : x5_2 < (l1_6.length : Int) := of_decide_eq_true (by first | (with_reducible assumption) | assumption)
                    obtain ⟨ad380, e380, hx380_0, hx380_1⟩ := at_T49 HR1_6.out x5_2 p380 q380
                    cases e380
                    replace hx380_0 := (HB.out.cell (World.block_lt_of_cell? w _ hx380_0)).trans hx380_0
                    replace hx380_1 := (HB.out.cell (World.block_lt_of_cell? w _ hx380_1)).trans hx380_1
                    replace p380 := eq_true p380
                    replace q380 := eq_true q380
                    go_wp2
                    repeat (go_quiet (fail); try go_wp2)
                    go_ret
                    exact ⟨by first | rfl | (simp [errW_none, errW_some] <;> rfl) | (simp [*, errW_none, errW_some] <;> rfl), by repeat (first | (with_reducible first | exact HB.out | apply below_alloc | apply pw_below_drewN | apply below_drew1 | refine below_set ?_ GE377.out | refine below_set ?_ GE378.out) | exact HB.out)⟩
                  · rw [if_neg c41] at H
                    have c41b0 : (!((((rd_T49 l0_6 x5_2).f0).toList) == (((rd_T49 l1_6 x5_2).f0).toList)) || (!(((rd_T49 l0_6 x5_2).f1) == ((rd_T49 l1_6 x5_2).f1)))) = false := by simpa using c41
                    clear c41
                    have H' := Aside0.mk H
                    clear H
                    have hnb45 := NB377_378.out
                    have hnc45 := NB378_377.out
                    have hcz46_0 : wr.cell? ⟨gb377, 0, none⟩ = some (.int .i64 a0_0) := (blk_cell BK377.out 0).trans rfl
                    have hcz46_1 : wr.cell? ⟨gb377, 1, none⟩ = some (.string a0_1) := (blk_cell BK377.out 1).trans rfl
                    have hcz46_2 : wr.cell? ⟨gb377, 2, none⟩ = some (.int .i64 a0_2) := (blk_cell BK377.out 2).trans rfl
                    have hcz46_3 : wr.cell? ⟨gb377, 3, none⟩ = some (.int .i64 a0_3) := (blk_cell BK377.out 3).trans rfl
                    have hcz46_4 : wr.cell? ⟨gb377, 4, none⟩ = some (.string a0_4) := (blk_cell BK377.out 4).trans rfl
                    have hcz46_5 : wr.cell? ⟨gb377, 5, none⟩ = some (.int .i64 a0_5) := (blk_cell BK377.out 5).trans rfl
                    have hcz46_6 : wr.cell? ⟨gb377, 6, none⟩ = some (.slice A0_6 l0_6.length c0_6) := (blk_cell BK377.out 6).trans rfl
                    have hcz46_7 : wr.cell? ⟨gb377, 7, none⟩ = some (.slice A0_7 l0_7.length c0_7) := (blk_cell BK377.out 7).trans rfl
                    have hcz46_8 : wr.cell? ⟨gb377, 8, none⟩ = some (.int .i64 a0_8) := (blk_cell BK377.out 8).trans rfl
                    have hfz46_0 := blk_frozen BK377.out 0
                    have hfz46_1 := blk_frozen BK377.out 1
                    have hfz46_2 := blk_frozen BK377.out 2
                    have hfz46_3 := blk_frozen BK377.out 3
                    have hfz46_4 := blk_frozen BK377.out 4
                    have hfz46_5 := blk_frozen BK377.out 5
                    have hfz46_6 := blk_frozen BK377.out 6
                    have hfz46_7 := blk_frozen BK377.out 7
                    have hfz46_8 := blk_frozen BK377.out 8
                    have p379 : 0 ≤ (x5_2 : Int) := of_decide_eq_true (by first | (with_reducible assumption) | assumption)
                    have q379 : x5_2 < (l0_6.length : Int) := of_decide_eq_true (by first | (with_reducible assumption) | assumption)
                    obtain ⟨ad379, e379, hx379_0, hx379_1⟩ := at_T49 HR0_6.out x5_2 p379 q379
                    cases e379
                    replace hx379_0 := (HB.out.cell (World.block_lt_of_cell? w _ hx379_0)).trans hx379_0
                    replace hx379_1 := (HB.out.cell (World.block_lt_of_cell? w _ hx379_1)).trans hx379_1
                    replace p379 := eq_true p379
                    replace q379 := eq_true q379
                    have hcz47_0 : wr.cell? ⟨gb378, 0, none⟩ = some (.int .i64 a1_0) := (blk_cell BK378.out 0).trans rfl
                    have hcz47_1 : wr.cell? ⟨gb378, 1, none⟩ = some (.string a1_1) := (blk_cell BK378.out 1).trans rfl
                    have hcz47_2 : wr.cell? ⟨gb378, 2, none⟩ = some (.int .i64 a1_2) := (blk_cell BK378.out 2).trans rfl
                    have hcz47_3 : wr.cell? ⟨gb378, 3, none⟩ = some (.int .i64 a1_3) := (blk_cell BK378.out 3).trans rfl
                    have hcz47_4 : wr.cell? ⟨gb378, 4, none⟩ = some (.string a1_4) := (blk_cell BK378.out 4).trans rfl
                    have hcz47_5 : wr.cell? ⟨gb378, 5, none⟩ = some (.int .i64 a1_5) := (blk_cell BK378.out 5).trans rfl
                    have hcz47_6 : wr.cell? ⟨gb378, 6, none⟩ = some (.slice A1_6 l1_6.length c1_6) := (blk_cell BK378.out 6).trans rfl
                    have hcz47_7 : wr.cell? ⟨gb378, 7, none⟩ = some (.slice A1_7 l1_7.length c1_7) := (blk_cell BK378.out 7).trans rfl
                    have hcz47_8 : wr.cell? ⟨gb378, 8, none⟩ = some (.int .i64 a1_8) := (blk_cell BK378.out 8).trans rfl
                    have hfz47_0 := blk_frozen BK378.out 0
                    have hfz47_1 := blk_frozen BK378.out 1
                    have hfz47_2 := blk_frozen BK378.out 2
                    have hfz47_3 := blk_frozen BK378.out 3
                    have hfz47_4 := blk_frozen BK378.out 4
                    have hfz47_5 := blk_frozen BK378.out 5
                    have hfz47_6 := blk_frozen BK378.out 6
                    have hfz47_7 := blk_frozen BK378.out 7
                    have hfz47_8 := blk_frozen BK378.out 8
                    have p380 : 0 ≤ (x5_2 : Int) := of_decide_eq_true (by first | (with_reducible assumption) | assumption)
                    have q380 : x5_2 < (l1_6.length : Int) := of_decide_eq_true (by first | (with_reducible assumption) | assumption)
                    obtain ⟨ad380, e380, hx380_0, hx380_1⟩ := at_T49 HR1_6.out x5_2 p380 q380
                    cases e380
                    replace hx380_0 := (HB.out.cell (World.block_lt_of_cell? w _ hx380_0)).trans hx380_0
                    replace hx380_1 := (HB.out.cell (World.block_lt_of_cell? w _ hx380_1)).trans hx380_1
                    replace p380 := eq_true p380
                    replace q380 := eq_true q380
                    go_wp2
                    repeat (go_quiet (fail); try go_wp2)
                    go_roundg k2
                    case measure => have := HJ2.out; have := HK2.out; omega
                    case rel => exact ⟨(wrap64 (x5_2 + 1)), (by first | rfl | (simp; done) | (simp [*]; done)), H', ⟨by have := HJ2.out; have := HK2.out; omega⟩, ⟨by (with_reducible repeat (first | refine blk_drewN ?_ _ | refine blk_drew ?_ | refine blk_alloc ?_ _)); exact BK377.out⟩, ⟨by (with_reducible repeat (first | refine blk_drewN ?_ _ | refine blk_drew ?_ | refine blk_alloc ?_ _)); exact BK378.out⟩, ⟨by repeat (first | (with_reducible first | exact HB.out | apply below_alloc | apply pw_below_drewN | apply below_drew1 | refine below_set ?_ GE377.out | refine below_set ?_ GE378.out) | exact HB.out)⟩⟩
                · rw [if_neg c40] at H
                  exact absurd H (by simp)
              · rw [if_neg c39] at H
                exact absurd H (by simp)
            · rw [if_neg c38] at H
              have c38b0 : decide (x5_2 < (l0_6.length : Int)) = false := decide_eq_false c38
              clear c38
              have H' := Aside0.mk H
              clear H
              have hnb48 := NB377_378.out
              have hnc48 := NB378_377.out
              have hcz49_0 : wr.cell? ⟨gb377, 0, none⟩ = some (.int .i64 a0_0) := (blk_cell BK377.out 0).trans rfl
              have hcz49_1 : wr.cell? ⟨gb377, 1, none⟩ = some (.string a0_1) := (blk_cell BK377.out 1).trans rfl
              have hcz49_2 : wr.cell? ⟨gb377, 2, none⟩ = some (.int .i64 a0_2) := (blk_cell BK377.out 2).trans rfl
              have hcz49_3 : wr.cell? ⟨gb377, 3, none⟩ = some (.int .i64 a0_3) := (blk_cell BK377.out 3).trans rfl
              have hcz49_4 : wr.cell? ⟨gb377, 4, none⟩ = some (.string a0_4) := (blk_cell BK377.out 4).trans rfl
              have hcz49_5 : wr.cell? ⟨gb377, 5, none⟩ = some (.int .i64 a0_5) := (blk_cell BK377.out 5).trans rfl
              have hcz49_6 : wr.cell? ⟨gb377, 6, none⟩ = some (.slice A0_6 l0_6.length c0_6) := (blk_cell BK377.out 6).trans rfl
              have hcz49_7 : wr.cell? ⟨gb377, 7, none⟩ = some (.slice A0_7 l0_7.length c0_7) := (blk_cell BK377.out 7).trans rfl
              have hcz49_8 : wr.cell? ⟨gb377, 8, none⟩ = some (.int .i64 a0_8) := (blk_cell BK377.out 8).trans rfl
              have hfz49_0 := blk_frozen BK377.out 0
              have hfz49_1 := blk_frozen BK377.out 1
              have hfz49_2 := blk_frozen BK377.out 2
              have hfz49_3 := blk_frozen BK377.out 3
              have hfz49_4 := blk_frozen BK377.out 4
              have hfz49_5 := blk_frozen BK377.out 5
              have hfz49_6 := blk_frozen BK377.out 6
              have hfz49_7 := blk_frozen BK377.out 7
              have hfz49_8 := blk_frozen BK377.out 8
              go_wp2
              repeat (go_quiet (fail); try go_wp2)
              go_loopg [6] k2 (fun kq v6 w' => ∃ (x6_3 : Int), v6 = .int .i64 x6_3 ∧ Aside0 (sleuthlaw51_same.l1 kq x6_3 a0_0 a0_1 a0_2 a0_3 a0_4 a0_5 l0_6 l0_7 a0_8 a1_0 a1_1 a1_2 a1_3 a1_4 a1_5 l1_6 l1_7 a1_8 = some r) ∧ Aside0 (kq ≤ k2) ∧ Aside0 (w'.heap[gb377]? = some (.cells #[.int .i64 a0_0, .string a0_1, .int .i64 a0_2, .int .i64 a0_3, .string a0_4, .int .i64 a0_5, (.slice A0_6 l0_6.length c0_6), (.slice A0_7 l0_7.length c0_7), .int .i64 a0_8] 40 (0, 0))) ∧ Aside0 (w'.heap[gb378]? = some (.cells #[.int .i64 a1_0, .string a1_1, .int .i64 a1_2, .int .i64 a1_3, .string a1_4, .int .i64 a1_5, (.slice A1_6 l1_6.length c1_6), (.slice A1_7 l1_7.length c1_7), .int .i64 a1_8] 40 (0, 0))) ∧ Aside0 (Below w.heap.size w w'))
              case atStart => exact ⟨(0), (by first | rfl | (simp; done) | (simp [*]; done)), H', ⟨Nat.le_refl _⟩, ⟨by (with_reducible repeat (first | refine blk_drewN ?_ _ | refine blk_drew ?_ | refine blk_alloc ?_ _)); exact BK377.out⟩, ⟨by (with_reducible repeat (first | refine blk_drewN ?_ _ | refine blk_drew ?_ | refine blk_alloc ?_ _)); exact BK378.out⟩, ⟨by repeat (first | (with_reducible first | exact HB.out | apply below_alloc | apply pw_below_drewN | apply below_drew1 | refine below_set ?_ GE377.out | refine below_set ?_ GE378.out) | exact HB.out)⟩⟩
              case round =>
                clear H'
                try clear c1
                try clear c2
                try clear p2
                try clear c3
                try clear p3
                try clear q3
                try clear hx3
                try clear c4
                try clear c6
                try clear c6b0
                try clear c6b1
                try clear p6
                try clear c7
                try clear c7b0
                try clear c7b1
                try clear c8
                try clear c8b0
                try clear c8b1
                try clear c9
                try clear c9b0
                try clear c9b1
                try clear c10
                try clear c10b0
                try clear c11
                try clear c14
                try clear c14b0
                try clear c14b1
                try clear c15
                try clear c15b0
                try clear c15b1
                try clear c15b2
                try clear c16
                try clear c19
                try clear c21
                try clear c22
                try clear c25
                try clear c28
                try clear c31
                try clear c34
                try clear c37
                try clear p37
                try clear q37
                try clear hx37
                try clear c38
                try clear c38b0
                try clear p38
                try clear q38
                try clear hx38
                try clear c39
                try clear c39b0
                try clear c40
                try clear c40b0
                try clear c41
                try clear c41b0
                try clear c42
                try clear c45
                try clear c48
                try clear hcz12_0
                try clear hcz12_1
                try clear hcz12_2
                try clear hcz12_3
                try clear hcz12_4
                try clear hcz12_5
                try clear hcz12_6
                try clear hcz12_7
                try clear hcz12_8
                try clear hcz13_0
                try clear hcz13_1
                try clear hcz13_2
                try clear hcz13_3
                try clear hcz13_4
                try clear hcz13_5
                try clear hcz13_6
                try clear hcz13_7
                try clear hcz13_8
                try clear hcz17_0
                try clear hcz17_1
                try clear hcz17_2
                try clear hcz17_3
                try clear hcz17_4
                try clear hcz17_5
                try clear hcz17_6
                try clear hcz17_7
                try clear hcz17_8
                try clear hcz18_0
                try clear hcz18_1
                try clear hcz18_2
                try clear hcz18_3
                try clear hcz18_4
                try clear hcz18_5
                try clear hcz18_6
                try clear hcz18_7
                try clear hcz18_8
                try clear hcz20_0
                try clear hcz20_1
                try clear hcz20_2
                try clear hcz20_3
                try clear hcz20_4
                try clear hcz20_5
                try clear hcz20_6
                try clear hcz20_7
                try clear hcz20_8
                try clear hcz21_0
                try clear hcz21_1
                try clear hcz21_2
                try clear hcz21_3
                try clear hcz21_4
                try clear hcz21_5
                try clear hcz21_6
                try clear hcz21_7
                try clear hcz21_8
                try clear hcz23_0
                try clear hcz23_1
                try clear hcz23_2
                try clear hcz23_3
                try clear hcz23_4
                try clear hcz23_5
                try clear hcz23_6
                try clear hcz23_7
                try clear hcz23_8
                try clear hcz24_0
                try clear hcz24_1
                try clear hcz24_2
                try clear hcz24_3
                try clear hcz24_4
                try clear hcz24_5
                try clear hcz24_6
                try clear hcz24_7
                try clear hcz24_8
                try clear hcz26_0
                try clear hcz26_1
                try clear hcz26_2
                try clear hcz26_3
                try clear hcz26_4
                try clear hcz26_5
                try clear hcz26_6
                try clear hcz26_7
                try clear hcz26_8
                try clear hcz27_0
                try clear hcz27_1
                try clear hcz27_2
                try clear hcz27_3
                try clear hcz27_4
                try clear hcz27_5
                try clear hcz27_6
                try clear hcz27_7
                try clear hcz27_8
                try clear hcz29_0
                try clear hcz29_1
                try clear hcz29_2
                try clear hcz29_3
                try clear hcz29_4
                try clear hcz29_5
                try clear hcz29_6
                try clear hcz29_7
                try clear hcz29_8
                try clear hcz30_0
                try clear hcz30_1
                try clear hcz30_2
                try clear hcz30_3
                try clear hcz30_4
                try clear hcz30_5
                try clear hcz30_6
                try clear hcz30_7
                try clear hcz30_8
                try clear hcz32_0
                try clear hcz32_1
                try clear hcz32_2
                try clear hcz32_3
                try clear hcz32_4
                try clear hcz32_5
                try clear hcz32_6
                try clear hcz32_7
                try clear hcz32_8
                try clear hcz33_0
                try clear hcz33_1
                try clear hcz33_2
                try clear hcz33_3
                try clear hcz33_4
                try clear hcz33_5
                try clear hcz33_6
                try clear hcz33_7
                try clear hcz33_8
                try clear hcz35_0
                try clear hcz35_1
                try clear hcz35_2
                try clear hcz35_3
                try clear hcz35_4
                try clear hcz35_5
                try clear hcz35_6
                try clear hcz35_7
                try clear hcz35_8
                try clear hcz36_0
                try clear hcz36_1
                try clear hcz36_2
                try clear hcz36_3
                try clear hcz36_4
                try clear hcz36_5
                try clear hcz36_6
                try clear hcz36_7
                try clear hcz36_8
                try clear hcz43_0
                try clear hcz43_1
                try clear hcz43_2
                try clear hcz43_3
                try clear hcz43_4
                try clear hcz43_5
                try clear hcz43_6
                try clear hcz43_7
                try clear hcz43_8
                try clear hcz44_0
                try clear hcz44_1
                try clear hcz44_2
                try clear hcz44_3
                try clear hcz44_4
                try clear hcz44_5
                try clear hcz44_6
                try clear hcz44_7
                try clear hcz44_8
                try clear hcz46_0
                try clear hcz46_1
                try clear hcz46_2
                try clear hcz46_3
                try clear hcz46_4
                try clear hcz46_5
                try clear hcz46_6
                try clear hcz46_7
                try clear hcz46_8
                try clear hcz47_0
                try clear hcz47_1
                try clear hcz47_2
                try clear hcz47_3
                try clear hcz47_4
                try clear hcz47_5
                try clear hcz47_6
                try clear hcz47_7
                try clear hcz47_8
                try clear hcz49_0
                try clear hcz49_1
                try clear hcz49_2
                try clear hcz49_3
                try clear hcz49_4
                try clear hcz49_5
                try clear hcz49_6
                try clear hcz49_7
                try clear hcz49_8
                try clear hfz12_0
                try clear hfz12_1
                try clear hfz12_2
                try clear hfz12_3
                try clear hfz12_4
                try clear hfz12_5
                try clear hfz12_6
                try clear hfz12_7
                try clear hfz12_8
                try clear hfz13_0
                try clear hfz13_1
                try clear hfz13_2
                try clear hfz13_3
                try clear hfz13_4
                try clear hfz13_5
                try clear hfz13_6
                try clear hfz13_7
                try clear hfz13_8
                try clear hfz17_0
                try clear hfz17_1
                try clear hfz17_2
                try clear hfz17_3
                try clear hfz17_4
                try clear hfz17_5
                try clear hfz17_6
                try clear hfz17_7
                try clear hfz17_8
                try clear hfz18_0
                try clear hfz18_1
                try clear hfz18_2
                try clear hfz18_3
                try clear hfz18_4
                try clear hfz18_5
                try clear hfz18_6
                try clear hfz18_7
                try clear hfz18_8
                try clear hfz20_0
                try clear hfz20_1
                try clear hfz20_2
                try clear hfz20_3
                try clear hfz20_4
                try clear hfz20_5
                try clear hfz20_6
                try clear hfz20_7
                try clear hfz20_8
                try clear hfz21_0
                try clear hfz21_1
                try clear hfz21_2
                try clear hfz21_3
                try clear hfz21_4
                try clear hfz21_5
                try clear hfz21_6
                try clear hfz21_7
                try clear hfz21_8
                try clear hfz23_0
                try clear hfz23_1
                try clear hfz23_2
                try clear hfz23_3
                try clear hfz23_4
                try clear hfz23_5
                try clear hfz23_6
                try clear hfz23_7
                try clear hfz23_8
                try clear hfz24_0
                try clear hfz24_1
                try clear hfz24_2
                try clear hfz24_3
                try clear hfz24_4
                try clear hfz24_5
                try clear hfz24_6
                try clear hfz24_7
                try clear hfz24_8
                try clear hfz26_0
                try clear hfz26_1
                try clear hfz26_2
                try clear hfz26_3
                try clear hfz26_4
                try clear hfz26_5
                try clear hfz26_6
                try clear hfz26_7
                try clear hfz26_8
                try clear hfz27_0
                try clear hfz27_1
                try clear hfz27_2
                try clear hfz27_3
                try clear hfz27_4
                try clear hfz27_5
                try clear hfz27_6
                try clear hfz27_7
                try clear hfz27_8
                try clear hfz29_0
                try clear hfz29_1
                try clear hfz29_2
                try clear hfz29_3
                try clear hfz29_4
                try clear hfz29_5
                try clear hfz29_6
                try clear hfz29_7
                try clear hfz29_8
                try clear hfz30_0
                try clear hfz30_1
                try clear hfz30_2
                try clear hfz30_3
                try clear hfz30_4
                try clear hfz30_5
                try clear hfz30_6
                try clear hfz30_7
                try clear hfz30_8
                try clear hfz32_0
                try clear hfz32_1
                try clear hfz32_2
                try clear hfz32_3
                try clear hfz32_4
                try clear hfz32_5
                try clear hfz32_6
                try clear hfz32_7
                try clear hfz32_8
                try clear hfz33_0
                try clear hfz33_1
                try clear hfz33_2
                try clear hfz33_3
                try clear hfz33_4
                try clear hfz33_5
                try clear hfz33_6
                try clear hfz33_7
                try clear hfz33_8
                try clear hfz35_0
                try clear hfz35_1
                try clear hfz35_2
                try clear hfz35_3
                try clear hfz35_4
                try clear hfz35_5
                try clear hfz35_6
                try clear hfz35_7
                try clear hfz35_8
                try clear hfz36_0
                try clear hfz36_1
                try clear hfz36_2
                try clear hfz36_3
                try clear hfz36_4
                try clear hfz36_5
                try clear hfz36_6
                try clear hfz36_7
                try clear hfz36_8
                try clear hfz43_0
                try clear hfz43_1
                try clear hfz43_2
                try clear hfz43_3
                try clear hfz43_4
                try clear hfz43_5
                try clear hfz43_6
                try clear hfz43_7
                try clear hfz43_8
                try clear hfz44_0
                try clear hfz44_1
                try clear hfz44_2
                try clear hfz44_3
                try clear hfz44_4
                try clear hfz44_5
                try clear hfz44_6
                try clear hfz44_7
                try clear hfz44_8
                try clear hfz46_0
                try clear hfz46_1
                try clear hfz46_2
                try clear hfz46_3
                try clear hfz46_4
                try clear hfz46_5
                try clear hfz46_6
                try clear hfz46_7
                try clear hfz46_8
                try clear hfz47_0
                try clear hfz47_1
                try clear hfz47_2
                try clear hfz47_3
                try clear hfz47_4
                try clear hfz47_5
                try clear hfz47_6
                try clear hfz47_7
                try clear hfz47_8
                try clear hfz49_0
                try clear hfz49_1
                try clear hfz49_2
                try clear hfz49_3
                try clear hfz49_4
                try clear hfz49_5
                try clear hfz49_6
                try clear hfz49_7
                try clear hfz49_8
                try clear hx379_0
                try clear hx379_1
                try clear hx380_0
                try clear hx380_1
                try clear p2
                try clear p379
                try clear p380
                try clear q379
                try clear q380
                obtain ⟨x6_3, rfl, HA, HK3, BK377, BK378, HB⟩ := hrel
                cases gk with
                | zero => exact absurd HA.out (by simp [sleuthlaw51_same.l1])
                | succ k3 =>
                  have H := HA.out
                  clear HA
                  simp only [sleuthlaw51_same.l1] at H
                  by_cases c50 : x6_3 < (l0_7.length : Int)
                  · rw [if_pos c50] at H
                    have c50b0 : decide (x6_3 < (l0_7.length : Int)) = true := decide_eq_true c50
                    clear c50
                    by_cases c51 : 0 ≤ x6_3
                    · rw [if_pos c51] at H
                      have c51b0 : decide (0 ≤ x6_3) = true := decide_eq_true c51
                      clear c51
                      by_cases c52 : x6_3 < (l1_7.length : Int)
                      · rw [if_pos c52] at H
                        have c52b0 : decide (x6_3 < (l1_7.length : Int)) = true := decide_eq_true c52
                        clear c52
                        by_cases c53 : ((!((((rd_T51 l0_7 x6_3).f0.f0).toList) == (((rd_T51 l1_7 x6_3).f0.f0).toList)) || (!(((rd_T51 l0_7 x6_3).f0.f1) == ((rd_T51 l1_7 x6_3).f0.f1)))) || (!((((rd_T51 l0_7 x6_3).f1).toList) == (((rd_T51 l1_7 x6_3).f1).toList)) || (!(((rd_T51 l0_7 x6_3).f2) == ((rd_T51 l1_7 x6_3).f2))))) = true
                        · rw [if_pos c53] at H
                          have c53b0 : ((!((((rd_T51 l0_7 x6_3).f0.f0).toList) == (((rd_T51 l1_7 x6_3).f0.f0).toList)) || (!(((rd_T51 l0_7 x6_3).f0.f1) == ((rd_T51 l1_7 x6_3).f0.f1)))) || (!((((rd_T51 l0_7 x6_3).f1).toList) == (((rd_T51 l1_7 x6_3).f1).toList)) || (!(((rd_T51 l0_7 x6_3).f2) == ((rd_T51 l1_7 x6_3).f2))))) = true := c53
                          clear c53
                          obtain rfl := Option.some.inj H
                          have hnb54 := NB377_378.out
                          have hnc54 := NB378_377.out
                          have hcz55_0 : wr.cell? ⟨gb377, 0, none⟩ = some (.int .i64 a0_0) := (blk_cell BK377.out 0).trans rfl
                          have hcz55_1 : wr.cell? ⟨gb377, 1, none⟩ = some (.string a0_1) := (blk_cell BK377.out 1).trans rfl
                          have hcz55_2 : wr.cell? ⟨gb377, 2, none⟩ = some (.int .i64 a0_2) := (blk_cell BK377.out 2).trans rfl
                          have hcz55_3 : wr.cell? ⟨gb377, 3, none⟩ = some (.int .i64 a0_3) := (blk_cell BK377.out 3).trans rfl
                          have hcz55_4 : wr.cell? ⟨gb377, 4, none⟩ = some (.string a0_4) := (blk_cell BK377.out 4).trans rfl
                          have hcz55_5 : wr.cell? ⟨gb377, 5, none⟩ = some (.int .i64 a0_5) := (blk_cell BK377.out 5).trans rfl
                          have hcz55_6 : wr.cell? ⟨gb377, 6, none⟩ = some (.slice A0_6 l0_6.length c0_6) := (blk_cell BK377.out 6).trans rfl
                          have hcz55_7 : wr.cell? ⟨gb377, 7, none⟩ = some (.slice A0_7 l0_7.length c0_7) := (blk_cell BK377.out 7).trans rfl
                          have hcz55_8 : wr.cell? ⟨gb377, 8, none⟩ = some (.int .i64 a0_8) := (blk_cell BK377.out 8).trans rfl
                          have hfz55_0 := blk_frozen BK377.out 0
                          have hfz55_1 := blk_frozen BK377.out 1
                          have hfz55_2 := blk_frozen BK377.out 2
                          have hfz55_3 := blk_frozen BK377.out 3
                          have hfz55_4 := blk_frozen BK377.out 4
                          have hfz55_5 := blk_frozen BK377.out 5
                          have hfz55_6 := blk_frozen BK377.out 6
                          have hfz55_7 := blk_frozen BK377.out 7
                          have hfz55_8 := blk_frozen BK377.out 8
                          have p381 : 0 ≤ (x6_3 : Int) := of_decide_eq_true (by first | (with_reducible assumption) | assumption)
                          have q381 : x6_3 < (l0_7.length : Int) := of_decide_eq_true (by first | (with_reducible assumption) | assumption)
                          obtain ⟨ad381, e381, hx381_0, hx381_1, hx381_2, hx381_3⟩ := at_T51 HR0_7.out x6_3 p381 q381
                          cases e381
                          replace hx381_0 := (HB.out.cell (World.block_lt_of_cell? w _ hx381_0)).trans hx381_0
                          replace hx381_1 := (HB.out.cell (World.block_lt_of_cell? w _ hx381_1)).trans hx381_1
                          replace hx381_2 := (HB.out.cell (World.block_lt_of_cell? w _ hx381_2)).trans hx381_2
                          replace hx381_3 := (HB.out.cell (World.block_lt_of_cell? w _ hx381_3)).trans hx381_3
                          replace p381 := eq_true p381
                          replace q381 := eq_true q381
                          have hcz56_0 : wr.cell? ⟨gb378, 0, none⟩ = some (.int .i64 a1_0) := (blk_cell BK378.out 0).trans rfl
                          have hcz56_1 : wr.cell? ⟨gb378, 1, none⟩ = some (.string a1_1) := (blk_cell BK378.out 1).trans rfl
                          have hcz56_2 : wr.cell? ⟨gb378, 2, none⟩ = some (.int .i64 a1_2) := (blk_cell BK378.out 2).trans rfl
                          have hcz56_3 : wr.cell? ⟨gb378, 3, none⟩ = some (.int .i64 a1_3) := (blk_cell BK378.out 3).trans rfl
                          have hcz56_4 : wr.cell? ⟨gb378, 4, none⟩ = some (.string a1_4) := (blk_cell BK378.out 4).trans rfl
                          have hcz56_5 : wr.cell? ⟨gb378, 5, none⟩ = some (.int .i64 a1_5) := (blk_cell BK378.out 5).trans rfl
                          have hcz56_6 : wr.cell? ⟨gb378, 6, none⟩ = some (.slice A1_6 l1_6.length c1_6) := (blk_cell BK378.out 6).trans rfl
                          have hcz56_7 : wr.cell? ⟨gb378, 7, none⟩ = some (.slice A1_7 l1_7.length c1_7) := (blk_cell BK378.out 7).trans rfl
                          have hcz56_8 : wr.cell? ⟨gb378, 8, none⟩ = some (.int .i64 a1_8) := (blk_cell BK378.out 8).trans rfl
                          have hfz56_0 := blk_frozen BK378.out 0
                          have hfz56_1 := blk_frozen BK378.out 1
                          have hfz56_2 := blk_frozen BK378.out 2
                          have hfz56_3 := blk_frozen BK378.out 3
                          have hfz56_4 := blk_frozen BK378.out 4
                          have hfz56_5 := blk_frozen BK378.out 5
                          have hfz56_6 := blk_frozen BK378.out 6
                          have hfz56_7 := blk_frozen BK378.out 7
                          have hfz56_8 := blk_frozen BK378.out 8
                          have p382 : 0 ≤ (x6_3 : Int) := of_decide_eq_true (by first | (with_reducible assumption) | assumption)
                          have q382 : x6_3 < (l1_7.length : Int) := of_decide_eq_true (by first | (with_reducible assumption) | assumption)
                          obtain ⟨ad382, e382, hx382_0, hx382_1, hx382_2, hx382_3⟩ := at_T51 HR1_7.out x6_3 p382 q382
                          cases e382
                          replace hx382_0 := (HB.out.cell (World.block_lt_of_cell? w _ hx382_0)).trans hx382_0
                          replace hx382_1 := (HB.out.cell (World.block_lt_of_cell? w _ hx382_1)).trans hx382_1
                          replace hx382_2 := (HB.out.cell (World.block_lt_of_cell? w _ hx382_2)).trans hx382_2
                          replace hx382_3 := (HB.out.cell (World.block_lt_of_cell? w _ hx382_3)).trans hx382_3
                          replace p382 := eq_true p382
                          replace q382 := eq_true q382
                          go_wp2
                          repeat (go_quiet (fail); try go_wp2)
                          go_ret
                          exact ⟨by first | rfl | (simp [errW_none, errW_some] <;> rfl) | (simp [*, errW_none, errW_some] <;> rfl), by repeat (first | (with_reducible first | exact HB.out | apply below_alloc | apply pw_below_drewN | apply below_drew1 | refine below_set ?_ GE377.out | refine below_set ?_ GE378.out) | exact HB.out)⟩
                        · rw [if_neg c53] at H
                          have c53b0 : ((!((((rd_T51 l0_7 x6_3).f0.f0).toList) == (((rd_T51 l1_7 x6_3).f0.f0).toList)) || (!(((rd_T51 l0_7 x6_3).f0.f1) == ((rd_T51 l1_7 x6_3).f0.f1)))) || (!((((rd_T51 l0_7 x6_3).f1).toList) == (((rd_T51 l1_7 x6_3).f1).toList)) || (!(((rd_T51 l0_7 x6_3).f2) == ((rd_T51 l1_7 x6_3).f2))))) = false := by simpa using c53
                          clear c53
                          have H' := Aside0.mk H
                          clear H
                          have hnb57 := NB377_378.out
                          have hnc57 := NB378_377.out
                          have hcz58_0 : wr.cell? ⟨gb377, 0, none⟩ = some (.int .i64 a0_0) := (blk_cell BK377.out 0).trans rfl
                          have hcz58_1 : wr.cell? ⟨gb377, 1, none⟩ = some (.string a0_1) := (blk_cell BK377.out 1).trans rfl
                          have hcz58_2 : wr.cell? ⟨gb377, 2, none⟩ = some (.int .i64 a0_2) := (blk_cell BK377.out 2).trans rfl
                          have hcz58_3 : wr.cell? ⟨gb377, 3, none⟩ = some (.int .i64 a0_3) := (blk_cell BK377.out 3).trans rfl
                          have hcz58_4 : wr.cell? ⟨gb377, 4, none⟩ = some (.string a0_4) := (blk_cell BK377.out 4).trans rfl
                          have hcz58_5 : wr.cell? ⟨gb377, 5, none⟩ = some (.int .i64 a0_5) := (blk_cell BK377.out 5).trans rfl
                          have hcz58_6 : wr.cell? ⟨gb377, 6, none⟩ = some (.slice A0_6 l0_6.length c0_6) := (blk_cell BK377.out 6).trans rfl
                          have hcz58_7 : wr.cell? ⟨gb377, 7, none⟩ = some (.slice A0_7 l0_7.length c0_7) := (blk_cell BK377.out 7).trans rfl
                          have hcz58_8 : wr.cell? ⟨gb377, 8, none⟩ = some (.int .i64 a0_8) := (blk_cell BK377.out 8).trans rfl
                          have hfz58_0 := blk_frozen BK377.out 0
                          have hfz58_1 := blk_frozen BK377.out 1
                          have hfz58_2 := blk_frozen BK377.out 2
                          have hfz58_3 := blk_frozen BK377.out 3
                          have hfz58_4 := blk_frozen BK377.out 4
                          have hfz58_5 := blk_frozen BK377.out 5
                          have hfz58_6 := blk_frozen BK377.out 6
                          have hfz58_7 := blk_frozen BK377.out 7
                          have hfz58_8 := blk_frozen BK377.out 8
                          have p381 : 0 ≤ (x6_3 : Int) := of_decide_eq_true (by first | (with_reducible assumption) | assumption)
                          have q381 : x6_3 < (l0_7.length : Int) := of_decide_eq_true (by first | (with_reducible assumption) | assumption)
                          obtain ⟨ad381, e381, hx381_0, hx381_1, hx381_2, hx381_3⟩ := at_T51 HR0_7.out x6_3 p381 q381
                          cases e381
                          replace hx381_0 := (HB.out.cell (World.block_lt_of_cell? w _ hx381_0)).trans hx381_0
                          replace hx381_1 := (HB.out.cell (World.block_lt_of_cell? w _ hx381_1)).trans hx381_1
                          replace hx381_2 := (HB.out.cell (World.block_lt_of_cell? w _ hx381_2)).trans hx381_2
                          replace hx381_3 := (HB.out.cell (World.block_lt_of_cell? w _ hx381_3)).trans hx381_3
                          replace p381 := eq_true p381
                          replace q381 := eq_true q381
                          have hcz59_0 : wr.cell? ⟨gb378, 0, none⟩ = some (.int .i64 a1_0) := (blk_cell BK378.out 0).trans rfl
                          have hcz59_1 : wr.cell? ⟨gb378, 1, none⟩ = some (.string a1_1) := (blk_cell BK378.out 1).trans rfl
                          have hcz59_2 : wr.cell? ⟨gb378, 2, none⟩ = some (.int .i64 a1_2) := (blk_cell BK378.out 2).trans rfl
                          have hcz59_3 : wr.cell? ⟨gb378, 3, none⟩ = some (.int .i64 a1_3) := (blk_cell BK378.out 3).trans rfl
                          have hcz59_4 : wr.cell? ⟨gb378, 4, none⟩ = some (.string a1_4) := (blk_cell BK378.out 4).trans rfl
                          have hcz59_5 : wr.cell? ⟨gb378, 5, none⟩ = some (.int .i64 a1_5) := (blk_cell BK378.out 5).trans rfl
                          have hcz59_6 : wr.cell? ⟨gb378, 6, none⟩ = some (.slice A1_6 l1_6.length c1_6) := (blk_cell BK378.out 6).trans rfl
                          have hcz59_7 : wr.cell? ⟨gb378, 7, none⟩ = some (.slice A1_7 l1_7.length c1_7) := (blk_cell BK378.out 7).trans rfl
                          have hcz59_8 : wr.cell? ⟨gb378, 8, none⟩ = some (.int .i64 a1_8) := (blk_cell BK378.out 8).trans rfl
                          have hfz59_0 := blk_frozen BK378.out 0
                          have hfz59_1 := blk_frozen BK378.out 1
                          have hfz59_2 := blk_frozen BK378.out 2
                          have hfz59_3 := blk_frozen BK378.out 3
                          have hfz59_4 := blk_frozen BK378.out 4
                          have hfz59_5 := blk_frozen BK378.out 5
                          have hfz59_6 := blk_frozen BK378.out 6
                          have hfz59_7 := blk_frozen BK378.out 7
                          have hfz59_8 := blk_frozen BK378.out 8
                          have p382 : 0 ≤ (x6_3 : Int) := of_decide_eq_true (by first | (with_reducible assumption) | assumption)
                          have q382 : x6_3 < (l1_7.length : Int) := of_decide_eq_true (by first | (with_reducible assumption) | assumption)
                          obtain ⟨ad382, e382, hx382_0, hx382_1, hx382_2, hx382_3⟩ := at_T51 HR1_7.out x6_3 p382 q382
                          cases e382
                          replace hx382_0 := (HB.out.cell (World.block_lt_of_cell? w _ hx382_0)).trans hx382_0
                          replace hx382_1 := (HB.out.cell (World.block_lt_of_cell? w _ hx382_1)).trans hx382_1
                          replace hx382_2 := (HB.out.cell (World.block_lt_of_cell? w _ hx382_2)).trans hx382_2
                          replace hx382_3 := (HB.out.cell (World.block_lt_of_cell? w _ hx382_3)).trans hx382_3
                          replace p382 := eq_true p382
                          replace q382 := eq_true q382
                          go_wp2
                          repeat (go_quiet (fail); try go_wp2)
                          go_roundg k3
                          case measure => have := HJ2.out; have := HK2.out; have := HK3.out; omega
                          case rel => exact ⟨(wrap64 (x6_3 + 1)), (by first | rfl | (simp; done) | (simp [*]; done)), H', ⟨by have := HJ2.out; have := HK2.out; have := HK3.out; omega⟩, ⟨by (with_reducible repeat (first | refine blk_drewN ?_ _ | refine blk_drew ?_ | refine blk_alloc ?_ _)); exact BK377.out⟩, ⟨by (with_reducible repeat (first | refine blk_drewN ?_ _ | refine blk_drew ?_ | refine blk_alloc ?_ _)); exact BK378.out⟩, ⟨by repeat (first | (with_reducible first | exact HB.out | apply below_alloc | apply pw_below_drewN | apply below_drew1 | refine below_set ?_ GE377.out | refine below_set ?_ GE378.out) | exact HB.out)⟩⟩
                      · rw [if_neg c52] at H
                        exact absurd H (by simp)
                    · rw [if_neg c51] at H
                      exact absurd H (by simp)
                  · rw [if_neg c50] at H
                    have c50b0 : decide (x6_3 < (l0_7.length : Int)) = false := decide_eq_false c50
                    clear c50
                    obtain rfl := Option.some.inj H
                    have hnb60 := NB377_378.out
                    have hnc60 := NB378_377.out
                    have hcz61_0 : wr.cell? ⟨gb377, 0, none⟩ = some (.int .i64 a0_0) := (blk_cell BK377.out 0).trans rfl
                    have hcz61_1 : wr.cell? ⟨gb377, 1, none⟩ = some (.string a0_1) := (blk_cell BK377.out 1).trans rfl
                    have hcz61_2 : wr.cell? ⟨gb377, 2, none⟩ = some (.int .i64 a0_2) := (blk_cell BK377.out 2).trans rfl
                    have hcz61_3 : wr.cell? ⟨gb377, 3, none⟩ = some (.int .i64 a0_3) := (blk_cell BK377.out 3).trans rfl
                    have hcz61_4 : wr.cell? ⟨gb377, 4, none⟩ = some (.string a0_4) := (blk_cell BK377.out 4).trans rfl
                    have hcz61_5 : wr.cell? ⟨gb377, 5, none⟩ = some (.int .i64 a0_5) := (blk_cell BK377.out 5).trans rfl
                    have hcz61_6 : wr.cell? ⟨gb377, 6, none⟩ = some (.slice A0_6 l0_6.length c0_6) := (blk_cell BK377.out 6).trans rfl
                    have hcz61_7 : wr.cell? ⟨gb377, 7, none⟩ = some (.slice A0_7 l0_7.length c0_7) := (blk_cell BK377.out 7).trans rfl
                    have hcz61_8 : wr.cell? ⟨gb377, 8, none⟩ = some (.int .i64 a0_8) := (blk_cell BK377.out 8).trans rfl
                    have hfz61_0 := blk_frozen BK377.out 0
                    have hfz61_1 := blk_frozen BK377.out 1
                    have hfz61_2 := blk_frozen BK377.out 2
                    have hfz61_3 := blk_frozen BK377.out 3
                    have hfz61_4 := blk_frozen BK377.out 4
                    have hfz61_5 := blk_frozen BK377.out 5
                    have hfz61_6 := blk_frozen BK377.out 6
                    have hfz61_7 := blk_frozen BK377.out 7
                    have hfz61_8 := blk_frozen BK377.out 8
                    go_wp2
                    repeat (go_quiet (fail); try go_wp2)
                    go_ret
                    exact ⟨by first | rfl | (simp [errW_none, errW_some] <;> rfl) | (simp [*, errW_none, errW_some] <;> rfl), by repeat (first | (with_reducible first | exact HB.out | apply below_alloc | apply pw_below_drewN | apply below_drew1 | refine below_set ?_ GE377.out | refine below_set ?_ GE378.out) | exact HB.out)⟩

end Go.Proofs.Ytcjfgejiknlpfaa.PI
