/- Check of an event without an error. -/
import Derived.Test.YtcjfgejiknlpfaaGreatChk
namespace Go.Proofs.YtcjfgejiknlpfaaGreat.PI
open Go.RowKit Go.Proofs.YtcjfgejiknlpfaaGreatW.PrintWords Go.Proofs.YtcjfgejiknlpfaaGreatW.PrintLast Go.Proofs.YtcjfgejiknlpfaaGreatW.PrintMore Go.Proofs.YtcjfgejiknlpfaaGreat.Sep
set_option linter.unusedVariables false
set_option linter.unusedSimpArgs false
set_option maxHeartbeats 8000000
set_option maxRecDepth 100000

theorem e0_listF : e0.toList = [] := by
  unfold e0 ByteArray.toList ByteArray.toList.loop
  rfl
theorem z_listF : (z33.f0.toList == []) = true := by
  rw [show z33.f0 = e0 from rfl, e0_listF]
  rfl
/-- An event without an error. -/
def Fine (e : S50) : Prop := keyE e.f0.f0 e.f0.f1 = 0 ∧ (0 ≤ e.f1 ∧ e.f1 ≤ 1099511627776) ∧ (1 ≤ e.f2 ∧ e.f2 ≤ 9) ∧
  ((saysK e.f2 = true ∧ aimsK e.f2 = false ∧ givesK e.f2 = false ∧ e.f3 = z33 ∧ e.f4 = e0 ∧ e.f5 = 0 ∧ ¬ e.f6 = e0 ∧ e.f6.size ≤ 4096 ∧ e.f6.data.toList.all okB = true) ∨
   (saysK e.f2 = false ∧ aimsK e.f2 = true ∧ givesK e.f2 = false ∧ e.f6 = e0 ∧ e.f4 = e0 ∧ e.f5 = 0 ∧ keyE e.f3.f0 e.f3.f1 = 0) ∨
   (saysK e.f2 = false ∧ aimsK e.f2 = false ∧ givesK e.f2 = true ∧ e.f6 = e0 ∧ e.f3 = z33 ∧ isN e.f4 = true ∧ 1 ≤ e.f5 ∧ e.f5 ≤ 3) ∨
   (saysK e.f2 = false ∧ aimsK e.f2 = false ∧ givesK e.f2 = false ∧ e.f6 = e0 ∧ e.f3 = z33 ∧ e.f4 = e0 ∧ e.f5 = 0))
theorem check_fine (e : S50) (hf : Fine e) (w : World) : Calls Tryz.prog 26 #[.agg #[.string e.f0.f0, .int .i64 e.f0.f1, .int .i64 e.f1, .int .i64 e.f2, .string e.f3.f0, .int .i64 e.f3.f1, .string e.f4, .int .i64 e.f5, .string e.f6]] w fun r w' => r = .returned (.int .i64 0) ∧ Below w.heap.size w w' := by
  obtain ⟨c0, ⟨c1, c2⟩, ⟨c3, c4⟩, hor⟩ := hf
  replace hor := Aside0.mk hor
  have HS := Aside0.mk (St.none_ (N := w.heap.size) (w := w) (Nat.le_refl _))
  have HB := Aside0.mk (Below.refl w.heap.size w)
  go_enter Tryz.func26, Tryz.ntmps26
  go_upto_region 1 with (fail)
  have hbx := HS.out.box (g := w.heap.size) (cs := #[.string e.f0.f0, .int .i64 e.f0.f1, .int .i64 e.f1, .int .i64 e.f2, .string e.f3.f0, .int .i64 e.f3.f1, .string e.f4, .int .i64 e.f5, .string e.f6]) (t := 50) rfl (new_cells w _ _) ((Below.refl _ _).alloc (Nat.le_refl _) _)
  have hbb := below_step' HB.out HS.out.size ((Below.refl _ _).alloc (Nat.le_refl _) (.cells #[.string e.f0.f0, .int .i64 e.f0.f1, .int .i64 e.f1, .int .i64 e.f2, .string e.f3.f0, .int .i64 e.f3.f1, .string e.f4, .int .i64 e.f5, .string e.f6] 50))
  generalize w.alloc (.cells #[.string e.f0.f0, .int .i64 e.f0.f1, .int .i64 e.f1, .int .i64 e.f2, .string e.f3.f0, .int .i64 e.f3.f1, .string e.f4, .int .i64 e.f5, .string e.f6] 50) = w1 at hbx hbb ⊢
  have n0_ := Aside0.mk (hbx); have n1_ := Aside0.mk (hbb); clear HS HB; have HS := n0_; have HB := n1_; clear n0_ n1_; (try simp only [List.eraseIdx_cons_succ, List.eraseIdx_cons_zero] at HS)
  clear hbx hbb
  have y0 : w1.cell? ⟨w.heap.size, 0, none⟩ = some (.string e.f0.f0) := (HS.out.cell 0).trans rfl; have y1 : w1.cell? ⟨w.heap.size, 1, none⟩ = some (.int .i64 e.f0.f1) := (HS.out.cell 1).trans rfl; have y2 : w1.cell? ⟨w.heap.size, 2, none⟩ = some (.int .i64 e.f1) := (HS.out.cell 2).trans rfl; have y3 : w1.cell? ⟨w.heap.size, 3, none⟩ = some (.int .i64 e.f2) := (HS.out.cell 3).trans rfl; have y4 : w1.cell? ⟨w.heap.size, 4, none⟩ = some (.string e.f3.f0) := (HS.out.cell 4).trans rfl; have y5 : w1.cell? ⟨w.heap.size, 5, none⟩ = some (.int .i64 e.f3.f1) := (HS.out.cell 5).trans rfl; have y6 : w1.cell? ⟨w.heap.size, 6, none⟩ = some (.string e.f4) := (HS.out.cell 6).trans rfl; have y7 : w1.cell? ⟨w.heap.size, 7, none⟩ = some (.int .i64 e.f5) := (HS.out.cell 7).trans rfl; have y8 : w1.cell? ⟨w.heap.size, 8, none⟩ = some (.string e.f6) := (HS.out.cell 8).trans rfl
  go_upto_region 2 with (first | (go_at_call 45; (with_reducible refine (incident_checkKey.calls 100 e.f0.f0 e.f0.f1 _ _ (key_ok e.f0.f0 e.f0.f1)).mono ?_); rintro r_ w2 ⟨rfl, hb0⟩; have hb := hb0; clear hb0; clear y0 y1 y2 y3 y4 y5 y6 y7 y8; have n0_ := Aside0.mk (HS.out.step hb); have n1_ := Aside0.mk (below_step' HB.out HS.out.size hb); clear HS HB; have HS := n0_; have HB := n1_; clear n0_ n1_; (try simp only [List.eraseIdx_cons_succ, List.eraseIdx_cons_zero] at HS); clear hb; have y0 : w2.cell? ⟨w.heap.size, 0, none⟩ = some (.string e.f0.f0) := (HS.out.cell 0).trans rfl; have y1 : w2.cell? ⟨w.heap.size, 1, none⟩ = some (.int .i64 e.f0.f1) := (HS.out.cell 1).trans rfl; have y2 : w2.cell? ⟨w.heap.size, 2, none⟩ = some (.int .i64 e.f1) := (HS.out.cell 2).trans rfl; have y3 : w2.cell? ⟨w.heap.size, 3, none⟩ = some (.int .i64 e.f2) := (HS.out.cell 3).trans rfl; have y4 : w2.cell? ⟨w.heap.size, 4, none⟩ = some (.string e.f3.f0) := (HS.out.cell 4).trans rfl; have y5 : w2.cell? ⟨w.heap.size, 5, none⟩ = some (.int .i64 e.f3.f1) := (HS.out.cell 5).trans rfl; have y6 : w2.cell? ⟨w.heap.size, 6, none⟩ = some (.string e.f4) := (HS.out.cell 6).trans rfl; have y7 : w2.cell? ⟨w.heap.size, 7, none⟩ = some (.int .i64 e.f5) := (HS.out.cell 7).trans rfl; have y8 : w2.cell? ⟨w.heap.size, 8, none⟩ = some (.string e.f6) := (HS.out.cell 8).trans rfl))
  have qc0 : (keyE e.f0.f0 e.f0.f1 != 0) = false := (by rw [c0]; rfl)
  have qc1 : decide (e.f1 < 0) = false := decide_eq_false (by omega)
  have qc2 : decide (1099511627776 < e.f1) = false := decide_eq_false (by omega)
  have qc3 : decide (e.f2 < 1) = false := decide_eq_false (by omega)
  have qc4 : decide (9 < e.f2) = false := decide_eq_false (by omega)
  replace c0 := Aside0.mk c0
  go_upto_region 5 with (first | (go_at_call 46; (with_reducible refine (incident_has.calls 5 e.f2 _ _ _ _ (has_ok e.f2)).mono ?_); rintro r_ w3 ⟨rfl, hb0⟩; have hb := hb0.below; clear hb0; clear y0 y1 y2 y3 y4 y5 y6 y7 y8; have n0_ := Aside0.mk (HS.out.step hb); have n1_ := Aside0.mk (below_step' HB.out HS.out.size hb); clear HS HB; have HS := n0_; have HB := n1_; clear n0_ n1_; (try simp only [List.eraseIdx_cons_succ, List.eraseIdx_cons_zero] at HS); clear hb; have y0 : w3.cell? ⟨w.heap.size, 0, none⟩ = some (.string e.f0.f0) := (HS.out.cell 0).trans rfl; have y1 : w3.cell? ⟨w.heap.size, 1, none⟩ = some (.int .i64 e.f0.f1) := (HS.out.cell 1).trans rfl; have y2 : w3.cell? ⟨w.heap.size, 2, none⟩ = some (.int .i64 e.f1) := (HS.out.cell 2).trans rfl; have y3 : w3.cell? ⟨w.heap.size, 3, none⟩ = some (.int .i64 e.f2) := (HS.out.cell 3).trans rfl; have y4 : w3.cell? ⟨w.heap.size, 4, none⟩ = some (.string e.f3.f0) := (HS.out.cell 4).trans rfl; have y5 : w3.cell? ⟨w.heap.size, 5, none⟩ = some (.int .i64 e.f3.f1) := (HS.out.cell 5).trans rfl; have y6 : w3.cell? ⟨w.heap.size, 6, none⟩ = some (.string e.f4) := (HS.out.cell 6).trans rfl; have y7 : w3.cell? ⟨w.heap.size, 7, none⟩ = some (.int .i64 e.f5) := (HS.out.cell 7).trans rfl; have y8 : w3.cell? ⟨w.heap.size, 8, none⟩ = some (.string e.f6) := (HS.out.cell 8).trans rfl))
  rcases hor.out with ⟨ks, ka, kg, t2, t3, t4, u1, u2, qu3⟩ | ⟨ks, ka, kg, t1, t3, t4, k3⟩ | ⟨ks, ka, kg, t1, t2, qu1, u2, u3⟩ | ⟨ks, ka, kg, t1, t2, t3, t4⟩
  · have ls := ks
    have la := ka
    have lg := kg
    replace ks := Aside0.mk ks
    replace ka := Aside0.mk ka
    replace kg := Aside0.mk kg
    replace t2 := Aside0.mk t2
    replace t3 := Aside0.mk t3
    replace t4 := Aside0.mk t4
    replace u1 := Aside0.mk u1
    have qu2 : decide ((4096 : Int) < (e.f6.size : Int)) = false := decide_eq_false (by omega)
    have qt2 : (e.f3.f0.toList == []) = true := (by rw [t2.out]; exact z_listF)
    have rt2 : (e.f3.f1 == 0) = true := (by rw [t2.out]; rfl)
    have qt3 : (e.f4.toList == []) = true := (by rw [t3.out, e0_listF]; rfl)
    have rt3 : (e.f4.toList != []) = false := (by rw [t3.out, e0_listF]; rfl)
    have st3 : decide (e.f4.toList = []) = true := (by rw [t3.out, e0_listF]; rfl)
    have qt4 : (e.f5 == 0) = true := (by rw [t4.out]; rfl)
    have rt4 : (e.f5 != 0) = false := (by rw [t4.out]; rfl)
    have mu1 : ¬ e.f6.toList = [] := fun h => u1.out (bytes_ext _ _ (h.trans e0_listF.symm))
    have qu1 : (e.f6.toList == []) = false := (by simpa using mu1)
    have ru1 : (e.f6.toList != []) = true := (by simpa using mu1)
    have su1 : decide (e.f6.toList = []) = false := decide_eq_false mu1
    clear mu1
    rw [ls, la, lg]
    go_wp2_with (first | (go_at_call 47; (with_reducible refine (contains_ok e.f6 _).mono ?_); rintro r_ w4 ⟨rfl, hb0⟩; have hb := hb0; clear hb0; clear y0 y1 y2 y3 y4 y5 y6 y7 y8; have n0_ := Aside0.mk (HS.out.step hb); have n1_ := Aside0.mk (below_step' HB.out HS.out.size hb); clear HS HB; have HS := n0_; have HB := n1_; clear n0_ n1_; (try simp only [List.eraseIdx_cons_succ, List.eraseIdx_cons_zero] at HS); clear hb; have y0 : w4.cell? ⟨w.heap.size, 0, none⟩ = some (.string e.f0.f0) := (HS.out.cell 0).trans rfl; have y1 : w4.cell? ⟨w.heap.size, 1, none⟩ = some (.int .i64 e.f0.f1) := (HS.out.cell 1).trans rfl; have y2 : w4.cell? ⟨w.heap.size, 2, none⟩ = some (.int .i64 e.f1) := (HS.out.cell 2).trans rfl; have y3 : w4.cell? ⟨w.heap.size, 3, none⟩ = some (.int .i64 e.f2) := (HS.out.cell 3).trans rfl; have y4 : w4.cell? ⟨w.heap.size, 4, none⟩ = some (.string e.f3.f0) := (HS.out.cell 4).trans rfl; have y5 : w4.cell? ⟨w.heap.size, 5, none⟩ = some (.int .i64 e.f3.f1) := (HS.out.cell 5).trans rfl; have y6 : w4.cell? ⟨w.heap.size, 6, none⟩ = some (.string e.f4) := (HS.out.cell 6).trans rfl; have y7 : w4.cell? ⟨w.heap.size, 7, none⟩ = some (.int .i64 e.f5) := (HS.out.cell 7).trans rfl; have y8 : w4.cell? ⟨w.heap.size, 8, none⟩ = some (.string e.f6) := (HS.out.cell 8).trans rfl))
    go_ret
    exact ⟨rfl, HB.out⟩
  · have ls := ks
    have la := ka
    have lg := kg
    replace ks := Aside0.mk ks
    replace ka := Aside0.mk ka
    replace kg := Aside0.mk kg
    replace t1 := Aside0.mk t1
    replace t3 := Aside0.mk t3
    replace t4 := Aside0.mk t4
    replace k3 := Aside0.mk k3
    have qt1 : (e.f6.toList == []) = true := (by rw [t1.out, e0_listF]; rfl)
    have rt1 : (e.f6.toList != []) = false := (by rw [t1.out, e0_listF]; rfl)
    have st1 : decide (e.f6.toList = []) = true := (by rw [t1.out, e0_listF]; rfl)
    have qt3 : (e.f4.toList == []) = true := (by rw [t3.out, e0_listF]; rfl)
    have rt3 : (e.f4.toList != []) = false := (by rw [t3.out, e0_listF]; rfl)
    have st3 : decide (e.f4.toList = []) = true := (by rw [t3.out, e0_listF]; rfl)
    have qt4 : (e.f5 == 0) = true := (by rw [t4.out]; rfl)
    have rt4 : (e.f5 != 0) = false := (by rw [t4.out]; rfl)
    rw [ls, la, lg]
    go_wp2_with (first | (go_at_call 45; (with_reducible refine (incident_checkKey.calls 100 e.f3.f0 e.f3.f1 _ _ (key_ok e.f3.f0 e.f3.f1)).mono ?_); rintro r_ w5 ⟨rfl, hb0⟩; have hb := hb0; clear hb0; clear y0 y1 y2 y3 y4 y5 y6 y7 y8; have n0_ := Aside0.mk (HS.out.step hb); have n1_ := Aside0.mk (below_step' HB.out HS.out.size hb); clear HS HB; have HS := n0_; have HB := n1_; clear n0_ n1_; (try simp only [List.eraseIdx_cons_succ, List.eraseIdx_cons_zero] at HS); clear hb; have y0 : w5.cell? ⟨w.heap.size, 0, none⟩ = some (.string e.f0.f0) := (HS.out.cell 0).trans rfl; have y1 : w5.cell? ⟨w.heap.size, 1, none⟩ = some (.int .i64 e.f0.f1) := (HS.out.cell 1).trans rfl; have y2 : w5.cell? ⟨w.heap.size, 2, none⟩ = some (.int .i64 e.f1) := (HS.out.cell 2).trans rfl; have y3 : w5.cell? ⟨w.heap.size, 3, none⟩ = some (.int .i64 e.f2) := (HS.out.cell 3).trans rfl; have y4 : w5.cell? ⟨w.heap.size, 4, none⟩ = some (.string e.f3.f0) := (HS.out.cell 4).trans rfl; have y5 : w5.cell? ⟨w.heap.size, 5, none⟩ = some (.int .i64 e.f3.f1) := (HS.out.cell 5).trans rfl; have y6 : w5.cell? ⟨w.heap.size, 6, none⟩ = some (.string e.f4) := (HS.out.cell 6).trans rfl; have y7 : w5.cell? ⟨w.heap.size, 7, none⟩ = some (.int .i64 e.f5) := (HS.out.cell 7).trans rfl; have y8 : w5.cell? ⟨w.heap.size, 8, none⟩ = some (.string e.f6) := (HS.out.cell 8).trans rfl))
    go_ret
    exact ⟨congrArg (fun z => Ending.returned (Value.int .i64 z)) k3.out, HB.out⟩
  · have ls := ks
    have la := ka
    have lg := kg
    replace ks := Aside0.mk ks
    replace ka := Aside0.mk ka
    replace kg := Aside0.mk kg
    replace t1 := Aside0.mk t1
    replace t2 := Aside0.mk t2
    have qt1 : (e.f6.toList == []) = true := (by rw [t1.out, e0_listF]; rfl)
    have rt1 : (e.f6.toList != []) = false := (by rw [t1.out, e0_listF]; rfl)
    have st1 : decide (e.f6.toList = []) = true := (by rw [t1.out, e0_listF]; rfl)
    have qt2 : (e.f3.f0.toList == []) = true := (by rw [t2.out]; exact z_listF)
    have rt2 : (e.f3.f1 == 0) = true := (by rw [t2.out]; rfl)
    have qu2 : decide (e.f5 < 1) = false := decide_eq_false (by omega)
    have qu3 : decide (3 < e.f5) = false := decide_eq_false (by omega)
    rw [ls, la, lg]
    go_wp2_with (first | (go_at_call 37; (with_reducible refine (attribute_IsName.calls 100 e.f4 _ _ (isN_ok e.f4)).mono ?_); rintro r_ w4 ⟨rfl, hb0⟩; have hb := hb0.below; clear hb0; clear y0 y1 y2 y3 y4 y5 y6 y7 y8; have n0_ := Aside0.mk (HS.out.step hb); have n1_ := Aside0.mk (below_step' HB.out HS.out.size hb); clear HS HB; have HS := n0_; have HB := n1_; clear n0_ n1_; (try simp only [List.eraseIdx_cons_succ, List.eraseIdx_cons_zero] at HS); clear hb; have y0 : w4.cell? ⟨w.heap.size, 0, none⟩ = some (.string e.f0.f0) := (HS.out.cell 0).trans rfl; have y1 : w4.cell? ⟨w.heap.size, 1, none⟩ = some (.int .i64 e.f0.f1) := (HS.out.cell 1).trans rfl; have y2 : w4.cell? ⟨w.heap.size, 2, none⟩ = some (.int .i64 e.f1) := (HS.out.cell 2).trans rfl; have y3 : w4.cell? ⟨w.heap.size, 3, none⟩ = some (.int .i64 e.f2) := (HS.out.cell 3).trans rfl; have y4 : w4.cell? ⟨w.heap.size, 4, none⟩ = some (.string e.f3.f0) := (HS.out.cell 4).trans rfl; have y5 : w4.cell? ⟨w.heap.size, 5, none⟩ = some (.int .i64 e.f3.f1) := (HS.out.cell 5).trans rfl; have y6 : w4.cell? ⟨w.heap.size, 6, none⟩ = some (.string e.f4) := (HS.out.cell 6).trans rfl; have y7 : w4.cell? ⟨w.heap.size, 7, none⟩ = some (.int .i64 e.f5) := (HS.out.cell 7).trans rfl; have y8 : w4.cell? ⟨w.heap.size, 8, none⟩ = some (.string e.f6) := (HS.out.cell 8).trans rfl))
    go_ret
    exact ⟨rfl, HB.out⟩
  · have ls := ks
    have la := ka
    have lg := kg
    replace ks := Aside0.mk ks
    replace ka := Aside0.mk ka
    replace kg := Aside0.mk kg
    replace t1 := Aside0.mk t1
    replace t2 := Aside0.mk t2
    replace t3 := Aside0.mk t3
    replace t4 := Aside0.mk t4
    have qt1 : (e.f6.toList == []) = true := (by rw [t1.out, e0_listF]; rfl)
    have rt1 : (e.f6.toList != []) = false := (by rw [t1.out, e0_listF]; rfl)
    have st1 : decide (e.f6.toList = []) = true := (by rw [t1.out, e0_listF]; rfl)
    have qt2 : (e.f3.f0.toList == []) = true := (by rw [t2.out]; exact z_listF)
    have rt2 : (e.f3.f1 == 0) = true := (by rw [t2.out]; rfl)
    have qt3 : (e.f4.toList == []) = true := (by rw [t3.out, e0_listF]; rfl)
    have rt3 : (e.f4.toList != []) = false := (by rw [t3.out, e0_listF]; rfl)
    have st3 : decide (e.f4.toList = []) = true := (by rw [t3.out, e0_listF]; rfl)
    have qt4 : (e.f5 == 0) = true := (by rw [t4.out]; rfl)
    have rt4 : (e.f5 != 0) = false := (by rw [t4.out]; rfl)
    rw [ls, la, lg]
    go_wp2_with (first | fail)
    go_ret
    exact ⟨rfl, HB.out⟩

end Go.Proofs.YtcjfgejiknlpfaaGreat.PI
