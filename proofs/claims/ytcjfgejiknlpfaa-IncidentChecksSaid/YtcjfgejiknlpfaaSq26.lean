/- The law IncidentChecks walked. -/
import Derived.Test.YtcjfgejiknlpfaaSq25
import Derived.Test.YtcjfgejiknlpfaaSq16
namespace Go.Proofs.Ytcjfgejiknlpfaa.PI
open Go.RowKit Go.Proofs.YtcjfgejiknlpfaaW.PrintWords Go.Proofs.YtcjfgejiknlpfaaW.PrintLast Go.Proofs.YtcjfgejiknlpfaaW.PrintMore Go.Proofs.Ytcjfgejiknlpfaa.Sep
set_option linter.unusedVariables false
set_option linter.unusedSimpArgs false
set_option maxHeartbeats 8000000
set_option maxRecDepth 100000

def chs.T3 : Bool × List (List Nat × List Nat) := (true, [([], []), ([0], [0]), ([], []), ([2, 1], [2]), ([1, 3], [1, 3]), ([4, 3, 0, 1, 2, 3, 4], [4])])
def chs.B3 : List Nat := [0, 1, 0, 7, 15, 31]
theorem chs.tab3 : rtab .any (opsOf Try.f8 3) = chs.T3 := by kernel_rfl
theorem chs.bits3 : waitsOk chs.T3.2 chs.B3 = true := by kernel_rfl
theorem checks_walk (e : S27) (w : World) : Calls Try.prog 8 #[.agg #[.string e.f0.f0, .int .i64 e.f0.f1, .int .i64 e.f1, .int .i64 e.f2, .string e.f3.f0, .int .i64 e.f3.f1, .string e.f4, .int .i64 e.f5, .string e.f6]] w fun r w' => r = .returned (.bool true) ∧ Below w.heap.size w w' := by
  have HS := Aside0.mk (St.none_ (N := w.heap.size) (w := w) (Nat.le_refl _))
  have HB := Aside0.mk (Below.refl w.heap.size w)
  go_enter Try.func8, Try.ntmps8
  go_upto_region 1 with (fail)
  have hbx := HS.out.box (g := w.heap.size) (cs := #[.string e.f0.f0, .int .i64 e.f0.f1, .int .i64 e.f1, .int .i64 e.f2, .string e.f3.f0, .int .i64 e.f3.f1, .string e.f4, .int .i64 e.f5, .string e.f6]) (t := 27) rfl (new_cells w _ _) ((Below.refl _ _).alloc (Nat.le_refl _) _)
  have hbb := below_step' HB.out HS.out.size ((Below.refl _ _).alloc (Nat.le_refl _) (.cells #[.string e.f0.f0, .int .i64 e.f0.f1, .int .i64 e.f1, .int .i64 e.f2, .string e.f3.f0, .int .i64 e.f3.f1, .string e.f4, .int .i64 e.f5, .string e.f6] 27))
  generalize w.alloc (.cells #[.string e.f0.f0, .int .i64 e.f0.f1, .int .i64 e.f1, .int .i64 e.f2, .string e.f3.f0, .int .i64 e.f3.f1, .string e.f4, .int .i64 e.f5, .string e.f6] 27) = w1 at hbx hbb ⊢
  have n0_ := Aside0.mk (hbx); have n1_ := Aside0.mk (hbb); clear HS HB; have HS := n0_; have HB := n1_; clear n0_ n1_; (try simp only [List.eraseIdx_cons_succ, List.eraseIdx_cons_zero] at HS)
  clear hbx hbb
  have y0 : w1.cell? ⟨w.heap.size, 0, none⟩ = some (.string e.f0.f0) := (HS.out.cell 0).trans rfl; have y1 : w1.cell? ⟨w.heap.size, 1, none⟩ = some (.int .i64 e.f0.f1) := (HS.out.cell 1).trans rfl; have y2 : w1.cell? ⟨w.heap.size, 2, none⟩ = some (.int .i64 e.f1) := (HS.out.cell 2).trans rfl; have y3 : w1.cell? ⟨w.heap.size, 3, none⟩ = some (.int .i64 e.f2) := (HS.out.cell 3).trans rfl; have y4 : w1.cell? ⟨w.heap.size, 4, none⟩ = some (.string e.f3.f0) := (HS.out.cell 4).trans rfl; have y5 : w1.cell? ⟨w.heap.size, 5, none⟩ = some (.int .i64 e.f3.f1) := (HS.out.cell 5).trans rfl; have y6 : w1.cell? ⟨w.heap.size, 6, none⟩ = some (.string e.f4) := (HS.out.cell 6).trans rfl; have y7 : w1.cell? ⟨w.heap.size, 7, none⟩ = some (.int .i64 e.f5) := (HS.out.cell 7).trans rfl; have y8 : w1.cell? ⟨w.heap.size, 8, none⟩ = some (.string e.f6) := (HS.out.cell 8).trans rfl
  by_cases c1 : (5000 : Int) < (e.f6.size : Int)
  · have q1 : decide ((5000 : Int) < (e.f6.size : Int)) = true := decide_eq_true c1
    replace c1 := Aside0.mk c1
    go_upto_region 2 with (first | (go_at_call 13; (with_reducible refine (known_ok _).mono ?_); rintro r_ w2 ⟨rfl, hb⟩; clear y0 y1 y2 y3 y4 y5 y6 y7 y8; have n0_ := Aside0.mk (HS.out.step hb); have n1_ := Aside0.mk (below_step' HB.out HS.out.size hb); clear HS HB; have HS := n0_; have HB := n1_; clear n0_ n1_; (try simp only [List.eraseIdx_cons_succ, List.eraseIdx_cons_zero] at HS); clear hb; have y0 : w2.cell? ⟨w.heap.size, 0, none⟩ = some (.string e.f0.f0) := (HS.out.cell 0).trans rfl; have y1 : w2.cell? ⟨w.heap.size, 1, none⟩ = some (.int .i64 e.f0.f1) := (HS.out.cell 1).trans rfl; have y2 : w2.cell? ⟨w.heap.size, 2, none⟩ = some (.int .i64 e.f1) := (HS.out.cell 2).trans rfl; have y3 : w2.cell? ⟨w.heap.size, 3, none⟩ = some (.int .i64 e.f2) := (HS.out.cell 3).trans rfl; have y4 : w2.cell? ⟨w.heap.size, 4, none⟩ = some (.string e.f3.f0) := (HS.out.cell 4).trans rfl; have y5 : w2.cell? ⟨w.heap.size, 5, none⟩ = some (.int .i64 e.f3.f1) := (HS.out.cell 5).trans rfl; have y6 : w2.cell? ⟨w.heap.size, 6, none⟩ = some (.string e.f4) := (HS.out.cell 6).trans rfl; have y7 : w2.cell? ⟨w.heap.size, 7, none⟩ = some (.int .i64 e.f5) := (HS.out.cell 7).trans rfl; have y8 : w2.cell? ⟨w.heap.size, 8, none⟩ = some (.string e.f6) := (HS.out.cell 8).trans rfl))
    go_wp2_with (first | (go_at_call 13; (with_reducible refine (known_ok _).mono ?_); rintro r_ w3 ⟨rfl, hb⟩; clear y0 y1 y2 y3 y4 y5 y6 y7 y8; have n0_ := Aside0.mk (HS.out.step hb); have n1_ := Aside0.mk (below_step' HB.out HS.out.size hb); clear HS HB; have HS := n0_; have HB := n1_; clear n0_ n1_; (try simp only [List.eraseIdx_cons_succ, List.eraseIdx_cons_zero] at HS); clear hb; have y0 : w3.cell? ⟨w.heap.size, 0, none⟩ = some (.string e.f0.f0) := (HS.out.cell 0).trans rfl; have y1 : w3.cell? ⟨w.heap.size, 1, none⟩ = some (.int .i64 e.f0.f1) := (HS.out.cell 1).trans rfl; have y2 : w3.cell? ⟨w.heap.size, 2, none⟩ = some (.int .i64 e.f1) := (HS.out.cell 2).trans rfl; have y3 : w3.cell? ⟨w.heap.size, 3, none⟩ = some (.int .i64 e.f2) := (HS.out.cell 3).trans rfl; have y4 : w3.cell? ⟨w.heap.size, 4, none⟩ = some (.string e.f3.f0) := (HS.out.cell 4).trans rfl; have y5 : w3.cell? ⟨w.heap.size, 5, none⟩ = some (.int .i64 e.f3.f1) := (HS.out.cell 5).trans rfl; have y6 : w3.cell? ⟨w.heap.size, 6, none⟩ = some (.string e.f4) := (HS.out.cell 6).trans rfl; have y7 : w3.cell? ⟨w.heap.size, 7, none⟩ = some (.int .i64 e.f5) := (HS.out.cell 7).trans rfl; have y8 : w3.cell? ⟨w.heap.size, 8, none⟩ = some (.string e.f6) := (HS.out.cell 8).trans rfl))
    go_ret
    exact ⟨rfl, HB.out⟩
  · have q1 : decide ((5000 : Int) < (e.f6.size : Int)) = false := decide_eq_false c1
    replace c1 := Aside0.mk c1
    go_upto_region 3 with (first | (go_at_call 13; (with_reducible refine (known_ok _).mono ?_); rintro r_ w2 ⟨rfl, hb⟩; clear y0 y1 y2 y3 y4 y5 y6 y7 y8; have n0_ := Aside0.mk (HS.out.step hb); have n1_ := Aside0.mk (below_step' HB.out HS.out.size hb); clear HS HB; have HS := n0_; have HB := n1_; clear n0_ n1_; (try simp only [List.eraseIdx_cons_succ, List.eraseIdx_cons_zero] at HS); clear hb; have y0 : w2.cell? ⟨w.heap.size, 0, none⟩ = some (.string e.f0.f0) := (HS.out.cell 0).trans rfl; have y1 : w2.cell? ⟨w.heap.size, 1, none⟩ = some (.int .i64 e.f0.f1) := (HS.out.cell 1).trans rfl; have y2 : w2.cell? ⟨w.heap.size, 2, none⟩ = some (.int .i64 e.f1) := (HS.out.cell 2).trans rfl; have y3 : w2.cell? ⟨w.heap.size, 3, none⟩ = some (.int .i64 e.f2) := (HS.out.cell 3).trans rfl; have y4 : w2.cell? ⟨w.heap.size, 4, none⟩ = some (.string e.f3.f0) := (HS.out.cell 4).trans rfl; have y5 : w2.cell? ⟨w.heap.size, 5, none⟩ = some (.int .i64 e.f3.f1) := (HS.out.cell 5).trans rfl; have y6 : w2.cell? ⟨w.heap.size, 6, none⟩ = some (.string e.f4) := (HS.out.cell 6).trans rfl; have y7 : w2.cell? ⟨w.heap.size, 7, none⟩ = some (.int .i64 e.f5) := (HS.out.cell 7).trans rfl; have y8 : w2.cell? ⟨w.heap.size, 8, none⟩ = some (.string e.f6) := (HS.out.cell 8).trans rfl))
    clear y0 y1 y2 y3 y4 y5 y6 y7 y8
    have nb : (errE e == errE e) = true := by simp
    have n0_ := Aside0.mk (HS.out.drew); have n1_ := Aside0.mk (HB.out.drew); clear HS HB; have HS := n0_; have HB := n1_; clear n0_ n1_
    refine start_ (n := 6) (S := fun w' => w'.cell? ⟨w.heap.size, 0, none⟩ = some (.string e.f0.f0) ∧ w'.cell? ⟨w.heap.size, 1, none⟩ = some (.int .i64 e.f0.f1) ∧ w'.cell? ⟨w.heap.size, 2, none⟩ = some (.int .i64 e.f1) ∧ w'.cell? ⟨w.heap.size, 3, none⟩ = some (.int .i64 e.f2) ∧ w'.cell? ⟨w.heap.size, 4, none⟩ = some (.string e.f3.f0) ∧ w'.cell? ⟨w.heap.size, 5, none⟩ = some (.int .i64 e.f3.f1) ∧ w'.cell? ⟨w.heap.size, 6, none⟩ = some (.string e.f4) ∧ w'.cell? ⟨w.heap.size, 7, none⟩ = some (.int .i64 e.f5) ∧ w'.cell? ⟨w.heap.size, 8, none⟩ = some (.string e.f6)) (ds := []) #[false, false, false, false, false, false] (by kernel_rfl) rfl rfl ⟨(HS.out.cell 0).trans rfl, (HS.out.cell 1).trans rfl, (HS.out.cell 2).trans rfl, (HS.out.cell 3).trans rfl, (HS.out.cell 4).trans rfl, (HS.out.cell 5).trans rfl, (HS.out.cell 6).trans rfl, (HS.out.cell 7).trans rfl, (HS.out.cell 8).trans rfl⟩ (fun hHeld => ?_); refine with_tabW chs.tab3 chs.bits3 (fun HT_ HW_ => ?_)
    generalize w2.drew = w6 at HS HB hHeld ⊢
    refine tK 0 12 #[true, false, false, false, false, false] rfl rfl HT_ HW_ hHeld ?_ (by rintro w' ⟨s0, s1, s2, s3, s4, s5, s6, s7, s8⟩; go_simp; with_reducible rfl)
    refine tK 2 14 #[true, false, true, false, false, false] rfl rfl HT_ HW_ hHeld ?_ (by rintro w' ⟨s0, s1, s2, s3, s4, s5, s6, s7, s8⟩; go_simp; with_reducible rfl)
    refine one_ (i := 1) (N := some 13) #[true, true, true, false, false, false] rfl rfl (one_of HT_.out (by kernel_rfl)) (by decide) (fun K hK => ?_)
    refine goes_ Try.func24 (by kernel_rfl) rfl #[.agg #[.string e.f0.f0, .int .i64 e.f0.f1, .int .i64 e.f1, .int .i64 e.f2, .string e.f3.f0, .int .i64 e.f3.f1, .string e.f4, .int .i64 e.f5, .string e.f6]] (by rfl) rfl rfl (by (try simp only [List.map_toArray, List.map_cons, List.map_nil]); first | done | rfl | (simp only [List.length_drop, List.length_take]; rfl)) ?_
    with_reducible refine (check_ok e _).mono ?_
    rintro r_ w4 ⟨rfl, hb⟩
    refine ⟨_, rfl, ?_⟩
    have n0_ := Aside0.mk (HS.out.step hb); have n1_ := Aside0.mk (below_step' HB.out HS.out.size hb); clear HS HB; have HS := n0_; have HB := n1_; clear n0_ n1_; (try simp only [List.eraseIdx_cons_succ, List.eraseIdx_cons_zero] at HS)
    clear hb
    refine hK.out _ _ ⟨(HS.out.cell 0).trans rfl, (HS.out.cell 1).trans rfl, (HS.out.cell 2).trans rfl, (HS.out.cell 3).trans rfl, (HS.out.cell 4).trans rfl, (HS.out.cell 5).trans rfl, (HS.out.cell 6).trans rfl, (HS.out.cell 7).trans rfl, (HS.out.cell 8).trans rfl⟩ (fun hHeld => ?_)
    clear hK K
    refine norm_ (a' := ?_) ?_ ?_
    rotate_left
    · show Act.put _ (some 13) _ = _
      simp only [Act.put, List.setIfInBounds_toArray, List.set_cons_zero, List.set_cons_succ, i64_w, i32_w]
      rfl
    refine one_ (i := 3) (N := some 15) #[true, true, true, true, false, false] rfl rfl (one_of HT_.out (by kernel_rfl)) (by decide) (fun K hK => ?_)
    refine goes_ Try.func25 (by kernel_rfl) rfl #[.agg #[.string e.f0.f0, .int .i64 e.f0.f1, .int .i64 e.f1, .int .i64 e.f2, .string e.f3.f0, .int .i64 e.f3.f1, .string e.f4, .int .i64 e.f5, .string e.f6]] (by rfl) rfl rfl (by (try simp only [List.map_toArray, List.map_cons, List.map_nil]); first | done | rfl | (simp only [List.length_drop, List.length_take]; rfl)) ?_
    with_reducible refine (model_ok e _).mono ?_
    rintro r_ w5 ⟨rfl, hb⟩
    refine ⟨_, rfl, ?_⟩
    have n0_ := Aside0.mk (HS.out.step hb); have n1_ := Aside0.mk (below_step' HB.out HS.out.size hb); clear HS HB; have HS := n0_; have HB := n1_; clear n0_ n1_; (try simp only [List.eraseIdx_cons_succ, List.eraseIdx_cons_zero] at HS)
    clear hb
    refine hK.out _ _ ⟨(HS.out.cell 0).trans rfl, (HS.out.cell 1).trans rfl, (HS.out.cell 2).trans rfl, (HS.out.cell 3).trans rfl, (HS.out.cell 4).trans rfl, (HS.out.cell 5).trans rfl, (HS.out.cell 6).trans rfl, (HS.out.cell 7).trans rfl, (HS.out.cell 8).trans rfl⟩ (fun hHeld => ?_)
    clear hK K
    refine norm_ (a' := ?_) ?_ ?_
    rotate_left
    · show Act.put _ (some 15) _ = _
      simp only [Act.put, List.setIfInBounds_toArray, List.set_cons_zero, List.set_cons_succ, i64_w, i32_w]
      rfl
    refine pU 4 16 #[true, true, true, true, true, false] rfl rfl HT_ ?_
    refine pU 5 2 #[true, true, true, true, true, true] rfl rfl HT_ ?_
    refine done_ (done_of HT_.out (by kernel_rfl)) ?_
    clear HT_ HW_
    try clear hHeld
    go_wp2
    go_ret
    exact ⟨rfl, HB.out⟩

end Go.Proofs.Ytcjfgejiknlpfaa.PI
