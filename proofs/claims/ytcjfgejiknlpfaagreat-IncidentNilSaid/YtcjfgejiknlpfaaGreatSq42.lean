/- The law IncidentNil walked. -/
import Derived.Test.YtcjfgejiknlpfaaGreatNl
import Derived.Test.YtcjfgejiknlpfaaGreatSq25
import Derived.Test.YtcjfgejiknlpfaaGreatSq16
namespace Go.Proofs.YtcjfgejiknlpfaaGreat.PI
open Go.RowKit Go.Proofs.YtcjfgejiknlpfaaGreatW.PrintWords Go.Proofs.YtcjfgejiknlpfaaGreatW.PrintLast Go.Proofs.YtcjfgejiknlpfaaGreatW.PrintMore Go.Proofs.YtcjfgejiknlpfaaGreat.Sep
set_option linter.unusedVariables false
set_option linter.unusedSimpArgs false
set_option maxHeartbeats 8000000
set_option maxRecDepth 100000

def nlw.T4 : Bool × List (List Nat × List Nat) := (true, [([], []), ([], []), ([1], [1]), ([2], [2]), ([], []), ([3, 4], [3, 4]), ([0, 5, 1], [0, 5]), ([6], [6]), ([7], [7]), ([7], [7]), ([8, 6, 0, 1, 2, 3, 4, 5, 6, 7, 8], [8]), ([9, 10, 0, 1, 2, 3, 4, 5, 6, 7, 8, 9, 10], [9])])
def nlw.B4 : List Nat := [0, 0, 2, 6, 0, 30, 63, 127, 255, 255, 511, 2047]
theorem nlw.tab4 : rtab .any (opsOf Tryz.f4 4) = nlw.T4 := by kernel_rfl
theorem nlw.bits4 : waitsOk nlw.T4.2 nlw.B4 = true := by kernel_rfl
theorem load_stepN {P : Program} {ops : Array Oper} {o : Oper} {a : Act} {Q : Exit → Act → World → Prop} {Kc : Act → World → Prop} {W : World} {v : Value} (hw : Region.wanted o (yielded ops a.tmps) = true) (hrun : (execOp a.eval o).run P W = .ok (.value v) W) (h : Kc (a.put o.dst v) W) : if Region.wanted o (yielded ops a.tmps) = true then Oper.wp P o a W Kc Q else Kc (a.put o.dst undef) W := event_step hw hrun h
theorem exCel {N : Nat} {w : World} {L : List Res} {g n cap : Nat} {l : List S50} (h : St N w (Row k50 50 (.slice (some ⟨g, 0, none⟩) n cap) l :: L)) (hj : 0 < l.length) (x : S50) (hx : rd_T50 l ((0 : Nat) : Int) = x) :
    w.cell? ⟨g, 0, none⟩ = some (.string x.f0.f0) ∧ w.cell? ⟨g, 1, none⟩ = some (.int .i64 x.f0.f1) ∧ w.cell? ⟨g, 2, none⟩ = some (.int .i64 x.f1) ∧ w.cell? ⟨g, 3, none⟩ = some (.int .i64 x.f2) ∧ w.cell? ⟨g, 4, none⟩ = some (.string x.f3.f0) ∧ w.cell? ⟨g, 5, none⟩ = some (.int .i64 x.f3.f1) ∧ w.cell? ⟨g, 6, none⟩ = some (.string x.f4) ∧ w.cell? ⟨g, 7, none⟩ = some (.int .i64 x.f5) ∧ w.cell? ⟨g, 8, none⟩ = some (.string x.f6) := by
  have h1 := evCel h 0 hj x hx
  simpa using h1
def sZ : PS := (runP []).1
theorem zero_same (w : World) : Calls Tryz.prog 22 #[.agg #[.int .i64 0, .string ⟨#[]⟩, .int .i64 0, .int .i64 0, .string ⟨#[]⟩, .int .i64 0, .slice none 0 0, .slice none 0 0, .int .i64 0], .agg #[.int .i64 0, .string ⟨#[]⟩, .int .i64 0, .int .i64 0, .string ⟨#[]⟩, .int .i64 0, .slice none 0 0, .slice none 0 0, .int .i64 0]] w fun e w' => e = .returned (.bool true) ∧ Below w.heap.size w w' :=
  equal_same sZ none none none none 0 0 0 0 w (Kd.C_nil _ _) (Nat.le_refl _) (Kd.C_nil _ _) (Nat.le_refl _) (Kd.C_nil _ _) (Nat.le_refl _) (Kd.C_nil _ _) (Nat.le_refl _) (by decide) (by decide)
theorem at_same (A5 A6 : Option Addr) (k5 k6 : Nat) {w : World} (h1 : Kd.C k69 w A5 (runP []).1.pe.length (runP []).1.pe) (h2 : (runP []).1.pe.length ≤ k5) (h3 : Kd.C k71 w A6 (runP []).1.th.length (runP []).1.th) (h4 : (runP []).1.th.length ≤ k6) :
    Calls Tryz.prog 22 #[.agg #[.int .i64 (runP []).1.st, .string (runP []).1.ti, .int .i64 (runP []).1.op, .int .i64 (runP []).1.en, .string (runP []).1.ca.f0, .int .i64 (runP []).1.ca.f1, .slice A5 (runP []).1.pe.length k5, .slice A6 (runP []).1.th.length k6, .int .i64 (runP []).1.no], .agg #[.int .i64 0, .string ⟨#[]⟩, .int .i64 0, .int .i64 0, .string ⟨#[]⟩, .int .i64 0, .slice none 0 0, .slice none 0 0, .int .i64 0]] w fun e w' => e = .returned (.bool true) ∧ Below w.heap.size w w' :=
  equal_same sZ A5 A6 none none k5 k6 0 0 w h1 h2 h3 h4 (Kd.C_nil _ _) (Nat.le_refl _) (Kd.C_nil _ _) (Nat.le_refl _) (by decide) (by decide)
theorem nil_walk (e : S50) (t : Int) (w : World) : Calls Tryz.prog 4 #[.agg #[.string e.f0.f0, .int .i64 e.f0.f1, .int .i64 e.f1, .int .i64 e.f2, .string e.f3.f0, .int .i64 e.f3.f1, .string e.f4, .int .i64 e.f5, .string e.f6], .int .i64 t] w fun r w' => r = .returned (.bool true) ∧ Below w.heap.size w w' := by
  have HS := Aside0.mk (St.none_ (N := w.heap.size) (w := w) (Nat.le_refl _))
  have HB := Aside0.mk (Below.refl w.heap.size w)
  go_enter Tryz.func4, Tryz.ntmps4
  go_upto_region 1 with (fail)
  have hbx := HS.out.box (g := w.heap.size) (cs := #[.string e.f0.f0, .int .i64 e.f0.f1, .int .i64 e.f1, .int .i64 e.f2, .string e.f3.f0, .int .i64 e.f3.f1, .string e.f4, .int .i64 e.f5, .string e.f6]) (t := 50) rfl (new_cells w _ _) ((Below.refl _ _).alloc (Nat.le_refl _) _)
  have hbb := below_step' HB.out HS.out.size ((Below.refl _ _).alloc (Nat.le_refl _) (.cells #[.string e.f0.f0, .int .i64 e.f0.f1, .int .i64 e.f1, .int .i64 e.f2, .string e.f3.f0, .int .i64 e.f3.f1, .string e.f4, .int .i64 e.f5, .string e.f6] 50))
  generalize w.alloc (.cells #[.string e.f0.f0, .int .i64 e.f0.f1, .int .i64 e.f1, .int .i64 e.f2, .string e.f3.f0, .int .i64 e.f3.f1, .string e.f4, .int .i64 e.f5, .string e.f6] 50) = w1 at hbx hbb ⊢
  have n0_ := Aside0.mk (hbx); have n1_ := Aside0.mk (hbb); clear HS HB; have HS := n0_; have HB := n1_; clear n0_ n1_; (try simp only [List.eraseIdx_cons_succ, List.eraseIdx_cons_zero] at HS)
  clear hbx hbb
  have y6 : w1.cell? ⟨w.heap.size, 8, none⟩ = some (.string e.f6) := (HS.out.cell 8).trans rfl
  by_cases c1 : (5000 : Int) < (e.f6.size : Int)
  · have q1 : decide ((5000 : Int) < (e.f6.size : Int)) = true := decide_eq_true c1
    replace c1 := Aside0.mk c1
    go_upto_region 2 with (first | (go_at_call 8; (with_reducible refine (known_ok _).mono ?_); rintro r_ w2 ⟨rfl, hb⟩; clear y6; have n0_ := Aside0.mk (HS.out.step hb); have n1_ := Aside0.mk (below_step' HB.out HS.out.size hb); clear HS HB; have HS := n0_; have HB := n1_; clear n0_ n1_; (try simp only [List.eraseIdx_cons_succ, List.eraseIdx_cons_zero] at HS); have y6 : w2.cell? ⟨w.heap.size, 8, none⟩ = some (.string e.f6) := (HS.out.cell 8).trans rfl; clear hb))
    go_wp2_with (first | (go_at_call 8; (with_reducible refine (known_ok _).mono ?_); rintro r_ w3 ⟨rfl, hb⟩; clear y6; have n0_ := Aside0.mk (HS.out.step hb); have n1_ := Aside0.mk (below_step' HB.out HS.out.size hb); clear HS HB; have HS := n0_; have HB := n1_; clear n0_ n1_; (try simp only [List.eraseIdx_cons_succ, List.eraseIdx_cons_zero] at HS); have y6 : w3.cell? ⟨w.heap.size, 8, none⟩ = some (.string e.f6) := (HS.out.cell 8).trans rfl; clear hb))
    go_ret
    exact ⟨rfl, HB.out⟩
  · have q1 : decide ((5000 : Int) < (e.f6.size : Int)) = false := decide_eq_false c1
    replace c1 := Aside0.mk c1
    go_upto_region 3 with (first | (go_at_call 8; (with_reducible refine (known_ok _).mono ?_); rintro r_ w2 ⟨rfl, hb⟩; clear y6; have n0_ := Aside0.mk (HS.out.step hb); have n1_ := Aside0.mk (below_step' HB.out HS.out.size hb); clear HS HB; have HS := n0_; have HB := n1_; clear n0_ n1_; (try simp only [List.eraseIdx_cons_succ, List.eraseIdx_cons_zero] at HS); have y6 : w2.cell? ⟨w.heap.size, 8, none⟩ = some (.string e.f6) := (HS.out.cell 8).trans rfl; clear hb))
    clear y6
    go_upto_region 4 with (first | (go_at_call 5; (with_reducible refine (New_ok (L := [Blk w.heap.size #[.string e.f0.f0, .int .i64 e.f0.f1, .int .i64 e.f1, .int .i64 e.f2, .string e.f3.f0, .int .i64 e.f3.f1, .string e.f4, .int .i64 e.f5, .string e.f6] 50]) HS.out).mono ?_); rintro r_ w4 ⟨p, rfl, hs, hb⟩; have n0_ := Aside0.mk (hs); have n1_ := Aside0.mk (HB.out.trans hb); clear HS HB; have HS := n0_; have HB := n1_; clear n0_ n1_; (try simp only [List.eraseIdx_cons_succ, List.eraseIdx_cons_zero] at HS); clear hs hb) | (go_at_call 5; (with_reducible refine (New_ok (L := [Lg p [], Blk w.heap.size #[.string e.f0.f0, .int .i64 e.f0.f1, .int .i64 e.f1, .int .i64 e.f2, .string e.f3.f0, .int .i64 e.f3.f1, .string e.f4, .int .i64 e.f5, .string e.f6] 50]) HS.out).mono ?_); rintro r_ w5 ⟨q, rfl, hs, hb⟩; have n0_ := Aside0.mk (hs); have n1_ := Aside0.mk (HB.out.trans hb); clear HS HB; have HS := n0_; have HB := n1_; clear n0_ n1_; (try simp only [List.eraseIdx_cons_succ, List.eraseIdx_cons_zero] at HS); clear hs hb))
    obtain ⟨x0, hx0_⟩ : ∃ x, rd_T50 exL ((0 : Nat) : Int) = x := ⟨_, rfl⟩
    have hfst : Aside0 (fstE [x0, e] = errE e) := ⟨by rw [← hx0_, fstE, if_pos (by kernel_rfl), fstE, fstE]; split <;> simp_all⟩
    have hl2n : Aside0 ([x0, e].length ≤ 2) := ⟨Nat.le_refl _⟩
    have hx0 := Aside0.mk hx0_
    clear hx0_ q1
    have qx : (0 < exL.length) = True := eq_true (by decide)
    have n0_ := Aside0.mk (HS.out.drew); have n1_ := Aside0.mk (HB.out.drew); clear HS HB; have HS := n0_; have HB := n1_; clear n0_ n1_
    refine start_ (n := 12) (S := fun w' => w'.cell? ⟨w.heap.size, 0, none⟩ = some (.string e.f0.f0) ∧ w'.cell? ⟨w.heap.size, 1, none⟩ = some (.int .i64 e.f0.f1) ∧ w'.cell? ⟨w.heap.size, 2, none⟩ = some (.int .i64 e.f1) ∧ w'.cell? ⟨w.heap.size, 3, none⟩ = some (.int .i64 e.f2) ∧ w'.cell? ⟨w.heap.size, 4, none⟩ = some (.string e.f3.f0) ∧ w'.cell? ⟨w.heap.size, 5, none⟩ = some (.int .i64 e.f3.f1) ∧ w'.cell? ⟨w.heap.size, 6, none⟩ = some (.string e.f4) ∧ w'.cell? ⟨w.heap.size, 7, none⟩ = some (.int .i64 e.f5) ∧ w'.cell? ⟨w.heap.size, 8, none⟩ = some (.string e.f6)) (ds := []) (tfs true [0, 12]).toArray (by kernel_rfl) rfl rfl ⟨((HS.out.pick 2 rfl).cell 0).trans rfl, ((HS.out.pick 2 rfl).cell 1).trans rfl, ((HS.out.pick 2 rfl).cell 2).trans rfl, ((HS.out.pick 2 rfl).cell 3).trans rfl, ((HS.out.pick 2 rfl).cell 4).trans rfl, ((HS.out.pick 2 rfl).cell 5).trans rfl, ((HS.out.pick 2 rfl).cell 6).trans rfl, ((HS.out.pick 2 rfl).cell 7).trans rfl, ((HS.out.pick 2 rfl).cell 8).trans rfl⟩ (fun hHeld => ?_); refine with_tabW nlw.tab4 nlw.bits4 (fun HT_ HW_ => ?_)
    generalize w5.drew = w6 at HS HB hHeld ⊢
    refine pU 0 29 (tfs true [1, 11]).toArray rfl rfl HT_ ?_
    refine tK 4 33 (tfs true [1, 3, 1, 7]).toArray rfl rfl HT_ HW_ hHeld ?_ (by rintro w' ⟨s0, s1, s2, s3, s4, s5, s6, s7, s8⟩; go_simp; with_reducible rfl)
    refine one_ (i := 1) (N := some 30) (tfs true [2, 2, 1, 7]).toArray rfl rfl (one_of HT_.out (by kernel_rfl)) (by decide) (fun K hK => ?_)
    refine goes_ Tryz.func18 (by kernel_rfl) rfl #[] (by rfl) rfl rfl (by (try simp only [List.map_toArray, List.map_cons, List.map_nil]); first | done | rfl | (simp only [List.length_drop, List.length_take]; rfl)) ?_
    with_reducible refine (exampleL_ok HS.out).mono ?_
    rintro r_ wx ⟨vx, rfl, hr, hb⟩
    refine ⟨_, rfl, ?_⟩
    have n0_ := Aside0.mk ((((hr.pick 3 rfl).pick 3 rfl).pick 3 rfl)); have n1_ := Aside0.mk (HB.out.trans hb); clear HS HB; have HS := n0_; have HB := n1_; clear n0_ n1_; (try simp only [List.eraseIdx_cons_succ, List.eraseIdx_cons_zero] at HS)
    clear hr hb; obtain ⟨gx, cx, ex_, _⟩ := St.row_some flat50 (HS.out.pick 3 rfl) (by decide); subst ex_
    refine hK.out _ _ ⟨((HS.out.pick 2 rfl).cell 0).trans rfl, ((HS.out.pick 2 rfl).cell 1).trans rfl, ((HS.out.pick 2 rfl).cell 2).trans rfl, ((HS.out.pick 2 rfl).cell 3).trans rfl, ((HS.out.pick 2 rfl).cell 4).trans rfl, ((HS.out.pick 2 rfl).cell 5).trans rfl, ((HS.out.pick 2 rfl).cell 6).trans rfl, ((HS.out.pick 2 rfl).cell 7).trans rfl, ((HS.out.pick 2 rfl).cell 8).trans rfl⟩ (fun hHeld => ?_)
    clear hK K
    refine norm_ (a' := ?_) ?_ ?_
    rotate_left
    · show Act.put _ (some 30) _ = _
      simp only [Act.put, List.setIfInBounds_toArray, List.set_cons_zero, List.set_cons_succ, i64_w, i32_w]
      rfl
    refine pU 2 31 (tfs true [3, 1, 1, 7]).toArray rfl rfl HT_ ?_
    refine one_ (i := 3) (N := some 32) (tfs true [5, 7]).toArray rfl rfl (one_of HT_.out (by kernel_rfl)) (by decide) (fun K hK => ?_)
    obtain ⟨y0, y1, y2, y3, y4, y5, y6, y7, y8⟩ := exCel (HS.out.pick 3 rfl) (by decide) x0 hx0.out
    refine load_stepN (by rfl) (v := .agg #[.string x0.f0.f0, .int .i64 x0.f0.f1, .int .i64 x0.f1, .int .i64 x0.f2, .string x0.f3.f0, .int .i64 x0.f3.f1, .string x0.f4, .int .i64 x0.f5, .string x0.f6]) (by first | (go_simp; done) | (go_simp; with_reducible rfl)) ?_
    clear y0 y1 y2 y3 y4 y5 y6 y7 y8
    refine hK.out _ _ ⟨((HS.out.pick 2 rfl).cell 0).trans rfl, ((HS.out.pick 2 rfl).cell 1).trans rfl, ((HS.out.pick 2 rfl).cell 2).trans rfl, ((HS.out.pick 2 rfl).cell 3).trans rfl, ((HS.out.pick 2 rfl).cell 4).trans rfl, ((HS.out.pick 2 rfl).cell 5).trans rfl, ((HS.out.pick 2 rfl).cell 6).trans rfl, ((HS.out.pick 2 rfl).cell 7).trans rfl, ((HS.out.pick 2 rfl).cell 8).trans rfl⟩ (fun hHeld => ?_)
    clear hK K
    refine norm_ (a' := ?_) ?_ ?_
    rotate_left
    · show Act.put _ (some 32) _ = _
      simp only [Act.put, List.setIfInBounds_toArray, List.set_cons_zero, List.set_cons_succ, i64_w, i32_w]
      rfl
    refine one_ (i := 5) (N := some 34) (tfs true [6, 6]).toArray rfl rfl (one_of HT_.out (by kernel_rfl)) (by decide) (fun K hK => ?_)
    refine S_lit_step k50 50 (by rfl) (Nt := 34) rfl (xs := [x0, e]) (inner := [.string x0.f0.f0, .int .i64 x0.f0.f1, .int .i64 x0.f1, .int .i64 x0.f2, .string x0.f3.f0, .int .i64 x0.f3.f1, .string x0.f4, .int .i64 x0.f5, .string x0.f6, .string e.f0.f0, .int .i64 e.f0.f1, .int .i64 e.f1, .int .i64 e.f2, .string e.f3.f0, .int .i64 e.f3.f1, .string e.f4, .int .i64 e.f5, .string e.f6]) (by first | (go_simp; done) | (go_simp; rfl)) ?hp HS.out (by simp) ?_
    (case hp => exact reps_encs flat50 (fun y => flat50.M _ _ _ y) [x0, e])
    intro v34 we hs hb
    have n0_ := Aside0.mk (((((hs.pick 4 rfl).pick 4 rfl).pick 4 rfl).pick 4 rfl)); have n1_ := Aside0.mk (below_step' HB.out HS.out.size hb); clear HS HB; have HS := n0_; have HB := n1_; clear n0_ n1_; (try simp only [List.eraseIdx_cons_succ, List.eraseIdx_cons_zero] at HS)
    clear hs hb
    obtain ⟨A34, c34, e34, _, _⟩ := (HS.out.pick 4 rfl).reads
    subst e34
    generalize hl2_ : [x0, e] = l2 at HS hfst hl2n
    replace hl2_ := Aside0.mk hl2_
    refine hK.out _ _ ⟨((HS.out.pick 2 rfl).cell 0).trans rfl, ((HS.out.pick 2 rfl).cell 1).trans rfl, ((HS.out.pick 2 rfl).cell 2).trans rfl, ((HS.out.pick 2 rfl).cell 3).trans rfl, ((HS.out.pick 2 rfl).cell 4).trans rfl, ((HS.out.pick 2 rfl).cell 5).trans rfl, ((HS.out.pick 2 rfl).cell 6).trans rfl, ((HS.out.pick 2 rfl).cell 7).trans rfl, ((HS.out.pick 2 rfl).cell 8).trans rfl⟩ (fun hHeld => ?_)
    clear hK K
    refine norm_ (a' := ?_) ?_ ?_
    rotate_left
    · show Act.put _ (some 34) _ = _
      simp only [Act.put, List.setIfInBounds_toArray, List.set_cons_zero, List.set_cons_succ, i64_w, i32_w]
      rfl
    refine one_ (i := 6) (N := some 35) (tfs true [7, 5]).toArray rfl rfl (one_of HT_.out (by kernel_rfl)) (by decide) (fun K hK => ?_)
    refine goes_ Tryz.func7 (by kernel_rfl) rfl #[.pointer (some ⟨p, 0, none⟩), .slice A34 l2.length c34] (by rfl) rfl rfl (by (try simp only [List.map_toArray, List.map_cons, List.map_nil]); first | done | rfl | (simp only [List.length_drop, List.length_take]; rfl)) ?_
    with_reducible refine (AddE_ok p [] l2 (by decide) (by have := hl2n.out; omega) A34 c34 (fun w' h => ⟨(h.pick 3 rfl).rowC.2.2, (h.pick 3 rfl).rowC.2.1⟩) (HS.out.pick 1 rfl)).mono ?_
    rintro r_ wa ⟨n, l', rfl, hz0, hs, hb⟩; rw [hfst.out] at hz0 ⊢
    refine ⟨_, rfl, ?_⟩
    have n0_ := Aside0.mk (hs); have n1_ := Aside0.mk (HB.out.trans hb); clear HS HB; have HS := n0_; have HB := n1_; clear n0_ n1_; (try simp only [List.eraseIdx_cons_succ, List.eraseIdx_cons_zero] at HS)
    clear hs hb; have hz := Aside0.mk hz0; clear hz0
    refine hK.out _ _ ⟨((HS.out.pick 2 rfl).cell 0).trans rfl, ((HS.out.pick 2 rfl).cell 1).trans rfl, ((HS.out.pick 2 rfl).cell 2).trans rfl, ((HS.out.pick 2 rfl).cell 3).trans rfl, ((HS.out.pick 2 rfl).cell 4).trans rfl, ((HS.out.pick 2 rfl).cell 5).trans rfl, ((HS.out.pick 2 rfl).cell 6).trans rfl, ((HS.out.pick 2 rfl).cell 7).trans rfl, ((HS.out.pick 2 rfl).cell 8).trans rfl⟩ (fun hHeld => ?_)
    clear hK K
    refine norm_ (a' := ?_) ?_ ?_
    rotate_left
    · show Act.put _ (some 35) _ = _
      simp only [Act.put, List.setIfInBounds_toArray, List.set_cons_zero, List.set_cons_succ, i64_w, i32_w]
      rfl
    refine pU 7 28 (tfs true [8, 4]).toArray rfl rfl HT_ ?_
    refine pU 8 36 (tfs true [9, 3]).toArray rfl rfl HT_ ?_
    refine pU 9 37 (tfs true [10, 2]).toArray rfl rfl HT_ ?_
    refine pU 10 7 (tfs true [11, 1]).toArray rfl rfl HT_ ?_
    refine pU 11 8 (tfs true [12]).toArray rfl rfl HT_ ?_
    refine done_ (done_of HT_.out (by kernel_rfl)) ?_
    clear HT_ HW_
    try clear hHeld
    obtain ⟨y0, y1, y2, y3, y4, y5, y6, y7, y8⟩ := cells9 (HS.out.pick 2 rfl)
    go_upto_region 6 with (first | (go_at_call 19; refine (model_ok e _).mono ?_; rintro r_ w7 ⟨rfl, hb⟩; clear y0 y1 y2 y3 y4 y5 y6 y7 y8; have n0_ := Aside0.mk (HS.out.step hb); have n1_ := Aside0.mk (below_step' HB.out HS.out.size hb); clear HS HB; have HS := n0_; have HB := n1_; clear n0_ n1_; (try simp only [List.eraseIdx_cons_succ, List.eraseIdx_cons_zero] at HS); clear hb))
    have nb : (errE e != errE e) = false := by simp
    by_cases he : errE e = 0
    · have qe : (errE e != 0) = false := by rw [he]; rfl
      rw [he]
      rw [he] at nb qe
      replace he := Aside0.mk he
      go_wp2_with (first | (go_at_call 7; (with_reducible refine (nil_add _ _).mono ?_); rintro r_ _ ⟨rfl, rfl⟩) | (go_at_call 21; (with_reducible refine (nil_merge1 p _).mono ?_); rintro r_ _ ⟨rfl, rfl⟩) | (go_at_call 21; (with_reducible refine (nil_merge2 p _).mono ?_); rintro r_ _ ⟨rfl, rfl⟩) | (go_at_call 12; (with_reducible refine (nil_events _).mono ?_); rintro r_ _ ⟨rfl, rfl⟩) | (go_at_call 16; (with_reducible refine (nil_conflicts _).mono ?_); rintro r_ _ ⟨rfl, rfl⟩) | (go_at_call 15; (with_reducible refine (nil_state _).mono ?_); rintro r_ w9 ⟨rfl, hb⟩; have n0_ := Aside0.mk (HS.out.step hb); have n1_ := Aside0.mk (below_step' HB.out HS.out.size hb); clear HS HB; have HS := n0_; have HB := n1_; clear n0_ n1_; (try simp only [List.eraseIdx_cons_succ, List.eraseIdx_cons_zero] at HS); clear hb) | (go_at_call 22; (with_reducible refine (zero_same _).mono ?_); rintro r_ w11 ⟨rfl, hb⟩; have n0_ := Aside0.mk (HS.out.step hb); have n1_ := Aside0.mk (below_step' HB.out HS.out.size hb); clear HS HB; have HS := n0_; have HB := n1_; clear n0_ n1_; (try simp only [List.eraseIdx_cons_succ, List.eraseIdx_cons_zero] at HS); clear hb) | (go_at_call 23; (with_reducible refine (nil_at t HS.out).mono ?_); rintro r_ w10 ⟨v5, v6, rfl, hs, hb⟩; have n0_ := Aside0.mk (hs); have n1_ := Aside0.mk (HB.out.trans hb); clear HS HB; have HS := n0_; have HB := n1_; clear n0_ n1_; (try simp only [List.eraseIdx_cons_succ, List.eraseIdx_cons_zero] at HS); clear hs hb; obtain ⟨A5, k5, e5, _, _⟩ := (HS.out.pick 0 rfl).reads; subst e5; obtain ⟨A6, k6, e6, _, _⟩ := (HS.out.pick 1 rfl).reads; subst e6) | (go_at_call 22; (with_reducible refine (at_same A5 A6 k5 k6 (HS.out.pick 0 rfl).rowC.2.2 (HS.out.pick 0 rfl).rowC.2.1 (HS.out.pick 1 rfl).rowC.2.2 (HS.out.pick 1 rfl).rowC.2.1).mono ?_); rintro r_ w12 ⟨rfl, hb⟩; have n0_ := Aside0.mk (HS.out.step hb); have n1_ := Aside0.mk (below_step' HB.out HS.out.size hb); clear HS HB; have HS := n0_; have HB := n1_; clear n0_ n1_; (try simp only [List.eraseIdx_cons_succ, List.eraseIdx_cons_zero] at HS); clear hb) | (go_at_call 24; (with_reducible refine (nil_clone _).mono ?_); rintro r_ _ ⟨rfl, rfl⟩) | (go_at_call 20; (with_reducible refine (nil_equal _).mono ?_); rintro r_ _ ⟨rfl, rfl⟩) | (go_at_call 20; (with_reducible refine (nil_equal1 p _).mono ?_); rintro r_ _ ⟨rfl, rfl⟩) | (go_at_call 20; (with_reducible refine (nil_equal2 p _).mono ?_); rintro r_ _ ⟨rfl, rfl⟩))
      go_ret
      exact ⟨rfl, HB.out⟩
    · have qe : (errE e != 0) = true := by simpa using he
      obtain ⟨rfl, rfl⟩ := hz.out he
      replace he := Aside0.mk he
      go_wp2_with (first | (go_at_call 20; (with_reducible refine (LEqual_ok p q [] [] (by decide) true rfl HS.out).mono ?_); rintro r_ w8 ⟨rfl, hb⟩; have n0_ := Aside0.mk (HS.out.step hb); have n1_ := Aside0.mk (below_step' HB.out HS.out.size hb); clear HS HB; have HS := n0_; have HB := n1_; clear n0_ n1_; (try simp only [List.eraseIdx_cons_succ, List.eraseIdx_cons_zero] at HS); clear hb) | (go_at_call 7; (with_reducible refine (nil_add _ _).mono ?_); rintro r_ _ ⟨rfl, rfl⟩) | (go_at_call 21; (with_reducible refine (nil_merge1 p _).mono ?_); rintro r_ _ ⟨rfl, rfl⟩) | (go_at_call 21; (with_reducible refine (nil_merge2 p _).mono ?_); rintro r_ _ ⟨rfl, rfl⟩) | (go_at_call 12; (with_reducible refine (nil_events _).mono ?_); rintro r_ _ ⟨rfl, rfl⟩) | (go_at_call 16; (with_reducible refine (nil_conflicts _).mono ?_); rintro r_ _ ⟨rfl, rfl⟩) | (go_at_call 15; (with_reducible refine (nil_state _).mono ?_); rintro r_ w9 ⟨rfl, hb⟩; have n0_ := Aside0.mk (HS.out.step hb); have n1_ := Aside0.mk (below_step' HB.out HS.out.size hb); clear HS HB; have HS := n0_; have HB := n1_; clear n0_ n1_; (try simp only [List.eraseIdx_cons_succ, List.eraseIdx_cons_zero] at HS); clear hb) | (go_at_call 22; (with_reducible refine (zero_same _).mono ?_); rintro r_ w11 ⟨rfl, hb⟩; have n0_ := Aside0.mk (HS.out.step hb); have n1_ := Aside0.mk (below_step' HB.out HS.out.size hb); clear HS HB; have HS := n0_; have HB := n1_; clear n0_ n1_; (try simp only [List.eraseIdx_cons_succ, List.eraseIdx_cons_zero] at HS); clear hb) | (go_at_call 23; (with_reducible refine (nil_at t HS.out).mono ?_); rintro r_ w10 ⟨v5, v6, rfl, hs, hb⟩; have n0_ := Aside0.mk (hs); have n1_ := Aside0.mk (HB.out.trans hb); clear HS HB; have HS := n0_; have HB := n1_; clear n0_ n1_; (try simp only [List.eraseIdx_cons_succ, List.eraseIdx_cons_zero] at HS); clear hs hb; obtain ⟨A5, k5, e5, _, _⟩ := (HS.out.pick 0 rfl).reads; subst e5; obtain ⟨A6, k6, e6, _, _⟩ := (HS.out.pick 1 rfl).reads; subst e6) | (go_at_call 22; (with_reducible refine (at_same A5 A6 k5 k6 (HS.out.pick 0 rfl).rowC.2.2 (HS.out.pick 0 rfl).rowC.2.1 (HS.out.pick 1 rfl).rowC.2.2 (HS.out.pick 1 rfl).rowC.2.1).mono ?_); rintro r_ w12 ⟨rfl, hb⟩; have n0_ := Aside0.mk (HS.out.step hb); have n1_ := Aside0.mk (below_step' HB.out HS.out.size hb); clear HS HB; have HS := n0_; have HB := n1_; clear n0_ n1_; (try simp only [List.eraseIdx_cons_succ, List.eraseIdx_cons_zero] at HS); clear hb) | (go_at_call 24; (with_reducible refine (nil_clone _).mono ?_); rintro r_ _ ⟨rfl, rfl⟩) | (go_at_call 20; (with_reducible refine (nil_equal _).mono ?_); rintro r_ _ ⟨rfl, rfl⟩) | (go_at_call 20; (with_reducible refine (nil_equal1 p _).mono ?_); rintro r_ _ ⟨rfl, rfl⟩) | (go_at_call 20; (with_reducible refine (nil_equal2 p _).mono ?_); rintro r_ _ ⟨rfl, rfl⟩))
      go_ret
      exact ⟨rfl, HB.out⟩

end Go.Proofs.YtcjfgejiknlpfaaGreat.PI
