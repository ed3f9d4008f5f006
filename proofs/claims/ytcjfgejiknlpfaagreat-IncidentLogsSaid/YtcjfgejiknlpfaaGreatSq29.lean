/- The model's reason: what becomes of an event. -/
import Derived.Test.YtcjfgejiknlpfaaGreatModT
import Derived.Test.YtcjfgejiknlpfaaGreatJ1
namespace Go.Proofs.YtcjfgejiknlpfaaGreat.PI
open Go.RowKit Go.Proofs.YtcjfgejiknlpfaaGreatW.PrintWords Go.Proofs.YtcjfgejiknlpfaaGreatW.PrintLast Go.Proofs.YtcjfgejiknlpfaaGreatW.PrintMore Go.Proofs.YtcjfgejiknlpfaaGreat.Sep
set_option linter.unusedVariables false
set_option linter.unusedSimpArgs false
set_option maxHeartbeats 8000000
set_option maxRecDepth 100000

def mrs.T12 : Bool × List (List Nat × List Nat) := (true, [([], []), ([], []), ([1], [1]), ([2], [2]), ([0, 3], [0, 3]), ([], []), ([], []), ([6], [6]), ([5, 7], [5, 7]), ([4, 8], [4, 8]), ([9, 4], [9])])
def mrs.B12 : List Nat := [0, 0, 2, 6, 15, 0, 0, 64, 224, 511, 1023]
theorem mrs.tab12 : rtab .any (opsOf Tryz.f30 12) = mrs.T12 := by kernel_rfl
theorem mrs.bits12 : waitsOk mrs.T12.2 mrs.B12 = true := by kernel_rfl
theorem reasonW_ok (s : PS) (e : S50) (A6 A7 : Option Addr) (k6 k7 : Nat) (w : World) (hc6 : Kd.C k69 w A6 s.pe.length s.pe) (h60 : s.pe.length ≤ k6) (hc7 : Kd.C k71 w A7 s.th.length s.th) (h70 : s.th.length ≤ k7) (m10 : s.pe.length ≤ 100000) (m20 : s.th.length ≤ 100000) :
    Calls Tryz.prog 30 #[.agg #[.int .i64 s.st, .string s.ti, .int .i64 s.op, .int .i64 s.en, .string s.ca.f0, .int .i64 s.ca.f1, .slice A6 s.pe.length k6, .slice A7 s.th.length k7, .int .i64 s.no], .agg #[.string e.f0.f0, .int .i64 e.f0.f1, .int .i64 e.f1, .int .i64 e.f2, .string e.f3.f0, .int .i64 e.f3.f1, .string e.f4, .int .i64 e.f5, .string e.f6]] w fun r w' => r = .returned (.int .i64 (reasonM s e)) ∧ Below w.heap.size w w' := by
  have HS := Aside0.mk (St.none_ (N := w.heap.size) (w := w) (Nat.le_refl _))
  have HB := Aside0.mk (Below.refl w.heap.size w)
  have HC6 := Aside0.mk hc6
  have HC7 := Aside0.mk hc7
  have h6 := Aside0.mk h60
  have h7 := Aside0.mk h70
  have m1 := Aside0.mk m10
  have m2 := Aside0.mk m20
  clear hc6 hc7 h60 h70 m10 m20
  obtain ⟨t, ht0⟩ : ∃ t, thIx e.f3 s.th = t := ⟨_, rfl⟩
  have ht := Aside0.mk ht0
  obtain ⟨ro, hro0⟩ : ∃ t, roleM e.f0.f0 s.pe = t := ⟨_, rfl⟩
  have hro := Aside0.mk hro0
  obtain ⟨nd, hnd0⟩ : ∃ t, needM e.f2 = t := ⟨_, rfl⟩
  have hnd := Aside0.mk hnd0
  obtain ⟨am, ham0⟩ : ∃ t, decide (e.f2 = 4 ∨ e.f2 = 5 ∨ e.f2 = 7) = t := ⟨_, rfl⟩
  have ham := Aside0.mk ham0
  clear ht0 hro0 hnd0 ham0
  have HT : Aside0 (reasonM s e = if s.st = 0 ∧ e.f2 ≠ 1 then 1 else if s.st ≠ 0 ∧ e.f2 = 1 then 2 else if s.st = 3 ∧ e.f2 ≠ 2 ∧ e.f2 ≠ 8 then 3 else if e.f2 = 8 ∧ s.st ≠ 3 then 8 else if roleM e.f0.f0 s.pe < needM e.f2 then 4 else if (e.f2 = 4 ∨ e.f2 = 5 ∨ e.f2 = 7) ∧ thIx e.f3 s.th < 0 then 5 else if e.f2 = 4 ∧ e.f3.f0 = e.f0.f0 then 6 else if e.f2 = 7 ∧ 0 ≤ thIx e.f3 s.th ∧ thIx e.f3 s.th < s.th.length ∧ (rd_T71 s.th (thIx e.f3 s.th)).f2 ≠ 2 then 7 else if e.f2 = 6 ∧ s.st ≠ 1 then 9 else 0) := ⟨rfl⟩
  go_enter Tryz.func30, Tryz.ntmps30
  go_upto_region 2 with (first | ((with_reducible refine gate_dst (N := 2) rfl ?_); refine box_event ?hg (N := 2) ?hd (cs := #[.int .i64 s.st, .string s.ti, .int .i64 s.op, .int .i64 s.en, .string s.ca.f0, .int .i64 s.ca.f1, .slice A6 s.pe.length k6, .slice A7 s.th.length k7, .int .i64 s.no]) (t := 37) ?hr ?_; (case hd => rfl); (case hg => rfl); (case hr => first | (go_simp; done) | (go_simp; rfl)); intro gS hg w1 hbox hb; have n0_ := Aside0.mk (HS.out.box hg hbox hb); have n1_ := Aside0.mk (below_step' HB.out HS.out.size hb); clear HS HB; have HS := n0_; have HB := n1_; clear n0_ n1_; (try simp only [List.eraseIdx_cons_succ, List.eraseIdx_cons_zero] at HS); clear hb hbox hg) | ((with_reducible refine gate_dst (N := 3) rfl ?_); refine box_event ?hg (N := 3) ?hd (cs := #[.string e.f0.f0, .int .i64 e.f0.f1, .int .i64 e.f1, .int .i64 e.f2, .string e.f3.f0, .int .i64 e.f3.f1, .string e.f4, .int .i64 e.f5, .string e.f6]) (t := 50) ?hr ?_; (case hd => rfl); (case hg => rfl); (case hr => first | (go_simp; done) | (go_simp; rfl)); intro gE hg w2 hbox hb; have n0_ := Aside0.mk (HS.out.box hg hbox hb); have n1_ := Aside0.mk (below_step' HB.out HS.out.size hb); clear HS HB; have HS := n0_; have HB := n1_; clear n0_ n1_; (try simp only [List.eraseIdx_cons_succ, List.eraseIdx_cons_zero] at HS); clear hb hbox hg) | ((with_reducible refine gate_op (p := Op.makeMap 89 none) rfl ?_); refine S_makeMap rfl 89 rfl HS.out HB.out ?_; intro b w3 hs hb; have n0_ := Aside0.mk (hs); have n1_ := Aside0.mk (hb); clear HS HB; have HS := n0_; have HB := n1_; clear n0_ n1_; (try simp only [List.eraseIdx_cons_succ, List.eraseIdx_cons_zero] at HS); clear hs hb) | ((with_reducible refine gate_op (p := Op.insert 89 (.tmp 8) (.const (.int .i64 2)) (.const (.int .i64 1))) rfl ?_); refine S_insert rfl (.tmp 8) (.const (.int .i64 2)) (.const (.int .i64 1)) 89 3 rfl Tryz.underlying89 _ _ 2 (.int .i64 1) rfl rfl rfl (by simp [lk]) HS.out HB.out ?_; intro w_ hs hb; have n0_ := Aside0.mk (hs); have n1_ := Aside0.mk (hb); clear HS HB; have HS := n0_; have HB := n1_; clear n0_ n1_; (try simp only [List.eraseIdx_cons_succ, List.eraseIdx_cons_zero] at HS); clear hs hb) | ((with_reducible refine gate_op (p := Op.insert 89 (.tmp 8) (.const (.int .i64 3)) (.const (.int .i64 2))) rfl ?_); refine S_insert rfl (.tmp 8) (.const (.int .i64 3)) (.const (.int .i64 2)) 89 3 rfl Tryz.underlying89 _ _ 3 (.int .i64 2) rfl rfl rfl (by simp [lk]) HS.out HB.out ?_; intro w_ hs hb; have n0_ := Aside0.mk (hs); have n1_ := Aside0.mk (hb); clear HS HB; have HS := n0_; have HB := n1_; clear n0_ n1_; (try simp only [List.eraseIdx_cons_succ, List.eraseIdx_cons_zero] at HS); clear hs hb) | ((with_reducible refine gate_op (p := Op.insert 89 (.tmp 8) (.const (.int .i64 4)) (.const (.int .i64 2))) rfl ?_); refine S_insert rfl (.tmp 8) (.const (.int .i64 4)) (.const (.int .i64 2)) 89 3 rfl Tryz.underlying89 _ _ 4 (.int .i64 2) rfl rfl rfl (by simp [lk]) HS.out HB.out ?_; intro w_ hs hb; have n0_ := Aside0.mk (hs); have n1_ := Aside0.mk (hb); clear HS HB; have HS := n0_; have HB := n1_; clear n0_ n1_; (try simp only [List.eraseIdx_cons_succ, List.eraseIdx_cons_zero] at HS); clear hs hb) | ((with_reducible refine gate_op (p := Op.insert 89 (.tmp 8) (.const (.int .i64 5)) (.const (.int .i64 2))) rfl ?_); refine S_insert rfl (.tmp 8) (.const (.int .i64 5)) (.const (.int .i64 2)) 89 3 rfl Tryz.underlying89 _ _ 5 (.int .i64 2) rfl rfl rfl (by simp [lk]) HS.out HB.out ?_; intro w_ hs hb; have n0_ := Aside0.mk (hs); have n1_ := Aside0.mk (hb); clear HS HB; have HS := n0_; have HB := n1_; clear n0_ n1_; (try simp only [List.eraseIdx_cons_succ, List.eraseIdx_cons_zero] at HS); clear hs hb) | ((with_reducible refine gate_op (p := Op.insert 89 (.tmp 8) (.const (.int .i64 6)) (.const (.int .i64 2))) rfl ?_); refine S_insert rfl (.tmp 8) (.const (.int .i64 6)) (.const (.int .i64 2)) 89 3 rfl Tryz.underlying89 _ _ 6 (.int .i64 2) rfl rfl rfl (by simp [lk]) HS.out HB.out ?_; intro w_ hs hb; have n0_ := Aside0.mk (hs); have n1_ := Aside0.mk (hb); clear HS HB; have HS := n0_; have HB := n1_; clear n0_ n1_; (try simp only [List.eraseIdx_cons_succ, List.eraseIdx_cons_zero] at HS); clear hs hb) | ((with_reducible refine gate_op (p := Op.insert 89 (.tmp 8) (.const (.int .i64 7)) (.const (.int .i64 3))) rfl ?_); refine S_insert rfl (.tmp 8) (.const (.int .i64 7)) (.const (.int .i64 3)) 89 3 rfl Tryz.underlying89 _ _ 7 (.int .i64 3) rfl rfl rfl (by simp [lk]) HS.out HB.out ?_; intro w_ hs hb; have n0_ := Aside0.mk (hs); have n1_ := Aside0.mk (hb); clear HS HB; have HS := n0_; have HB := n1_; clear n0_ n1_; (try simp only [List.eraseIdx_cons_succ, List.eraseIdx_cons_zero] at HS); clear hs hb) | ((with_reducible refine gate_op (p := Op.insert 89 (.tmp 8) (.const (.int .i64 8)) (.const (.int .i64 3))) rfl ?_); refine S_insert rfl (.tmp 8) (.const (.int .i64 8)) (.const (.int .i64 3)) 89 3 rfl Tryz.underlying89 _ _ 8 (.int .i64 3) rfl rfl rfl (by simp [lk]) HS.out HB.out ?_; intro w_ hs hb; have n0_ := Aside0.mk (hs); have n1_ := Aside0.mk (hb); clear HS HB; have HS := n0_; have HB := n1_; clear n0_ n1_; (try simp only [List.eraseIdx_cons_succ, List.eraseIdx_cons_zero] at HS); clear hs hb) | ((with_reducible refine gate_op (p := Op.insert 89 (.tmp 8) (.const (.int .i64 9)) (.const (.int .i64 3))) rfl ?_); refine S_insert rfl (.tmp 8) (.const (.int .i64 9)) (.const (.int .i64 3)) 89 3 rfl Tryz.underlying89 _ _ 9 (.int .i64 3) rfl rfl rfl (by simp [lk]) HS.out HB.out ?_; intro w_ hs hb; have n0_ := Aside0.mk (hs); have n1_ := Aside0.mk (hb); clear HS HB; have HS := n0_; have HB := n1_; clear n0_ n1_; (try simp only [List.eraseIdx_cons_succ, List.eraseIdx_cons_zero] at HS); clear hs hb))
  replace HS : Aside0 (St w.heap.size w_ (MapF b needL :: Blk gE #[.string e.f0.f0, .int .i64 e.f0.f1, .int .i64 e.f1, .int .i64 e.f2, .string e.f3.f0, .int .i64 e.f3.f1, .string e.f4, .int .i64 e.f5, .string e.f6] 50 :: Blk gS #[.int .i64 s.st, .string s.ti, .int .i64 s.op, .int .i64 s.en, .string s.ca.f0, .int .i64 s.ca.f1, .slice A6 s.pe.length k6, .slice A7 s.th.length k7, .int .i64 s.no] 37 :: [])) := HS
  obtain ⟨y0, y1, y2, y3, y4, y5, y6, y7, y8⟩ := cells9 (HS.out.pick 1 rfl)
  obtain ⟨z0, z1, z2, z3, z4, z5, z6, z7, z8⟩ := cells9 (HS.out.pick 2 rfl)
  go_cut [6] (fun v wc_ => v = .bool (decide (e.f2 = 4 ∨ e.f2 = 5 ∨ e.f2 = 7)) ∧ wc_ = w_)
  case first =>
    by_cases f4 : e.f2 = 4
    · have qf4 : (e.f2 == 4) = true := (by simpa using f4)
      have rf4 : (e.f2 != 4) = false := (by simpa using f4)
      replace f4 := Aside0.mk f4
      go_wp2
      go_meet
      case rel => exact ⟨congrArg Value.bool (by simp [f4.out]), rfl⟩
    · have qf4 : (e.f2 == 4) = false := (by simpa using f4)
      have rf4 : (e.f2 != 4) = true := (by simpa using f4)
      replace f4 := Aside0.mk f4
      by_cases f5 : e.f2 = 5
      · have qf5 : (e.f2 == 5) = true := (by simpa using f5)
        have rf5 : (e.f2 != 5) = false := (by simpa using f5)
        replace f5 := Aside0.mk f5
        go_wp2
        go_meet
        case rel => exact ⟨congrArg Value.bool (by simp [f4.out, f5.out]), rfl⟩
      · have qf5 : (e.f2 == 5) = false := (by simpa using f5)
        have rf5 : (e.f2 != 5) = true := (by simpa using f5)
        replace f5 := Aside0.mk f5
        by_cases f7 : e.f2 = 7
        · have qf7 : (e.f2 == 7) = true := (by simpa using f7)
          have rf7 : (e.f2 != 7) = false := (by simpa using f7)
          replace f7 := Aside0.mk f7
          go_wp2
          go_meet
          case rel => exact ⟨congrArg Value.bool (by simp [f4.out, f5.out, f7.out]), rfl⟩
        · have qf7 : (e.f2 == 7) = false := (by simpa using f7)
          have rf7 : (e.f2 != 7) = true := (by simpa using f7)
          replace f7 := Aside0.mk f7
          go_wp2
          go_meet
          case rel => exact ⟨congrArg Value.bool (by simp [f4.out, f5.out, f7.out]), rfl⟩
  obtain ⟨rfl, hw_⟩ := hcut
  have hw_ := hw_.symm
  subst hw_
  rw [ham.out]
  go_upto_region 4 with (first | (go_at_call 54; (with_reducible refine (theoryM_ok s A6 A7 k6 k7 _ (Kd.C_below HC6.out HB.out) h6.out (Kd.C_below HC7.out HB.out) h7.out m2.out e.f3).mono ?_); rintro r_ w4 ⟨rfl, hb⟩; clear y4 y5 z0 z1 z2 z3 z4 z5 z6 z7 z8; have n0_ := Aside0.mk (HS.out.step hb); have n1_ := Aside0.mk (below_step' HB.out HS.out.size hb); clear HS HB; have HS := n0_; have HB := n1_; clear n0_ n1_; (try simp only [List.eraseIdx_cons_succ, List.eraseIdx_cons_zero] at HS); clear hb))
  rw [ht.out]
  clear y0 y1 y2 y3 y6 y7 y8
  obtain ⟨y0, y1, y2, y3, y4, y5, y6, y7, y8⟩ := cells9 (HS.out.pick 1 rfl)
  obtain ⟨z0, z1, z2, z3, z4, z5, z6, z7, z8⟩ := cells9 (HS.out.pick 2 rfl)
  go_upto_region 4 with (fail)
  go_cut [27] (fun v wc_ => v = .bool (decide (s.st = 0 ∧ e.f2 ≠ 1)) ∧ wc_ = w4)
  case first =>
    by_cases a1 : s.st = 0
    · have qa1 : (s.st == 0) = true := (by simpa using a1)
      have ra1 : (s.st != 0) = false := (by simpa using a1)
      replace a1 := Aside0.mk a1
      by_cases a2 : e.f2 = 1
      · have qa2 : (e.f2 == 1) = true := (by simpa using a2)
        have ra2 : (e.f2 != 1) = false := (by simpa using a2)
        replace a2 := Aside0.mk a2
        go_wp2
        go_meet
        case rel => exact ⟨congrArg Value.bool (by simp [a1.out, a2.out]), rfl⟩
      · have qa2 : (e.f2 == 1) = false := (by simpa using a2)
        have ra2 : (e.f2 != 1) = true := (by simpa using a2)
        replace a2 := Aside0.mk a2
        go_wp2
        go_meet
        case rel => exact ⟨congrArg Value.bool (by simp [a1.out, a2.out]), rfl⟩
    · have qa1 : (s.st == 0) = false := (by simpa using a1)
      have ra1 : (s.st != 0) = true := (by simpa using a1)
      replace a1 := Aside0.mk a1
      by_cases a2 : e.f2 = 1
      · have qa2 : (e.f2 == 1) = true := (by simpa using a2)
        have ra2 : (e.f2 != 1) = false := (by simpa using a2)
        replace a2 := Aside0.mk a2
        go_wp2
        go_meet
        case rel => exact ⟨congrArg Value.bool (by simp [a1.out, a2.out]), rfl⟩
      · have qa2 : (e.f2 == 1) = false := (by simpa using a2)
        have ra2 : (e.f2 != 1) = true := (by simpa using a2)
        replace a2 := Aside0.mk a2
        go_wp2
        go_meet
        case rel => exact ⟨congrArg Value.bool (by simp [a1.out, a2.out]), rfl⟩
  obtain ⟨rfl, hw_⟩ := hcut
  have hw_ := hw_.symm
  subst hw_
  by_cases c1 : s.st = 0 ∧ e.f2 ≠ 1
  · rw [decide_eq_true c1]
    have hT : Aside0 (reasonM s e = 1) := ⟨by rw [HT.out, if_pos c1]⟩
    clear c1
    go_wp2
    go_ret
    exact ⟨by (rw [hT.out]; try rfl), HB.out⟩
  rw [decide_eq_false c1]
  have HT2 := Aside0.mk (HT.out.trans (if_neg c1))
  clear HT c1
  have HT := HT2
  clear HT2
  go_upto_region 6 with (fail)
  go_cut [36] (fun v wc_ => v = .bool (decide (s.st ≠ 0 ∧ e.f2 = 1)) ∧ wc_ = w4)
  case first =>
    by_cases a1 : s.st = 0
    · have qa1 : (s.st == 0) = true := (by simpa using a1)
      have ra1 : (s.st != 0) = false := (by simpa using a1)
      replace a1 := Aside0.mk a1
      by_cases a2 : e.f2 = 1
      · have qa2 : (e.f2 == 1) = true := (by simpa using a2)
        have ra2 : (e.f2 != 1) = false := (by simpa using a2)
        replace a2 := Aside0.mk a2
        go_wp2
        go_meet
        case rel => exact ⟨congrArg Value.bool (by simp [a1.out, a2.out]), rfl⟩
      · have qa2 : (e.f2 == 1) = false := (by simpa using a2)
        have ra2 : (e.f2 != 1) = true := (by simpa using a2)
        replace a2 := Aside0.mk a2
        go_wp2
        go_meet
        case rel => exact ⟨congrArg Value.bool (by simp [a1.out, a2.out]), rfl⟩
    · have qa1 : (s.st == 0) = false := (by simpa using a1)
      have ra1 : (s.st != 0) = true := (by simpa using a1)
      replace a1 := Aside0.mk a1
      by_cases a2 : e.f2 = 1
      · have qa2 : (e.f2 == 1) = true := (by simpa using a2)
        have ra2 : (e.f2 != 1) = false := (by simpa using a2)
        replace a2 := Aside0.mk a2
        go_wp2
        go_meet
        case rel => exact ⟨congrArg Value.bool (by simp [a1.out, a2.out]), rfl⟩
      · have qa2 : (e.f2 == 1) = false := (by simpa using a2)
        have ra2 : (e.f2 != 1) = true := (by simpa using a2)
        replace a2 := Aside0.mk a2
        go_wp2
        go_meet
        case rel => exact ⟨congrArg Value.bool (by simp [a1.out, a2.out]), rfl⟩
  obtain ⟨rfl, hw_⟩ := hcut
  have hw_ := hw_.symm
  subst hw_
  by_cases c2 : s.st ≠ 0 ∧ e.f2 = 1
  · rw [decide_eq_true c2]
    have hT : Aside0 (reasonM s e = 2) := ⟨by rw [HT.out, if_pos c2]⟩
    clear c2
    go_wp2
    go_ret
    exact ⟨by (rw [hT.out]; try rfl), HB.out⟩
  rw [decide_eq_false c2]
  have HT2 := Aside0.mk (HT.out.trans (if_neg c2))
  clear HT c2
  have HT := HT2
  clear HT2
  go_upto_region 8 with (fail)
  go_cut [45] (fun v wc_ => v = .bool (decide (s.st = 3 ∧ e.f2 ≠ 2 ∧ e.f2 ≠ 8)) ∧ wc_ = w4)
  case first =>
    by_cases a1 : s.st = 3
    · have qa1 : (s.st == 3) = true := (by simpa using a1)
      have ra1 : (s.st != 3) = false := (by simpa using a1)
      replace a1 := Aside0.mk a1
      by_cases a2 : e.f2 = 2
      · have qa2 : (e.f2 == 2) = true := (by simpa using a2)
        have ra2 : (e.f2 != 2) = false := (by simpa using a2)
        replace a2 := Aside0.mk a2
        by_cases a3 : e.f2 = 8
        · have qa3 : (e.f2 == 8) = true := (by simpa using a3)
          have ra3 : (e.f2 != 8) = false := (by simpa using a3)
          replace a3 := Aside0.mk a3
          go_wp2
          go_meet
          case rel => exact ⟨congrArg Value.bool (by simp [a1.out, a2.out, a3.out]), rfl⟩
        · have qa3 : (e.f2 == 8) = false := (by simpa using a3)
          have ra3 : (e.f2 != 8) = true := (by simpa using a3)
          replace a3 := Aside0.mk a3
          go_wp2
          go_meet
          case rel => exact ⟨congrArg Value.bool (by simp [a1.out, a2.out, a3.out]), rfl⟩
      · have qa2 : (e.f2 == 2) = false := (by simpa using a2)
        have ra2 : (e.f2 != 2) = true := (by simpa using a2)
        replace a2 := Aside0.mk a2
        by_cases a3 : e.f2 = 8
        · have qa3 : (e.f2 == 8) = true := (by simpa using a3)
          have ra3 : (e.f2 != 8) = false := (by simpa using a3)
          replace a3 := Aside0.mk a3
          go_wp2
          go_meet
          case rel => exact ⟨congrArg Value.bool (by simp [a1.out, a2.out, a3.out]), rfl⟩
        · have qa3 : (e.f2 == 8) = false := (by simpa using a3)
          have ra3 : (e.f2 != 8) = true := (by simpa using a3)
          replace a3 := Aside0.mk a3
          go_wp2
          go_meet
          case rel => exact ⟨congrArg Value.bool (by simp [a1.out, a2.out, a3.out]), rfl⟩
    · have qa1 : (s.st == 3) = false := (by simpa using a1)
      have ra1 : (s.st != 3) = true := (by simpa using a1)
      replace a1 := Aside0.mk a1
      by_cases a2 : e.f2 = 2
      · have qa2 : (e.f2 == 2) = true := (by simpa using a2)
        have ra2 : (e.f2 != 2) = false := (by simpa using a2)
        replace a2 := Aside0.mk a2
        by_cases a3 : e.f2 = 8
        · have qa3 : (e.f2 == 8) = true := (by simpa using a3)
          have ra3 : (e.f2 != 8) = false := (by simpa using a3)
          replace a3 := Aside0.mk a3
          go_wp2
          go_meet
          case rel => exact ⟨congrArg Value.bool (by simp [a1.out, a2.out, a3.out]), rfl⟩
        · have qa3 : (e.f2 == 8) = false := (by simpa using a3)
          have ra3 : (e.f2 != 8) = true := (by simpa using a3)
          replace a3 := Aside0.mk a3
          go_wp2
          go_meet
          case rel => exact ⟨congrArg Value.bool (by simp [a1.out, a2.out, a3.out]), rfl⟩
      · have qa2 : (e.f2 == 2) = false := (by simpa using a2)
        have ra2 : (e.f2 != 2) = true := (by simpa using a2)
        replace a2 := Aside0.mk a2
        by_cases a3 : e.f2 = 8
        · have qa3 : (e.f2 == 8) = true := (by simpa using a3)
          have ra3 : (e.f2 != 8) = false := (by simpa using a3)
          replace a3 := Aside0.mk a3
          go_wp2
          go_meet
          case rel => exact ⟨congrArg Value.bool (by simp [a1.out, a2.out, a3.out]), rfl⟩
        · have qa3 : (e.f2 == 8) = false := (by simpa using a3)
          have ra3 : (e.f2 != 8) = true := (by simpa using a3)
          replace a3 := Aside0.mk a3
          go_wp2
          go_meet
          case rel => exact ⟨congrArg Value.bool (by simp [a1.out, a2.out, a3.out]), rfl⟩
  obtain ⟨rfl, hw_⟩ := hcut
  have hw_ := hw_.symm
  subst hw_
  by_cases c3 : s.st = 3 ∧ e.f2 ≠ 2 ∧ e.f2 ≠ 8
  · rw [decide_eq_true c3]
    have hT : Aside0 (reasonM s e = 3) := ⟨by rw [HT.out, if_pos c3]⟩
    clear c3
    go_wp2
    go_ret
    exact ⟨by (rw [hT.out]; try rfl), HB.out⟩
  rw [decide_eq_false c3]
  have HT2 := Aside0.mk (HT.out.trans (if_neg c3))
  clear HT c3
  have HT := HT2
  clear HT2
  go_upto_region 10 with (fail)
  go_cut [59] (fun v wc_ => v = .bool (decide (e.f2 = 8 ∧ s.st ≠ 3)) ∧ wc_ = w4)
  case first =>
    by_cases a1 : e.f2 = 8
    · have qa1 : (e.f2 == 8) = true := (by simpa using a1)
      have ra1 : (e.f2 != 8) = false := (by simpa using a1)
      replace a1 := Aside0.mk a1
      by_cases a2 : s.st = 3
      · have qa2 : (s.st == 3) = true := (by simpa using a2)
        have ra2 : (s.st != 3) = false := (by simpa using a2)
        replace a2 := Aside0.mk a2
        go_wp2
        go_meet
        case rel => exact ⟨congrArg Value.bool (by simp [a1.out, a2.out]), rfl⟩
      · have qa2 : (s.st == 3) = false := (by simpa using a2)
        have ra2 : (s.st != 3) = true := (by simpa using a2)
        replace a2 := Aside0.mk a2
        go_wp2
        go_meet
        case rel => exact ⟨congrArg Value.bool (by simp [a1.out, a2.out]), rfl⟩
    · have qa1 : (e.f2 == 8) = false := (by simpa using a1)
      have ra1 : (e.f2 != 8) = true := (by simpa using a1)
      replace a1 := Aside0.mk a1
      by_cases a2 : s.st = 3
      · have qa2 : (s.st == 3) = true := (by simpa using a2)
        have ra2 : (s.st != 3) = false := (by simpa using a2)
        replace a2 := Aside0.mk a2
        go_wp2
        go_meet
        case rel => exact ⟨congrArg Value.bool (by simp [a1.out, a2.out]), rfl⟩
      · have qa2 : (s.st == 3) = false := (by simpa using a2)
        have ra2 : (s.st != 3) = true := (by simpa using a2)
        replace a2 := Aside0.mk a2
        go_wp2
        go_meet
        case rel => exact ⟨congrArg Value.bool (by simp [a1.out, a2.out]), rfl⟩
  obtain ⟨rfl, hw_⟩ := hcut
  have hw_ := hw_.symm
  subst hw_
  by_cases c4 : e.f2 = 8 ∧ s.st ≠ 3
  · rw [decide_eq_true c4]
    have hT : Aside0 (reasonM s e = 8) := ⟨by rw [HT.out, if_pos c4]⟩
    clear c4
    go_wp2
    go_ret
    exact ⟨by (rw [hT.out]; try rfl), HB.out⟩
  rw [decide_eq_false c4]
  have HT2 := Aside0.mk (HT.out.trans (if_neg c4))
  clear HT c4
  have HT := HT2
  clear HT2
  go_upto_region 12 with (fail)
  go_cut [68] (fun v wc => v = .bool (decide (roleM e.f0.f0 s.pe < needM e.f2)) ∧ Aside0 (St w.heap.size wc (MapF b needL :: Blk gE #[.string e.f0.f0, .int .i64 e.f0.f1, .int .i64 e.f1, .int .i64 e.f2, .string e.f3.f0, .int .i64 e.f3.f1, .string e.f4, .int .i64 e.f5, .string e.f6] 50 :: Blk gS #[.int .i64 s.st, .string s.ti, .int .i64 s.op, .int .i64 s.en, .string s.ca.f0, .int .i64 s.ca.f1, .slice A6 s.pe.length k6, .slice A7 s.th.length k7, .int .i64 s.no] 37 :: [])) ∧ Aside0 (Below w.heap.size w wc))
  case first =>
    clear y0 y1 y2 y3 y4 y5 y6 y7 y8 z0 z1 z2 z3 z4 z5 z6 z7 z8
    have n0_ := Aside0.mk (HS.out.drew); have n1_ := Aside0.mk (HB.out.drew); clear HS HB; have HS := n0_; have HB := n1_; clear n0_ n1_
    refine start_ (n := 11) (S := fun w' => w'.cell? ⟨gE, 0, none⟩ = some (.string e.f0.f0) ∧ w'.cell? ⟨gE, 3, none⟩ = some (.int .i64 e.f2) ∧ w'.cell? ⟨gS, 0, none⟩ = some (.int .i64 s.st) ∧ w'.cell? ⟨gS, 1, none⟩ = some (.string s.ti) ∧ w'.cell? ⟨gS, 2, none⟩ = some (.int .i64 s.op) ∧ w'.cell? ⟨gS, 3, none⟩ = some (.int .i64 s.en) ∧ w'.cell? ⟨gS, 4, none⟩ = some (.string s.ca.f0) ∧ w'.cell? ⟨gS, 5, none⟩ = some (.int .i64 s.ca.f1) ∧ w'.cell? ⟨gS, 6, none⟩ = some (.slice A6 s.pe.length k6) ∧ w'.cell? ⟨gS, 7, none⟩ = some (.slice A7 s.th.length k7) ∧ w'.cell? ⟨gS, 8, none⟩ = some (.int .i64 s.no) ∧ (Instr.lookup 89 (.map (some b)) (.int .i64 e.f2) false).run Tryz.prog w' = .ok (.int .i64 nd) w') (ds := []) #[false, false, false, false, false, false, false, false, false, false, false] (by kernel_rfl) rfl rfl ⟨((HS.out.pick 1 rfl).cell 0).trans rfl, ((HS.out.pick 1 rfl).cell 3).trans rfl, ((HS.out.pick 2 rfl).cell 0).trans rfl, ((HS.out.pick 2 rfl).cell 1).trans rfl, ((HS.out.pick 2 rfl).cell 2).trans rfl, ((HS.out.pick 2 rfl).cell 3).trans rfl, ((HS.out.pick 2 rfl).cell 4).trans rfl, ((HS.out.pick 2 rfl).cell 5).trans rfl, ((HS.out.pick 2 rfl).cell 6).trans rfl, ((HS.out.pick 2 rfl).cell 7).trans rfl, ((HS.out.pick 2 rfl).cell 8).trans rfl, (hnd.out ▸ need_run e.f2 (mapf_at HS.out))⟩ (fun hHeld => ?_); refine with_tabW mrs.tab12 mrs.bits12 (fun HT_ HW_ => ?_)
    generalize w4.drew = w5 at HS HB hHeld ⊢
    refine pU 1 70 #[false, true, false, false, false, false, false, false, false, false, false] rfl rfl HT_ ?_
    refine pU 2 71 #[false, true, true, false, false, false, false, false, false, false, false] rfl rfl HT_ ?_
    refine pU 5 74 #[false, true, true, false, false, true, false, false, false, false, false] rfl rfl HT_ ?_
    refine pU 6 75 #[false, true, true, false, false, true, true, false, false, false, false] rfl rfl HT_ ?_
    refine tK 0 69 #[true, true, true, false, false, true, true, false, false, false, false] rfl rfl HT_ HW_ hHeld ?_ (by rintro w' ⟨s0, s1, s2, s3, s4, s5, s6, s7, s8, s9, s10, s11⟩; go_simp; with_reducible rfl)
    refine tK 3 72 #[true, true, true, true, false, true, true, false, false, false, false] rfl rfl HT_ HW_ hHeld ?_ (by rintro w' ⟨s0, s1, s2, s3, s4, s5, s6, s7, s8, s9, s10, s11⟩; go_simp; with_reducible rfl)
    refine tK 7 76 #[true, true, true, true, false, true, true, true, false, false, false] rfl rfl HT_ HW_ hHeld ?_ (by rintro w' ⟨s0, s1, s2, s3, s4, s5, s6, s7, s8, s9, s10, s11⟩; go_simp; with_reducible rfl)
    refine tK 8 77 #[true, true, true, true, false, true, true, true, true, false, false] rfl rfl HT_ HW_ hHeld ?_ (by rintro w' ⟨s0, s1, s2, s3, s4, s5, s6, s7, s8, s9, s10, s11⟩; go_simp; with_reducible rfl)
    refine one_ (i := 4) (N := some 73) #[true, true, true, true, true, true, true, true, true, false, false] rfl rfl (one_of HT_.out (by kernel_rfl)) (by decide) (fun K hK => ?_)
    refine goes_ Tryz.func55 (by kernel_rfl) rfl #[.agg #[.int .i64 s.st, .string s.ti, .int .i64 s.op, .int .i64 s.en, .string s.ca.f0, .int .i64 s.ca.f1, .slice A6 s.pe.length k6, .slice A7 s.th.length k7, .int .i64 s.no], .string e.f0.f0] (by rfl) rfl rfl (by (try simp only [List.map_toArray, List.map_cons, List.map_nil]); first | done | rfl | (simp only [List.length_drop, List.length_take]; rfl)) ?_
    with_reducible refine (roleM_ok s A6 A7 k6 k7 _ (Kd.C_below HC6.out HB.out) h6.out (Kd.C_below HC7.out HB.out) h7.out m1.out e.f0.f0).mono ?_
    rintro r_ w6 ⟨rfl, hb⟩; rw [hro.out]
    refine ⟨_, rfl, ?_⟩
    have n0_ := Aside0.mk (HS.out.step hb); have n1_ := Aside0.mk (below_step' HB.out HS.out.size hb); clear HS HB; have HS := n0_; have HB := n1_; clear n0_ n1_; (try simp only [List.eraseIdx_cons_succ, List.eraseIdx_cons_zero] at HS)
    clear hb
    refine hK.out _ _ ⟨((HS.out.pick 1 rfl).cell 0).trans rfl, ((HS.out.pick 1 rfl).cell 3).trans rfl, ((HS.out.pick 2 rfl).cell 0).trans rfl, ((HS.out.pick 2 rfl).cell 1).trans rfl, ((HS.out.pick 2 rfl).cell 2).trans rfl, ((HS.out.pick 2 rfl).cell 3).trans rfl, ((HS.out.pick 2 rfl).cell 4).trans rfl, ((HS.out.pick 2 rfl).cell 5).trans rfl, ((HS.out.pick 2 rfl).cell 6).trans rfl, ((HS.out.pick 2 rfl).cell 7).trans rfl, ((HS.out.pick 2 rfl).cell 8).trans rfl, (hnd.out ▸ need_run e.f2 (mapf_at HS.out))⟩ (fun hHeld => ?_)
    clear hK K
    refine norm_ (a' := ?_) ?_ ?_
    rotate_left
    · show Act.put _ (some 73) _ = _
      simp only [Act.put, List.setIfInBounds_toArray, List.set_cons_zero, List.set_cons_succ, i64_w, i32_w]
      rfl
    refine pU 9 78 #[true, true, true, true, true, true, true, true, true, true, false] rfl rfl HT_ ?_
    refine pU 10 68 #[true, true, true, true, true, true, true, true, true, true, true] rfl rfl HT_ ?_
    refine done_ (done_of HT_.out (by kernel_rfl)) ?_
    clear HT_ HW_
    try clear hHeld
    go_wp2
    go_meet
    case rel => exact ⟨congrArg Value.bool (by rw [hro.out, hnd.out]), HS, HB⟩
  clear HS HB
  obtain ⟨rfl, HS, HB⟩ := hcut
  clear y0 y1 y2 y3 y4 y5 y6 y7 y8 z0 z1 z2 z3 z4 z5 z6 z7 z8
  obtain ⟨y0, y1, y2, y3, y4, y5, y6, y7, y8⟩ := cells9 (HS.out.pick 1 rfl)
  obtain ⟨z0, z1, z2, z3, z4, z5, z6, z7, z8⟩ := cells9 (HS.out.pick 2 rfl)
  by_cases c5 : roleM e.f0.f0 s.pe < needM e.f2
  · rw [decide_eq_true c5]
    have hT : Aside0 (reasonM s e = 4) := ⟨by rw [HT.out, if_pos c5]⟩
    clear c5
    go_wp2
    go_ret
    exact ⟨by (rw [hT.out]; try rfl), HB.out⟩
  rw [decide_eq_false c5]
  have HT2 := Aside0.mk (HT.out.trans (if_neg c5))
  clear HT c5
  have HT := HT2
  clear HT2
  go_upto_region 14 with (fail)
  go_cut [79] (fun v wc_ => v = .bool (decide ((e.f2 = 4 ∨ e.f2 = 5 ∨ e.f2 = 7) ∧ thIx e.f3 s.th < 0)) ∧ wc_ = wc)
  case first =>
    have ea : decide (e.f2 = 4 ∨ e.f2 = 5 ∨ e.f2 = 7) = am := ham.out
    by_cases a1 : t < 0
    · have q1 : decide (t < 0) = true := decide_eq_true a1
      cases am with
      | true => (go_wp2; go_meet; case rel => exact ⟨congrArg Value.bool (decide_eq_true (p := (e.f2 = 4 ∨ e.f2 = 5 ∨ e.f2 = 7) ∧ thIx e.f3 s.th < 0) ⟨of_decide_eq_true ea, by rw [ht.out]; omega⟩).symm, rfl⟩)
      | false => (go_wp2; go_meet; case rel => exact ⟨congrArg Value.bool (decide_eq_false (p := (e.f2 = 4 ∨ e.f2 = 5 ∨ e.f2 = 7) ∧ thIx e.f3 s.th < 0) (fun h => of_decide_eq_false ea h.1)).symm, rfl⟩)
    · have q1 : decide (t < 0) = false := decide_eq_false a1
      cases am with
      | true => (go_wp2; go_meet; case rel => exact ⟨congrArg Value.bool (decide_eq_false (p := (e.f2 = 4 ∨ e.f2 = 5 ∨ e.f2 = 7) ∧ thIx e.f3 s.th < 0) (fun h => (by have h2 := h.2; rw [ht.out] at h2; omega))).symm, rfl⟩)
      | false => (go_wp2; go_meet; case rel => exact ⟨congrArg Value.bool (decide_eq_false (p := (e.f2 = 4 ∨ e.f2 = 5 ∨ e.f2 = 7) ∧ thIx e.f3 s.th < 0) (fun h => of_decide_eq_false ea h.1)).symm, rfl⟩)
  obtain ⟨rfl, hw_⟩ := hcut
  have hw_ := hw_.symm
  subst hw_
  by_cases c6 : (e.f2 = 4 ∨ e.f2 = 5 ∨ e.f2 = 7) ∧ thIx e.f3 s.th < 0
  · rw [decide_eq_true c6]
    have hT : Aside0 (reasonM s e = 5) := ⟨by rw [HT.out, if_pos c6]⟩
    clear c6
    go_wp2
    go_ret
    exact ⟨by (rw [hT.out]; try rfl), HB.out⟩
  rw [decide_eq_false c6]
  have HT2 := Aside0.mk (HT.out.trans (if_neg c6))
  clear HT c6
  have HT := HT2
  clear HT2
  go_upto_region 16 with (fail)
  go_cut [85] (fun v wc_ => v = .bool (decide (e.f2 = 4 ∧ e.f3.f0 = e.f0.f0)) ∧ wc_ = wc)
  case first =>
    have q2 : (e.f3.f0.toList == e.f0.f0.toList) = decide (e.f3.f0 = e.f0.f0) := bytes_iff _ _
    have q3 : decide (e.f3.f0.toList = e.f0.f0.toList) = decide (e.f3.f0 = e.f0.f0) := decide_eq_decide.mpr ⟨fun h => bytes_ext _ _ h, fun h => (by rw [h])⟩
    by_cases a1 : e.f2 = 4
    · have qa1 : (e.f2 == 4) = true := (by simpa using a1)
      have ra1 : (e.f2 != 4) = false := (by simpa using a1)
      replace a1 := Aside0.mk a1
      go_wp2
      go_meet
      case rel => exact ⟨congrArg Value.bool (by simp [a1.out]), rfl⟩
    · have qa1 : (e.f2 == 4) = false := (by simpa using a1)
      have ra1 : (e.f2 != 4) = true := (by simpa using a1)
      replace a1 := Aside0.mk a1
      go_wp2
      go_meet
      case rel => exact ⟨congrArg Value.bool (by simp [a1.out]), rfl⟩
  obtain ⟨rfl, hw_⟩ := hcut
  have hw_ := hw_.symm
  subst hw_
  by_cases c7 : e.f2 = 4 ∧ e.f3.f0 = e.f0.f0
  · rw [decide_eq_true c7]
    have hT : Aside0 (reasonM s e = 6) := ⟨by rw [HT.out, if_pos c7]⟩
    clear c7
    go_wp2
    go_ret
    exact ⟨by (rw [hT.out]; try rfl), HB.out⟩
  rw [decide_eq_false c7]
  have HT2 := Aside0.mk (HT.out.trans (if_neg c7))
  clear HT c7
  have HT := HT2
  clear HT2
  go_upto_region 18 with (fail)
  go_cut [98] (fun v wc_ => v = .bool (decide (e.f2 = 7 ∧ 0 ≤ thIx e.f3 s.th ∧ thIx e.f3 s.th < s.th.length ∧ (rd_T71 s.th (thIx e.f3 s.th)).f2 ≠ 2)) ∧ wc_ = wc)
  case first =>
    by_cases a1 : e.f2 = 7
    · have qa1 : (e.f2 == 7) = true := (by simpa using a1)
      have ra1 : (e.f2 != 7) = false := (by simpa using a1)
      replace a1 := Aside0.mk a1
      by_cases a2 : 0 ≤ t
      · have qa2 : decide (0 ≤ t) = true := decide_eq_true a2
        by_cases a3 : t < (s.th.length : Int)
        · have qa3 : decide (t < (s.th.length : Int)) = true := decide_eq_true a3
          obtain ⟨ad, ea, x0, x1, x2, x3⟩ := at_T71 (Kd.C_below HC7.out HB.out) t (by omega) (by omega)
          cases ea
          have p1 := eq_true (show 0 ≤ t by omega)
          have p2 := eq_true (show t < (s.th.length : Int) by omega)
          obtain ⟨u, hu0⟩ : ∃ u, (rd_T71 s.th t).f2 = u := ⟨_, rfl⟩
          rw [hu0] at x3
          have hu := Aside0.mk hu0
          clear hu0
          by_cases a4 : u = 2
          · have qa4 : (u == 2) = true := (by simpa using a4)
            have ra4 : (u != 2) = false := (by simpa using a4)
            replace a4 := Aside0.mk a4
            go_wp2
            go_meet
            case rel => exact ⟨congrArg Value.bool (decide_eq_false (p := e.f2 = 7 ∧ 0 ≤ thIx e.f3 s.th ∧ thIx e.f3 s.th < s.th.length ∧ (rd_T71 s.th (thIx e.f3 s.th)).f2 ≠ 2) (fun h => h.2.2.2 (by rw [ht.out, hu.out]; exact a4.out))).symm, rfl⟩
          · have qa4 : (u == 2) = false := (by simpa using a4)
            have ra4 : (u != 2) = true := (by simpa using a4)
            replace a4 := Aside0.mk a4
            go_wp2
            go_meet
            case rel => exact ⟨congrArg Value.bool (decide_eq_true (p := e.f2 = 7 ∧ 0 ≤ thIx e.f3 s.th ∧ thIx e.f3 s.th < s.th.length ∧ (rd_T71 s.th (thIx e.f3 s.th)).f2 ≠ 2) ⟨a1.out, by rw [ht.out]; omega, by rw [ht.out]; omega, by rw [ht.out, hu.out]; exact a4.out⟩).symm, rfl⟩
        · have qa3 : decide (t < (s.th.length : Int)) = false := decide_eq_false a3
          go_wp2
          go_meet
          case rel => exact ⟨congrArg Value.bool (decide_eq_false (p := e.f2 = 7 ∧ 0 ≤ thIx e.f3 s.th ∧ thIx e.f3 s.th < s.th.length ∧ (rd_T71 s.th (thIx e.f3 s.th)).f2 ≠ 2) (fun h => (by have h2 := h.2.2.1; rw [ht.out] at h2; omega))).symm, rfl⟩
      · have qa2 : decide (0 ≤ t) = false := decide_eq_false a2
        go_wp2
        go_meet
        case rel => exact ⟨congrArg Value.bool (decide_eq_false (p := e.f2 = 7 ∧ 0 ≤ thIx e.f3 s.th ∧ thIx e.f3 s.th < s.th.length ∧ (rd_T71 s.th (thIx e.f3 s.th)).f2 ≠ 2) (fun h => (by have h2 := h.2.1; rw [ht.out] at h2; omega))).symm, rfl⟩
    · have qa1 : (e.f2 == 7) = false := (by simpa using a1)
      have ra1 : (e.f2 != 7) = true := (by simpa using a1)
      replace a1 := Aside0.mk a1
      go_wp2
      go_meet
      case rel => exact ⟨congrArg Value.bool (decide_eq_false (p := e.f2 = 7 ∧ 0 ≤ thIx e.f3 s.th ∧ thIx e.f3 s.th < s.th.length ∧ (rd_T71 s.th (thIx e.f3 s.th)).f2 ≠ 2) (fun h => a1.out h.1)).symm, rfl⟩
  obtain ⟨rfl, hw_⟩ := hcut
  have hw_ := hw_.symm
  subst hw_
  by_cases c8 : e.f2 = 7 ∧ 0 ≤ thIx e.f3 s.th ∧ thIx e.f3 s.th < s.th.length ∧ (rd_T71 s.th (thIx e.f3 s.th)).f2 ≠ 2
  · rw [decide_eq_true c8]
    have hT : Aside0 (reasonM s e = 7) := ⟨by rw [HT.out, if_pos c8]⟩
    clear c8
    go_wp2
    go_ret
    exact ⟨by (rw [hT.out]; try rfl), HB.out⟩
  rw [decide_eq_false c8]
  have HT2 := Aside0.mk (HT.out.trans (if_neg c8))
  clear HT c8
  have HT := HT2
  clear HT2
  go_upto_region 20 with (fail)
  go_cut [122] (fun v wc_ => v = .bool (decide (e.f2 = 6 ∧ s.st ≠ 1)) ∧ wc_ = wc)
  case first =>
    by_cases a1 : e.f2 = 6
    · have qa1 : (e.f2 == 6) = true := (by simpa using a1)
      have ra1 : (e.f2 != 6) = false := (by simpa using a1)
      replace a1 := Aside0.mk a1
      by_cases a2 : s.st = 1
      · have qa2 : (s.st == 1) = true := (by simpa using a2)
        have ra2 : (s.st != 1) = false := (by simpa using a2)
        replace a2 := Aside0.mk a2
        go_wp2
        go_meet
        case rel => exact ⟨congrArg Value.bool (by simp [a1.out, a2.out]), rfl⟩
      · have qa2 : (s.st == 1) = false := (by simpa using a2)
        have ra2 : (s.st != 1) = true := (by simpa using a2)
        replace a2 := Aside0.mk a2
        go_wp2
        go_meet
        case rel => exact ⟨congrArg Value.bool (by simp [a1.out, a2.out]), rfl⟩
    · have qa1 : (e.f2 == 6) = false := (by simpa using a1)
      have ra1 : (e.f2 != 6) = true := (by simpa using a1)
      replace a1 := Aside0.mk a1
      by_cases a2 : s.st = 1
      · have qa2 : (s.st == 1) = true := (by simpa using a2)
        have ra2 : (s.st != 1) = false := (by simpa using a2)
        replace a2 := Aside0.mk a2
        go_wp2
        go_meet
        case rel => exact ⟨congrArg Value.bool (by simp [a1.out, a2.out]), rfl⟩
      · have qa2 : (s.st == 1) = false := (by simpa using a2)
        have ra2 : (s.st != 1) = true := (by simpa using a2)
        replace a2 := Aside0.mk a2
        go_wp2
        go_meet
        case rel => exact ⟨congrArg Value.bool (by simp [a1.out, a2.out]), rfl⟩
  obtain ⟨rfl, hw_⟩ := hcut
  have hw_ := hw_.symm
  subst hw_
  by_cases c9 : e.f2 = 6 ∧ s.st ≠ 1
  · rw [decide_eq_true c9]
    have hT : Aside0 (reasonM s e = 9) := ⟨by rw [HT.out, if_pos c9]⟩
    clear c9
    go_wp2
    go_ret
    exact ⟨by (rw [hT.out]; try rfl), HB.out⟩
  rw [decide_eq_false c9]
  have HT2 := Aside0.mk (HT.out.trans (if_neg c9))
  clear HT c9
  have HT := HT2
  clear HT2
  go_wp2
  go_ret
  exact ⟨by (rw [HT.out]; try rfl), HB.out⟩

end Go.Proofs.YtcjfgejiknlpfaaGreat.PI
