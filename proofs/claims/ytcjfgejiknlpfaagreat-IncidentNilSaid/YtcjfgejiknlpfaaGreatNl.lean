/- Methods of a nil log; Add of events with errors. -/
import Derived.Test.YtcjfgejiknlpfaaGreatSq40
import Derived.Test.YtcjfgejiknlpfaaGreatSq38
import Derived.Test.YtcjfgejiknlpfaaGreatSq24
import Derived.Test.YtcjfgejiknlpfaaGreatEqS
import Derived.Test.YtcjfgejiknlpfaaGreatRes
namespace Go.Proofs.YtcjfgejiknlpfaaGreat.PI
open Go.RowKit Go.Proofs.YtcjfgejiknlpfaaGreatW.PrintWords Go.Proofs.YtcjfgejiknlpfaaGreatW.PrintLast Go.Proofs.YtcjfgejiknlpfaaGreatW.PrintMore Go.Proofs.YtcjfgejiknlpfaaGreat.Sep
set_option linter.unusedVariables false
set_option linter.unusedSimpArgs false
set_option maxHeartbeats 8000000
set_option maxRecDepth 100000

theorem nil_add (v : Value) (w : World) : Calls Tryz.prog 7 #[.pointer none, v] w fun e w' => e = .returned (.tuple #[.int .i64 0, .int .i64 1]) ∧ w' = w := by
  go_enter Tryz.func7, Tryz.ntmps7
  go_wp2
  go_ret2
  exact ⟨rfl, rfl⟩

theorem nil_events (w : World) : Calls Tryz.prog 12 #[.pointer none] w fun e w' => e = .returned (.slice none 0 0) ∧ w' = w := by
  go_enter Tryz.func12, Tryz.ntmps12
  go_wp2
  go_ret
  exact ⟨rfl, rfl⟩

theorem nil_conflicts (w : World) : Calls Tryz.prog 16 #[.pointer none] w fun e w' => e = .returned (.slice none 0 0) ∧ w' = w := by
  go_enter Tryz.func16, Tryz.ntmps16
  go_wp2
  go_ret
  exact ⟨rfl, rfl⟩

theorem nil_merge1 (p : Nat) (w : World) : Calls Tryz.prog 21 #[.pointer none, .pointer (some ⟨p, 0, none⟩)] w fun e w' => e = .returned (.tuple #[.int .i64 0, .int .i64 1]) ∧ w' = w := by
  go_enter Tryz.func21, Tryz.ntmps21
  go_wp2
  go_ret2
  exact ⟨rfl, rfl⟩

theorem nil_merge2 (p : Nat) (w : World) : Calls Tryz.prog 21 #[.pointer (some ⟨p, 0, none⟩), .pointer none] w fun e w' => e = .returned (.tuple #[.int .i64 0, .int .i64 1]) ∧ w' = w := by
  go_enter Tryz.func21, Tryz.ntmps21
  go_wp2
  go_ret2
  exact ⟨rfl, rfl⟩

theorem nil_clone (w : World) : Calls Tryz.prog 24 #[.pointer none] w fun e w' => e = .returned (.pointer none) ∧ w' = w := by
  go_enter Tryz.func24, Tryz.ntmps24
  go_wp2
  go_ret
  exact ⟨rfl, rfl⟩

theorem nil_equal (w : World) : Calls Tryz.prog 20 #[.pointer none, .pointer none] w fun e w' => e = .returned (.bool true) ∧ w' = w := by
  go_enter Tryz.func20, Tryz.ntmps20
  go_wp2
  go_ret
  exact ⟨rfl, rfl⟩

theorem eql_nil_some (w : World) (a : Addr) : (binOp .eql 23 (.pointer none) (.pointer (some a))).run Tryz.prog w = .ok (.bool false) w := by
  have h : ∀ d : Nat, (Op.equalIn (d + 1) 23 (.pointer none) (.pointer (some a))).run Tryz.prog w = .ok false w := fun d => by simp [Op.equalIn, run_underlying Tryz.underlying23]
  simp only [binOp]
  simp [Op.equal, Op.maxDepth, h 9999]
attribute [local go_sem high] eql_nil_some

theorem nil_equal1 (p : Nat) (w : World) : Calls Tryz.prog 20 #[.pointer none, .pointer (some ⟨p, 0, none⟩)] w fun e w' => e = .returned (.bool false) ∧ w' = w := by
  go_enter Tryz.func20, Tryz.ntmps20
  go_wp2
  go_ret
  exact ⟨rfl, rfl⟩

theorem nil_equal2 (p : Nat) (w : World) : Calls Tryz.prog 20 #[.pointer (some ⟨p, 0, none⟩), .pointer none] w fun e w' => e = .returned (.bool false) ∧ w' = w := by
  go_enter Tryz.func20, Tryz.ntmps20
  go_wp2
  go_ret
  exact ⟨rfl, rfl⟩

theorem nil_state (w : World) : Calls Tryz.prog 15 #[.pointer none] w fun e w' => e = .returned (.agg #[.int .i64 0, .string ⟨#[]⟩, .int .i64 0, .int .i64 0, .string ⟨#[]⟩, .int .i64 0, .slice none 0 0, .slice none 0 0, .int .i64 0]) ∧ Below w.heap.size w w' := by
  have HS := Aside0.mk (St.none_ (N := w.heap.size) (w := w) (Nat.le_refl _))
  have HB := Aside0.mk (Below.refl w.heap.size w)
  go_enter Tryz.func15, Tryz.ntmps15
  go_wp2_with (first | ((with_reducible refine gate_dst (N := 2) rfl ?_); refine box_event ?hg (N := 2) ?hd (cs := #[.int .i64 0, .string ⟨#[]⟩, .int .i64 0, .int .i64 0, .string ⟨#[]⟩, .int .i64 0, .slice none 0 0, .slice none 0 0, .int .i64 0]) (t := 37) ?hr ?_; (case hd => rfl); (case hg => rfl); (case hr => first | (go_simp; done) | (go_simp; rfl)); intro gR hg w1 hbox hb; have n0_ := Aside0.mk (HS.out.box hg hbox hb); have n1_ := Aside0.mk (below_step' HB.out HS.out.size hb); clear HS HB; have HS := n0_; have HB := n1_; clear n0_ n1_; (try simp only [List.eraseIdx_cons_succ, List.eraseIdx_cons_zero] at HS); clear hb hbox hg; have hc0_0 := ((HS.out.pick 0 rfl).cell 0).trans (show _ = some (.int .i64 0) from rfl); have hc0_1 := ((HS.out.pick 0 rfl).cell 1).trans (show _ = some (.string ⟨#[]⟩) from rfl); have hc0_2 := ((HS.out.pick 0 rfl).cell 2).trans (show _ = some (.int .i64 0) from rfl); have hc0_3 := ((HS.out.pick 0 rfl).cell 3).trans (show _ = some (.int .i64 0) from rfl); have hc0_4 := ((HS.out.pick 0 rfl).cell 4).trans (show _ = some (.string ⟨#[]⟩) from rfl); have hc0_5 := ((HS.out.pick 0 rfl).cell 5).trans (show _ = some (.int .i64 0) from rfl); have hc0_6 := ((HS.out.pick 0 rfl).cell 6).trans (show _ = some (.slice none 0 0) from rfl); have hc0_7 := ((HS.out.pick 0 rfl).cell 7).trans (show _ = some (.slice none 0 0) from rfl); have hc0_8 := ((HS.out.pick 0 rfl).cell 8).trans (show _ = some (.int .i64 0) from rfl); have hf0_0 := (HS.out.pick 0 rfl).frozen 0; have hf0_1 := (HS.out.pick 0 rfl).frozen 1; have hf0_2 := (HS.out.pick 0 rfl).frozen 2; have hf0_3 := (HS.out.pick 0 rfl).frozen 3; have hf0_4 := (HS.out.pick 0 rfl).frozen 4; have hf0_5 := (HS.out.pick 0 rfl).frozen 5; have hf0_6 := (HS.out.pick 0 rfl).frozen 6; have hf0_7 := (HS.out.pick 0 rfl).frozen 7; have hf0_8 := (HS.out.pick 0 rfl).frozen 8))
  have s9 := set9 (.int .i64 0) (.string ⟨#[]⟩) (.int .i64 0) (.int .i64 0) (.string ⟨#[]⟩) (.int .i64 0) (.slice none 0 0) (.slice none 0 0) (.int .i64 0) (HS.out.pick 0 rfl) HB.out
  refine bodyPost_ret (results_cell_row rfl _ _ gR 37 _ (0, 0) _ rfl s9.1.blk Tryz.underlying37 rfl (by kernel_rfl)) rfl ?_
  exact ⟨rfl, s9.2⟩

theorem nil_at (t : Int) {N : Nat} {w : World} {L : List Res} (HS0 : St N w L) :
    Calls Tryz.prog 23 #[.pointer none, .int .i64 t] w fun r w' => ∃ v5 v6, r = .returned (.agg #[.int .i64 (runP []).1.st, .string (runP []).1.ti, .int .i64 (runP []).1.op, .int .i64 (runP []).1.en, .string (runP []).1.ca.f0, .int .i64 (runP []).1.ca.f1, v5, v6, .int .i64 (runP []).1.no]) ∧ St N w' (Row k69 69 v5 (runP []).1.pe :: Row k71 71 v6 (runP []).1.th :: L) ∧ Below N w w' := by
  have HS := Aside0.mk HS0
  have HB := Aside0.mk (Below.refl N w)
  clear HS0
  go_enter Tryz.func23, Tryz.ntmps23
  go_wp2_with (first | ((with_reducible refine gate_dst (N := 3) rfl ?_); refine box_event ?hg (N := 3) ?hd (cs := #[.int .i64 t]) (t := 3) ?hr ?_; (case hd => rfl); (case hg => rfl); (case hr => first | (go_simp; done) | (go_simp; rfl)); intro tb hg w1 hbox hb; have n0_ := Aside0.mk (HS.out.box hg hbox hb); have n1_ := Aside0.mk (below_step' HB.out HS.out.size hb); clear HS HB; have HS := n0_; have HB := n1_; clear n0_ n1_; (try simp only [List.eraseIdx_cons_succ, List.eraseIdx_cons_zero] at HS); clear hb hbox hg) | ((with_reducible refine gate_dst (N := 4) rfl ?_); refine box_event ?hg (N := 4) ?hd (cs := #[.int .i64 0, .string ⟨#[]⟩, .int .i64 0, .int .i64 0, .string ⟨#[]⟩, .int .i64 0, .slice none 0 0, .slice none 0 0, .int .i64 0]) (t := 37) ?hr ?_; (case hd => rfl); (case hg => rfl); (case hr => first | (go_simp; done) | (go_simp; rfl)); intro gR hg w2 hbox hb; have n0_ := Aside0.mk (HS.out.box hg hbox hb); have n1_ := Aside0.mk (below_step' HB.out HS.out.size hb); clear HS HB; have HS := n0_; have HB := n1_; clear n0_ n1_; (try simp only [List.eraseIdx_cons_succ, List.eraseIdx_cons_zero] at HS); clear hb hbox hg) | (go_at_call 12; (with_reducible refine (nil_events _).mono ?_); rintro r_ _ ⟨rfl, rfl⟩; have n2_ := Aside0.mk (HS.out.rowNil (d := k50) (e := 50)); clear HS; have HS := n2_; clear n2_) | (go_at_call 42; (with_reducible refine (delete_ok t tb [] (by decide) (.slice none 0 0) (((HS.out.pick 1 rfl).pick 2 rfl).pick 2 rfl)).mono ?_); rintro r_ w4 ⟨v2, rfl, hs, hb⟩; have n0_ := Aside0.mk (hs); have n1_ := Aside0.mk (HB.out.trans hb); clear HS HB; have HS := n0_; have HB := n1_; clear n0_ n1_; (try simp only [List.eraseIdx_cons_succ, List.eraseIdx_cons_zero] at HS); clear hs hb; obtain ⟨q0, hq0_⟩ : ∃ q, upTo t [] = q := ⟨_, rfl⟩; rw [hq0_] at HS; have hq0 := Aside0.mk hq0_; obtain rfl : q0 = [] := hq0_.symm; clear hq0_; generalize hz_ : ([] : List S50) = q0 at HS; replace hz_ := Aside0.mk hz_; obtain ⟨A2, c2, e2, _, _⟩ := HS.out.reads; subst e2) | (go_at_call 28; (with_reducible refine (Fold_ok A2 c2 q0 (by rw [← hz_.out]; decide) (fun x hx => absurd (order_mem hx) (by rw [← hz_.out]; simp)) (fun w' L' h _ => (St.pick (r := Row k50 50 (.slice A2 q0.length c2) q0) h L'.length (by simp)).rowC.2.2) HS.out).mono ?_); rintro r_ w5 ⟨v5, v6, rfl, hs, hb⟩; have n0_ := Aside0.mk (hs); have n1_ := Aside0.mk (HB.out.trans hb); clear HS HB; have HS := n0_; have HB := n1_; clear n0_ n1_; (try simp only [List.eraseIdx_cons_succ, List.eraseIdx_cons_zero] at HS); clear hs hb; obtain ⟨A5, k5, e5, _, _⟩ := (HS.out.pick 0 rfl).reads; subst e5; obtain ⟨A6, k6, e6, _, _⟩ := (HS.out.pick 1 rfl).reads; subst e6; obtain ⟨c0, c1, c2, c3, c4, c5, c6, c7, c8⟩ := cells9 (HS.out.pick 4 rfl); obtain ⟨f0, f1, f2, f3, f4, f5, f6, f7, f8⟩ := frozen9 (HS.out.pick 4 rfl)))
  have s9 := set9 (.int .i64 (runP q0).1.st) (.string (runP q0).1.ti) (.int .i64 (runP q0).1.op) (.int .i64 (runP q0).1.en) (.string (runP q0).1.ca.f0) (.int .i64 (runP q0).1.ca.f1) (.slice A5 (runP q0).1.pe.length k5) (.slice A6 (runP q0).1.th.length k6) (.int .i64 (runP q0).1.no) (HS.out.pick 4 rfl) HB.out
  have h := (((((s9.1.pick 2 rfl).pick 2 rfl).pick 4 rfl).pick 4 rfl).pick 4 rfl).drop.drop.drop
  refine bodyPost_ret (results_cell_row rfl _ _ gR 37 _ (0, 0) _ rfl s9.1.blk Tryz.underlying37 rfl (by kernel_rfl)) rfl ?_
  rw [hz_.out]
  exact ⟨_, _, rfl, h, s9.2⟩

/-- The first error of events. -/
def fstE : List S50 → Int
  | [] => 0
  | x :: l => if errE x = 0 then fstE l else errE x
theorem fstE_drop (l : List S50) (i : Nat) (h : i < l.length) : fstE (l.drop i) = if errE (rd_T50 l (i : Int)) = 0 then fstE (l.drop (i + 1)) else errE (rd_T50 l (i : Int)) := by
  have e : rd_T50 l (i : Int) = l[i] := by simp [rd_T50, h]
  rw [e, List.drop_eq_getElem_cons h, fstE]
theorem AddE_ok {N : Nat} {w : World} {L : List Res} (p : Nat) (l1 l2 : List S50) (b10 : l1.length ≤ 1000) (b20 : l2.length ≤ 1000) (A2 : Option Addr) (c2 : Nat) (hC20 : ∀ w', St N w' L → k50.C w' A2 l2.length l2 ∧ l2.length ≤ c2) (HS0 : St N w (Lg p l1 :: L)) :
    Calls Tryz.prog 7 #[.pointer (some ⟨p, 0, none⟩), .slice A2 l2.length c2] w fun e w' => ∃ (n : Int) (l' : List S50), e = .returned (.tuple #[.int .i64 n, .int .i64 (fstE l2)]) ∧ (fstE l2 ≠ 0 → n = 0 ∧ l' = l1) ∧ St N w' (Lg p l' :: L) ∧ Below N w w' := by
  have HS := Aside0.mk HS0
  have HB := Aside0.mk (Below.refl N w)
  have b1 := Aside0.mk b10
  have b2 := Aside0.mk b20
  have hC2 := Aside0.mk hC20
  clear HS0 b10 b20 hC20
  go_enter Tryz.func7, Tryz.ntmps7
  go_upto_region 4 with (fail)
  go_loopw [13] (fun v13 wr => ∃ i : Nat, i ≤ l2.length ∧ v13 = .int .i64 i ∧ Aside0 (fstE l2 = fstE (l2.drop i)) ∧ Aside0 (St N wr (Lg p l1 :: L)) ∧ Aside0 (Below N w wr)) (fun v13 _ => l2.length - (intOf v13).toNat)
  case atStart => exact ⟨0, Nat.zero_le _, rfl, ⟨rfl⟩, HS, HB⟩
  case round =>
    clear HS HB
    obtain ⟨i, hi, rfl, HE, HS, HB⟩ := hrel
    by_cases hlt : i < l2.length
    · obtain ⟨ad, ea, x0, x1, x2, x3, x4, x5, x6, x7, x8⟩ := at_T50 (hC2.out _ HS.out.drop).1 (i : Int) (by omega) (by omega)
      cases ea
      rw [Int.toNat_natCast] at x0 x1 x2 x3 x4 x5 x6 x7 x8
      have q0 : decide ((i : Int) < (l2.length : Int)) = true := decide_eq_true (by omega)
      have q1 := eq_true (show (i : Int) < (l2.length : Int) by omega)
      have q2 := eq_true (show (0 : Int) ≤ (i : Int) by omega)
      have hw : IntKind.i64.wrap ((i : Int) + 1) = (i : Int) + 1 := by rw [IntKind.wrap_i64]; have := b2.out; omega
      have hnx := Aside0.mk (fstE_drop l2 i hlt)
      generalize rd_T50 l2 (i : Int) = x at hnx x0 x1 x2 x3 x4 x5 x6 x7 x8
      go_upto_region 6 with (fail)
      have hbx := HS.out.box (g := wr.heap.size) (cs := #[.string x.f0.f0, .int .i64 x.f0.f1, .int .i64 x.f1, .int .i64 x.f2, .string x.f3.f0, .int .i64 x.f3.f1, .string x.f4, .int .i64 x.f5, .string x.f6]) (t := 50) rfl (new_cells wr _ _) ((Below.refl _ _).alloc (Nat.le_refl _) _)
      have hbb := below_step' HB.out HS.out.size ((Below.refl _ _).alloc (Nat.le_refl _) (.cells #[.string x.f0.f0, .int .i64 x.f0.f1, .int .i64 x.f1, .int .i64 x.f2, .string x.f3.f0, .int .i64 x.f3.f1, .string x.f4, .int .i64 x.f5, .string x.f6] 50))
      generalize wr.heap.size = g at hbx hbb ⊢
      generalize wr.alloc (.cells #[.string x.f0.f0, .int .i64 x.f0.f1, .int .i64 x.f1, .int .i64 x.f2, .string x.f3.f0, .int .i64 x.f3.f1, .string x.f4, .int .i64 x.f5, .string x.f6] 50) = w5 at hbx hbb ⊢
      clear x0 x1 x2 x3 x4 x5 x6 x7 x8 q0 q1 q2
      have n0_ := Aside0.mk (hbx); have n1_ := Aside0.mk (hbb); clear HS HB; have HS := n0_; have HB := n1_; clear n0_ n1_; (try simp only [List.eraseIdx_cons_succ, List.eraseIdx_cons_zero] at HS)
      clear hbx hbb
      obtain ⟨y0, y1, y2, y3, y4, y5, y6, y7, y8⟩ := cells9 HS.out
      by_cases he : errE x = 0
      · have qe : (errE x != 0) = false := by rw [he]; rfl
        replace he := Aside0.mk he
        go_wp2_with (first | (go_at_call 26; (with_reducible refine (check_ok x _).mono ?_); rintro r_ w6 ⟨rfl, hb⟩; clear y0 y1 y2 y3 y4 y5 y6 y7 y8; have n0_ := Aside0.mk (HS.out.step hb); have n1_ := Aside0.mk (below_step' HB.out HS.out.size hb); clear HS HB; have HS := n0_; have HB := n1_; clear n0_ n1_; (try simp only [List.eraseIdx_cons_succ, List.eraseIdx_cons_zero] at HS); clear hb))
        go_roundw
        case rel => exact ⟨i + 1, by omega, by go_num, ⟨by rw [HE.out, hnx.out, if_pos he.out]⟩, ⟨HS.out.drop⟩, HB⟩
        case measure => simp [intOf]; omega
      · have qe : (errE x != 0) = true := by simpa using he
        replace he := Aside0.mk he
        go_wp2_with (first | (go_at_call 26; (with_reducible refine (check_ok x _).mono ?_); rintro r_ w6 ⟨rfl, hb⟩; clear y0 y1 y2 y3 y4 y5 y6 y7 y8; have n0_ := Aside0.mk (HS.out.step hb); have n1_ := Aside0.mk (below_step' HB.out HS.out.size hb); clear HS HB; have HS := n0_; have HB := n1_; clear n0_ n1_; (try simp only [List.eraseIdx_cons_succ, List.eraseIdx_cons_zero] at HS); clear hb))
        go_ret2
        exact ⟨0, l1, by rw [HE.out, hnx.out, if_neg he.out]; rfl, fun _ => ⟨rfl, rfl⟩, HS.out.drop, HB.out⟩
    · obtain rfl : i = l2.length := by omega
      have q0 : decide ((l2.length : Int) < (l2.length : Int)) = false := decide_eq_false (by omega)
      have hz : Aside0 (fstE l2 = 0) := ⟨by rw [HE.out, List.drop_length]; rfl⟩
      go_wp2_with (first | (go_at_call 27; refine (insert_ok p l1 l2 b1.out b2.out A2 c2 hC2.out HS.out).mono ?_; rintro r_ w7 ⟨rfl, hs, hb⟩; have n0_ := Aside0.mk (hs); have n1_ := Aside0.mk (HB.out.trans hb); clear HS HB; have HS := n0_; have HB := n1_; clear n0_ n1_; (try simp only [List.eraseIdx_cons_succ, List.eraseIdx_cons_zero] at HS); clear hs hb))
      go_ret2
      exact ⟨((sdd (l1 ++ l2)).length : Int) - (l1.length : Int), sdd (l1 ++ l2), by rw [hz.out]; rfl, fun h => absurd hz.out h, HS.out, HB.out⟩

end Go.Proofs.YtcjfgejiknlpfaaGreat.PI
