/- New; a log's State and At. -/
import Derived.Test.YtcjfgejiknlpfaaGreatSq37
namespace Go.Proofs.YtcjfgejiknlpfaaGreat.PI
open Go.RowKit Go.Proofs.YtcjfgejiknlpfaaGreatW.PrintWords Go.Proofs.YtcjfgejiknlpfaaGreatW.PrintLast Go.Proofs.YtcjfgejiknlpfaaGreatW.PrintMore Go.Proofs.YtcjfgejiknlpfaaGreat.Sep
set_option linter.unusedVariables false
set_option linter.unusedSimpArgs false
set_option maxHeartbeats 8000000
set_option maxRecDepth 100000

theorem New_ok {N : Nat} {w : World} {L : List Res} (HS0 : St N w L) : Calls Tryz.prog 5 #[] w fun e w' => ∃ p, e = .returned (.pointer (some ⟨p, 0, none⟩)) ∧ St N w' (Lg p [] :: L) ∧ Below N w w' := by
  have HS := Aside0.mk HS0
  have HB := Aside0.mk (Below.refl N w)
  clear HS0
  go_enter Tryz.func5, Tryz.ntmps5
  go_wp2_with (first | ((with_reducible refine gate_dst (N := 2) rfl ?_); refine box_event ?hg (N := 2) ?hd (cs := #[.slice none 0 0]) (t := 58) ?hr ?_; (case hd => rfl); (case hg => rfl); (case hr => first | (go_simp; done) | (go_simp; rfl)); intro p hg w1 hbox hb; have n0_ := Aside0.mk (HS.out.box hg hbox hb); have n1_ := Aside0.mk (below_step' HB.out HS.out.size hb); clear HS HB; have HS := n0_; have HB := n1_; clear n0_ n1_; (try simp only [List.eraseIdx_cons_succ, List.eraseIdx_cons_zero] at HS); clear hb hbox hg))
  go_ret
  exact ⟨p, rfl, lg_shut ((HS.out.rowNil (d := k50) (e := 50)).swap), HB.out⟩

theorem State_ok (p : Nat) (l : List S50) (m10 : l.length ≤ 10000) (hk0 : ∀ x ∈ orderE l, 1 ≤ x.f2 ∧ x.f2 ≤ 9) {N : Nat} {w : World} {L : List Res} (HS0 : St N w (Lg p l :: L)) :
    Calls Tryz.prog 15 #[.pointer (some ⟨p, 0, none⟩)] w fun r w' => ∃ v5 v6, r = .returned (.agg #[.int .i64 (runP l).1.st, .string (runP l).1.ti, .int .i64 (runP l).1.op, .int .i64 (runP l).1.en, .string (runP l).1.ca.f0, .int .i64 (runP l).1.ca.f1, v5, v6, .int .i64 (runP l).1.no]) ∧ St N w' (Row k69 69 v5 (runP l).1.pe :: Row k71 71 v6 (runP l).1.th :: Lg p l :: L) ∧ Below N w w' := by
  obtain ⟨A, c, hc, h⟩ := lg_open HS0
  have HS := Aside0.mk h
  have HB := Aside0.mk (Below.refl N w)
  have m1 := Aside0.mk m10
  have hk := Aside0.mk hk0
  clear HS0 h m10 hc hk0
  go_enter Tryz.func15, Tryz.ntmps15
  go_upto_region 3 with (first | ((with_reducible refine gate_dst (N := 2) rfl ?_); refine box_event ?hg (N := 2) ?hd (cs := #[.int .i64 0, .string ⟨#[]⟩, .int .i64 0, .int .i64 0, .string ⟨#[]⟩, .int .i64 0, .slice none 0 0, .slice none 0 0, .int .i64 0]) (t := 37) ?hr ?_; (case hd => rfl); (case hg => rfl); (case hr => first | (go_simp; done) | (go_simp; rfl)); intro gR hg w1 hbox hb; have n0_ := Aside0.mk (HS.out.box hg hbox hb); have n1_ := Aside0.mk (below_step' HB.out HS.out.size hb); clear HS HB; have HS := n0_; have HB := n1_; clear n0_ n1_; (try simp only [List.eraseIdx_cons_succ, List.eraseIdx_cons_zero] at HS); clear hb hbox hg))
  have p0 : w1.cell? ⟨p, 0, none⟩ = some (.slice A l.length c) := ((HS.out.pick 1 rfl).cell 0).trans rfl
  go_wp2_with (first | (go_at_call 28; (with_reducible refine (Fold_ok A c l (by have := m1.out; omega) hk.out (fun w' L' h _ => (St.pick (r := Row k50 50 (.slice A l.length c) l) h (L'.length + 2) (by simp)).rowC.2.2) HS.out).mono ?_); rintro r_ w3 ⟨v5, v6, rfl, hs, hb⟩; clear p0; have n0_ := Aside0.mk (hs); have n1_ := Aside0.mk (HB.out.trans hb); clear HS HB; have HS := n0_; have HB := n1_; clear n0_ n1_; (try simp only [List.eraseIdx_cons_succ, List.eraseIdx_cons_zero] at HS); clear hs hb; generalize hqq : runP l = q at HS; (try rw [hqq]); replace hqq := Aside0.mk hqq; obtain ⟨s, rs⟩ := q; simp only at HS; obtain ⟨A5, k5, e5, _, _⟩ := (HS.out.pick 0 rfl).reads; subst e5; obtain ⟨A6, k6, e6, _, _⟩ := (HS.out.pick 1 rfl).reads; subst e6; obtain ⟨c0, c1, c2, c3, c4, c5, c6, c7, c8⟩ := cells9 (HS.out.pick 2 rfl); obtain ⟨f0, f1, f2, f3, f4, f5, f6, f7, f8⟩ := frozen9 (HS.out.pick 2 rfl)))
  have s9 := set9 (.int .i64 s.st) (.string s.ti) (.int .i64 s.op) (.int .i64 s.en) (.string s.ca.f0) (.int .i64 s.ca.f1) (.slice A5 s.pe.length k5) (.slice A6 s.th.length k6) (.int .i64 s.no) (HS.out.pick 2 rfl) HB.out
  have h := s9.1.drop
  refine bodyPost_ret (results_cell_row rfl _ _ gR 37 _ (0, 0) _ rfl s9.1.blk Tryz.underlying37 rfl (by kernel_rfl)) rfl ?_
  rw [hqq.out]
  exact ⟨_, _, rfl, ((lg_shut (((h.pick 2 rfl).pick 3 rfl).swap)).pick 1 rfl |> fun h => (h.pick 2 rfl).swap), s9.2⟩

theorem upTo_len (t : Int) (l : List S50) : (upTo t l).length ≤ l.length := List.length_filter_le _ _
theorem At_ok (p : Nat) (t : Int) (l : List S50) (m10 : l.length ≤ 10000) (hk0 : ∀ x ∈ orderE (upTo t (orderE l)), 1 ≤ x.f2 ∧ x.f2 ≤ 9) {N : Nat} {w : World} {L : List Res} (HS0 : St N w (Lg p l :: L)) :
    Calls Tryz.prog 23 #[.pointer (some ⟨p, 0, none⟩), .int .i64 t] w fun r w' => ∃ v5 v6, r = .returned (.agg #[.int .i64 (runP (upTo t (orderE l))).1.st, .string (runP (upTo t (orderE l))).1.ti, .int .i64 (runP (upTo t (orderE l))).1.op, .int .i64 (runP (upTo t (orderE l))).1.en, .string (runP (upTo t (orderE l))).1.ca.f0, .int .i64 (runP (upTo t (orderE l))).1.ca.f1, v5, v6, .int .i64 (runP (upTo t (orderE l))).1.no]) ∧ St N w' (Row k69 69 v5 (runP (upTo t (orderE l))).1.pe :: Row k71 71 v6 (runP (upTo t (orderE l))).1.th :: Lg p l :: L) ∧ Below N w w' := by
  have HS := Aside0.mk HS0
  have HB := Aside0.mk (Below.refl N w)
  have m1 := Aside0.mk m10
  have hk := Aside0.mk hk0
  have hqn : Aside0 ((upTo t (orderE l)).length ≤ 10000) := ⟨Nat.le_trans (upTo_len _ _) (Nat.le_trans (order_len l) m10)⟩
  clear HS0 m10 hk0
  go_enter Tryz.func23, Tryz.ntmps23
  go_wp2_with (first | ((with_reducible refine gate_dst (N := 3) rfl ?_); refine box_event ?hg (N := 3) ?hd (cs := #[.int .i64 t]) (t := 3) ?hr ?_; (case hd => rfl); (case hg => rfl); (case hr => first | (go_simp; done) | (go_simp; rfl)); intro tb hg w1 hbox hb; have n0_ := Aside0.mk (HS.out.box hg hbox hb); have n1_ := Aside0.mk (below_step' HB.out HS.out.size hb); clear HS HB; have HS := n0_; have HB := n1_; clear n0_ n1_; (try simp only [List.eraseIdx_cons_succ, List.eraseIdx_cons_zero] at HS); clear hb hbox hg) | ((with_reducible refine gate_dst (N := 4) rfl ?_); refine box_event ?hg (N := 4) ?hd (cs := #[.int .i64 0, .string ⟨#[]⟩, .int .i64 0, .int .i64 0, .string ⟨#[]⟩, .int .i64 0, .slice none 0 0, .slice none 0 0, .int .i64 0]) (t := 37) ?hr ?_; (case hd => rfl); (case hg => rfl); (case hr => first | (go_simp; done) | (go_simp; rfl)); intro gR hg w2 hbox hb; have n0_ := Aside0.mk (HS.out.box hg hbox hb); have n1_ := Aside0.mk (below_step' HB.out HS.out.size hb); clear HS HB; have HS := n0_; have HB := n1_; clear n0_ n1_; (try simp only [List.eraseIdx_cons_succ, List.eraseIdx_cons_zero] at HS); clear hb hbox hg) | (go_at_call 12; (with_reducible refine (LEvents_ok p l m1.out (HS.out.pick 2 rfl)).mono ?_); rintro r_ w3 ⟨v1, rfl, hs, hb⟩; have n0_ := Aside0.mk (((((hs.pick 2 rfl).pick 2 rfl).pick 3 rfl).pick 3 rfl)); have n1_ := Aside0.mk (HB.out.trans hb); clear HS HB; have HS := n0_; have HB := n1_; clear n0_ n1_; (try simp only [List.eraseIdx_cons_succ, List.eraseIdx_cons_zero] at HS); clear hs hb) | (go_at_call 42; (with_reducible refine (delete_ok t tb (orderE l) (by have := order_len l; have := m1.out; omega) v1 HS.out).mono ?_); rintro r_ w4 ⟨v2, rfl, hs, hb⟩; have n0_ := Aside0.mk (hs); have n1_ := Aside0.mk (HB.out.trans hb); clear HS HB; have HS := n0_; have HB := n1_; clear n0_ n1_; (try simp only [List.eraseIdx_cons_succ, List.eraseIdx_cons_zero] at HS); clear hs hb; obtain ⟨q0, hq0⟩ : ∃ q, upTo t (orderE l) = q := ⟨_, rfl⟩; rw [hq0] at HS hk hqn; replace hq0 := Aside0.mk hq0; obtain ⟨A2, c2, e2, _, _⟩ := HS.out.reads; subst e2) | (go_at_call 28; (with_reducible refine (Fold_ok A2 c2 q0 (by have := hqn.out; omega) hk.out (fun w' L' h _ => (St.pick (r := Row k50 50 (.slice A2 q0.length c2) q0) h L'.length (by simp)).rowC.2.2) HS.out).mono ?_); rintro r_ w5 ⟨v5, v6, rfl, hs, hb⟩; have n0_ := Aside0.mk (hs); have n1_ := Aside0.mk (HB.out.trans hb); clear HS HB; have HS := n0_; have HB := n1_; clear n0_ n1_; (try simp only [List.eraseIdx_cons_succ, List.eraseIdx_cons_zero] at HS); clear hs hb; generalize hqq : runP q0 = q at HS; (try rw [hqq]); replace hqq := Aside0.mk hqq; obtain ⟨s, rs⟩ := q; simp only at HS; obtain ⟨A5, k5, e5, _, _⟩ := (HS.out.pick 0 rfl).reads; subst e5; obtain ⟨A6, k6, e6, _, _⟩ := (HS.out.pick 1 rfl).reads; subst e6; obtain ⟨c0, c1, c2, c3, c4, c5, c6, c7, c8⟩ := cells9 (HS.out.pick 5 rfl); obtain ⟨f0, f1, f2, f3, f4, f5, f6, f7, f8⟩ := frozen9 (HS.out.pick 5 rfl)))
  have s9 := set9 (.int .i64 s.st) (.string s.ti) (.int .i64 s.op) (.int .i64 s.en) (.string s.ca.f0) (.int .i64 s.ca.f1) (.slice A5 s.pe.length k5) (.slice A6 s.th.length k6) (.int .i64 s.no) (HS.out.pick 5 rfl) HB.out
  have h := ((((((s9.1.pick 5 rfl).pick 3 rfl).pick 3 rfl).pick 5 rfl).pick 5 rfl).pick 5 rfl).drop.drop.drop
  refine bodyPost_ret (results_cell_row rfl _ _ gR 37 _ (0, 0) _ rfl s9.1.blk Tryz.underlying37 rfl (by kernel_rfl)) rfl ?_
  rw [hq0.out, hqq.out]
  exact ⟨_, _, rfl, h, s9.2⟩

end Go.Proofs.YtcjfgejiknlpfaaGreat.PI
