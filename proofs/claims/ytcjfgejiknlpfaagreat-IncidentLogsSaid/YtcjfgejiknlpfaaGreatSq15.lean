/- Reasons and Fold. -/
import Derived.Test.YtcjfgejiknlpfaaGreatSq14
namespace Go.Proofs.YtcjfgejiknlpfaaGreat.PI
open Go.RowKit Go.Proofs.YtcjfgejiknlpfaaGreatW.PrintWords Go.Proofs.YtcjfgejiknlpfaaGreatW.PrintLast Go.Proofs.YtcjfgejiknlpfaaGreatW.PrintMore Go.Proofs.YtcjfgejiknlpfaaGreat.Sep
set_option linter.unusedVariables false
set_option linter.unusedSimpArgs false
set_option maxHeartbeats 8000000
set_option maxRecDepth 100000

theorem Reasons_ok {N : Nat} {w : World} {L : List Res} (A : Option Addr) (c : Nat) (zs : List S50) (hm : zs.length ≤ 100000) (hk : ∀ x ∈ orderE zs, 1 ≤ x.f2 ∧ x.f2 ≤ 9) (hc : ∀ w' L', St N w' (L' ++ L) → Below N w w' → Kd.C k50 w' A zs.length zs) (HS0 : St N w L) :
    Calls Tryz.prog 29 #[.slice A zs.length c] w fun r w' => ∃ vr, r = .returned vr ∧ St N w' (Row (Kd.int .i64) 3 vr (runP zs).2 :: L) ∧ Below N w w' := by
  have HS := Aside0.mk HS0
  have HB := Aside0.mk (Below.refl N w)
  have HC := Aside0.mk hc
  have HK := Aside0.mk hk
  clear HS0 hc hk
  go_enter Tryz.func29, Tryz.ntmps29
  go_upto_region 2 with (first | (go_at_call 53; refine (run_ok A c zs hm HK.out HC.out HS.out).mono ?_; rintro r_ w2 ⟨v5, v6, vr, rfl, hs, hb⟩; have n0_ := Aside0.mk (hs); have n1_ := Aside0.mk (HB.out.trans hb); clear HS HB; have HS := n0_; have HB := n1_; clear n0_ n1_; (try simp only [List.eraseIdx_cons_succ, List.eraseIdx_cons_zero] at HS); clear hs hb HC; generalize hqq : runP zs = q at HS; replace hqq := Aside0.mk hqq; obtain ⟨s, rs⟩ := q; simp only at HS; obtain ⟨A5, k5, e5, _, _⟩ := (HS.out.pick 0 rfl).reads; subst e5; obtain ⟨A6, k6, e6, _, _⟩ := (HS.out.pick 1 rfl).reads; subst e6; simp only [hqq.out]))
  have hb : Below N w (w2.alloc (.cells #[.int .i64 s.st, .string s.ti, .int .i64 s.op, .int .i64 s.en, .string s.ca.f0, .int .i64 s.ca.f1, .slice A5 s.pe.length k5, .slice A6 s.th.length k6, .int .i64 s.no] 37)) := HB.out.alloc HS.out.size _
  have hs := (HS.out.drop.drop).step ((Below.refl _ w2).alloc (Nat.le_refl _) (.cells #[.int .i64 s.st, .string s.ti, .int .i64 s.op, .int .i64 s.en, .string s.ca.f0, .int .i64 s.ca.f1, .slice A5 s.pe.length k5, .slice A6 s.th.length k6, .int .i64 s.no] 37))
  generalize w2.alloc (.cells #[.int .i64 s.st, .string s.ti, .int .i64 s.op, .int .i64 s.en, .string s.ca.f0, .int .i64 s.ca.f1, .slice A5 s.pe.length k5, .slice A6 s.th.length k6, .int .i64 s.no] 37) = w3 at hb hs ⊢
  replace hb := Aside0.mk hb
  replace hs := Aside0.mk hs
  go_wp2
  go_ret
  exact ⟨_, rfl, by rw [hqq.out]; exact hs.out, hb.out⟩

theorem Fold_ok {N : Nat} {w : World} {L : List Res} (A : Option Addr) (c : Nat) (zs : List S50) (hm : zs.length ≤ 100000) (hk : ∀ x ∈ orderE zs, 1 ≤ x.f2 ∧ x.f2 ≤ 9) (hc : ∀ w' L', St N w' (L' ++ L) → Below N w w' → Kd.C k50 w' A zs.length zs) (HS0 : St N w L) :
    Calls Tryz.prog 28 #[.slice A zs.length c] w fun r w' => ∃ v5 v6, r = .returned (.agg #[.int .i64 (runP zs).1.st, .string (runP zs).1.ti, .int .i64 (runP zs).1.op, .int .i64 (runP zs).1.en, .string (runP zs).1.ca.f0, .int .i64 (runP zs).1.ca.f1, v5, v6, .int .i64 (runP zs).1.no]) ∧ St N w' (Row k69 69 v5 (runP zs).1.pe :: Row k71 71 v6 (runP zs).1.th :: L) ∧ Below N w w' := by
  have HS := Aside0.mk HS0
  have HB := Aside0.mk (Below.refl N w)
  have HC := Aside0.mk hc
  have HK := Aside0.mk hk
  clear HS0 hc hk
  go_enter Tryz.func28, Tryz.ntmps28
  go_upto_region 1 with (first | ((with_reducible refine gate_dst (N := 2) rfl ?_); refine box_event ?hg (N := 2) ?hd (cs := #[.int .i64 0, .string ⟨#[]⟩, .int .i64 0, .int .i64 0, .string ⟨#[]⟩, .int .i64 0, .slice none 0 0, .slice none 0 0, .int .i64 0]) (t := 37) ?hr ?_; (case hd => rfl); (case hg => rfl); (case hr => first | (go_simp; done) | (go_simp; rfl)); intro G2 hg w1 hbox hb; have n0_ := Aside0.mk (HS.out.box hg hbox hb); have n1_ := Aside0.mk (below_step' HB.out HS.out.size hb); clear HS HB; have HS := n0_; have HB := n1_; clear n0_ n1_; (try simp only [List.eraseIdx_cons_succ, List.eraseIdx_cons_zero] at HS); clear hb hbox hg))
  have hC : ∀ w' L', St N w' (L' ++ Blk G2 #[.int .i64 0, .string ⟨#[]⟩, .int .i64 0, .int .i64 0, .string ⟨#[]⟩, .int .i64 0, .slice none 0 0, .slice none 0 0, .int .i64 0] 37 :: L) → Below N w1 w' → Kd.C k50 w' A zs.length zs := fun w' L' h1 h2 => HC.out w' (L' ++ [Blk G2 #[.int .i64 0, .string ⟨#[]⟩, .int .i64 0, .int .i64 0, .string ⟨#[]⟩, .int .i64 0, .slice none 0 0, .slice none 0 0, .int .i64 0] 37]) (by simpa using h1) (HB.out.trans h2)
  replace hC := Aside0.mk hC
  go_upto_region 2 with (first | (go_at_call 53; refine (run_ok A c zs hm HK.out hC.out HS.out).mono ?_; rintro r_ w2 ⟨v5, v6, vr, rfl, hs, hb⟩; have n0_ := Aside0.mk (hs); have n1_ := Aside0.mk (HB.out.trans hb); clear HS HB; have HS := n0_; have HB := n1_; clear n0_ n1_; (try simp only [List.eraseIdx_cons_succ, List.eraseIdx_cons_zero] at HS); clear hs hb HC hC; generalize hqq : runP zs = q at HS; replace hqq := Aside0.mk hqq; obtain ⟨s, rs⟩ := q; simp only at HS; obtain ⟨A5, k5, e5, _, _⟩ := (HS.out.pick 0 rfl).reads; subst e5; obtain ⟨A6, k6, e6, _, _⟩ := (HS.out.pick 1 rfl).reads; subst e6; simp only [hqq.out]))
  have hbx := HS.out.box (g := w2.heap.size) (cs := #[.int .i64 s.st, .string s.ti, .int .i64 s.op, .int .i64 s.en, .string s.ca.f0, .int .i64 s.ca.f1, .slice A5 s.pe.length k5, .slice A6 s.th.length k6, .int .i64 s.no]) (t := 37) rfl (new_cells w2 _ _) ((Below.refl _ _).alloc (Nat.le_refl _) _)
  have hbb := below_step' HB.out HS.out.size ((Below.refl _ _).alloc (Nat.le_refl _) (.cells #[.int .i64 s.st, .string s.ti, .int .i64 s.op, .int .i64 s.en, .string s.ca.f0, .int .i64 s.ca.f1, .slice A5 s.pe.length k5, .slice A6 s.th.length k6, .int .i64 s.no] 37))
  generalize w2.heap.size = g at hbx hbb ⊢
  generalize w2.alloc (.cells #[.int .i64 s.st, .string s.ti, .int .i64 s.op, .int .i64 s.en, .string s.ca.f0, .int .i64 s.ca.f1, .slice A5 s.pe.length k5, .slice A6 s.th.length k6, .int .i64 s.no] 37) = w3 at hbx hbb ⊢
  have n0_ := Aside0.mk (hbx); have n1_ := Aside0.mk (hbb); clear HS HB; have HS := n0_; have HB := n1_; clear n0_ n1_; (try simp only [List.eraseIdx_cons_succ, List.eraseIdx_cons_zero] at HS)
  clear hbx hbb
  have p0 : w3.cell? ⟨g, 0, none⟩ = some (.int .i64 s.st) := ((HS.out.pick 0 rfl).cell 0).trans rfl
  have p1 : w3.cell? ⟨g, 1, none⟩ = some (.string s.ti) := ((HS.out.pick 0 rfl).cell 1).trans rfl
  have p2 : w3.cell? ⟨g, 2, none⟩ = some (.int .i64 s.op) := ((HS.out.pick 0 rfl).cell 2).trans rfl
  have p3 : w3.cell? ⟨g, 3, none⟩ = some (.int .i64 s.en) := ((HS.out.pick 0 rfl).cell 3).trans rfl
  have p4 : w3.cell? ⟨g, 4, none⟩ = some (.string s.ca.f0) := ((HS.out.pick 0 rfl).cell 4).trans rfl
  have p5 : w3.cell? ⟨g, 5, none⟩ = some (.int .i64 s.ca.f1) := ((HS.out.pick 0 rfl).cell 5).trans rfl
  have p6 : w3.cell? ⟨g, 6, none⟩ = some (.slice A5 s.pe.length k5) := ((HS.out.pick 0 rfl).cell 6).trans rfl
  have p7 : w3.cell? ⟨g, 7, none⟩ = some (.slice A6 s.th.length k6) := ((HS.out.pick 0 rfl).cell 7).trans rfl
  have p8 : w3.cell? ⟨g, 8, none⟩ = some (.int .i64 s.no) := ((HS.out.pick 0 rfl).cell 8).trans rfl
  have c0 : w3.cell? ⟨G2, 0, none⟩ = some (.int .i64 0) := ((HS.out.pick 4 rfl).cell 0).trans rfl
  have c1 : w3.cell? ⟨G2, 1, none⟩ = some (.string ⟨#[]⟩) := ((HS.out.pick 4 rfl).cell 1).trans rfl
  have c2 : w3.cell? ⟨G2, 2, none⟩ = some (.int .i64 0) := ((HS.out.pick 4 rfl).cell 2).trans rfl
  have c3 : w3.cell? ⟨G2, 3, none⟩ = some (.int .i64 0) := ((HS.out.pick 4 rfl).cell 3).trans rfl
  have c4 : w3.cell? ⟨G2, 4, none⟩ = some (.string ⟨#[]⟩) := ((HS.out.pick 4 rfl).cell 4).trans rfl
  have c5 : w3.cell? ⟨G2, 5, none⟩ = some (.int .i64 0) := ((HS.out.pick 4 rfl).cell 5).trans rfl
  have c6 : w3.cell? ⟨G2, 6, none⟩ = some (.slice none 0 0) := ((HS.out.pick 4 rfl).cell 6).trans rfl
  have c7 : w3.cell? ⟨G2, 7, none⟩ = some (.slice none 0 0) := ((HS.out.pick 4 rfl).cell 7).trans rfl
  have c8 : w3.cell? ⟨G2, 8, none⟩ = some (.int .i64 0) := ((HS.out.pick 4 rfl).cell 8).trans rfl
  have f0 := (HS.out.pick 4 rfl).frozen 0
  have f1 := (HS.out.pick 4 rfl).frozen 1
  have f2 := (HS.out.pick 4 rfl).frozen 2
  have f3 := (HS.out.pick 4 rfl).frozen 3
  have f4 := (HS.out.pick 4 rfl).frozen 4
  have f5 := (HS.out.pick 4 rfl).frozen 5
  have f6 := (HS.out.pick 4 rfl).frozen 6
  have f7 := (HS.out.pick 4 rfl).frozen 7
  have f8 := (HS.out.pick 4 rfl).frozen 8
  go_wp2
  have s0 := (HS.out.pick 4 rfl).set 0 (.int .i64 s.st) #[.int .i64 s.st, .string ⟨#[]⟩, .int .i64 0, .int .i64 0, .string ⟨#[]⟩, .int .i64 0, .slice none 0 0, .slice none 0 0, .int .i64 0] rfl
  have b0 := (HS.out.pick 4 rfl).below_set (i := 0) (u := .int .i64 s.st) HB.out
  have s1 := s0.set 1 (.string s.ti) #[.int .i64 s.st, .string s.ti, .int .i64 0, .int .i64 0, .string ⟨#[]⟩, .int .i64 0, .slice none 0 0, .slice none 0 0, .int .i64 0] rfl
  have b1 := s0.below_set (i := 1) (u := .string s.ti) b0
  have s2 := s1.set 2 (.int .i64 s.op) #[.int .i64 s.st, .string s.ti, .int .i64 s.op, .int .i64 0, .string ⟨#[]⟩, .int .i64 0, .slice none 0 0, .slice none 0 0, .int .i64 0] rfl
  have b2 := s1.below_set (i := 2) (u := .int .i64 s.op) b1
  have s3 := s2.set 3 (.int .i64 s.en) #[.int .i64 s.st, .string s.ti, .int .i64 s.op, .int .i64 s.en, .string ⟨#[]⟩, .int .i64 0, .slice none 0 0, .slice none 0 0, .int .i64 0] rfl
  have b3 := s2.below_set (i := 3) (u := .int .i64 s.en) b2
  have s4 := s3.set 4 (.string s.ca.f0) #[.int .i64 s.st, .string s.ti, .int .i64 s.op, .int .i64 s.en, .string s.ca.f0, .int .i64 0, .slice none 0 0, .slice none 0 0, .int .i64 0] rfl
  have b4 := s3.below_set (i := 4) (u := .string s.ca.f0) b3
  have s5 := s4.set 5 (.int .i64 s.ca.f1) #[.int .i64 s.st, .string s.ti, .int .i64 s.op, .int .i64 s.en, .string s.ca.f0, .int .i64 s.ca.f1, .slice none 0 0, .slice none 0 0, .int .i64 0] rfl
  have b5 := s4.below_set (i := 5) (u := .int .i64 s.ca.f1) b4
  have s6 := s5.set 6 (.slice A5 s.pe.length k5) #[.int .i64 s.st, .string s.ti, .int .i64 s.op, .int .i64 s.en, .string s.ca.f0, .int .i64 s.ca.f1, .slice A5 s.pe.length k5, .slice none 0 0, .int .i64 0] rfl
  have b6 := s5.below_set (i := 6) (u := .slice A5 s.pe.length k5) b5
  have s7 := s6.set 7 (.slice A6 s.th.length k6) #[.int .i64 s.st, .string s.ti, .int .i64 s.op, .int .i64 s.en, .string s.ca.f0, .int .i64 s.ca.f1, .slice A5 s.pe.length k5, .slice A6 s.th.length k6, .int .i64 0] rfl
  have b7 := s6.below_set (i := 7) (u := .slice A6 s.th.length k6) b6
  have s8 := s7.set 8 (.int .i64 s.no) #[.int .i64 s.st, .string s.ti, .int .i64 s.op, .int .i64 s.en, .string s.ca.f0, .int .i64 s.ca.f1, .slice A5 s.pe.length k5, .slice A6 s.th.length k6, .int .i64 s.no] rfl
  have b8 := s7.below_set (i := 8) (u := .int .i64 s.no) b7
  refine bodyPost_ret (results_cell_row rfl _ _ G2 37 _ (0, 0) _ rfl s8.blk Tryz.underlying37 rfl (by kernel_rfl)) rfl ?_
  refine ⟨.slice A5 s.pe.length k5, .slice A6 s.th.length k6, by rw [hqq.out], ?_, b8⟩
  rw [hqq.out]
  exact (s8.drop.drop.pick 2 rfl).drop

end Go.Proofs.YtcjfgejiknlpfaaGreat.PI
