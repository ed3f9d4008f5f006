/- The law's own estimate: of a state. -/
import Derived.Test.YtddhpkobingmhaaSk16

namespace Go.Proofs.Ytddhpkobingmhaa.PB
open Go.RowKit Go.Proofs.YtddhpkobingmhaaW.PrintWords Go.Proofs.YtddhpkobingmhaaW.PrintLast Go.Proofs.YtddhpkobingmhaaW.PrintMore Go.Proofs.Ytddhpkobingmhaa.Sep
attribute [local go_sem] max2_int min2_int max_two min_two
set_option linter.unusedVariables false
set_option linter.unusedSimpArgs false
set_option maxHeartbeats 8000000
set_option maxRecDepth 100000

theorem kept_more (Kn : Nat) (sd : Int) (A : Option Addr) (n c : Nat) (hn : n ≤ c) (hb : n ≤ 1000000) (h : Kn < n) (w : World) :
    Calls Try.prog 14 #[.agg #[.int .i64 Kn, .int .i64 sd, .slice A n c]] w fun e w' => e = .returned (.slice A Kn c) ∧ Below w.heap.size w w' := by
  have := kept_ok Kn sd A n c hn hb w
  rwa [show min Kn n = Kn by omega] at this
theorem kept_all (Kn : Nat) (sd : Int) (A : Option Addr) (n c : Nat) (hn : n ≤ c) (hb : n ≤ 1000000) (h : n ≤ Kn) (w : World) :
    Calls Try.prog 14 #[.agg #[.int .i64 Kn, .int .i64 sd, .slice A n c]] w fun e w' => e = .returned (.slice A n c) ∧ Below w.heap.size w w' := by
  have := kept_ok Kn sd A n c hn hb w
  rwa [show min Kn n = n by omega] at this

theorem dsl_exact (Kn : Nat) (sd : Int) (A : Option Addr) (c : Nat) (l : List S52) (hc0 : l.length ≤ c) (hl0 : l.length ≤ 1000000) (hle : Aside0 (l.length ≤ Kn)) {N : Nat} {w : World} {L : List Res} (HS0 : St N w (Row k52 52 (.slice A l.length c) l :: L)) :
    Calls Try.prog 17 #[.agg #[.int .i64 Kn, .int .i64 sd, .slice A l.length c]] w fun e w' => e = .returned (.int .i64 l.length) ∧ St N w' (Row k52 52 (.slice A l.length c) l :: L) ∧ Below N w w' := by
  have HS := Aside0.mk HS0
  have HB := Aside0.mk (Below.refl N w)
  have hc := Aside0.mk hc0
  have hl := Aside0.mk hl0
  clear HS0 hc0 hl0
  have hex : Aside0 (sleuthlaw23_state_exact.f (Kn : Int) sd l = some true) := ⟨by unfold sleuthlaw23_state_exact.f; rw [decide_eq_true]; have := hle.out; omega⟩
  go_enter Try.func17, Try.ntmps17
  go_wp2_with (first | ((with_reducible refine gate_dst (N := 1) rfl ?_); refine box_event ?hg (N := 1) ?hd (cs := #[.int .i64 Kn, .int .i64 sd, .slice A l.length c]) (t := 28) ?hr ?_; (case hd => rfl); (case hg => rfl); (case hr => first | (go_simp; done) | (go_simp; rfl)); intro b hg w1 hbox hb; have n0_ := Aside0.mk (HS.out.box hg hbox hb); have n1_ := Aside0.mk (below_step' HB.out HS.out.size hb); clear HS HB; have HS := n0_; have HB := n1_; clear n0_ n1_; (try simp only [List.eraseIdx_cons_succ, List.eraseIdx_cons_zero] at HS); clear hb hbox hg; have hc0_0 := ((HS.out.pick 0 rfl).cell 0).trans (show _ = some (.int .i64 Kn) from rfl); have hc0_1 := ((HS.out.pick 0 rfl).cell 1).trans (show _ = some (.int .i64 sd) from rfl); have hc0_2 := ((HS.out.pick 0 rfl).cell 2).trans (show _ = some (.slice A l.length c) from rfl)) | ((with_reducible refine gate_callee (f := 14) rfl ?_); refine goesL_ (some 7) rfl rfl Try.func14 (by kernel_rfl) rfl #[.agg #[.int .i64 Kn, .int .i64 sd, .slice A l.length c]] rfl (by (try simp only [List.map_toArray, List.map_cons, List.map_nil]); first | done | rfl | (simp only [List.length_drop, List.length_take]; rfl)) ?_; (with_reducible refine (kept_all Kn sd A l.length c hc.out hl.out hle.out _).mono ?_); rintro e w2 ⟨rfl, hb⟩; clear hc0_0 hc0_1 hc0_2; refine ⟨_, rfl, ?_⟩; have n0_ := Aside0.mk (HS.out.step hb); have n1_ := Aside0.mk (below_step' HB.out HS.out.size hb); clear HS HB; have HS := n0_; have HB := n1_; clear n0_ n1_; (try simp only [List.eraseIdx_cons_succ, List.eraseIdx_cons_zero] at HS); clear hb; have hc0_0 := ((HS.out.pick 0 rfl).cell 0).trans (show _ = some (.int .i64 Kn) from rfl); have hc0_1 := ((HS.out.pick 0 rfl).cell 1).trans (show _ = some (.int .i64 sd) from rfl); have hc0_2 := ((HS.out.pick 0 rfl).cell 2).trans (show _ = some (.slice A l.length c) from rfl)) | ((with_reducible refine gate_callee (f := 15) rfl ?_); refine goesL_ (some 9) rfl rfl Try.func15 (by kernel_rfl) rfl #[.agg #[.int .i64 Kn, .int .i64 sd, .slice A l.length c]] rfl (by (try simp only [List.map_toArray, List.map_cons, List.map_nil]); first | done | rfl | (simp only [List.length_drop, List.length_take]; rfl)) ?_; (with_reducible refine (sleuthlaw23_state_exact.calls _ _ A c l true _ (HS.out.pick 1 rfl).rowC.2.2 hc.out hex.out).mono ?_); rintro e w3 ⟨rfl, hb⟩; clear hc0_0 hc0_1 hc0_2; refine ⟨_, rfl, ?_⟩; have n0_ := Aside0.mk (HS.out.step hb); have n1_ := Aside0.mk (below_step' HB.out HS.out.size hb); clear HS HB; have HS := n0_; have HB := n1_; clear n0_ n1_; (try simp only [List.eraseIdx_cons_succ, List.eraseIdx_cons_zero] at HS); clear hb; have hc0_0 := ((HS.out.pick 0 rfl).cell 0).trans (show _ = some (.int .i64 Kn) from rfl); have hc0_1 := ((HS.out.pick 0 rfl).cell 1).trans (show _ = some (.int .i64 sd) from rfl); have hc0_2 := ((HS.out.pick 0 rfl).cell 2).trans (show _ = some (.slice A l.length c) from rfl)))
  go_ret
  exact ⟨rfl, (HS.out.pick 1 rfl).swap.drop, HB.out⟩

theorem dsl_zero (Kn : Nat) (sd : Int) (ad : Addr) (c : Nat) (l : List S52) (hc0 : l.length ≤ c) (hl0 : l.length ≤ 1000000) (hle : Aside0 (Kn < l.length)) (j : Nat) (hj : Aside0 (Kn = j + 1)) (hK : Aside0 (Kn ≤ 1024)) (h : Int) (hh : Aside0 ((rd_T52 l (j : Int)).f0 = h)) (hz : (h == 0) = true) {N : Nat} {w : World} {L : List Res} (HS0 : St N w (Row k52 52 (.slice (some ad) l.length c) l :: L)) :
    Calls Try.prog 17 #[.agg #[.int .i64 Kn, .int .i64 sd, .slice (some ad) l.length c]] w fun e w' => e = .returned (.int .i64 Kn) ∧ St N w' (Row k52 52 (.slice (some ad) l.length c) l :: L) ∧ Below N w w' := by
  have HS := Aside0.mk HS0
  have HB := Aside0.mk (Below.refl N w)
  have hc := Aside0.mk hc0
  have hl := Aside0.mk hl0
  clear HS0 hc0 hl0
  have hex : Aside0 (sleuthlaw23_state_exact.f (Kn : Int) sd l = some false) := ⟨by unfold sleuthlaw23_state_exact.f; rw [decide_eq_false]; have := hle.out; omega⟩
  have q1 : (0 : Int) ≤ (j : Int) := by omega
  have qn : Aside0 ((j : Int) < (l.length : Int)) := ⟨by have := hle.out; have := hj.out; omega⟩
  have q2 : (j : Int) < (Kn : Int) := by have := hj.out; omega
  have q3 : wrap64 ((Kn : Int) - 1) = (j : Int) := by rw [wrap64_small _ (by omega) (by have := hK.out; omega)]; have := hj.out; omega
  go_enter Try.func17, Try.ntmps17
  go_wp2_with (first | ((with_reducible refine gate_dst (N := 1) rfl ?_); refine box_event ?hg (N := 1) ?hd (cs := #[.int .i64 Kn, .int .i64 sd, .slice (some ad) l.length c]) (t := 28) ?hr ?_; (case hd => rfl); (case hg => rfl); (case hr => first | (go_simp; done) | (go_simp; rfl)); intro b hg w1 hbox hb; have n0_ := Aside0.mk (HS.out.box hg hbox hb); have n1_ := Aside0.mk (below_step' HB.out HS.out.size hb); clear HS HB; have HS := n0_; have HB := n1_; clear n0_ n1_; (try simp only [List.eraseIdx_cons_succ, List.eraseIdx_cons_zero] at HS); clear hb hbox hg; have hc0_0 := ((HS.out.pick 0 rfl).cell 0).trans (show _ = some (.int .i64 Kn) from rfl); have hc0_1 := ((HS.out.pick 0 rfl).cell 1).trans (show _ = some (.int .i64 sd) from rfl); have hc0_2 := ((HS.out.pick 0 rfl).cell 2).trans (show _ = some (.slice (some ad) l.length c) from rfl)) | ((with_reducible refine gate_callee (f := 14) rfl ?_); refine goesL_ (some 7) rfl rfl Try.func14 (by kernel_rfl) rfl #[.agg #[.int .i64 Kn, .int .i64 sd, .slice (some ad) l.length c]] rfl (by (try simp only [List.map_toArray, List.map_cons, List.map_nil]); first | done | rfl | (simp only [List.length_drop, List.length_take]; rfl)) ?_; (with_reducible refine (kept_more Kn sd (some ad) l.length c hc.out hl.out hle.out _).mono ?_); rintro e w2 ⟨rfl, hb⟩; clear hc0_0 hc0_1 hc0_2; refine ⟨_, rfl, ?_⟩; have n0_ := Aside0.mk (HS.out.step hb); have n1_ := Aside0.mk (below_step' HB.out HS.out.size hb); clear HS HB; have HS := n0_; have HB := n1_; clear n0_ n1_; (try simp only [List.eraseIdx_cons_succ, List.eraseIdx_cons_zero] at HS); clear hb; have hc0_0 := ((HS.out.pick 0 rfl).cell 0).trans (show _ = some (.int .i64 Kn) from rfl); have hc0_1 := ((HS.out.pick 0 rfl).cell 1).trans (show _ = some (.int .i64 sd) from rfl); have hc0_2 := ((HS.out.pick 0 rfl).cell 2).trans (show _ = some (.slice (some ad) l.length c) from rfl)) | ((with_reducible refine gate_callee (f := 15) rfl ?_); refine goesL_ (some 9) rfl rfl Try.func15 (by kernel_rfl) rfl #[.agg #[.int .i64 Kn, .int .i64 sd, .slice (some ad) l.length c]] rfl (by (try simp only [List.map_toArray, List.map_cons, List.map_nil]); first | done | rfl | (simp only [List.length_drop, List.length_take]; rfl)) ?_; (with_reducible refine (sleuthlaw23_state_exact.calls _ _ (some ad) c l false _ (HS.out.pick 1 rfl).rowC.2.2 hc.out hex.out).mono ?_); rintro e w3 ⟨rfl, hb⟩; clear hc0_0 hc0_1 hc0_2; refine ⟨_, rfl, ?_⟩; have n0_ := Aside0.mk (HS.out.step hb); have n1_ := Aside0.mk (below_step' HB.out HS.out.size hb); clear HS HB; have HS := n0_; have HB := n1_; clear n0_ n1_; (try simp only [List.eraseIdx_cons_succ, List.eraseIdx_cons_zero] at HS); clear hb; obtain ⟨ad2, e2, hx, hx2⟩ := at_T52 (HS.out.pick 1 rfl).rowC.2.2 (j : Int) q1 qn.out; cases e2; rw [hh.out, Int.toNat_natCast] at hx; clear hx2; have hc0_0 := ((HS.out.pick 0 rfl).cell 0).trans (show _ = some (.int .i64 Kn) from rfl); have hc0_1 := ((HS.out.pick 0 rfl).cell 1).trans (show _ = some (.int .i64 sd) from rfl); have hc0_2 := ((HS.out.pick 0 rfl).cell 2).trans (show _ = some (.slice (some ad) l.length c) from rfl)))
  go_ret
  exact ⟨rfl, (HS.out.pick 1 rfl).swap.drop, HB.out⟩

theorem dsl_neg (Kn : Nat) (sd : Int) (ad : Addr) (c : Nat) (l : List S52) (hc0 : l.length ≤ c) (hl0 : l.length ≤ 1000000) (hle : Aside0 (Kn < l.length)) (j : Nat) (hj : Aside0 (Kn = j + 1)) (hK : Aside0 (Kn ≤ 1024)) (h : Int) (hh : Aside0 ((rd_T52 l (j : Int)).f0 = h)) (hz : (h == 0) = false) (r : Int) (hq : Aside0 (sleuthlaw23_quotient.f 63 (j : Int) h 1099511627776 = some r)) (hr : (r < 0) = True) {N : Nat} {w : World} {L : List Res} (HS0 : St N w (Row k52 52 (.slice (some ad) l.length c) l :: L)) :
    Calls Try.prog 17 #[.agg #[.int .i64 Kn, .int .i64 sd, .slice (some ad) l.length c]] w fun e w' => e = .returned (.int .i64 1099511627776) ∧ St N w' (Row k52 52 (.slice (some ad) l.length c) l :: L) ∧ Below N w w' := by
  have HS := Aside0.mk HS0
  have HB := Aside0.mk (Below.refl N w)
  have hc := Aside0.mk hc0
  have hl := Aside0.mk hl0
  clear HS0 hc0 hl0
  have hex : Aside0 (sleuthlaw23_state_exact.f (Kn : Int) sd l = some false) := ⟨by unfold sleuthlaw23_state_exact.f; rw [decide_eq_false]; have := hle.out; omega⟩
  have q1 : (0 : Int) ≤ (j : Int) := by omega
  have qn : Aside0 ((j : Int) < (l.length : Int)) := ⟨by have := hle.out; have := hj.out; omega⟩
  have q2 : (j : Int) < (Kn : Int) := by have := hj.out; omega
  have q3 : wrap64 ((Kn : Int) - 1) = (j : Int) := by rw [wrap64_small _ (by omega) (by have := hK.out; omega)]; have := hj.out; omega
  go_enter Try.func17, Try.ntmps17
  go_wp2_with (first | ((with_reducible refine gate_dst (N := 1) rfl ?_); refine box_event ?hg (N := 1) ?hd (cs := #[.int .i64 Kn, .int .i64 sd, .slice (some ad) l.length c]) (t := 28) ?hr ?_; (case hd => rfl); (case hg => rfl); (case hr => first | (go_simp; done) | (go_simp; rfl)); intro b hg w1 hbox hb; have n0_ := Aside0.mk (HS.out.box hg hbox hb); have n1_ := Aside0.mk (below_step' HB.out HS.out.size hb); clear HS HB; have HS := n0_; have HB := n1_; clear n0_ n1_; (try simp only [List.eraseIdx_cons_succ, List.eraseIdx_cons_zero] at HS); clear hb hbox hg; have hc0_0 := ((HS.out.pick 0 rfl).cell 0).trans (show _ = some (.int .i64 Kn) from rfl); have hc0_1 := ((HS.out.pick 0 rfl).cell 1).trans (show _ = some (.int .i64 sd) from rfl); have hc0_2 := ((HS.out.pick 0 rfl).cell 2).trans (show _ = some (.slice (some ad) l.length c) from rfl)) | ((with_reducible refine gate_callee (f := 14) rfl ?_); refine goesL_ (some 7) rfl rfl Try.func14 (by kernel_rfl) rfl #[.agg #[.int .i64 Kn, .int .i64 sd, .slice (some ad) l.length c]] rfl (by (try simp only [List.map_toArray, List.map_cons, List.map_nil]); first | done | rfl | (simp only [List.length_drop, List.length_take]; rfl)) ?_; (with_reducible refine (kept_more Kn sd (some ad) l.length c hc.out hl.out hle.out _).mono ?_); rintro e w2 ⟨rfl, hb⟩; clear hc0_0 hc0_1 hc0_2; refine ⟨_, rfl, ?_⟩; have n0_ := Aside0.mk (HS.out.step hb); have n1_ := Aside0.mk (below_step' HB.out HS.out.size hb); clear HS HB; have HS := n0_; have HB := n1_; clear n0_ n1_; (try simp only [List.eraseIdx_cons_succ, List.eraseIdx_cons_zero] at HS); clear hb; have hc0_0 := ((HS.out.pick 0 rfl).cell 0).trans (show _ = some (.int .i64 Kn) from rfl); have hc0_1 := ((HS.out.pick 0 rfl).cell 1).trans (show _ = some (.int .i64 sd) from rfl); have hc0_2 := ((HS.out.pick 0 rfl).cell 2).trans (show _ = some (.slice (some ad) l.length c) from rfl)) | ((with_reducible refine gate_callee (f := 15) rfl ?_); refine goesL_ (some 9) rfl rfl Try.func15 (by kernel_rfl) rfl #[.agg #[.int .i64 Kn, .int .i64 sd, .slice (some ad) l.length c]] rfl (by (try simp only [List.map_toArray, List.map_cons, List.map_nil]); first | done | rfl | (simp only [List.length_drop, List.length_take]; rfl)) ?_; (with_reducible refine (sleuthlaw23_state_exact.calls _ _ (some ad) c l false _ (HS.out.pick 1 rfl).rowC.2.2 hc.out hex.out).mono ?_); rintro e w3 ⟨rfl, hb⟩; clear hc0_0 hc0_1 hc0_2; refine ⟨_, rfl, ?_⟩; have n0_ := Aside0.mk (HS.out.step hb); have n1_ := Aside0.mk (below_step' HB.out HS.out.size hb); clear HS HB; have HS := n0_; have HB := n1_; clear n0_ n1_; (try simp only [List.eraseIdx_cons_succ, List.eraseIdx_cons_zero] at HS); clear hb; obtain ⟨ad2, e2, hx, hx2⟩ := at_T52 (HS.out.pick 1 rfl).rowC.2.2 (j : Int) q1 qn.out; cases e2; rw [hh.out, Int.toNat_natCast] at hx; clear hx2; have hc0_0 := ((HS.out.pick 0 rfl).cell 0).trans (show _ = some (.int .i64 Kn) from rfl); have hc0_1 := ((HS.out.pick 0 rfl).cell 1).trans (show _ = some (.int .i64 sd) from rfl); have hc0_2 := ((HS.out.pick 0 rfl).cell 2).trans (show _ = some (.slice (some ad) l.length c) from rfl)) | (go_at_call 41; refine (sleuthlaw23_quotient.calls 63 _ _ _ r _ hq.out).mono ?_; rintro e w4 ⟨rfl, hb0⟩; have hb := hb0.below; clear hb0 hx; clear hc0_0 hc0_1 hc0_2; have n0_ := Aside0.mk (HS.out.step hb); have n1_ := Aside0.mk (below_step' HB.out HS.out.size hb); clear HS HB; have HS := n0_; have HB := n1_; clear n0_ n1_; (try simp only [List.eraseIdx_cons_succ, List.eraseIdx_cons_zero] at HS); clear hb; have hc0_0 := ((HS.out.pick 0 rfl).cell 0).trans (show _ = some (.int .i64 Kn) from rfl); have hc0_1 := ((HS.out.pick 0 rfl).cell 1).trans (show _ = some (.int .i64 sd) from rfl); have hc0_2 := ((HS.out.pick 0 rfl).cell 2).trans (show _ = some (.slice (some ad) l.length c) from rfl)))
  go_ret
  exact ⟨rfl, (HS.out.pick 1 rfl).swap.drop, HB.out⟩

theorem dsl_A (Kn : Nat) (sd : Int) (ad : Addr) (c : Nat) (l : List S52) (hc0 : l.length ≤ c) (hl0 : l.length ≤ 1000000) (hle : Aside0 (Kn < l.length)) (j : Nat) (hj : Aside0 (Kn = j + 1)) (hK : Aside0 (Kn ≤ 1024)) (h : Int) (hh : Aside0 ((rd_T52 l (j : Int)).f0 = h)) (hz : (h == 0) = false) (r : Int) (hq : Aside0 (sleuthlaw23_quotient.f 63 (j : Int) h 1099511627776 = some r)) (hr : (r < 0) = False) (hr2 : (r < (Kn : Int)) = True) {N : Nat} {w : World} {L : List Res} (HS0 : St N w (Row k52 52 (.slice (some ad) l.length c) l :: L)) :
    Calls Try.prog 17 #[.agg #[.int .i64 Kn, .int .i64 sd, .slice (some ad) l.length c]] w fun e w' => e = .returned (.int .i64 Kn) ∧ St N w' (Row k52 52 (.slice (some ad) l.length c) l :: L) ∧ Below N w w' := by
  have HS := Aside0.mk HS0
  have HB := Aside0.mk (Below.refl N w)
  have hc := Aside0.mk hc0
  have hl := Aside0.mk hl0
  clear HS0 hc0 hl0
  have hex : Aside0 (sleuthlaw23_state_exact.f (Kn : Int) sd l = some false) := ⟨by unfold sleuthlaw23_state_exact.f; rw [decide_eq_false]; have := hle.out; omega⟩
  have q1 : (0 : Int) ≤ (j : Int) := by omega
  have qn : Aside0 ((j : Int) < (l.length : Int)) := ⟨by have := hle.out; have := hj.out; omega⟩
  have q2 : (j : Int) < (Kn : Int) := by have := hj.out; omega
  have q3 : wrap64 ((Kn : Int) - 1) = (j : Int) := by rw [wrap64_small _ (by omega) (by have := hK.out; omega)]; have := hj.out; omega
  go_enter Try.func17, Try.ntmps17
  go_wp2_with (first | ((with_reducible refine gate_dst (N := 1) rfl ?_); refine box_event ?hg (N := 1) ?hd (cs := #[.int .i64 Kn, .int .i64 sd, .slice (some ad) l.length c]) (t := 28) ?hr ?_; (case hd => rfl); (case hg => rfl); (case hr => first | (go_simp; done) | (go_simp; rfl)); intro b hg w1 hbox hb; have n0_ := Aside0.mk (HS.out.box hg hbox hb); have n1_ := Aside0.mk (below_step' HB.out HS.out.size hb); clear HS HB; have HS := n0_; have HB := n1_; clear n0_ n1_; (try simp only [List.eraseIdx_cons_succ, List.eraseIdx_cons_zero] at HS); clear hb hbox hg; have hc0_0 := ((HS.out.pick 0 rfl).cell 0).trans (show _ = some (.int .i64 Kn) from rfl); have hc0_1 := ((HS.out.pick 0 rfl).cell 1).trans (show _ = some (.int .i64 sd) from rfl); have hc0_2 := ((HS.out.pick 0 rfl).cell 2).trans (show _ = some (.slice (some ad) l.length c) from rfl)) | ((with_reducible refine gate_callee (f := 14) rfl ?_); refine goesL_ (some 7) rfl rfl Try.func14 (by kernel_rfl) rfl #[.agg #[.int .i64 Kn, .int .i64 sd, .slice (some ad) l.length c]] rfl (by (try simp only [List.map_toArray, List.map_cons, List.map_nil]); first | done | rfl | (simp only [List.length_drop, List.length_take]; rfl)) ?_; (with_reducible refine (kept_more Kn sd (some ad) l.length c hc.out hl.out hle.out _).mono ?_); rintro e w2 ⟨rfl, hb⟩; clear hc0_0 hc0_1 hc0_2; refine ⟨_, rfl, ?_⟩; have n0_ := Aside0.mk (HS.out.step hb); have n1_ := Aside0.mk (below_step' HB.out HS.out.size hb); clear HS HB; have HS := n0_; have HB := n1_; clear n0_ n1_; (try simp only [List.eraseIdx_cons_succ, List.eraseIdx_cons_zero] at HS); clear hb; have hc0_0 := ((HS.out.pick 0 rfl).cell 0).trans (show _ = some (.int .i64 Kn) from rfl); have hc0_1 := ((HS.out.pick 0 rfl).cell 1).trans (show _ = some (.int .i64 sd) from rfl); have hc0_2 := ((HS.out.pick 0 rfl).cell 2).trans (show _ = some (.slice (some ad) l.length c) from rfl)) | ((with_reducible refine gate_callee (f := 15) rfl ?_); refine goesL_ (some 9) rfl rfl Try.func15 (by kernel_rfl) rfl #[.agg #[.int .i64 Kn, .int .i64 sd, .slice (some ad) l.length c]] rfl (by (try simp only [List.map_toArray, List.map_cons, List.map_nil]); first | done | rfl | (simp only [List.length_drop, List.length_take]; rfl)) ?_; (with_reducible refine (sleuthlaw23_state_exact.calls _ _ (some ad) c l false _ (HS.out.pick 1 rfl).rowC.2.2 hc.out hex.out).mono ?_); rintro e w3 ⟨rfl, hb⟩; clear hc0_0 hc0_1 hc0_2; refine ⟨_, rfl, ?_⟩; have n0_ := Aside0.mk (HS.out.step hb); have n1_ := Aside0.mk (below_step' HB.out HS.out.size hb); clear HS HB; have HS := n0_; have HB := n1_; clear n0_ n1_; (try simp only [List.eraseIdx_cons_succ, List.eraseIdx_cons_zero] at HS); clear hb; obtain ⟨ad2, e2, hx, hx2⟩ := at_T52 (HS.out.pick 1 rfl).rowC.2.2 (j : Int) q1 qn.out; cases e2; rw [hh.out, Int.toNat_natCast] at hx; clear hx2; have hc0_0 := ((HS.out.pick 0 rfl).cell 0).trans (show _ = some (.int .i64 Kn) from rfl); have hc0_1 := ((HS.out.pick 0 rfl).cell 1).trans (show _ = some (.int .i64 sd) from rfl); have hc0_2 := ((HS.out.pick 0 rfl).cell 2).trans (show _ = some (.slice (some ad) l.length c) from rfl)) | (go_at_call 41; refine (sleuthlaw23_quotient.calls 63 _ _ _ r _ hq.out).mono ?_; rintro e w4 ⟨rfl, hb0⟩; have hb := hb0.below; clear hb0 hx; clear hc0_0 hc0_1 hc0_2; have n0_ := Aside0.mk (HS.out.step hb); have n1_ := Aside0.mk (below_step' HB.out HS.out.size hb); clear HS HB; have HS := n0_; have HB := n1_; clear n0_ n1_; (try simp only [List.eraseIdx_cons_succ, List.eraseIdx_cons_zero] at HS); clear hb; have hc0_0 := ((HS.out.pick 0 rfl).cell 0).trans (show _ = some (.int .i64 Kn) from rfl); have hc0_1 := ((HS.out.pick 0 rfl).cell 1).trans (show _ = some (.int .i64 sd) from rfl); have hc0_2 := ((HS.out.pick 0 rfl).cell 2).trans (show _ = some (.slice (some ad) l.length c) from rfl)))
  go_ret
  exact ⟨rfl, (HS.out.pick 1 rfl).swap.drop, HB.out⟩

theorem dsl_B (Kn : Nat) (sd : Int) (ad : Addr) (c : Nat) (l : List S52) (hc0 : l.length ≤ c) (hl0 : l.length ≤ 1000000) (hle : Aside0 (Kn < l.length)) (j : Nat) (hj : Aside0 (Kn = j + 1)) (hK : Aside0 (Kn ≤ 1024)) (h : Int) (hh : Aside0 ((rd_T52 l (j : Int)).f0 = h)) (hz : (h == 0) = false) (r : Int) (hq : Aside0 (sleuthlaw23_quotient.f 63 (j : Int) h 1099511627776 = some r)) (hr : (r < 0) = False) (hr2 : (r < (Kn : Int)) = False) {N : Nat} {w : World} {L : List Res} (HS0 : St N w (Row k52 52 (.slice (some ad) l.length c) l :: L)) :
    Calls Try.prog 17 #[.agg #[.int .i64 Kn, .int .i64 sd, .slice (some ad) l.length c]] w fun e w' => e = .returned (.int .i64 r) ∧ St N w' (Row k52 52 (.slice (some ad) l.length c) l :: L) ∧ Below N w w' := by
  have HS := Aside0.mk HS0
  have HB := Aside0.mk (Below.refl N w)
  have hc := Aside0.mk hc0
  have hl := Aside0.mk hl0
  clear HS0 hc0 hl0
  have hex : Aside0 (sleuthlaw23_state_exact.f (Kn : Int) sd l = some false) := ⟨by unfold sleuthlaw23_state_exact.f; rw [decide_eq_false]; have := hle.out; omega⟩
  have q1 : (0 : Int) ≤ (j : Int) := by omega
  have qn : Aside0 ((j : Int) < (l.length : Int)) := ⟨by have := hle.out; have := hj.out; omega⟩
  have q2 : (j : Int) < (Kn : Int) := by have := hj.out; omega
  have q3 : wrap64 ((Kn : Int) - 1) = (j : Int) := by rw [wrap64_small _ (by omega) (by have := hK.out; omega)]; have := hj.out; omega
  go_enter Try.func17, Try.ntmps17
  go_wp2_with (first | ((with_reducible refine gate_dst (N := 1) rfl ?_); refine box_event ?hg (N := 1) ?hd (cs := #[.int .i64 Kn, .int .i64 sd, .slice (some ad) l.length c]) (t := 28) ?hr ?_; (case hd => rfl); (case hg => rfl); (case hr => first | (go_simp; done) | (go_simp; rfl)); intro b hg w1 hbox hb; have n0_ := Aside0.mk (HS.out.box hg hbox hb); have n1_ := Aside0.mk (below_step' HB.out HS.out.size hb); clear HS HB; have HS := n0_; have HB := n1_; clear n0_ n1_; (try simp only [List.eraseIdx_cons_succ, List.eraseIdx_cons_zero] at HS); clear hb hbox hg; have hc0_0 := ((HS.out.pick 0 rfl).cell 0).trans (show _ = some (.int .i64 Kn) from rfl); have hc0_1 := ((HS.out.pick 0 rfl).cell 1).trans (show _ = some (.int .i64 sd) from rfl); have hc0_2 := ((HS.out.pick 0 rfl).cell 2).trans (show _ = some (.slice (some ad) l.length c) from rfl)) | ((with_reducible refine gate_callee (f := 14) rfl ?_); refine goesL_ (some 7) rfl rfl Try.func14 (by kernel_rfl) rfl #[.agg #[.int .i64 Kn, .int .i64 sd, .slice (some ad) l.length c]] rfl (by (try simp only [List.map_toArray, List.map_cons, List.map_nil]); first | done | rfl | (simp only [List.length_drop, List.length_take]; rfl)) ?_; (with_reducible refine (kept_more Kn sd (some ad) l.length c hc.out hl.out hle.out _).mono ?_); rintro e w2 ⟨rfl, hb⟩; clear hc0_0 hc0_1 hc0_2; refine ⟨_, rfl, ?_⟩; have n0_ := Aside0.mk (HS.out.step hb); have n1_ := Aside0.mk (below_step' HB.out HS.out.size hb); clear HS HB; have HS := n0_; have HB := n1_; clear n0_ n1_; (try simp only [List.eraseIdx_cons_succ, List.eraseIdx_cons_zero] at HS); clear hb; have hc0_0 := ((HS.out.pick 0 rfl).cell 0).trans (show _ = some (.int .i64 Kn) from rfl); have hc0_1 := ((HS.out.pick 0 rfl).cell 1).trans (show _ = some (.int .i64 sd) from rfl); have hc0_2 := ((HS.out.pick 0 rfl).cell 2).trans (show _ = some (.slice (some ad) l.length c) from rfl)) | ((with_reducible refine gate_callee (f := 15) rfl ?_); refine goesL_ (some 9) rfl rfl Try.func15 (by kernel_rfl) rfl #[.agg #[.int .i64 Kn, .int .i64 sd, .slice (some ad) l.length c]] rfl (by (try simp only [List.map_toArray, List.map_cons, List.map_nil]); first | done | rfl | (simp only [List.length_drop, List.length_take]; rfl)) ?_; (with_reducible refine (sleuthlaw23_state_exact.calls _ _ (some ad) c l false _ (HS.out.pick 1 rfl).rowC.2.2 hc.out hex.out).mono ?_); rintro e w3 ⟨rfl, hb⟩; clear hc0_0 hc0_1 hc0_2; refine ⟨_, rfl, ?_⟩; have n0_ := Aside0.mk (HS.out.step hb); have n1_ := Aside0.mk (below_step' HB.out HS.out.size hb); clear HS HB; have HS := n0_; have HB := n1_; clear n0_ n1_; (try simp only [List.eraseIdx_cons_succ, List.eraseIdx_cons_zero] at HS); clear hb; obtain ⟨ad2, e2, hx, hx2⟩ := at_T52 (HS.out.pick 1 rfl).rowC.2.2 (j : Int) q1 qn.out; cases e2; rw [hh.out, Int.toNat_natCast] at hx; clear hx2; have hc0_0 := ((HS.out.pick 0 rfl).cell 0).trans (show _ = some (.int .i64 Kn) from rfl); have hc0_1 := ((HS.out.pick 0 rfl).cell 1).trans (show _ = some (.int .i64 sd) from rfl); have hc0_2 := ((HS.out.pick 0 rfl).cell 2).trans (show _ = some (.slice (some ad) l.length c) from rfl)) | (go_at_call 41; refine (sleuthlaw23_quotient.calls 63 _ _ _ r _ hq.out).mono ?_; rintro e w4 ⟨rfl, hb0⟩; have hb := hb0.below; clear hb0 hx; clear hc0_0 hc0_1 hc0_2; have n0_ := Aside0.mk (HS.out.step hb); have n1_ := Aside0.mk (below_step' HB.out HS.out.size hb); clear HS HB; have HS := n0_; have HB := n1_; clear n0_ n1_; (try simp only [List.eraseIdx_cons_succ, List.eraseIdx_cons_zero] at HS); clear hb; have hc0_0 := ((HS.out.pick 0 rfl).cell 0).trans (show _ = some (.int .i64 Kn) from rfl); have hc0_1 := ((HS.out.pick 0 rfl).cell 1).trans (show _ = some (.int .i64 sd) from rfl); have hc0_2 := ((HS.out.pick 0 rfl).cell 2).trans (show _ = some (.slice (some ad) l.length c) from rfl)))
  go_ret
  exact ⟨rfl, (HS.out.pick 1 rfl).swap.drop, HB.out⟩

theorem state_distinct (Kn : Nat) (hK1 : 1 ≤ Kn) (hK : Kn ≤ 1024) (sd : Int) (l : List S52) (hl0 : l.length ≤ 1000000) (hin : Hin l) (v : Value) {N : Nat} {w : World} {L : List Res} (HS0 : St N w (Row k52 52 v l :: L)) :
    Calls Try.prog 17 #[.agg #[.int .i64 Kn, .int .i64 sd, v]] w fun e w' => e = .returned (.int .i64 (dst Kn l)) ∧ St N w' (Row k52 52 v l :: L) ∧ Below N w w' := by
  obtain ⟨A, c, e, hc, _⟩ := HS0.reads
  subst e
  unfold dst
  by_cases hle : l.length ≤ Kn
  · rw [if_pos hle]
    exact dsl_exact Kn sd A c l hc hl0 ⟨hle⟩ HS0
  · rw [if_neg hle]
    have hlt : Kn < l.length := by omega
    obtain ⟨ad, e, _⟩ := at_T52 HS0.rowC.2.2 ((Kn - 1 : Nat) : Int) (by omega) (by omega)
    subst e
    have hb := Hin_rd hin (Kn - 1) (by omega)
    have ek : (Kn : Int) - 1 = ((Kn - 1 : Nat) : Int) := by omega
    have hj : Kn = (Kn - 1) + 1 := by omega
    unfold dist
    rw [ek]
    generalize hh : (rd_T52 l ((Kn - 1 : Nat) : Int)).f0 = h at hb ⊢
    by_cases hz : h = 0
    · rw [if_pos hz]
      exact dsl_zero Kn sd ad c l hc hl0 ⟨hlt⟩ (Kn - 1) ⟨hj⟩ ⟨hK⟩ h ⟨hh⟩ (by simpa using hz) HS0
    · rw [if_neg hz]
      have hq := quot_ok ((Kn - 1 : Nat) : Int) h (by omega) (by omega) (by omega) (by omega)
      have n0 := dist_nonneg ((Kn - 1 : Nat) : Int) h (by omega) (by omega)
      generalize distQ ((Kn - 1 : Nat) : Int) h = Q at hq n0 ⊢
      by_cases k1 : Q > 1099511627776
      · rw [if_pos k1] at hq ⊢
        exact dsl_neg Kn sd ad c l hc hl0 ⟨hlt⟩ (Kn - 1) ⟨hj⟩ ⟨hK⟩ h ⟨hh⟩ (by simpa using hz) (-1) ⟨hq⟩ (eq_true (by omega)) HS0
      · rw [if_neg k1] at hq ⊢
        by_cases k2 : Q < (Kn : Int)
        · rw [if_neg (show ¬ Q > (Kn : Int) by omega)]
          exact dsl_A Kn sd ad c l hc hl0 ⟨hlt⟩ (Kn - 1) ⟨hj⟩ ⟨hK⟩ h ⟨hh⟩ (by simpa using hz) Q ⟨hq⟩ (eq_false (by omega)) (eq_true k2) HS0
        · have : (if Q > (Kn : Int) then Q else (Kn : Int)) = Q := by split <;> omega
          rw [this]
          exact dsl_B Kn sd ad c l hc hl0 ⟨hlt⟩ (Kn - 1) ⟨hj⟩ ⟨hK⟩ h ⟨hh⟩ (by simpa using hz) Q ⟨hq⟩ (eq_false (by omega)) (eq_false k2) HS0

end Go.Proofs.Ytddhpkobingmhaa.PB
