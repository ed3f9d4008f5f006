/- The law IncidentFolds walked. -/
import Derived.Test.YtcjfgejiknlpfaaSq32
import Derived.Test.YtcjfgejiknlpfaaSq18
import Derived.Test.YtcjfgejiknlpfaaSamS
namespace Go.Proofs.Ytcjfgejiknlpfaa.PI
open Go.RowKit Go.Proofs.YtcjfgejiknlpfaaW.PrintWords Go.Proofs.YtcjfgejiknlpfaaW.PrintLast Go.Proofs.YtcjfgejiknlpfaaW.PrintMore Go.Proofs.Ytcjfgejiknlpfaa.Sep
set_option linter.unusedVariables false
set_option linter.unusedSimpArgs false
set_option maxHeartbeats 8000000
set_option maxRecDepth 100000

def fld.T4 : Bool × List (List Nat × List Nat) := (true, [([], []), ([0], [0]), ([1, 0], [1]), ([2], [2]), ([3, 2, 2], [2, 3]), ([2], [2]), ([4, 5, 4, 2], [2, 4, 5]), ([6, 2], [2, 6]), ([2, 7], [2, 7]), ([8, 6], [8]), ([9], [9]), ([10, 9], [9, 10]), ([9], [9]), ([12, 9], [9, 12]), ([11, 13, 9], [9, 11, 13]), ([9, 14], [9, 14]), ([15, 9], [15]), ([16], [16]), ([17, 16, 16], [16, 17]), ([16], [16]), ([19, 18, 16], [16, 19]), ([18, 20, 20, 16], [16, 18, 20]), ([21, 16], [16, 21]), ([16, 22], [16, 22])])
def fld.B4 : List Nat := [0, 1, 3, 7, 15, 7, 63, 127, 255, 511, 1023, 2047, 1023, 5119, 16383, 32767, 65535, 131071, 262143, 131071, 1048575, 2097151, 4194303, 8388607]
theorem fld.tab4 : rtab .any (opsOf Try.f4 4) = fld.T4 := by kernel_rfl
theorem fld.bits4 : waitsOk fld.T4.2 fld.B4 = true := by kernel_rfl
def fld.T9 : Bool × List (List Nat × List Nat) := (true, [([], []), ([], []), ([0, 1], [0, 1]), ([2], [2]), ([], []), ([], []), ([4, 5], [4, 5]), ([6], [6]), ([3, 7], [3, 7])])
def fld.B9 : List Nat := [0, 0, 3, 7, 0, 0, 48, 112, 255]
theorem fld.tab9 : rtab .any (opsOf Try.f4 9) = fld.T9 := by kernel_rfl
theorem fld.bits9 : waitsOk fld.T9.2 fld.B9 = true := by kernel_rfl
theorem decE_ok (a : S23) : EvOk (decE a) := by
  refine ⟨decE_kind a, fun h => ?_⟩
  unfold decE at h ⊢
  split at h
  · rename_i h1
    rw [if_pos h1]
    simp only at h
    omega
  · rename_i h1
    rw [if_neg h1]
    split at h
    · rename_i h2
      rw [if_pos h2]
      simp only at h
      omega
    · rename_i h2
      rw [if_neg h2]
      split at h
      · rename_i h3
        rw [if_pos h3]
        show 1 ≤ 1 + a.f6 % 3
        omega
      · rename_i h3
        simp only at h
        omega
theorem evs_ok (l : List S23) : ∀ x ∈ evs l, EvOk x := by
  intro x hx
  obtain ⟨a, _, rfl⟩ := List.mem_map.mp hx
  exact decE_ok a
theorem rsCel {N : Nat} {w : World} {L : List Res} {g n cap : Nat} {l : List Int} (h : St N w (Row (Kd.int .i64) 3 (.slice (some ⟨g, 0, none⟩) n cap) l :: L)) (j : Nat) (hj : j < l.length) (r : Int) (hr : l[j]? = some r) : w.cell? ⟨g, j, none⟩ = some (.int .i64 r) := by
  obtain ⟨ad, ea, x0⟩ := at_ints h.rowC.2.2 j (by omega)
  cases ea
  rw [Addr.add_lit, Nat.zero_add, List.getD_eq_getElem?_getD, hr] at x0
  exact x0

theorem folds_walk (A : Option Addr) (c : Nat) (acts : List S23) (hu0 : ∀ a ∈ acts, U8s a) (w : World) (hc : Kd.C k23 w A acts.length acts) :
    Calls Try.prog 4 #[.slice A acts.length c] w fun r w' => r = .returned (.bool true) ∧ Below w.heap.size w w' := by
  have HS := Aside0.mk (St.none_ (N := w.heap.size) (w := w) (Nat.le_refl _))
  have HB := Aside0.mk (Below.refl w.heap.size w)
  have HC := Aside0.mk hc
  have hu := Aside0.mk hu0
  clear hc hu0
  have hl24 := Aside0.mk (evs_len acts)
  have hkl : Aside0 (∀ x ∈ orderE (evs acts), 1 ≤ x.f2 ∧ x.f2 ≤ 9) := ⟨fun x hx => evs_kind acts x (order_mem hx)⟩
  have hek : Aside0 (∀ x ∈ orderE (evs acts), EvOk x) := ⟨fun x hx => evs_ok acts x (order_mem hx)⟩
  go_enter Try.func4, Try.ntmps4
  go_upto_region 2 with (first | (go_at_call 18; refine (Events_ok A acts.length c acts rfl hu.out (fun w' _ h => Kd.C_below HC.out h) (fun w' v xs _ h => Kd.C_below HC.out h) HS.out).mono ?_; rintro r_ w1 ⟨ve, rfl, hs, hb⟩; have n0_ := Aside0.mk (hs); have n1_ := Aside0.mk (HB.out.trans hb); clear HS HB; have HS := n0_; have HB := n1_; clear n0_ n1_; (try simp only [List.eraseIdx_cons_succ, List.eraseIdx_cons_zero] at HS); clear hs hb; obtain ⟨Ae, ce, ee, _, _⟩ := HS.out.reads; subst ee; generalize hl_ : evs acts = l at HS hl24 hkl hek; replace hl_ := Aside0.mk hl_))
  have hls : Aside0 ((orderE l).length ≤ 24) := ⟨Nat.le_trans (order_len l) hl24.out⟩
  have hgd0 := good_run (orderE l)
  have hrl := run_length (orderE l)
  obtain ⟨q, hq0⟩ : ∃ q, runP l = q := ⟨_, rfl⟩
  rw [show runO (orderE l) = q from hq0] at hgd0 hrl
  obtain ⟨s, rs⟩ := q
  have hrun := Aside0.mk hq0
  have hgd := Aside0.mk hgd0
  clear hgd0 hq0
  replace hrl : rs.length = (orderE l).length := hrl
  have hrs : Aside0 (rs.length ≤ 24) := ⟨by have := hls.out; omega⟩
  clear hrl
  go_upto_region 3 with (first | (go_at_call 19; refine (fold_ok Ae ce l (by have := hl24.out; omega) hek.out HS.out).mono ?_; rintro r_ w2 ⟨v5, v6, vr, rfl, hs, hb⟩; rw [hrun.out] at hs ⊢; simp only at hs ⊢; have n0_ := Aside0.mk (hs); have n1_ := Aside0.mk (HB.out.trans hb); clear HS HB; have HS := n0_; have HB := n1_; clear n0_ n1_; (try simp only [List.eraseIdx_cons_succ, List.eraseIdx_cons_zero] at HS); clear hs hb; obtain ⟨A5, k5, e5, _, _⟩ := (HS.out.pick 0 rfl).reads; subst e5; obtain ⟨A6, k6, e6, _, _⟩ := (HS.out.pick 1 rfl).reads; subst e6; obtain ⟨A7, k7, e7, _, _⟩ := (HS.out.pick 2 rfl).reads; subst e7) | ((with_reducible refine gate_dst (N := 4) rfl ?_); refine box_event ?hg (N := 4) ?hd (cs := #[.int .i64 0, .string ⟨#[]⟩, .int .i64 0, .int .i64 0, .string ⟨#[]⟩, .int .i64 0, .slice none 0 0, .slice none 0 0, .int .i64 0]) (t := 40) ?hr ?_; (case hd => rfl); (case hg => rfl); (case hr => first | (go_simp; done) | (go_simp; rfl)); intro g4 hg w3 hbox hb; have n0_ := Aside0.mk (HS.out.box hg hbox hb); have n1_ := Aside0.mk (below_step' HB.out HS.out.size hb); clear HS HB; have HS := n0_; have HB := n1_; clear n0_ n1_; (try simp only [List.eraseIdx_cons_succ, List.eraseIdx_cons_zero] at HS); clear hb hbox hg; have hc0_0 := ((HS.out.pick 0 rfl).cell 0).trans (show _ = some (.int .i64 0) from rfl); have hc0_1 := ((HS.out.pick 0 rfl).cell 1).trans (show _ = some (.string ⟨#[]⟩) from rfl); have hc0_2 := ((HS.out.pick 0 rfl).cell 2).trans (show _ = some (.int .i64 0) from rfl); have hc0_3 := ((HS.out.pick 0 rfl).cell 3).trans (show _ = some (.int .i64 0) from rfl); have hc0_4 := ((HS.out.pick 0 rfl).cell 4).trans (show _ = some (.string ⟨#[]⟩) from rfl); have hc0_5 := ((HS.out.pick 0 rfl).cell 5).trans (show _ = some (.int .i64 0) from rfl); have hc0_6 := ((HS.out.pick 0 rfl).cell 6).trans (show _ = some (.slice none 0 0) from rfl); have hc0_7 := ((HS.out.pick 0 rfl).cell 7).trans (show _ = some (.slice none 0 0) from rfl); have hc0_8 := ((HS.out.pick 0 rfl).cell 8).trans (show _ = some (.int .i64 0) from rfl); have hf0_0 := (HS.out.pick 0 rfl).frozen 0; have hf0_1 := (HS.out.pick 0 rfl).frozen 1; have hf0_2 := (HS.out.pick 0 rfl).frozen 2; have hf0_3 := (HS.out.pick 0 rfl).frozen 3; have hf0_4 := (HS.out.pick 0 rfl).frozen 4; have hf0_5 := (HS.out.pick 0 rfl).frozen 5; have hf0_6 := (HS.out.pick 0 rfl).frozen 6; have hf0_7 := (HS.out.pick 0 rfl).frozen 7; have hf0_8 := (HS.out.pick 0 rfl).frozen 8))
  have s9 := set9 (.int .i64 s.st) (.string s.ti) (.int .i64 s.op) (.int .i64 s.en) (.string s.ca.f0) (.int .i64 s.ca.f1) (.slice A5 s.pe.length k5) (.slice A6 s.th.length k6) (.int .i64 s.no) HS.out HB.out
  have n0_ := Aside0.mk (s9.1); have n1_ := Aside0.mk (s9.2); clear HS HB; have HS := n0_; have HB := n1_; clear n0_ n1_; (try simp only [List.eraseIdx_cons_succ, List.eraseIdx_cons_zero] at HS)
  generalize World.setCell _ _ _ = w4 at HS HB ⊢
  clear hc0_0 hf0_0 hc0_1 hf0_1 hc0_2 hf0_2 hc0_3 hf0_3 hc0_4 hf0_4 hc0_5 hf0_5 hc0_6 hf0_6 hc0_7 hf0_7 hc0_8 hf0_8 s9
  go_upto_region 4 with (first | (go_at_call 20; refine (Reasons_ok Ae ce l (by have := hl24.out; omega) hkl.out (fun w' L' h _ => (St.pick (r := Row k27 27 (.slice Ae l.length ce) l) h (L'.length + 4) (by simp)).rowC.2.2) HS.out).mono ?_; rintro r_ w5 ⟨vq, rfl, hs, hb⟩; rw [hrun.out] at hs; have n0_ := Aside0.mk (hs); have n1_ := Aside0.mk (HB.out.trans hb); clear HS HB; have HS := n0_; have HB := n1_; clear n0_ n1_; (try simp only [List.eraseIdx_cons_succ, List.eraseIdx_cons_zero] at HS); clear hs hb; obtain ⟨A8, k8, e8, _, _⟩ := (HS.out.pick 0 rfl).reads; subst e8))
  have n1 : ((rs.length : Int) != (rs.length : Int)) = false := by simp
  go_cut [40] (fun v wc => v = .bool false ∧ Aside0 (St w.heap.size wc (Row (Kd.int .i64) 3 (.slice A8 rs.length k8) rs :: Blk g4 #[.int .i64 s.st, .string s.ti, .int .i64 s.op, .int .i64 s.en, .string s.ca.f0, .int .i64 s.ca.f1, .slice A5 s.pe.length k5, .slice A6 s.th.length k6, .int .i64 s.no] 40 :: Row k49 49 (.slice A5 s.pe.length k5) s.pe :: Row k51 51 (.slice A6 s.th.length k6) s.th :: Row (Kd.int .i64) 3 (.slice A7 rs.length k7) rs :: [])) ∧ Aside0 (Below w.heap.size w wc))
  case first =>
    have n0_ := Aside0.mk (HS.out.drew); have n1_ := Aside0.mk (HB.out.drew); clear HS HB; have HS := n0_; have HB := n1_; clear n0_ n1_
    refine start_ (n := 24) (S := fun w' => w'.cell? ⟨g4, 0, none⟩ = some (.int .i64 s.st) ∧ w'.cell? ⟨g4, 1, none⟩ = some (.string s.ti) ∧ w'.cell? ⟨g4, 2, none⟩ = some (.int .i64 s.op) ∧ w'.cell? ⟨g4, 3, none⟩ = some (.int .i64 s.en) ∧ w'.cell? ⟨g4, 4, none⟩ = some (.string s.ca.f0) ∧ w'.cell? ⟨g4, 5, none⟩ = some (.int .i64 s.ca.f1) ∧ w'.cell? ⟨g4, 6, none⟩ = some (.slice A5 s.pe.length k5) ∧ w'.cell? ⟨g4, 7, none⟩ = some (.slice A6 s.th.length k6) ∧ w'.cell? ⟨g4, 8, none⟩ = some (.int .i64 s.no)) (ds := []) (tfs true [0, 24]).toArray (by kernel_rfl) rfl rfl ⟨((HS.out.pick 1 rfl).cell 0).trans rfl, ((HS.out.pick 1 rfl).cell 1).trans rfl, ((HS.out.pick 1 rfl).cell 2).trans rfl, ((HS.out.pick 1 rfl).cell 3).trans rfl, ((HS.out.pick 1 rfl).cell 4).trans rfl, ((HS.out.pick 1 rfl).cell 5).trans rfl, ((HS.out.pick 1 rfl).cell 6).trans rfl, ((HS.out.pick 1 rfl).cell 7).trans rfl, ((HS.out.pick 1 rfl).cell 8).trans rfl⟩ (fun hHeld => ?_); refine with_tabW fld.tab4 fld.bits4 (fun HT_ HW_ => ?_)
    generalize w5.drew = w6 at HS HB hHeld ⊢
    refine one_ (i := 0) (N := some 17) (tfs true [1, 23]).toArray rfl rfl (one_of HT_.out (by kernel_rfl)) (by decide) (fun K hK => ?_)
    refine goes_ Try.func13 (by kernel_rfl) rfl #[] (by rfl) rfl rfl (by (try simp only [List.map_toArray, List.map_cons, List.map_nil]); first | done | rfl | (simp only [List.length_drop, List.length_take]; rfl)) ?_
    with_reducible refine (known_ok _).mono ?_
    rintro r_ wk ⟨rfl, hb⟩
    refine ⟨_, rfl, ?_⟩
    have n0_ := Aside0.mk (HS.out.step hb); have n1_ := Aside0.mk (below_step' HB.out HS.out.size hb); clear HS HB; have HS := n0_; have HB := n1_; clear n0_ n1_; (try simp only [List.eraseIdx_cons_succ, List.eraseIdx_cons_zero] at HS)
    clear hb
    refine hK.out _ _ ⟨((HS.out.pick 1 rfl).cell 0).trans rfl, ((HS.out.pick 1 rfl).cell 1).trans rfl, ((HS.out.pick 1 rfl).cell 2).trans rfl, ((HS.out.pick 1 rfl).cell 3).trans rfl, ((HS.out.pick 1 rfl).cell 4).trans rfl, ((HS.out.pick 1 rfl).cell 5).trans rfl, ((HS.out.pick 1 rfl).cell 6).trans rfl, ((HS.out.pick 1 rfl).cell 7).trans rfl, ((HS.out.pick 1 rfl).cell 8).trans rfl⟩ (fun hHeld => ?_)
    clear hK K
    refine norm_ (a' := ?_) ?_ ?_
    rotate_left
    · show Act.put _ (some 17) _ = _
      simp only [Act.put, List.setIfInBounds_toArray, List.set_cons_zero, List.set_cons_succ, i64_w, i32_w]
      rfl
    refine pU 1 18 (tfs true [2, 22]).toArray rfl rfl HT_ ?_
    refine pU 2 19 (tfs true [3, 21]).toArray rfl rfl HT_ ?_
    refine pU 3 20 (tfs true [4, 20]).toArray rfl rfl HT_ ?_
    refine tK 5 22 (tfs true [4, 1, 1, 18]).toArray rfl rfl HT_ HW_ hHeld ?_ (by rintro w' ⟨s0, s1, s2, s3, s4, s5, s6, s7, s8⟩; go_simp; with_reducible rfl)
    refine one_ (i := 4) (N := some 21) (tfs true [6, 18]).toArray rfl rfl (one_of HT_.out (by kernel_rfl)) (by decide) (fun K hK => ?_)
    refine goes_ Try.func22 (by kernel_rfl) rfl #[.slice Ae l.length ce] (by rfl) rfl rfl (by (try simp only [List.map_toArray, List.map_cons, List.map_nil]); first | done | rfl | (simp only [List.length_drop, List.length_take]; rfl)) ?_
    with_reducible refine (Fold_ok Ae ce l (by have := hl24.out; omega) hkl.out (fun w' L' h _ => (St.pick (r := Row k27 27 (.slice Ae l.length ce) l) h (L'.length + 5) (by simp)).rowC.2.2) HS.out).mono ?_
    rintro r_ wf ⟨v8, v9, rfl, hs, hb⟩; rw [hrun.out] at hs ⊢; simp only at hs ⊢
    refine ⟨_, rfl, ?_⟩
    have n0_ := Aside0.mk (((((((((hs.pick 1 rfl).pick 1 rfl).pick 7 rfl).pick 7 rfl).pick 7 rfl).pick 7 rfl).pick 7 rfl).pick 7 rfl)); have n1_ := Aside0.mk (HB.out.trans hb); clear HS HB; have HS := n0_; have HB := n1_; clear n0_ n1_; (try simp only [List.eraseIdx_cons_succ, List.eraseIdx_cons_zero] at HS)
    clear hs hb; obtain ⟨B5, j5, e5, _, _⟩ := (HS.out.pick 6 rfl).reads; subst e5; obtain ⟨B6, j6, e6, _, _⟩ := (HS.out.pick 7 rfl).reads; subst e6
    refine hK.out _ _ ⟨((HS.out.pick 1 rfl).cell 0).trans rfl, ((HS.out.pick 1 rfl).cell 1).trans rfl, ((HS.out.pick 1 rfl).cell 2).trans rfl, ((HS.out.pick 1 rfl).cell 3).trans rfl, ((HS.out.pick 1 rfl).cell 4).trans rfl, ((HS.out.pick 1 rfl).cell 5).trans rfl, ((HS.out.pick 1 rfl).cell 6).trans rfl, ((HS.out.pick 1 rfl).cell 7).trans rfl, ((HS.out.pick 1 rfl).cell 8).trans rfl⟩ (fun hHeld => ?_)
    clear hK K
    refine norm_ (a' := ?_) ?_ ?_
    rotate_left
    · show Act.put _ (some 21) _ = _
      simp only [Act.put, List.setIfInBounds_toArray, List.set_cons_zero, List.set_cons_succ, i64_w, i32_w]
      rfl
    refine one_ (i := 6) (N := some 23) (tfs true [7, 17]).toArray rfl rfl (one_of HT_.out (by kernel_rfl)) (by decide) (fun K hK => ?_)
    refine goes_ Try.func21 (by kernel_rfl) rfl #[.agg #[.int .i64 s.st, .string s.ti, .int .i64 s.op, .int .i64 s.en, .string s.ca.f0, .int .i64 s.ca.f1, .slice B5 s.pe.length j5, .slice B6 s.th.length j6, .int .i64 s.no], .agg #[.int .i64 s.st, .string s.ti, .int .i64 s.op, .int .i64 s.en, .string s.ca.f0, .int .i64 s.ca.f1, .slice A5 s.pe.length k5, .slice A6 s.th.length k6, .int .i64 s.no]] (by rfl) rfl rfl (by (try simp only [List.map_toArray, List.map_cons, List.map_nil]); first | done | rfl | (simp only [List.length_drop, List.length_take]; rfl)) ?_
    with_reducible refine (same_self s B5 B6 A5 A6 j5 j6 k5 k6 _ (HS.out.pick 6 rfl).rowC.2.2 (HS.out.pick 6 rfl).rowC.2.1 (HS.out.pick 7 rfl).rowC.2.2 (HS.out.pick 7 rfl).rowC.2.1 (HS.out.pick 2 rfl).rowC.2.2 (HS.out.pick 2 rfl).rowC.2.1 (HS.out.pick 3 rfl).rowC.2.2 (HS.out.pick 3 rfl).rowC.2.1 (by have := hgd.out.lp; have := hls.out; omega) (by have := hgd.out.lt; have := hls.out; omega)).mono ?_
    rintro r_ ws ⟨rfl, hb⟩
    refine ⟨_, rfl, ?_⟩
    have n0_ := Aside0.mk (HS.out.step hb); have n1_ := Aside0.mk (below_step' HB.out HS.out.size hb); clear HS HB; have HS := n0_; have HB := n1_; clear n0_ n1_; (try simp only [List.eraseIdx_cons_succ, List.eraseIdx_cons_zero] at HS)
    clear hb
    refine hK.out _ _ ⟨((HS.out.pick 1 rfl).cell 0).trans rfl, ((HS.out.pick 1 rfl).cell 1).trans rfl, ((HS.out.pick 1 rfl).cell 2).trans rfl, ((HS.out.pick 1 rfl).cell 3).trans rfl, ((HS.out.pick 1 rfl).cell 4).trans rfl, ((HS.out.pick 1 rfl).cell 5).trans rfl, ((HS.out.pick 1 rfl).cell 6).trans rfl, ((HS.out.pick 1 rfl).cell 7).trans rfl, ((HS.out.pick 1 rfl).cell 8).trans rfl⟩ (fun hHeld => ?_)
    clear hK K
    refine norm_ (a' := ?_) ?_ ?_
    rotate_left
    · show Act.put _ (some 23) _ = _
      simp only [Act.put, List.setIfInBounds_toArray, List.set_cons_zero, List.set_cons_succ, i64_w, i32_w]
      rfl
    refine pU 7 24 (tfs true [8, 16]).toArray rfl rfl HT_ ?_
    refine pU 8 25 (tfs true [9, 15]).toArray rfl rfl HT_ ?_
    refine pU 9 26 (tfs true [10, 14]).toArray rfl rfl HT_ ?_
    refine pU 10 27 (tfs true [11, 13]).toArray rfl rfl HT_ ?_
    refine pU 11 28 (tfs true [12, 12]).toArray rfl rfl HT_ ?_
    refine pU 12 29 (tfs true [13, 11]).toArray rfl rfl HT_ ?_
    refine pU 13 30 (tfs true [14, 10]).toArray rfl rfl HT_ ?_
    refine pU 14 31 (tfs true [15, 9]).toArray rfl rfl HT_ ?_
    refine pU 15 32 (tfs true [16, 8]).toArray rfl rfl HT_ ?_
    refine pU 16 33 (tfs true [17, 7]).toArray rfl rfl HT_ ?_
    refine pU 17 34 (tfs true [18, 6]).toArray rfl rfl HT_ ?_
    refine pU 19 36 (tfs true [18, 1, 1, 4]).toArray rfl rfl HT_ ?_
    refine one_ (i := 18) (N := some 35) (tfs true [20, 4]).toArray rfl rfl (one_of HT_.out (by kernel_rfl)) (by decide) (fun K hK => ?_)
    refine goes_ Try.func16 (by kernel_rfl) rfl #[.slice Ae l.length ce] (by rfl) rfl rfl (by (try simp only [List.map_toArray, List.map_cons, List.map_nil]); first | done | rfl | (simp only [List.length_drop, List.length_take]; rfl)) ?_
    with_reducible refine (Order_ok Ae _ ce l rfl (by have := hl24.out; omega) (fun w' h _ => (h.pick 5 rfl).rowC.2.2) HS.out).mono ?_
    rintro r_ wo ⟨vo, rfl, hs, hb⟩
    refine ⟨_, rfl, ?_⟩
    have n0_ := Aside0.mk ((((((((((hs.pick 0 rfl).pick 8 rfl).pick 8 rfl).pick 8 rfl).pick 8 rfl).pick 8 rfl).pick 8 rfl).pick 8 rfl).pick 8 rfl)); have n1_ := Aside0.mk (HB.out.trans hb); clear HS HB; have HS := n0_; have HB := n1_; clear n0_ n1_; (try simp only [List.eraseIdx_cons_succ, List.eraseIdx_cons_zero] at HS)
    clear hs hb; obtain ⟨Ao, co, eo, _, _⟩ := (HS.out.pick 8 rfl).reads; subst eo
    refine hK.out _ _ ⟨((HS.out.pick 1 rfl).cell 0).trans rfl, ((HS.out.pick 1 rfl).cell 1).trans rfl, ((HS.out.pick 1 rfl).cell 2).trans rfl, ((HS.out.pick 1 rfl).cell 3).trans rfl, ((HS.out.pick 1 rfl).cell 4).trans rfl, ((HS.out.pick 1 rfl).cell 5).trans rfl, ((HS.out.pick 1 rfl).cell 6).trans rfl, ((HS.out.pick 1 rfl).cell 7).trans rfl, ((HS.out.pick 1 rfl).cell 8).trans rfl⟩ (fun hHeld => ?_)
    clear hK K
    refine norm_ (a' := ?_) ?_ ?_
    rotate_left
    · show Act.put _ (some 35) _ = _
      simp only [Act.put, List.setIfInBounds_toArray, List.set_cons_zero, List.set_cons_succ, i64_w, i32_w]
      rfl
    refine one_ (i := 20) (N := some 37) (tfs true [21, 3]).toArray rfl rfl (one_of HT_.out (by kernel_rfl)) (by decide) (fun K hK => ?_)
    refine goes_ Try.func17 (by kernel_rfl) rfl #[.slice Ae l.length ce] (by rfl) rfl rfl (by (try simp only [List.map_toArray, List.map_cons, List.map_nil]); first | done | rfl | (simp only [List.length_drop, List.length_take]; rfl)) ?_
    with_reducible refine (counting_ok Ae ce l (by have := hl24.out; omega) ((HS.out.pick 5 rfl))).mono ?_
    rintro r_ wc2 ⟨vc, rfl, hs, hb⟩
    refine ⟨_, rfl, ?_⟩
    have n0_ := Aside0.mk (((((((((((hs.pick 0 rfl).pick 9 rfl).pick 9 rfl).pick 9 rfl).pick 4 rfl).pick 9 rfl).pick 9 rfl).pick 9 rfl).pick 9 rfl).pick 9 rfl)); have n1_ := Aside0.mk (HB.out.trans hb); clear HS HB; have HS := n0_; have HB := n1_; clear n0_ n1_; (try simp only [List.eraseIdx_cons_succ, List.eraseIdx_cons_zero] at HS)
    clear hs hb; obtain ⟨Ac, cc, ec, _, _⟩ := (HS.out.pick 9 rfl).reads; subst ec
    refine hK.out _ _ ⟨((HS.out.pick 1 rfl).cell 0).trans rfl, ((HS.out.pick 1 rfl).cell 1).trans rfl, ((HS.out.pick 1 rfl).cell 2).trans rfl, ((HS.out.pick 1 rfl).cell 3).trans rfl, ((HS.out.pick 1 rfl).cell 4).trans rfl, ((HS.out.pick 1 rfl).cell 5).trans rfl, ((HS.out.pick 1 rfl).cell 6).trans rfl, ((HS.out.pick 1 rfl).cell 7).trans rfl, ((HS.out.pick 1 rfl).cell 8).trans rfl⟩ (fun hHeld => ?_)
    clear hK K
    refine norm_ (a' := ?_) ?_ ?_
    rotate_left
    · show Act.put _ (some 37) _ = _
      simp only [Act.put, List.setIfInBounds_toArray, List.set_cons_zero, List.set_cons_succ, i64_w, i32_w]
      rfl
    refine one_ (i := 21) (N := some 38) (tfs true [22, 2]).toArray rfl rfl (one_of HT_.out (by kernel_rfl)) (by decide) (fun K hK => ?_)
    refine goes_ Try.func15 (by kernel_rfl) rfl #[.slice Ao (orderE l).length co, .slice Ac (orderE l).length cc] (by rfl) rfl rfl (by (try simp only [List.map_toArray, List.map_cons, List.map_nil]); first | done | rfl | (simp only [List.length_drop, List.length_take]; rfl)) ?_
    with_reducible refine (sameEv_ok Ao Ac co cc (orderE l) (orderE l) _ (by have := hls.out; omega) (HS.out.pick 8 rfl).rowC.2.2 (HS.out.pick 8 rfl).rowC.2.1 (HS.out.pick 9 rfl).rowC.2.2 (HS.out.pick 9 rfl).rowC.2.1 true (decide_eq_true rfl)).mono ?_
    rintro r_ we ⟨rfl, hb0⟩; have hb := hb0.below; clear hb0
    refine ⟨_, rfl, ?_⟩
    have n0_ := Aside0.mk (HS.out.step hb); have n1_ := Aside0.mk (below_step' HB.out HS.out.size hb); clear HS HB; have HS := n0_; have HB := n1_; clear n0_ n1_; (try simp only [List.eraseIdx_cons_succ, List.eraseIdx_cons_zero] at HS)
    clear hb
    refine hK.out _ _ ⟨((HS.out.pick 1 rfl).cell 0).trans rfl, ((HS.out.pick 1 rfl).cell 1).trans rfl, ((HS.out.pick 1 rfl).cell 2).trans rfl, ((HS.out.pick 1 rfl).cell 3).trans rfl, ((HS.out.pick 1 rfl).cell 4).trans rfl, ((HS.out.pick 1 rfl).cell 5).trans rfl, ((HS.out.pick 1 rfl).cell 6).trans rfl, ((HS.out.pick 1 rfl).cell 7).trans rfl, ((HS.out.pick 1 rfl).cell 8).trans rfl⟩ (fun hHeld => ?_)
    clear hK K
    refine norm_ (a' := ?_) ?_ ?_
    rotate_left
    · show Act.put _ (some 38) _ = _
      simp only [Act.put, List.setIfInBounds_toArray, List.set_cons_zero, List.set_cons_succ, i64_w, i32_w]
      rfl
    refine pU 22 39 (tfs true [23, 1]).toArray rfl rfl HT_ ?_
    refine pU 23 40 (tfs true [24]).toArray rfl rfl HT_ ?_
    refine done_ (done_of HT_.out (by kernel_rfl)) ?_
    clear HT_ HW_
    try clear hHeld
    go_wp2
    go_meet
    case rel => exact ⟨rfl, ⟨(((((((((((HS.out.pick 4 rfl).pick 4 rfl).pick 4 rfl).pick 4 rfl).pick 4 rfl).pick 9 rfl).pick 9 rfl).pick 9 rfl).pick 9 rfl).pick 9 rfl)).drop.drop.drop.drop.drop⟩, HB⟩
  case rest =>
    clear HS HB
    obtain ⟨rfl, HS, HB⟩ := hcut
    clear n1
    go_upto_region 7 with (fail)
    go_loopw [7] (fun v7 wr => ∃ i : Nat, i ≤ rs.length ∧ v7 = .int .i64 i ∧ Aside0 (St w.heap.size wr (Row (Kd.int .i64) 3 (.slice A8 rs.length k8) rs :: Blk g4 #[.int .i64 s.st, .string s.ti, .int .i64 s.op, .int .i64 s.en, .string s.ca.f0, .int .i64 s.ca.f1, .slice A5 s.pe.length k5, .slice A6 s.th.length k6, .int .i64 s.no] 40 :: Row k49 49 (.slice A5 s.pe.length k5) s.pe :: Row k51 51 (.slice A6 s.th.length k6) s.th :: Row (Kd.int .i64) 3 (.slice A7 rs.length k7) rs :: [])) ∧ Aside0 (Below w.heap.size w wr)) (fun v7 _ => rs.length - (intOf v7).toNat)
    case atStart => exact ⟨0, Nat.zero_le _, rfl, HS, HB⟩
    case round =>
      clear HS HB
      obtain ⟨i, hi, rfl, HS, HB⟩ := hrel
      by_cases hlt : i < rs.length
      · obtain ⟨g8, c8, e8, _⟩ := St.row_some flatI (HS.out.pick 0 rfl) (by omega)
        obtain ⟨h1_, h2_⟩ : A8 = some ⟨g8, 0, none⟩ ∧ k8 = c8 := by simpa using e8
        subst h1_
        subst h2_
        obtain ⟨g7, c7, e7, _⟩ := St.row_some flatI (HS.out.pick 4 rfl) (by omega)
        obtain ⟨h1_, h2_⟩ : A7 = some ⟨g7, 0, none⟩ ∧ k7 = c7 := by simpa using e7
        subst h1_
        subst h2_
        clear e8 e7
        have q0 : decide ((i : Int) < (rs.length : Int)) = true := decide_eq_true (by omega)
        have q1 := eq_true (show (i : Int) < (rs.length : Int) by omega)
        have q2 := eq_true (show (0 : Int) ≤ (i : Int) by omega)
        have hw : IntKind.i64.wrap ((i : Int) + 1) = (i : Int) + 1 := by rw [IntKind.wrap_i64]; have := hrs.out; omega
        have hil : Aside0 (i < rs.length) := ⟨hlt⟩
        obtain ⟨r, hr0⟩ : ∃ r, rs[i]? = some r := ⟨rs[i], List.getElem?_eq_getElem hlt⟩
        have hr := Aside0.mk hr0
        clear hr0
        have n1 : (r != r) = false := by simp
        go_upto_region 9 with (fail)
        have n0_ := Aside0.mk (HS.out.drew); have n1_ := Aside0.mk (HB.out.drew); clear HS HB; have HS := n0_; have HB := n1_; clear n0_ n1_
        refine start_ (n := 9) (S := fun w' => w'.cell? ⟨g8, i, none⟩ = some (.int .i64 r) ∧ w'.cell? ⟨g7, i, none⟩ = some (.int .i64 r)) (ds := []) #[false, false, false, false, false, false, false, false, false] (by kernel_rfl) rfl rfl ⟨(rsCel (HS.out.pick 0 rfl) i hil.out r hr.out), (rsCel (HS.out.pick 4 rfl) i hil.out r hr.out)⟩ (fun hHeld => ?_); refine with_tabW fld.tab9 fld.bits9 (fun HT_ HW_ => ?_)
        generalize wr.drew = wd at HS HB hHeld ⊢
        refine pU 0 47 #[true, false, false, false, false, false, false, false, false] rfl rfl HT_ ?_
        refine pU 1 48 #[true, true, false, false, false, false, false, false, false] rfl rfl HT_ ?_
        refine pU 2 49 #[true, true, true, false, false, false, false, false, false] rfl rfl HT_ ?_
        refine pU 4 51 #[true, true, true, false, true, false, false, false, false] rfl rfl HT_ ?_
        refine pU 5 52 #[true, true, true, false, true, true, false, false, false] rfl rfl HT_ ?_
        refine pU 6 53 #[true, true, true, false, true, true, true, false, false] rfl rfl HT_ ?_
        refine tK 3 50 #[true, true, true, true, true, true, true, false, false] rfl rfl HT_ HW_ hHeld ?_ (by rintro w' ⟨s0, s1⟩; go_simp; with_reducible rfl)
        refine tK 7 54 #[true, true, true, true, true, true, true, true, false] rfl rfl HT_ HW_ hHeld ?_ (by rintro w' ⟨s0, s1⟩; go_simp; with_reducible rfl)
        refine pU 8 55 #[true, true, true, true, true, true, true, true, true] rfl rfl HT_ ?_
        refine done_ (done_of HT_.out (by kernel_rfl)) ?_
        clear HT_ HW_
        try clear hHeld
        go_wp2
        go_roundw
        case rel => exact ⟨i + 1, by omega, by go_num, HS, HB⟩
        case measure => simp [intOf]; omega
      · obtain rfl : i = rs.length := by omega
        have q0 : decide ((rs.length : Int) < (rs.length : Int)) = false := decide_eq_false (by omega)
        go_wp2
        go_ret
        exact ⟨rfl, HB.out⟩

end Go.Proofs.Ytcjfgejiknlpfaa.PI
