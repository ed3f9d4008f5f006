/- The law IncidentOrderless walked. -/
import Derived.Test.YtcjfgejiknlpfaaSq40
import Derived.Test.YtcjfgejiknlpfaaSq18
import Derived.Test.YtcjfgejiknlpfaaRes
import Derived.Test.YtcjfgejiknlpfaaEqS
namespace Go.Proofs.Ytcjfgejiknlpfaa.PI
open Go.RowKit Go.Proofs.YtcjfgejiknlpfaaW.PrintWords Go.Proofs.YtcjfgejiknlpfaaW.PrintLast Go.Proofs.YtcjfgejiknlpfaaW.PrintMore Go.Proofs.Ytcjfgejiknlpfaa.Sep
set_option linter.unusedVariables false
set_option linter.unusedSimpArgs false
set_option maxHeartbeats 8000000
set_option maxRecDepth 100000

def ols.T7 : Bool × List (List Nat × List Nat) := (true, [([], []), ([], []), ([], []), ([1, 2], [1, 2]), ([3], [3]), ([], []), ([], []), ([5, 6], [5, 6]), ([7], [7]), ([4, 8], [4, 8]), ([0, 9], [0, 9]), ([10, 10, 0, 1, 2, 3, 4, 5, 6, 7, 8, 9, 10], [0, 10])])
def ols.B7 : List Nat := [0, 0, 0, 6, 14, 0, 0, 96, 224, 510, 1023, 2047]
theorem ols.tab7 : rtab .any (opsOf Try.f10 7) = ols.T7 := by kernel_rfl
theorem ols.bits7 : waitsOk ols.T7.2 ols.B7 = true := by kernel_rfl
/-- The events from place k on, backwards, each twice. -/
def dbl (l : List S27) (k : Nat) : List S27 := (l.drop k).reverse.flatMap (fun x => [x, x])
theorem dbl_end (l : List S27) : dbl l l.length = [] := by unfold dbl; rw [List.drop_length]; rfl
theorem dbl_next (l : List S27) (k : Nat) (h : k < l.length) : dbl l k = dbl l (k + 1) ++ [rd_T27 l (k : Int), rd_T27 l (k : Int)] := by
  have e : rd_T27 l (k : Int) = l[k] := by simp [rd_T27, h]
  unfold dbl
  rw [e, List.drop_eq_getElem_cons h, List.reverse_cons, List.flatMap_append]
  rfl
theorem dbl_len (l : List S27) (k : Nat) : (dbl l k).length = 2 * (l.length - k) := by
  unfold dbl
  rw [List.length_flatMap, ← List.length_drop, ← List.length_reverse]
  generalize (l.drop k).reverse = m
  induction m with
  | nil => rfl
  | cons a m ih => simp at ih ⊢; omega
theorem dbl_mem {l : List S27} {k : Nat} {x : S27} (h : x ∈ dbl l k) : x ∈ l := by
  unfold dbl at h
  obtain ⟨y, hy, hx⟩ := List.mem_flatMap.mp h
  have : x = y := by simpa using hx
  subst this
  exact List.mem_of_mem_drop (List.mem_reverse.mp hy)
theorem evs_kind_ (l : List S23) : ∀ x ∈ evs l, 1 ≤ x.f2 ∧ x.f2 ≤ 9 := by
  intro x hx
  obtain ⟨a, _, rfl⟩ := List.mem_map.mp hx
  exact decE_kind a
theorem and_true_ {b : Bool} : (b == b) = true := by cases b <;> rfl
theorem orderless_walk (A : Option Addr) (c : Nat) (acts : List S23) (hu0 : ∀ a ∈ acts, U8s a) (A' : Option Addr) (c' : Nat) (acts2 : List S23) (hu20 : ∀ a ∈ acts2, U8s a) (w : World) (hc : Kd.C k23 w A acts.length acts) (hc2 : Kd.C k23 w A' acts2.length acts2) :
    Calls Try.prog 10 #[.slice A acts.length c, .slice A' acts2.length c'] w fun r w' => r = .returned (.bool true) ∧ Below w.heap.size w w' := by
  have HS := Aside0.mk (St.none_ (N := w.heap.size) (w := w) (Nat.le_refl _))
  have HB := Aside0.mk (Below.refl w.heap.size w)
  have HC := Aside0.mk hc
  have HC2 := Aside0.mk hc2
  have hu := Aside0.mk hu0
  have hu2 := Aside0.mk hu20
  clear hc hu0 hc2 hu20
  have hl24 := Aside0.mk (evs_len acts)
  have hev := Aside0.mk (fun x hx => evs_kind_ acts x hx)
  have her : Aside0 (∀ x ∈ evs acts, Fine x) := ⟨fun x hx => evs_err acts 0 (by decide) x (by rw [show (evs acts).map (later 0) = evs acts from (List.map_congr_left (fun x _ => later_zero x)).trans (List.map_id _)]; exact hx)⟩
  have hm24 := Aside0.mk (evs_len acts2)
  have hev2 := Aside0.mk (fun x hx => evs_kind_ acts2 x hx)
  have her2 : Aside0 (∀ x ∈ evs acts2, Fine x) := ⟨fun x hx => evs_err acts2 0 (by decide) x (by rw [show (evs acts2).map (later 0) = evs acts2 from (List.map_congr_left (fun x _ => later_zero x)).trans (List.map_id _)]; exact hx)⟩
  go_enter Try.func10, Try.ntmps10
  go_upto_region 5 with (first | (go_at_call 26; (with_reducible refine (New_ok (L := []) HS.out).mono ?_); rintro r_ w1 ⟨p, rfl, hs, hb⟩; have n0_ := Aside0.mk (hs); have n1_ := Aside0.mk (HB.out.trans hb); clear HS HB; have HS := n0_; have HB := n1_; clear n0_ n1_; (try simp only [List.eraseIdx_cons_succ, List.eraseIdx_cons_zero] at HS); clear hs hb) | (go_at_call 26; (with_reducible refine (New_ok (L := [Lg p []]) HS.out).mono ?_); rintro r_ w2 ⟨q, rfl, hs, hb⟩; have n0_ := Aside0.mk (hs); have n1_ := Aside0.mk (HB.out.trans hb); clear HS HB; have HS := n0_; have HB := n1_; clear n0_ n1_; (try simp only [List.eraseIdx_cons_succ, List.eraseIdx_cons_zero] at HS); clear hs hb) | (go_at_call 18; (with_reducible refine (Events_ok A acts.length c acts rfl hu.out (fun w' _ h => Kd.C_below HC.out (HB.out.trans h)) (fun w' v xs _ h => Kd.C_below HC.out (HB.out.trans h)) HS.out).mono ?_); rintro r_ w3 ⟨ve, rfl, hs, hb⟩; have n0_ := Aside0.mk (hs); have n1_ := Aside0.mk (HB.out.trans hb); clear HS HB; have HS := n0_; have HB := n1_; clear n0_ n1_; (try simp only [List.eraseIdx_cons_succ, List.eraseIdx_cons_zero] at HS); clear hs hb; obtain ⟨Ae, ce, ee, _, _⟩ := HS.out.reads; subst ee; generalize hl_ : evs acts = l at HS hl24 hev her; replace hl_ := Aside0.mk hl_) | (go_at_call 18; (with_reducible refine (Events_ok A' acts2.length c' acts2 rfl hu2.out (fun w' _ h => Kd.C_below HC2.out (HB.out.trans h)) (fun w' v xs _ h => Kd.C_below HC2.out (HB.out.trans h)) HS.out).mono ?_); rintro r_ w4 ⟨ve, rfl, hs, hb⟩; have n0_ := Aside0.mk (hs); have n1_ := Aside0.mk (HB.out.trans hb); clear HS HB; have HS := n0_; have HB := n1_; clear n0_ n1_; (try simp only [List.eraseIdx_cons_succ, List.eraseIdx_cons_zero] at HS); clear hs hb; obtain ⟨A2, c2, ee, _, _⟩ := HS.out.reads; subst ee; generalize hm_ : evs acts2 = m at HS hm24 hev2 her2; replace hm_ := Aside0.mk hm_))
  go_loopw [9, 10] (fun v9 v10 wr => ∃ j : Int, -1 ≤ j ∧ j + 1 ≤ l.length ∧ v10 = .int .i64 j ∧ Aside0 (St w.heap.size wr (Row k27 27 v9 (dbl l (j + 1).toNat) :: Row k27 27 (.slice A2 m.length c2) m :: Row k27 27 (.slice Ae l.length ce) l :: Lg q [] :: Lg p [] :: [])) ∧ Aside0 (Below w.heap.size w wr)) (fun _ v10 _ => (intOf v10 + 1).toNat)
  case atStart => exact ⟨(l.length : Int) - 1, by omega, by omega, by rw [show wrap64 ((l.length : Int) - 1) = (l.length : Int) - 1 by have := hl24.out; unfold wrap64; omega], ⟨by rw [show ((l.length : Int) - 1 + 1).toNat = l.length by omega, dbl_end]; exact HS.out.rowNil⟩, HB⟩
  case round =>
    clear HS HB
    obtain ⟨j, hj1, hj2, rfl, HS, HB⟩ := hrel
    by_cases hlt : 0 ≤ j
    · obtain ⟨k, rfl⟩ : ∃ k : Nat, j = k := ⟨j.toNat, by omega⟩
      have hk : Aside0 (k < l.length) := ⟨by omega⟩
      obtain ⟨g, cg, eg, _⟩ := St.row_some flat27 (HS.out.pick 2 rfl) (by omega)
      obtain ⟨h1_, h2_⟩ : Ae = some ⟨g, 0, none⟩ ∧ ce = cg := by
        simp only [Value.slice.injEq] at eg
        exact ⟨eg.1, eg.2.2⟩
      subst h1_
      subst h2_
      clear eg
      have q0 : decide (0 ≤ (k : Int)) = true := decide_eq_true (by omega)
      have q1 := eq_true (show (0 : Int) ≤ (k : Int) by omega)
      have q2 := eq_true (show (k : Int) < (l.length : Int) by omega)
      have hw : IntKind.i64.wrap ((k : Int) - 1) = (k : Int) - 1 := by rw [IntKind.wrap_i64]; have := hl24.out; omega
      obtain ⟨x, hx0⟩ : ∃ x, rd_T27 l (k : Int) = x := ⟨_, rfl⟩
      have hx := Aside0.mk hx0
      have hnx : Aside0 (dbl l k = dbl l (k + 1) ++ [x, x]) := ⟨by rw [dbl_next l k hk.out, hx0]⟩
      have hdl : Aside0 ((dbl l (k + 1)).length ≤ 48) := ⟨by rw [dbl_len]; have := hl24.out; omega⟩
      rw [show ((k : Int) + 1).toNat = k + 1 by omega] at HS
      generalize dbl l (k + 1) = D at HS hnx hdl
      clear hx0 hlt
      go_upto_region 7 with (fail)
      have n0_ := Aside0.mk (HS.out.drew); have n1_ := Aside0.mk (HB.out.drew); clear HS HB; have HS := n0_; have HB := n1_; clear n0_ n1_
      refine start_ (n := 12) (S := fun w' => w'.cell? ⟨g, k * 9, none⟩ = some (.string x.f0.f0) ∧ w'.cell? ⟨g, k * 9 + 1, none⟩ = some (.int .i64 x.f0.f1) ∧ w'.cell? ⟨g, k * 9 + 2, none⟩ = some (.int .i64 x.f1) ∧ w'.cell? ⟨g, k * 9 + 3, none⟩ = some (.int .i64 x.f2) ∧ w'.cell? ⟨g, k * 9 + 4, none⟩ = some (.string x.f3.f0) ∧ w'.cell? ⟨g, k * 9 + 5, none⟩ = some (.int .i64 x.f3.f1) ∧ w'.cell? ⟨g, k * 9 + 6, none⟩ = some (.string x.f4) ∧ w'.cell? ⟨g, k * 9 + 7, none⟩ = some (.int .i64 x.f5) ∧ w'.cell? ⟨g, k * 9 + 8, none⟩ = some (.string x.f6)) (ds := []) (tfs true [0, 12]).toArray (by kernel_rfl) rfl rfl ⟨(evCel (HS.out.pick 2 rfl) k hk.out x hx.out).1, (evCel (HS.out.pick 2 rfl) k hk.out x hx.out).2.1, (evCel (HS.out.pick 2 rfl) k hk.out x hx.out).2.2.1, (evCel (HS.out.pick 2 rfl) k hk.out x hx.out).2.2.2.1, (evCel (HS.out.pick 2 rfl) k hk.out x hx.out).2.2.2.2.1, (evCel (HS.out.pick 2 rfl) k hk.out x hx.out).2.2.2.2.2.1, (evCel (HS.out.pick 2 rfl) k hk.out x hx.out).2.2.2.2.2.2.1, (evCel (HS.out.pick 2 rfl) k hk.out x hx.out).2.2.2.2.2.2.2.1, (evCel (HS.out.pick 2 rfl) k hk.out x hx.out).2.2.2.2.2.2.2.2⟩ (fun hHeld => ?_); refine with_tabW ols.tab7 ols.bits7 (fun HT_ HW_ => ?_)
      generalize wr.drew = wd at HS HB hHeld ⊢
      refine pU 0 36 (tfs true [1, 11]).toArray rfl rfl HT_ ?_
      refine pU 1 37 (tfs true [2, 10]).toArray rfl rfl HT_ ?_
      refine pU 2 38 (tfs true [3, 9]).toArray rfl rfl HT_ ?_
      refine pU 3 39 (tfs true [4, 8]).toArray rfl rfl HT_ ?_
      refine pU 5 41 (tfs true [4, 1, 1, 6]).toArray rfl rfl HT_ ?_
      refine pU 6 42 (tfs true [4, 1, 2, 5]).toArray rfl rfl HT_ ?_
      refine pU 7 43 (tfs true [4, 1, 3, 4]).toArray rfl rfl HT_ ?_
      refine tK 4 40 (tfs true [8, 4]).toArray rfl rfl HT_ HW_ hHeld ?_ (by rintro w' ⟨s0, s1, s2, s3, s4, s5, s6, s7, s8⟩; go_simp; with_reducible rfl)
      refine tK 8 44 (tfs true [9, 3]).toArray rfl rfl HT_ HW_ hHeld ?_ (by rintro w' ⟨s0, s1, s2, s3, s4, s5, s6, s7, s8⟩; go_simp; with_reducible rfl)
      refine one_ (i := 9) (N := some 45) (tfs true [10, 2]).toArray rfl rfl (one_of HT_.out (by kernel_rfl)) (by decide) (fun K hK => ?_)
      refine S_lit_step k27 27 (by rfl) (Nt := 45) rfl (xs := [x, x]) (inner := [.string x.f0.f0, .int .i64 x.f0.f1, .int .i64 x.f1, .int .i64 x.f2, .string x.f3.f0, .int .i64 x.f3.f1, .string x.f4, .int .i64 x.f5, .string x.f6, .string x.f0.f0, .int .i64 x.f0.f1, .int .i64 x.f1, .int .i64 x.f2, .string x.f3.f0, .int .i64 x.f3.f1, .string x.f4, .int .i64 x.f5, .string x.f6]) (by first | (go_simp; done) | (go_simp; rfl)) ?hp HS.out (by simp) ?_
      (case hp => exact reps_encs flat27 (fun y => flat27.M _ _ _ y) [x, x])
      intro v45 we hs hb
      have n0_ := Aside0.mk ((((((hs.pick 5 rfl).pick 5 rfl).pick 5 rfl).pick 5 rfl).pick 5 rfl)); have n1_ := Aside0.mk (below_step' HB.out HS.out.size hb); clear HS HB; have HS := n0_; have HB := n1_; clear n0_ n1_; (try simp only [List.eraseIdx_cons_succ, List.eraseIdx_cons_zero] at HS)
      clear hs hb
      obtain ⟨A45, c45, e45, _, _⟩ := (HS.out.pick 5 rfl).reads
      subst e45
      simp only [List.length_cons, List.length_nil] at HS ⊢
      refine hK.out _ _ ⟨(evCel (HS.out.pick 2 rfl) k hk.out x hx.out).1, (evCel (HS.out.pick 2 rfl) k hk.out x hx.out).2.1, (evCel (HS.out.pick 2 rfl) k hk.out x hx.out).2.2.1, (evCel (HS.out.pick 2 rfl) k hk.out x hx.out).2.2.2.1, (evCel (HS.out.pick 2 rfl) k hk.out x hx.out).2.2.2.2.1, (evCel (HS.out.pick 2 rfl) k hk.out x hx.out).2.2.2.2.2.1, (evCel (HS.out.pick 2 rfl) k hk.out x hx.out).2.2.2.2.2.2.1, (evCel (HS.out.pick 2 rfl) k hk.out x hx.out).2.2.2.2.2.2.2.1, (evCel (HS.out.pick 2 rfl) k hk.out x hx.out).2.2.2.2.2.2.2.2⟩ (fun hHeld => ?_)
      clear hK K
      refine norm_ (a' := ?_) ?_ ?_
      rotate_left
      · show Act.put _ (some 45) _ = _
        simp only [Act.put, List.setIfInBounds_toArray, List.set_cons_zero, List.set_cons_succ, i64_w, i32_w]
        rfl
      refine one_ (i := 10) (N := some 46) (tfs true [11, 1]).toArray rfl rfl (one_of HT_.out (by kernel_rfl)) (by decide) (fun K hK => ?_)
      refine S_append_rows_step k27 (by rfl) (.tmp 36) (.tmp 45) 30 27 (.agg #[(.string ⟨#[]⟩), (.int .i64 0), (.int .i64 0), (.int .i64 0), (.string ⟨#[]⟩), (.int .i64 0), (.string ⟨#[]⟩), (.int .i64 0), (.string ⟨#[]⟩)]) 104 rfl Try.underlying30 info27 rfl (by decide) (by omega) _ D [x, x] A45 2 c45 rfl rfl (fun x cs h => by rw [flat27.K h]; exact flat_k27 _ _ x) HS.out (HS.out.pick 5 rfl).rowC.2.2 HB.out (by have := hdl.out; omega) ?_
      intro v46 wq hs hb
      have n0_ := Aside0.mk (hs); have n1_ := Aside0.mk (hb); clear HS HB; have HS := n0_; have HB := n1_; clear n0_ n1_; (try simp only [List.eraseIdx_cons_succ, List.eraseIdx_cons_zero] at HS)
      clear hs hb
      refine hK.out _ _ ⟨(evCel (HS.out.pick 2 rfl) k hk.out x hx.out).1, (evCel (HS.out.pick 2 rfl) k hk.out x hx.out).2.1, (evCel (HS.out.pick 2 rfl) k hk.out x hx.out).2.2.1, (evCel (HS.out.pick 2 rfl) k hk.out x hx.out).2.2.2.1, (evCel (HS.out.pick 2 rfl) k hk.out x hx.out).2.2.2.2.1, (evCel (HS.out.pick 2 rfl) k hk.out x hx.out).2.2.2.2.2.1, (evCel (HS.out.pick 2 rfl) k hk.out x hx.out).2.2.2.2.2.2.1, (evCel (HS.out.pick 2 rfl) k hk.out x hx.out).2.2.2.2.2.2.2.1, (evCel (HS.out.pick 2 rfl) k hk.out x hx.out).2.2.2.2.2.2.2.2⟩ (fun hHeld => ?_)
      clear hK K
      refine norm_ (a' := ?_) ?_ ?_
      rotate_left
      · show Act.put _ (some 46) _ = _
        simp only [Act.put, List.setIfInBounds_toArray, List.set_cons_zero, List.set_cons_succ, i64_w, i32_w]
        rfl
      refine pU 11 9 (tfs true [12]).toArray rfl rfl HT_ ?_
      refine done_ (done_of HT_.out (by kernel_rfl)) ?_
      clear HT_ HW_
      try clear hHeld
      go_wp2
      go_roundw
      case rel =>
        refine ⟨(k : Int) - 1, by omega, by omega, rfl, ?_, HB⟩
        rw [show ((k : Int) - 1 + 1).toNat = k by omega, hnx.out]
        exact ⟨((HS.out.pick 5 rfl).drop)⟩
      case measure => simp [intOf] <;> omega
    · obtain rfl : j = -1 := by omega
      have q0 : decide ((0 : Int) ≤ -1) = false := decide_eq_false (by omega)
      rw [show ((-1 : Int) + 1).toNat = 0 from rfl] at HS
      have hD48 : Aside0 ((dbl l 0).length ≤ 48) := ⟨by rw [dbl_len]; have := hl24.out; omega⟩
      have hDf : Aside0 (∀ x ∈ dbl l 0, Fine x) := ⟨fun x hx => her.out x (dbl_mem hx)⟩
      obtain ⟨U, hU0⟩ : ∃ U, sdd (l ++ m) = U := ⟨_, rfl⟩
      have hU := Aside0.mk hU0
      have hUD : Aside0 (sdd (U ++ dbl l 0) = U) := ⟨by rw [← hU0]; exact sdd_more (fun x hx => List.mem_append_left _ (dbl_mem hx))⟩
      have hx1 : Aside0 (sdd (sdd l ++ sdd m) = U) := ⟨by rw [← hU0]; exact sdd_ext (fun x => by simp only [List.mem_append, mem_sdd])⟩
      have hx2 : Aside0 (sdd (sdd m ++ sdd l) = U) := ⟨by rw [← hU0]; exact sdd_ext (fun x => by simp only [List.mem_append, mem_sdd, or_comm])⟩
      have hsl24 : Aside0 ((sdd l).length ≤ 24) := ⟨Nat.le_trans (sdd_len l) hl24.out⟩
      have hsm24 : Aside0 ((sdd m).length ≤ 24) := ⟨Nat.le_trans (sdd_len m) hm24.out⟩
      have hU48 : Aside0 (U.length ≤ 48) := ⟨by rw [← hU0]; exact Nat.le_trans (sdd_len _) (by rw [List.length_append]; have := hl24.out; have := hm24.out; omega)⟩
      have hkU : Aside0 (∀ x ∈ orderE U, 1 ≤ x.f2 ∧ x.f2 ≤ 9) := ⟨fun x hx => by
        have h1 := order_mem hx
        rw [← hU0, mem_sdd] at h1
        rcases List.mem_append.mp h1 with h2 | h2
        · exact hev.out x h2
        · exact hev2.out x h2⟩
      have hboth := sdd_both l m
      rw [hx1.out] at hboth
      have hy1 : Aside0 (decide (sdd l = sdd m) = (decide (U = sdd l) && decide (U = sdd m))) := ⟨by
        rw [← Bool.decide_and]
        exact decide_eq_decide.mpr hboth⟩
      have hy2 : Aside0 True := ⟨trivial⟩
      obtain ⟨qq, hq0⟩ : ∃ q, runP U = q := ⟨_, rfl⟩
      have hg1 := good_run (orderE U)
      rw [show runO (orderE U) = qq from hq0] at hg1
      obtain ⟨s, rs⟩ := qq
      have hst := Aside0.mk hq0
      have hgd : Aside0 (s.pe.length ≤ 48 ∧ s.th.length ≤ 48) := ⟨by have h1 := hg1.lp; have h2 := hg1.lt; have h3 := order_len U; have h4 := hU48.out; exact ⟨by simp only at h1; omega, by simp only at h2; omega⟩⟩
      clear hg1 hq0 hU0 hboth hj1 hj2 hlt
      generalize dbl l 0 = D at HS hD48 hDf hUD
      obtain ⟨A9, c9, e9, _, _⟩ := HS.out.reads
      subst e9
      go_upto_region 14 with (first | (go_at_call 27; (with_reducible refine (Add_ok p [] l (by decide) (by have := hl24.out; omega) her.out Ae ce (fun w' h => ⟨(h.pick 2 rfl).rowC.2.2, (h.pick 2 rfl).rowC.2.1⟩) (HS.out.pick 4 rfl)).mono ?_); rintro r_ w5 ⟨rfl, hs, hb⟩; rw [List.nil_append] at hs; have n0_ := Aside0.mk (hs); have n1_ := Aside0.mk (HB.out.trans hb); clear HS HB; have HS := n0_; have HB := n1_; clear n0_ n1_; (try simp only [List.eraseIdx_cons_succ, List.eraseIdx_cons_zero] at HS); clear hs hb) | (go_at_call 27; (with_reducible refine (Add_ok q [] m (by decide) (by have := hm24.out; omega) her2.out A2 c2 (fun w' h => ⟨(h.pick 2 rfl).rowC.2.2, (h.pick 2 rfl).rowC.2.1⟩) (HS.out.pick 4 rfl)).mono ?_); rintro r_ w6 ⟨rfl, hs, hb⟩; rw [List.nil_append] at hs; generalize hsl_ : sdd l = sl at HS hs hx1 hx2 hy1 hy2 hsl24; generalize hsm_ : sdd m = sm at hs hx1 hx2 hy1 hy2 hsm24; replace hsl_ := Aside0.mk hsl_; replace hsm_ := Aside0.mk hsm_; have n0_ := Aside0.mk (hs); have n1_ := Aside0.mk (HB.out.trans hb); clear HS HB; have HS := n0_; have HB := n1_; clear n0_ n1_; (try simp only [List.eraseIdx_cons_succ, List.eraseIdx_cons_zero] at HS); clear hs hb) | (go_at_call 30; (with_reducible refine (LClone_ok p sl (by have := hsl24.out; omega) (HS.out.pick 1 rfl)).mono ?_); rintro r_ w7 ⟨pc, rfl, hs, hb⟩; have n0_ := Aside0.mk (hs); have n1_ := Aside0.mk (HB.out.trans hb); clear HS HB; have HS := n0_; have HB := n1_; clear n0_ n1_; (try simp only [List.eraseIdx_cons_succ, List.eraseIdx_cons_zero] at HS); clear hs hb) | (go_at_call 30; (with_reducible refine (LClone_ok q sm (by have := hsm24.out; omega) (HS.out.pick 2 rfl)).mono ?_); rintro r_ w8 ⟨pd, rfl, hs, hb⟩; have n0_ := Aside0.mk (hs); have n1_ := Aside0.mk (HB.out.trans hb); clear HS HB; have HS := n0_; have HB := n1_; clear n0_ n1_; (try simp only [List.eraseIdx_cons_succ, List.eraseIdx_cons_zero] at HS); clear hs hb) | (go_at_call 31; (with_reducible refine (Merge_ok pc q sl sm (by have := hsl24.out; omega) (by have := hsm24.out; omega) ((HS.out.pick 1 rfl).pick 2 rfl)).mono ?_); rintro r_ w9 ⟨z1, rfl, hs, hb⟩; rw [hx1.out] at hs; have n0_ := Aside0.mk (hs); have n1_ := Aside0.mk (HB.out.trans hb); clear HS HB; have HS := n0_; have HB := n1_; clear n0_ n1_; (try simp only [List.eraseIdx_cons_succ, List.eraseIdx_cons_zero] at HS); clear hs hb) | (go_at_call 31; (with_reducible refine (Merge_ok pd p sm sl (by have := hsm24.out; omega) (by have := hsl24.out; omega) ((HS.out.pick 3 rfl).pick 3 rfl)).mono ?_); rintro r_ w10 ⟨z2, rfl, hs, hb⟩; rw [hx2.out] at hs; have n0_ := Aside0.mk (hs); have n1_ := Aside0.mk (HB.out.trans hb); clear HS HB; have HS := n0_; have HB := n1_; clear n0_ n1_; (try simp only [List.eraseIdx_cons_succ, List.eraseIdx_cons_zero] at HS); clear hs hb) | (go_at_call 27; (with_reducible refine (Add_ok pd U D (by have := hU48.out; omega) (by have := hD48.out; omega) hDf.out A9 c9 (fun w' h => ⟨(h.pick 3 rfl).rowC.2.2, (h.pick 3 rfl).rowC.2.1⟩) HS.out).mono ?_); rintro r_ w11 ⟨rfl, hs, hb⟩; rw [hUD.out] at hs ⊢; rw [Int.sub_self]; have n0_ := Aside0.mk (hs); have n1_ := Aside0.mk (HB.out.trans hb); clear HS HB; have HS := n0_; have HB := n1_; clear n0_ n1_; (try simp only [List.eraseIdx_cons_succ, List.eraseIdx_cons_zero] at HS); clear hs hb))
      obtain ⟨b1, hb1_⟩ : ∃ b, decide (U = sl) = b := ⟨_, rfl⟩
      obtain ⟨b2, hb2_⟩ : ∃ b, decide (U = sm) = b := ⟨_, rfl⟩
      have hb1 := Aside0.mk hb1_
      have hb2 := Aside0.mk hb2_
      rw [hb1_, hb2_] at hy1
      clear hb1_ hb2_ q0
      cases b1 with
      | true =>
        have hbb : Aside0 (decide (sl = sm) = b2) := ⟨hy1.out⟩
        have qb := @and_true_ b2
        go_wp2_with (first | (go_at_call 13; (with_reducible refine (known_ok _).mono ?_); rintro r_ w12 ⟨rfl, hb⟩; have n0_ := Aside0.mk (HS.out.step hb); have n1_ := Aside0.mk (below_step' HB.out HS.out.size hb); clear HS HB; have HS := n0_; have HB := n1_; clear n0_ n1_; (try simp only [List.eraseIdx_cons_succ, List.eraseIdx_cons_zero] at HS); clear hb) | (go_at_call 32; (with_reducible refine (LEqual_ok pc pd U U (by have := hU48.out; omega) true (decide_eq_true rfl) ((HS.out.pick 0 rfl).pick 2 rfl)).mono ?_); rintro r_ w13 ⟨rfl, hb⟩; have n0_ := Aside0.mk (HS.out.step hb); have n1_ := Aside0.mk (below_step' HB.out HS.out.size hb); clear HS HB; have HS := n0_; have HB := n1_; clear n0_ n1_; (try simp only [List.eraseIdx_cons_succ, List.eraseIdx_cons_zero] at HS); clear hb) | (go_at_call 29; (with_reducible refine (State_ok pc U (by have := hU48.out; omega) hkU.out (HS.out.pick 2 rfl)).mono ?_); rintro r_ w14 ⟨v5, v6, rfl, hs, hb⟩; rw [hst.out] at hs ⊢; simp only at hs ⊢; have n0_ := Aside0.mk (hs); have n1_ := Aside0.mk (HB.out.trans hb); clear HS HB; have HS := n0_; have HB := n1_; clear n0_ n1_; (try simp only [List.eraseIdx_cons_succ, List.eraseIdx_cons_zero] at HS); clear hs hb; obtain ⟨A5, k5, e5, _, _⟩ := (HS.out.pick 0 rfl).reads; subst e5; obtain ⟨A6, k6, e6, _, _⟩ := (HS.out.pick 1 rfl).reads; subst e6) | (go_at_call 29; (with_reducible refine (State_ok pd U (by have := hU48.out; omega) hkU.out (HS.out.pick 3 rfl)).mono ?_); rintro r_ w15 ⟨v7, v8, rfl, hs, hb⟩; rw [hst.out] at hs ⊢; simp only at hs ⊢; have n0_ := Aside0.mk (hs); have n1_ := Aside0.mk (HB.out.trans hb); clear HS HB; have HS := n0_; have HB := n1_; clear n0_ n1_; (try simp only [List.eraseIdx_cons_succ, List.eraseIdx_cons_zero] at HS); clear hs hb; obtain ⟨A7, k7, e7, _, _⟩ := (HS.out.pick 0 rfl).reads; subst e7; obtain ⟨A8, k8, e8, _, _⟩ := (HS.out.pick 1 rfl).reads; subst e8) | (go_at_call 23; (with_reducible refine (equal_same s A5 A6 A7 A8 k5 k6 k7 k8 _ (HS.out.pick 3 rfl).rowC.2.2 (HS.out.pick 3 rfl).rowC.2.1 (HS.out.pick 4 rfl).rowC.2.2 (HS.out.pick 4 rfl).rowC.2.1 (HS.out.pick 0 rfl).rowC.2.2 (HS.out.pick 0 rfl).rowC.2.1 (HS.out.pick 1 rfl).rowC.2.2 (HS.out.pick 1 rfl).rowC.2.1 (by have := hgd.out.1; omega) (by have := hgd.out.2; omega)).mono ?_); rintro r_ w16 ⟨rfl, hb⟩; have n0_ := Aside0.mk (HS.out.step hb); have n1_ := Aside0.mk (below_step' HB.out HS.out.size hb); clear HS HB; have HS := n0_; have HB := n1_; clear n0_ n1_; (try simp only [List.eraseIdx_cons_succ, List.eraseIdx_cons_zero] at HS); clear hb) | (go_at_call 32; (with_reducible refine (LEqual_ok p q sl sm (by have := hsl24.out; omega) b2 hbb.out ((HS.out.pick 7 rfl).pick 7 rfl)).mono ?_); rintro r_ w17 ⟨rfl, hb⟩; have n0_ := Aside0.mk (HS.out.step hb); have n1_ := Aside0.mk (below_step' HB.out HS.out.size hb); clear HS HB; have HS := n0_; have HB := n1_; clear n0_ n1_; (try simp only [List.eraseIdx_cons_succ, List.eraseIdx_cons_zero] at HS); clear hb) | (go_at_call 32; (with_reducible refine (LEqual_ok pc p U sl (by have := hU48.out; omega) true hb1.out ((HS.out.pick 6 rfl).pick 6 rfl)).mono ?_); rintro r_ w18 ⟨rfl, hb⟩; have n0_ := Aside0.mk (HS.out.step hb); have n1_ := Aside0.mk (below_step' HB.out HS.out.size hb); clear HS HB; have HS := n0_; have HB := n1_; clear n0_ n1_; (try simp only [List.eraseIdx_cons_succ, List.eraseIdx_cons_zero] at HS); clear hb) | (go_at_call 32; (with_reducible refine (LEqual_ok pc q U sm (by have := hU48.out; omega) b2 hb2.out ((HS.out.pick 7 rfl).pick 6 rfl)).mono ?_); rintro r_ w19 ⟨rfl, hb⟩; have n0_ := Aside0.mk (HS.out.step hb); have n1_ := Aside0.mk (below_step' HB.out HS.out.size hb); clear HS HB; have HS := n0_; have HB := n1_; clear n0_ n1_; (try simp only [List.eraseIdx_cons_succ, List.eraseIdx_cons_zero] at HS); clear hb))
        go_ret
        exact ⟨rfl, HB.out⟩
      | false =>
        have hbb : Aside0 (decide (sl = sm) = false) := ⟨hy1.out⟩
        go_wp2_with (first | (go_at_call 13; (with_reducible refine (known_ok _).mono ?_); rintro r_ w12 ⟨rfl, hb⟩; have n0_ := Aside0.mk (HS.out.step hb); have n1_ := Aside0.mk (below_step' HB.out HS.out.size hb); clear HS HB; have HS := n0_; have HB := n1_; clear n0_ n1_; (try simp only [List.eraseIdx_cons_succ, List.eraseIdx_cons_zero] at HS); clear hb) | (go_at_call 32; (with_reducible refine (LEqual_ok pc pd U U (by have := hU48.out; omega) true (decide_eq_true rfl) ((HS.out.pick 0 rfl).pick 2 rfl)).mono ?_); rintro r_ w13 ⟨rfl, hb⟩; have n0_ := Aside0.mk (HS.out.step hb); have n1_ := Aside0.mk (below_step' HB.out HS.out.size hb); clear HS HB; have HS := n0_; have HB := n1_; clear n0_ n1_; (try simp only [List.eraseIdx_cons_succ, List.eraseIdx_cons_zero] at HS); clear hb) | (go_at_call 29; (with_reducible refine (State_ok pc U (by have := hU48.out; omega) hkU.out (HS.out.pick 2 rfl)).mono ?_); rintro r_ w14 ⟨v5, v6, rfl, hs, hb⟩; rw [hst.out] at hs ⊢; simp only at hs ⊢; have n0_ := Aside0.mk (hs); have n1_ := Aside0.mk (HB.out.trans hb); clear HS HB; have HS := n0_; have HB := n1_; clear n0_ n1_; (try simp only [List.eraseIdx_cons_succ, List.eraseIdx_cons_zero] at HS); clear hs hb; obtain ⟨A5, k5, e5, _, _⟩ := (HS.out.pick 0 rfl).reads; subst e5; obtain ⟨A6, k6, e6, _, _⟩ := (HS.out.pick 1 rfl).reads; subst e6) | (go_at_call 29; (with_reducible refine (State_ok pd U (by have := hU48.out; omega) hkU.out (HS.out.pick 3 rfl)).mono ?_); rintro r_ w15 ⟨v7, v8, rfl, hs, hb⟩; rw [hst.out] at hs ⊢; simp only at hs ⊢; have n0_ := Aside0.mk (hs); have n1_ := Aside0.mk (HB.out.trans hb); clear HS HB; have HS := n0_; have HB := n1_; clear n0_ n1_; (try simp only [List.eraseIdx_cons_succ, List.eraseIdx_cons_zero] at HS); clear hs hb; obtain ⟨A7, k7, e7, _, _⟩ := (HS.out.pick 0 rfl).reads; subst e7; obtain ⟨A8, k8, e8, _, _⟩ := (HS.out.pick 1 rfl).reads; subst e8) | (go_at_call 23; (with_reducible refine (equal_same s A5 A6 A7 A8 k5 k6 k7 k8 _ (HS.out.pick 3 rfl).rowC.2.2 (HS.out.pick 3 rfl).rowC.2.1 (HS.out.pick 4 rfl).rowC.2.2 (HS.out.pick 4 rfl).rowC.2.1 (HS.out.pick 0 rfl).rowC.2.2 (HS.out.pick 0 rfl).rowC.2.1 (HS.out.pick 1 rfl).rowC.2.2 (HS.out.pick 1 rfl).rowC.2.1 (by have := hgd.out.1; omega) (by have := hgd.out.2; omega)).mono ?_); rintro r_ w16 ⟨rfl, hb⟩; have n0_ := Aside0.mk (HS.out.step hb); have n1_ := Aside0.mk (below_step' HB.out HS.out.size hb); clear HS HB; have HS := n0_; have HB := n1_; clear n0_ n1_; (try simp only [List.eraseIdx_cons_succ, List.eraseIdx_cons_zero] at HS); clear hb) | (go_at_call 32; (with_reducible refine (LEqual_ok p q sl sm (by have := hsl24.out; omega) false hbb.out ((HS.out.pick 7 rfl).pick 7 rfl)).mono ?_); rintro r_ w17 ⟨rfl, hb⟩; have n0_ := Aside0.mk (HS.out.step hb); have n1_ := Aside0.mk (below_step' HB.out HS.out.size hb); clear HS HB; have HS := n0_; have HB := n1_; clear n0_ n1_; (try simp only [List.eraseIdx_cons_succ, List.eraseIdx_cons_zero] at HS); clear hb) | (go_at_call 32; (with_reducible refine (LEqual_ok pc p U sl (by have := hU48.out; omega) false hb1.out ((HS.out.pick 6 rfl).pick 6 rfl)).mono ?_); rintro r_ w18 ⟨rfl, hb⟩; have n0_ := Aside0.mk (HS.out.step hb); have n1_ := Aside0.mk (below_step' HB.out HS.out.size hb); clear HS HB; have HS := n0_; have HB := n1_; clear n0_ n1_; (try simp only [List.eraseIdx_cons_succ, List.eraseIdx_cons_zero] at HS); clear hb) | (go_at_call 32; (with_reducible refine (LEqual_ok pc q U sm (by have := hU48.out; omega) b2 hb2.out ((HS.out.pick 7 rfl).pick 6 rfl)).mono ?_); rintro r_ w19 ⟨rfl, hb⟩; have n0_ := Aside0.mk (HS.out.step hb); have n1_ := Aside0.mk (below_step' HB.out HS.out.size hb); clear HS HB; have HS := n0_; have HB := n1_; clear n0_ n1_; (try simp only [List.eraseIdx_cons_succ, List.eraseIdx_cons_zero] at HS); clear hb))
        go_ret
        exact ⟨rfl, HB.out⟩

end Go.Proofs.Ytcjfgejiknlpfaa.PI
