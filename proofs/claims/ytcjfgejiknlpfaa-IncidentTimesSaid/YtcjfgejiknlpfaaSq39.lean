/- The law IncidentTimes walked. -/
import Derived.Test.YtcjfgejiknlpfaaLogP
import Derived.Test.YtcjfgejiknlpfaaSq33
namespace Go.Proofs.Ytcjfgejiknlpfaa.PI
open Go.RowKit Go.Proofs.YtcjfgejiknlpfaaW.PrintWords Go.Proofs.YtcjfgejiknlpfaaW.PrintLast Go.Proofs.YtcjfgejiknlpfaaW.PrintMore Go.Proofs.Ytcjfgejiknlpfaa.Sep
set_option linter.unusedVariables false
set_option linter.unusedSimpArgs false
set_option maxHeartbeats 8000000
set_option maxRecDepth 100000

def tim.T12 : Bool × List (List Nat × List Nat) := (true, [([], []), ([0], [0]), ([1, 0], [1]), ([2], [2]), ([3, 2], [2, 3]), ([2, 4], [2, 4]), ([5, 2], [5]), ([6], [6]), ([6], [6]), ([7, 8, 6, 6], [6, 7, 8]), ([6], [6]), ([9, 10, 9, 6], [6, 9, 10]), ([11, 6], [6, 11]), ([6, 12], [6, 12]), ([13, 11], [13]), ([14], [14]), ([15, 14, 14], [14, 15]), ([14], [14]), ([17, 16, 14], [14, 17]), ([16, 18, 18, 14], [14, 16, 18]), ([19, 14], [14, 19]), ([14, 20], [14, 20])])
def tim.B12 : List Nat := [0, 1, 3, 7, 15, 31, 63, 127, 127, 511, 127, 2047, 4095, 8191, 16383, 32767, 65535, 32767, 262143, 524287, 1048575, 2097151]
theorem tim.tab12 : rtab .any (opsOf Try.f9 12) = tim.T12 := by kernel_rfl
theorem tim.bits12 : waitsOk tim.T12.2 tim.B12 = true := by kernel_rfl
def tim.T21 : Bool × List (List Nat × List Nat) := (true, [([], []), ([0], [0]), ([1], [1]), ([2], [2]), ([3, 2, 2], [2, 3]), ([2], [2]), ([4, 5, 4, 2], [2, 4, 5]), ([2, 6], [2, 6]), ([7, 6, 0, 1, 2, 3, 4, 5, 6, 7], [7])])
def tim.B21 : List Nat := [0, 1, 3, 7, 15, 7, 63, 127, 255]
theorem tim.tab21 : rtab .any (opsOf Try.f9 21) = tim.T21 := by kernel_rfl
theorem tim.bits21 : waitsOk tim.T21.2 tim.B21 = true := by kernel_rfl
theorem mapIn_len (h : S27 → S27) (m : List S27) (i : Nat) (hi : i ≤ m.length) : ((m.take i).map h ++ m.drop i).length = m.length := by simp; omega
theorem mapIn_set (h : S27 → S27) (m : List S27) (i : Nat) (hi : i < m.length) : (m.take i).map h ++ m.drop i = ((m.take i).map h ++ m.drop i).set i (rd_T27 m (i : Int)) := by
  have e : rd_T27 m (i : Int) = m[i] := by simp [rd_T27, hi]
  have hl : ((m.take i).map h).length = i := by simp; omega
  rw [e, List.set_append_right _ _ (by omega), hl, Nat.sub_self, List.drop_eq_getElem_cons hi, List.set_cons_zero]
theorem mapIn_next (h : S27 → S27) (m : List S27) (i : Nat) (hi : i < m.length) : (m.take (i + 1)).map h ++ m.drop (i + 1) = ((m.take i).map h ++ m.drop i).set i (h (rd_T27 m (i : Int))) := by
  have e : rd_T27 m (i : Int) = m[i] := by simp [rd_T27, hi]
  have hl : ((m.take i).map h).length = i := by simp; omega
  rw [e, List.set_append_right _ _ (by omega), hl, Nat.sub_self, List.drop_eq_getElem_cons hi, List.set_cons_zero, List.take_succ_eq_append_getElem hi, List.map_append, List.append_assoc]
  rfl
theorem evCelS {N : Nat} {w : World} {L : List Res} {g n cap : Nat} {D : List S27} {i : Nat} {x : S27} (h : St N w (Row k27 27 (.slice (some ⟨g, 0, none⟩) n cap) (D.set i x) :: L)) (hi : i < D.length) : w.cell? ⟨g, i * 9 + 2, none⟩ = some (.int .i64 x.f1) :=
  (evCel h i (by rw [List.length_set]; exact hi) x (by simp [rd_T27, hi])).2.2.1
theorem run_pair {l m : List S27} {q : PS × List Int} (h : runP l = q) (e : m = l) : runP m = q := by rw [e]; exact h
theorem times_walk (A : Option Addr) (c : Nat) (acts : List S23) (hu0 : ∀ a ∈ acts, U8s a) (A' : Option Addr) (c' : Nat) (acts2 : List S23) (hu20 : ∀ a ∈ acts2, U8s a) (t : Int) (w : World) (hc : Kd.C k23 w A acts.length acts) (hc2 : Kd.C k23 w A' acts2.length acts2) :
    Calls Try.prog 9 #[.slice A acts.length c, .slice A' acts2.length c', .int .i64 t] w fun r w' => r = .returned (.bool true) ∧ Below w.heap.size w w' := by
  have HS := Aside0.mk (St.none_ (N := w.heap.size) (w := w) (Nat.le_refl _))
  have HB := Aside0.mk (Below.refl w.heap.size w)
  have HC := Aside0.mk hc
  have HC2 := Aside0.mk hc2
  have hu := Aside0.mk hu0
  have hu2 := Aside0.mk hu20
  clear hc hu0 hc2 hu20
  have hl24 := Aside0.mk (evs_len acts)
  have hev := Aside0.mk (evs_ok acts)
  have hat := Aside0.mk (evs_at acts)
  have her : Aside0 (∀ x ∈ evs acts, Fine x) := ⟨fun x hx => evs_err acts 0 (by decide) x (by rw [show (evs acts).map (later 0) = evs acts from (List.map_congr_left (fun x _ => later_zero x)).trans (List.map_id _)]; exact hx)⟩
  have hm24 := Aside0.mk (evs_len acts2)
  have hma := Aside0.mk (evs_at acts2)
  have hme := Aside0.mk (evs_err acts2 40 (by decide))
  have hmk : Aside0 (∀ x ∈ (evs acts2).map (later 40), 1 ≤ x.f2 ∧ x.f2 ≤ 9) := ⟨fun x hx => by obtain ⟨y, hy, rfl⟩ := List.mem_map.mp hx; exact (evs_ok acts2 y hy).1⟩
  go_enter Try.func9, Try.ntmps9
  go_upto_region 4 with (first | (go_at_call 26; refine (New_ok HS.out).mono ?_; rintro r_ w1 ⟨p, rfl, hs, hb⟩; have n0_ := Aside0.mk (hs); have n1_ := Aside0.mk (HB.out.trans hb); clear HS HB; have HS := n0_; have HB := n1_; clear n0_ n1_; (try simp only [List.eraseIdx_cons_succ, List.eraseIdx_cons_zero] at HS); clear hs hb) | (go_at_call 18; (with_reducible refine (Events_ok A acts.length c acts rfl hu.out (fun w' _ h => Kd.C_below HC.out (HB.out.trans h)) (fun w' v xs _ h => Kd.C_below HC.out (HB.out.trans h)) HS.out).mono ?_); rintro r_ w2 ⟨ve, rfl, hs, hb⟩; have n0_ := Aside0.mk (hs); have n1_ := Aside0.mk (HB.out.trans hb); clear HS HB; have HS := n0_; have HB := n1_; clear n0_ n1_; (try simp only [List.eraseIdx_cons_succ, List.eraseIdx_cons_zero] at HS); clear hs hb; obtain ⟨Ae, ce, ee, _, _⟩ := HS.out.reads; subst ee; generalize hl_ : evs acts = l at HS hl24 hev hat her; replace hl_ := Aside0.mk hl_) | (go_at_call 27; (with_reducible refine (Add_ok p [] l (by decide) (by have := hl24.out; omega) her.out Ae ce (fun w' h => ⟨(h.pick 0 rfl).rowC.2.2, (h.pick 0 rfl).rowC.2.1⟩) HS.out.swap).mono ?_); rintro r_ w3 ⟨rfl, hs, hb⟩; rw [List.nil_append] at hs; have n0_ := Aside0.mk (hs.swap); have n1_ := Aside0.mk (HB.out.trans hb); clear HS HB; have HS := n0_; have HB := n1_; clear n0_ n1_; (try simp only [List.eraseIdx_cons_succ, List.eraseIdx_cons_zero] at HS); clear hs hb))
  have hO24 : Aside0 ((orderE l).length ≤ 24) := ⟨Nat.le_trans (order_len l) hl24.out⟩
  have hOev : Aside0 (∀ x ∈ orderE l, EvOk x ∧ x.f1 ≤ 39) := ⟨fun x hx => ⟨hev.out x (order_mem hx), (hat.out x (order_mem hx)).2⟩⟩
  have hos := Aside0.mk (order_sdd l)
  have hoi := Aside0.mk (order_idem l)
  have hsd : Aside0 ((sdd l).length ≤ 24) := ⟨Nat.le_trans (sdd_len l) hl24.out⟩
  go_upto_region 7 with (first | (go_at_call 17; (with_reducible refine (counting_ok Ae ce l (by have := hl24.out; omega) HS.out).mono ?_); rintro r_ w4 ⟨vo, rfl, hs, hb⟩; have n0_ := Aside0.mk (hs.swap.drop); have n1_ := Aside0.mk (HB.out.trans hb); clear HS HB; have HS := n0_; have HB := n1_; clear n0_ n1_; (try simp only [List.eraseIdx_cons_succ, List.eraseIdx_cons_zero] at HS); clear hs hb; generalize ho_ : orderE l = O at HS hO24 hOev; replace ho_ := Aside0.mk ho_; obtain ⟨Ao, co, eo, _, _⟩ := HS.out.reads; subst eo))
  go_loopw [11, 13] (fun v11 v13 wr => ∃ i : Nat, i ≤ O.length ∧ v13 = .int .i64 i ∧ Aside0 (St w.heap.size wr (Row k27 27 v11 (upTo t (O.take i)) :: Row k27 27 (.slice Ao O.length co) O :: Lg p (sdd l) :: [])) ∧ Aside0 (Below w.heap.size w wr)) (fun _ v13 _ => O.length - (intOf v13).toNat)
  case atStart => exact ⟨0, Nat.zero_le _, rfl, ⟨HS.out.rowNil⟩, HB⟩
  case round =>
    clear HS HB
    obtain ⟨i, hi, rfl, HS, HB⟩ := hrel
    by_cases hlt : i < O.length
    · obtain ⟨ad, ea, x0, x1, x2, x3, x4, x5, x6, x7, x8⟩ := at_T27 (HS.out.pick 1 rfl).rowC.2.2 (i : Int) (by omega) (by omega)
      cases ea
      rw [Int.toNat_natCast] at x0 x1 x2 x3 x4 x5 x6 x7 x8
      have q0 : decide ((i : Int) < (O.length : Int)) = true := decide_eq_true (by omega)
      have q1 := eq_true (show (i : Int) < (O.length : Int) by omega)
      have q2 := eq_true (show (0 : Int) ≤ (i : Int) by omega)
      have hw : IntKind.i64.wrap ((i : Int) + 1) = (i : Int) + 1 := by rw [IntKind.wrap_i64]; have := hO24.out; omega
      have hdl : Aside0 ((upTo t (O.take i)).length ≤ 24) := ⟨Nat.le_trans (upTo_len _ _) (by rw [List.length_take]; have := hO24.out; omega)⟩
      have hyes := Aside0.mk (@upTo_late t O i hlt)
      have hno := Aside0.mk (@upTo_in t O i hlt)
      generalize rd_T27 O (i : Int) = x at hyes hno x0 x1 x2 x3 x4 x5 x6 x7 x8
      by_cases he : x.f1 ≤ t
      · have hd : decide (x.f1 ≤ t) = true := decide_eq_true he
        replace he := Aside0.mk he
        go_wp2_with (first | ((with_reducible refine gate_builtin (b := .append) (xs := #[.tmp 45, .tmp 50]) rfl ?_); at_builtin; refine S_append k27 rfl (.tmp 45) (.tmp 50) 30 27 (.agg #[(.string ⟨#[]⟩), (.int .i64 0), (.int .i64 0), (.int .i64 0), (.string ⟨#[]⟩), (.int .i64 0), (.string ⟨#[]⟩), (.int .i64 0), (.string ⟨#[]⟩)]) 104 rfl Try.underlying30 info27 rfl (by decide) (by omega) _ _ x [.string x.f0.f0, .int .i64 x.f0.f1, .int .i64 x.f1, .int .i64 x.f2, .string x.f3.f0, .int .i64 x.f3.f1, .string x.f4, .int .i64 x.f5, .string x.f6] rfl rfl (flat_k27 _ _ x) (HS.out.pick 0 rfl) HB.out (by have := hdl.out; omega) ?_; intro v6 w6 hs hb; have n0_ := Aside0.mk (hs); have n1_ := Aside0.mk (hb); clear HS HB; have HS := n0_; have HB := n1_; clear n0_ n1_; (try simp only [List.eraseIdx_cons_succ, List.eraseIdx_cons_zero] at HS); clear hs hb x0 x1 x2 x3 x4 x5 x6 x7 x8))
        go_roundw
        case rel =>
          refine ⟨i + 1, by omega, by go_num, ?_, HB⟩
          rw [hno.out (by have := he.out; omega)]
          exact HS
        case measure => simp [intOf]; omega
      · have hd : decide (x.f1 ≤ t) = false := decide_eq_false he
        replace he := Aside0.mk he
        go_wp2
        go_roundw
        case rel =>
          refine ⟨i + 1, by omega, by go_num, ?_, HB⟩
          rw [hyes.out (by have := he.out; omega)]
          exact HS
        case measure => simp [intOf]; omega
    · obtain rfl : i = O.length := by omega
      have q0 : decide ((O.length : Int) < (O.length : Int)) = false := decide_eq_false (by omega)
      rw [List.take_length] at HS
      have hU24 : Aside0 ((upTo t O).length ≤ 24) := ⟨Nat.le_trans (upTo_len _ _) hO24.out⟩
      have hUin : ∀ x ∈ upTo t O, EvOk x ∧ x.f1 ≤ 39 := fun x hx => hOev.out x (List.mem_filter.mp hx).1
      have hUev : Aside0 (∀ x ∈ orderE (upTo t O), EvOk x) := ⟨fun x hx => (hUin x (order_mem hx)).1⟩
      have hkT : Aside0 (∀ x ∈ orderE (upTo t (orderE (sdd l))), 1 ≤ x.f2 ∧ x.f2 ≤ 9) := ⟨fun x hx => by rw [hos.out, ho_.out] at hx; exact (hUin x (order_mem hx)).1.1⟩
      have hup : upTo 39 O = O := upTo_all (fun x hx => (hOev.out x hx).2)
      have hk39 : Aside0 (∀ x ∈ orderE (upTo 39 (orderE (sdd l))), 1 ≤ x.f2 ∧ x.f2 ≤ 9) := ⟨fun x hx => by rw [hos.out, ho_.out, hup] at hx; exact (hOev.out x (order_mem hx)).1.1⟩
      have hkS : Aside0 (∀ x ∈ orderE (sdd l), 1 ≤ x.f2 ∧ x.f2 ≤ 9) := ⟨fun x hx => by rw [hos.out, ho_.out] at hx; exact (hOev.out x hx).1.1⟩
      obtain ⟨q1, hq1⟩ : ∃ q, runP (upTo t O) = q := ⟨_, rfl⟩
      have hg1 := good_run (orderE (upTo t O))
      rw [show runO (orderE (upTo t O)) = q1 from hq1] at hg1
      obtain ⟨q2, hq2⟩ : ∃ q, runP l = q := ⟨_, rfl⟩
      have hg2 := good_run (orderE l)
      rw [show runO (orderE l) = q2 from hq2] at hg2
      obtain ⟨s, rs⟩ := q1
      obtain ⟨u, ru⟩ := q2
      have hatT : Aside0 (runP (upTo t (orderE (sdd l))) = (s, rs)) := ⟨by rw [hos.out, ho_.out]; exact hq1⟩
      have hat39 : Aside0 (runP (upTo 39 (orderE (sdd l))) = (u, ru)) := ⟨by rw [hos.out, ho_.out, hup, ← ho_.out]; show runO (orderE (orderE l)) = _; rw [hoi.out]; exact hq2⟩
      have hst : Aside0 (runP (sdd l) = (u, ru)) := ⟨by show runO (orderE (sdd l)) = _; rw [hos.out]; exact hq2⟩
      have hgs : Aside0 (s.pe.length ≤ 24 ∧ s.th.length ≤ 24) := ⟨by have h1 := hg1.lp; have h2 := hg1.lt; have h3 := order_len (upTo t O); have h4 := hU24.out; exact ⟨by simp only at h1; omega, by simp only at h2; omega⟩⟩
      have hgu : Aside0 (u.pe.length ≤ 24 ∧ u.th.length ≤ 24) := ⟨by have h1 := hg2.lp; have h2 := hg2.lt; have h3 := order_len l; have h4 := hl24.out; exact ⟨by simp only at h1; omega, by simp only at h2; omega⟩⟩
      have hrun1 := Aside0.mk hq1
      have hrun2 := Aside0.mk hq2
      replace hup := Aside0.mk hup
      clear hg1 hg2 hq1 hq2 hUin
      obtain ⟨Ab, cb, eb, _, _⟩ := HS.out.reads
      subst eb
      generalize hU_ : upTo t O = U at HS hU24 hUev hrun1
      replace hU_ := Aside0.mk hU_
      go_upto_region 12 with (first | (go_at_call 19; (with_reducible refine (fold_ok Ab cb U (by have := hU24.out; omega) hUev.out HS.out).mono ?_); rintro r_ w7 ⟨v5, v6, vr, rfl, hs, hb⟩; rw [hrun1.out] at hs ⊢; simp only at hs ⊢; have n0_ := Aside0.mk (((((((hs.pick 5 rfl).pick 2 rfl).pick 2 rfl).pick 5 rfl).pick 5 rfl).pick 5 rfl).drop.drop.drop); have n1_ := Aside0.mk (HB.out.trans hb); clear HS HB; have HS := n0_; have HB := n1_; clear n0_ n1_; (try simp only [List.eraseIdx_cons_succ, List.eraseIdx_cons_zero] at HS); clear hs hb; obtain ⟨A5, k5, e5, _, _⟩ := (HS.out.pick 0 rfl).reads; subst e5; obtain ⟨A6, k6, e6, _, _⟩ := (HS.out.pick 1 rfl).reads; subst e6) | ((with_reducible refine gate_dst (N := 14) rfl ?_); refine box_event ?hg (N := 14) ?hd (cs := #[.int .i64 0, .string ⟨#[]⟩, .int .i64 0, .int .i64 0, .string ⟨#[]⟩, .int .i64 0, .slice none 0 0, .slice none 0 0, .int .i64 0]) (t := 40) ?hr ?_; (case hd => rfl); (case hg => rfl); (case hr => first | (go_simp; done) | (go_simp; rfl)); intro g14 hg w8 hbox hb; have n0_ := Aside0.mk (HS.out.box hg hbox hb); have n1_ := Aside0.mk (below_step' HB.out HS.out.size hb); clear HS HB; have HS := n0_; have HB := n1_; clear n0_ n1_; (try simp only [List.eraseIdx_cons_succ, List.eraseIdx_cons_zero] at HS); clear hb hbox hg; have hc0_0 := ((HS.out.pick 0 rfl).cell 0).trans (show _ = some (.int .i64 0) from rfl); have hc0_1 := ((HS.out.pick 0 rfl).cell 1).trans (show _ = some (.string ⟨#[]⟩) from rfl); have hc0_2 := ((HS.out.pick 0 rfl).cell 2).trans (show _ = some (.int .i64 0) from rfl); have hc0_3 := ((HS.out.pick 0 rfl).cell 3).trans (show _ = some (.int .i64 0) from rfl); have hc0_4 := ((HS.out.pick 0 rfl).cell 4).trans (show _ = some (.string ⟨#[]⟩) from rfl); have hc0_5 := ((HS.out.pick 0 rfl).cell 5).trans (show _ = some (.int .i64 0) from rfl); have hc0_6 := ((HS.out.pick 0 rfl).cell 6).trans (show _ = some (.slice none 0 0) from rfl); have hc0_7 := ((HS.out.pick 0 rfl).cell 7).trans (show _ = some (.slice none 0 0) from rfl); have hc0_8 := ((HS.out.pick 0 rfl).cell 8).trans (show _ = some (.int .i64 0) from rfl); have hf0_0 := (HS.out.pick 0 rfl).frozen 0; have hf0_1 := (HS.out.pick 0 rfl).frozen 1; have hf0_2 := (HS.out.pick 0 rfl).frozen 2; have hf0_3 := (HS.out.pick 0 rfl).frozen 3; have hf0_4 := (HS.out.pick 0 rfl).frozen 4; have hf0_5 := (HS.out.pick 0 rfl).frozen 5; have hf0_6 := (HS.out.pick 0 rfl).frozen 6; have hf0_7 := (HS.out.pick 0 rfl).frozen 7; have hf0_8 := (HS.out.pick 0 rfl).frozen 8))
      have s9 := set9 (.int .i64 s.st) (.string s.ti) (.int .i64 s.op) (.int .i64 s.en) (.string s.ca.f0) (.int .i64 s.ca.f1) (.slice A5 s.pe.length k5) (.slice A6 s.th.length k6) (.int .i64 s.no) HS.out HB.out
      have n0_ := Aside0.mk (s9.1); have n1_ := Aside0.mk (s9.2); clear HS HB; have HS := n0_; have HB := n1_; clear n0_ n1_; (try simp only [List.eraseIdx_cons_succ, List.eraseIdx_cons_zero] at HS)
      generalize World.setCell _ _ _ = w8 at HS HB ⊢
      clear hc0_0 hf0_0 hc0_1 hf0_1 hc0_2 hf0_2 hc0_3 hf0_3 hc0_4 hf0_4 hc0_5 hf0_5 hc0_6 hf0_6 hc0_7 hf0_7 hc0_8 hf0_8 s9
      clear q0
      go_cut [78] (fun v wc => v = .bool false ∧ Aside0 (St w.heap.size wc (Lg p (sdd l) :: [])) ∧ Aside0 (Below w.heap.size w wc))
      case first =>
        have n0_ := Aside0.mk (HS.out.drew); have n1_ := Aside0.mk (HB.out.drew); clear HS HB; have HS := n0_; have HB := n1_; clear n0_ n1_
        refine start_ (n := 22) (S := fun w' => w'.cell? ⟨g14, 0, none⟩ = some (.int .i64 s.st) ∧ w'.cell? ⟨g14, 1, none⟩ = some (.string s.ti) ∧ w'.cell? ⟨g14, 2, none⟩ = some (.int .i64 s.op) ∧ w'.cell? ⟨g14, 3, none⟩ = some (.int .i64 s.en) ∧ w'.cell? ⟨g14, 4, none⟩ = some (.string s.ca.f0) ∧ w'.cell? ⟨g14, 5, none⟩ = some (.int .i64 s.ca.f1) ∧ w'.cell? ⟨g14, 6, none⟩ = some (.slice A5 s.pe.length k5) ∧ w'.cell? ⟨g14, 7, none⟩ = some (.slice A6 s.th.length k6) ∧ w'.cell? ⟨g14, 8, none⟩ = some (.int .i64 s.no)) (ds := []) (tfs true [0, 22]).toArray (by kernel_rfl) rfl rfl ⟨((HS.out.pick 0 rfl).cell 0).trans rfl, ((HS.out.pick 0 rfl).cell 1).trans rfl, ((HS.out.pick 0 rfl).cell 2).trans rfl, ((HS.out.pick 0 rfl).cell 3).trans rfl, ((HS.out.pick 0 rfl).cell 4).trans rfl, ((HS.out.pick 0 rfl).cell 5).trans rfl, ((HS.out.pick 0 rfl).cell 6).trans rfl, ((HS.out.pick 0 rfl).cell 7).trans rfl, ((HS.out.pick 0 rfl).cell 8).trans rfl⟩ (fun hHeld => ?_); refine with_tabW tim.tab12 tim.bits12 (fun HT_ HW_ => ?_)
        generalize w8.drew = w9 at HS HB hHeld ⊢
        refine one_ (i := 0) (N := some 57) (tfs true [1, 21]).toArray rfl rfl (one_of HT_.out (by kernel_rfl)) (by decide) (fun K hK => ?_)
        refine goes_ Try.func13 (by kernel_rfl) rfl #[] (by rfl) rfl rfl (by (try simp only [List.map_toArray, List.map_cons, List.map_nil]); first | done | rfl | (simp only [List.length_drop, List.length_take]; rfl)) ?_
        with_reducible refine (known_ok _).mono ?_
        rintro r_ wk ⟨rfl, hb⟩
        refine ⟨_, rfl, ?_⟩
        have n0_ := Aside0.mk (HS.out.step hb); have n1_ := Aside0.mk (below_step' HB.out HS.out.size hb); clear HS HB; have HS := n0_; have HB := n1_; clear n0_ n1_; (try simp only [List.eraseIdx_cons_succ, List.eraseIdx_cons_zero] at HS)
        clear hb
        refine hK.out _ _ ⟨((HS.out.pick 0 rfl).cell 0).trans rfl, ((HS.out.pick 0 rfl).cell 1).trans rfl, ((HS.out.pick 0 rfl).cell 2).trans rfl, ((HS.out.pick 0 rfl).cell 3).trans rfl, ((HS.out.pick 0 rfl).cell 4).trans rfl, ((HS.out.pick 0 rfl).cell 5).trans rfl, ((HS.out.pick 0 rfl).cell 6).trans rfl, ((HS.out.pick 0 rfl).cell 7).trans rfl, ((HS.out.pick 0 rfl).cell 8).trans rfl⟩ (fun hHeld => ?_)
        clear hK K
        refine norm_ (a' := ?_) ?_ ?_
        rotate_left
        · show Act.put _ (some 57) _ = _
          simp only [Act.put, List.setIfInBounds_toArray, List.set_cons_zero, List.set_cons_succ, i64_w, i32_w]
          rfl
        refine pU 1 58 (tfs true [2, 20]).toArray rfl rfl HT_ ?_
        refine pU 2 59 (tfs true [3, 19]).toArray rfl rfl HT_ ?_
        refine pU 3 60 (tfs true [4, 18]).toArray rfl rfl HT_ ?_
        refine pU 4 61 (tfs true [5, 17]).toArray rfl rfl HT_ ?_
        refine pU 5 62 (tfs true [6, 16]).toArray rfl rfl HT_ ?_
        refine pU 6 63 (tfs true [7, 15]).toArray rfl rfl HT_ ?_
        refine pU 7 64 (tfs true [8, 14]).toArray rfl rfl HT_ ?_
        refine pU 8 65 (tfs true [9, 13]).toArray rfl rfl HT_ ?_
        refine tK 10 67 (tfs true [9, 1, 1, 11]).toArray rfl rfl HT_ HW_ hHeld ?_ (by rintro w' ⟨s0, s1, s2, s3, s4, s5, s6, s7, s8⟩; go_simp; with_reducible rfl)
        refine one_ (i := 9) (N := some 66) (tfs true [11, 11]).toArray rfl rfl (one_of HT_.out (by kernel_rfl)) (by decide) (fun K hK => ?_)
        refine goes_ Try.func28 (by kernel_rfl) rfl #[.pointer (some ⟨p, 0, none⟩), .int .i64 t] (by rfl) rfl rfl (by (try simp only [List.map_toArray, List.map_cons, List.map_nil]); first | done | rfl | (simp only [List.length_drop, List.length_take]; rfl)) ?_
        with_reducible refine (At_ok p t (sdd l) (by have := hsd.out; omega) hkT.out ((HS.out.pick 3 rfl))).mono ?_
        rintro r_ wx ⟨v5, v6, rfl, hs, hb⟩; rw [hatT.out] at hs ⊢; simp only at hs ⊢
        refine ⟨_, rfl, ?_⟩
        have n0_ := Aside0.mk (((((((hs.pick 1 rfl).pick 1 rfl).pick 2 rfl).pick 5 rfl).pick 5 rfl).pick 5 rfl)); have n1_ := Aside0.mk (HB.out.trans hb); clear HS HB; have HS := n0_; have HB := n1_; clear n0_ n1_; (try simp only [List.eraseIdx_cons_succ, List.eraseIdx_cons_zero] at HS)
        clear hs hb; obtain ⟨B5, j5, e5, _, _⟩ := (HS.out.pick 4 rfl).reads; subst e5; obtain ⟨B6, j6, e6, _, _⟩ := (HS.out.pick 5 rfl).reads; subst e6
        refine hK.out _ _ ⟨((HS.out.pick 0 rfl).cell 0).trans rfl, ((HS.out.pick 0 rfl).cell 1).trans rfl, ((HS.out.pick 0 rfl).cell 2).trans rfl, ((HS.out.pick 0 rfl).cell 3).trans rfl, ((HS.out.pick 0 rfl).cell 4).trans rfl, ((HS.out.pick 0 rfl).cell 5).trans rfl, ((HS.out.pick 0 rfl).cell 6).trans rfl, ((HS.out.pick 0 rfl).cell 7).trans rfl, ((HS.out.pick 0 rfl).cell 8).trans rfl⟩ (fun hHeld => ?_)
        clear hK K
        refine norm_ (a' := ?_) ?_ ?_
        rotate_left
        · show Act.put _ (some 66) _ = _
          simp only [Act.put, List.setIfInBounds_toArray, List.set_cons_zero, List.set_cons_succ, i64_w, i32_w]
          rfl
        refine one_ (i := 11) (N := some 68) (tfs true [12, 10]).toArray rfl rfl (one_of HT_.out (by kernel_rfl)) (by decide) (fun K hK => ?_)
        refine goes_ Try.func21 (by kernel_rfl) rfl #[.agg #[.int .i64 s.st, .string s.ti, .int .i64 s.op, .int .i64 s.en, .string s.ca.f0, .int .i64 s.ca.f1, .slice B5 s.pe.length j5, .slice B6 s.th.length j6, .int .i64 s.no], .agg #[.int .i64 s.st, .string s.ti, .int .i64 s.op, .int .i64 s.en, .string s.ca.f0, .int .i64 s.ca.f1, .slice A5 s.pe.length k5, .slice A6 s.th.length k6, .int .i64 s.no]] (by rfl) rfl rfl (by (try simp only [List.map_toArray, List.map_cons, List.map_nil]); first | done | rfl | (simp only [List.length_drop, List.length_take]; rfl)) ?_
        with_reducible refine (same_self s B5 B6 A5 A6 j5 j6 k5 k6 _ (HS.out.pick 4 rfl).rowC.2.2 (HS.out.pick 4 rfl).rowC.2.1 (HS.out.pick 5 rfl).rowC.2.2 (HS.out.pick 5 rfl).rowC.2.1 (HS.out.pick 1 rfl).rowC.2.2 (HS.out.pick 1 rfl).rowC.2.1 (HS.out.pick 2 rfl).rowC.2.2 (HS.out.pick 2 rfl).rowC.2.1 (by have := hgs.out.1; omega) (by have := hgs.out.2; omega)).mono ?_
        rintro r_ ws ⟨rfl, hb⟩
        refine ⟨_, rfl, ?_⟩
        have n0_ := Aside0.mk (HS.out.step hb); have n1_ := Aside0.mk (below_step' HB.out HS.out.size hb); clear HS HB; have HS := n0_; have HB := n1_; clear n0_ n1_; (try simp only [List.eraseIdx_cons_succ, List.eraseIdx_cons_zero] at HS)
        clear hb
        refine hK.out _ _ ⟨((HS.out.pick 0 rfl).cell 0).trans rfl, ((HS.out.pick 0 rfl).cell 1).trans rfl, ((HS.out.pick 0 rfl).cell 2).trans rfl, ((HS.out.pick 0 rfl).cell 3).trans rfl, ((HS.out.pick 0 rfl).cell 4).trans rfl, ((HS.out.pick 0 rfl).cell 5).trans rfl, ((HS.out.pick 0 rfl).cell 6).trans rfl, ((HS.out.pick 0 rfl).cell 7).trans rfl, ((HS.out.pick 0 rfl).cell 8).trans rfl⟩ (fun hHeld => ?_)
        clear hK K
        refine norm_ (a' := ?_) ?_ ?_
        rotate_left
        · show Act.put _ (some 68) _ = _
          simp only [Act.put, List.setIfInBounds_toArray, List.set_cons_zero, List.set_cons_succ, i64_w, i32_w]
          rfl
        refine pU 12 69 (tfs true [13, 9]).toArray rfl rfl HT_ ?_
        refine pU 13 70 (tfs true [14, 8]).toArray rfl rfl HT_ ?_
        refine pU 14 71 (tfs true [15, 7]).toArray rfl rfl HT_ ?_
        refine pU 15 72 (tfs true [16, 6]).toArray rfl rfl HT_ ?_
        refine pU 17 74 (tfs true [16, 1, 1, 4]).toArray rfl rfl HT_ ?_
        refine one_ (i := 16) (N := some 73) (tfs true [18, 4]).toArray rfl rfl (one_of HT_.out (by kernel_rfl)) (by decide) (fun K hK => ?_)
        refine goes_ Try.func28 (by kernel_rfl) rfl #[.pointer (some ⟨p, 0, none⟩), .int .i64 39] (by rfl) rfl rfl (by (try simp only [List.map_toArray, List.map_cons, List.map_nil]); first | done | rfl | (simp only [List.length_drop, List.length_take]; rfl)) ?_
        with_reducible refine (At_ok p 39 (sdd l) (by have := hsd.out; omega) hk39.out ((HS.out.pick 3 rfl))).mono ?_
        rintro r_ wx ⟨v5, v6, rfl, hs, hb⟩; rw [hat39.out] at hs ⊢; simp only at hs ⊢
        refine ⟨_, rfl, ?_⟩
        have n0_ := Aside0.mk (((((((((hs.pick 1 rfl).pick 1 rfl).pick 7 rfl).pick 7 rfl).pick 4 rfl).pick 7 rfl).pick 7 rfl).pick 7 rfl)); have n1_ := Aside0.mk (HB.out.trans hb); clear HS HB; have HS := n0_; have HB := n1_; clear n0_ n1_; (try simp only [List.eraseIdx_cons_succ, List.eraseIdx_cons_zero] at HS)
        clear hs hb; obtain ⟨C5, m5, e5, _, _⟩ := (HS.out.pick 6 rfl).reads; subst e5; obtain ⟨C6, m6, e6, _, _⟩ := (HS.out.pick 7 rfl).reads; subst e6
        refine hK.out _ _ ⟨((HS.out.pick 0 rfl).cell 0).trans rfl, ((HS.out.pick 0 rfl).cell 1).trans rfl, ((HS.out.pick 0 rfl).cell 2).trans rfl, ((HS.out.pick 0 rfl).cell 3).trans rfl, ((HS.out.pick 0 rfl).cell 4).trans rfl, ((HS.out.pick 0 rfl).cell 5).trans rfl, ((HS.out.pick 0 rfl).cell 6).trans rfl, ((HS.out.pick 0 rfl).cell 7).trans rfl, ((HS.out.pick 0 rfl).cell 8).trans rfl⟩ (fun hHeld => ?_)
        clear hK K
        refine norm_ (a' := ?_) ?_ ?_
        rotate_left
        · show Act.put _ (some 73) _ = _
          simp only [Act.put, List.setIfInBounds_toArray, List.set_cons_zero, List.set_cons_succ, i64_w, i32_w]
          rfl
        refine one_ (i := 18) (N := some 75) (tfs true [19, 3]).toArray rfl rfl (one_of HT_.out (by kernel_rfl)) (by decide) (fun K hK => ?_)
        refine goes_ Try.func29 (by kernel_rfl) rfl #[.pointer (some ⟨p, 0, none⟩)] (by rfl) rfl rfl (by (try simp only [List.map_toArray, List.map_cons, List.map_nil]); first | done | rfl | (simp only [List.length_drop, List.length_take]; rfl)) ?_
        with_reducible refine (State_ok p (sdd l) (by have := hsd.out; omega) hkS.out ((HS.out.pick 3 rfl))).mono ?_
        rintro r_ wx ⟨v5, v6, rfl, hs, hb⟩; rw [hst.out] at hs ⊢; simp only at hs ⊢
        refine ⟨_, rfl, ?_⟩
        have n0_ := Aside0.mk (((((((((((hs.pick 1 rfl).pick 1 rfl).pick 9 rfl).pick 9 rfl).pick 9 rfl).pick 9 rfl).pick 6 rfl).pick 9 rfl).pick 9 rfl).pick 9 rfl)); have n1_ := Aside0.mk (HB.out.trans hb); clear HS HB; have HS := n0_; have HB := n1_; clear n0_ n1_; (try simp only [List.eraseIdx_cons_succ, List.eraseIdx_cons_zero] at HS)
        clear hs hb; obtain ⟨D5, n5, e5, _, _⟩ := (HS.out.pick 8 rfl).reads; subst e5; obtain ⟨D6, n6, e6, _, _⟩ := (HS.out.pick 9 rfl).reads; subst e6
        refine hK.out _ _ ⟨((HS.out.pick 0 rfl).cell 0).trans rfl, ((HS.out.pick 0 rfl).cell 1).trans rfl, ((HS.out.pick 0 rfl).cell 2).trans rfl, ((HS.out.pick 0 rfl).cell 3).trans rfl, ((HS.out.pick 0 rfl).cell 4).trans rfl, ((HS.out.pick 0 rfl).cell 5).trans rfl, ((HS.out.pick 0 rfl).cell 6).trans rfl, ((HS.out.pick 0 rfl).cell 7).trans rfl, ((HS.out.pick 0 rfl).cell 8).trans rfl⟩ (fun hHeld => ?_)
        clear hK K
        refine norm_ (a' := ?_) ?_ ?_
        rotate_left
        · show Act.put _ (some 75) _ = _
          simp only [Act.put, List.setIfInBounds_toArray, List.set_cons_zero, List.set_cons_succ, i64_w, i32_w]
          rfl
        refine one_ (i := 19) (N := some 76) (tfs true [20, 2]).toArray rfl rfl (one_of HT_.out (by kernel_rfl)) (by decide) (fun K hK => ?_)
        refine goes_ Try.func21 (by kernel_rfl) rfl #[.agg #[.int .i64 u.st, .string u.ti, .int .i64 u.op, .int .i64 u.en, .string u.ca.f0, .int .i64 u.ca.f1, .slice C5 u.pe.length m5, .slice C6 u.th.length m6, .int .i64 u.no], .agg #[.int .i64 u.st, .string u.ti, .int .i64 u.op, .int .i64 u.en, .string u.ca.f0, .int .i64 u.ca.f1, .slice D5 u.pe.length n5, .slice D6 u.th.length n6, .int .i64 u.no]] (by rfl) rfl rfl (by (try simp only [List.map_toArray, List.map_cons, List.map_nil]); first | done | rfl | (simp only [List.length_drop, List.length_take]; rfl)) ?_
        with_reducible refine (same_self u C5 C6 D5 D6 m5 m6 n5 n6 _ (HS.out.pick 6 rfl).rowC.2.2 (HS.out.pick 6 rfl).rowC.2.1 (HS.out.pick 7 rfl).rowC.2.2 (HS.out.pick 7 rfl).rowC.2.1 (HS.out.pick 8 rfl).rowC.2.2 (HS.out.pick 8 rfl).rowC.2.1 (HS.out.pick 9 rfl).rowC.2.2 (HS.out.pick 9 rfl).rowC.2.1 (by have := hgu.out.1; omega) (by have := hgu.out.2; omega)).mono ?_
        rintro r_ ws ⟨rfl, hb⟩
        refine ⟨_, rfl, ?_⟩
        have n0_ := Aside0.mk (HS.out.step hb); have n1_ := Aside0.mk (below_step' HB.out HS.out.size hb); clear HS HB; have HS := n0_; have HB := n1_; clear n0_ n1_; (try simp only [List.eraseIdx_cons_succ, List.eraseIdx_cons_zero] at HS)
        clear hb
        refine hK.out _ _ ⟨((HS.out.pick 0 rfl).cell 0).trans rfl, ((HS.out.pick 0 rfl).cell 1).trans rfl, ((HS.out.pick 0 rfl).cell 2).trans rfl, ((HS.out.pick 0 rfl).cell 3).trans rfl, ((HS.out.pick 0 rfl).cell 4).trans rfl, ((HS.out.pick 0 rfl).cell 5).trans rfl, ((HS.out.pick 0 rfl).cell 6).trans rfl, ((HS.out.pick 0 rfl).cell 7).trans rfl, ((HS.out.pick 0 rfl).cell 8).trans rfl⟩ (fun hHeld => ?_)
        clear hK K
        refine norm_ (a' := ?_) ?_ ?_
        rotate_left
        · show Act.put _ (some 76) _ = _
          simp only [Act.put, List.setIfInBounds_toArray, List.set_cons_zero, List.set_cons_succ, i64_w, i32_w]
          rfl
        refine pU 20 77 (tfs true [21, 1]).toArray rfl rfl HT_ ?_
        refine pU 21 78 (tfs true [22]).toArray rfl rfl HT_ ?_
        refine done_ (done_of HT_.out (by kernel_rfl)) ?_
        clear HT_ HW_
        try clear hHeld
        go_wp2
        go_meet
        case rel => exact ⟨rfl, ⟨(((((((((((HS.out.pick 3 rfl).pick 9 rfl).pick 9 rfl).pick 9 rfl).pick 9 rfl).pick 9 rfl).pick 9 rfl).pick 9 rfl).pick 9 rfl).pick 9 rfl)).drop.drop.drop.drop.drop.drop.drop.drop.drop⟩, HB⟩
      case rest =>
        clear HS HB
        obtain ⟨rfl, HS, HB⟩ := hcut
        go_upto_region 15 with (first | (go_at_call 28; (with_reducible refine (At_ok p 39 (sdd l) (by have := hsd.out; omega) hk39.out HS.out).mono ?_); rintro r_ w1 ⟨v5, v6, rfl, hs, hb⟩; rw [hat39.out] at hs ⊢; simp only at hs ⊢; have n0_ := Aside0.mk (hs); have n1_ := Aside0.mk (HB.out.trans hb); clear HS HB; have HS := n0_; have HB := n1_; clear n0_ n1_; (try simp only [List.eraseIdx_cons_succ, List.eraseIdx_cons_zero] at HS); clear hs hb; obtain ⟨A5, k5, e5, _, _⟩ := (HS.out.pick 0 rfl).reads; subst e5; obtain ⟨A6, k6, e6, _, _⟩ := (HS.out.pick 1 rfl).reads; subst e6) | ((with_reducible refine gate_dst (N := 16) rfl ?_); refine box_event ?hg (N := 16) ?hd (cs := #[.int .i64 0, .string ⟨#[]⟩, .int .i64 0, .int .i64 0, .string ⟨#[]⟩, .int .i64 0, .slice none 0 0, .slice none 0 0, .int .i64 0]) (t := 40) ?hr ?_; (case hd => rfl); (case hg => rfl); (case hr => first | (go_simp; done) | (go_simp; rfl)); intro g16 hg w2 hbox hb; have n0_ := Aside0.mk (HS.out.box hg hbox hb); have n1_ := Aside0.mk (below_step' HB.out HS.out.size hb); clear HS HB; have HS := n0_; have HB := n1_; clear n0_ n1_; (try simp only [List.eraseIdx_cons_succ, List.eraseIdx_cons_zero] at HS); clear hb hbox hg; have hc0_0 := ((HS.out.pick 0 rfl).cell 0).trans (show _ = some (.int .i64 0) from rfl); have hc0_1 := ((HS.out.pick 0 rfl).cell 1).trans (show _ = some (.string ⟨#[]⟩) from rfl); have hc0_2 := ((HS.out.pick 0 rfl).cell 2).trans (show _ = some (.int .i64 0) from rfl); have hc0_3 := ((HS.out.pick 0 rfl).cell 3).trans (show _ = some (.int .i64 0) from rfl); have hc0_4 := ((HS.out.pick 0 rfl).cell 4).trans (show _ = some (.string ⟨#[]⟩) from rfl); have hc0_5 := ((HS.out.pick 0 rfl).cell 5).trans (show _ = some (.int .i64 0) from rfl); have hc0_6 := ((HS.out.pick 0 rfl).cell 6).trans (show _ = some (.slice none 0 0) from rfl); have hc0_7 := ((HS.out.pick 0 rfl).cell 7).trans (show _ = some (.slice none 0 0) from rfl); have hc0_8 := ((HS.out.pick 0 rfl).cell 8).trans (show _ = some (.int .i64 0) from rfl); have hf0_0 := (HS.out.pick 0 rfl).frozen 0; have hf0_1 := (HS.out.pick 0 rfl).frozen 1; have hf0_2 := (HS.out.pick 0 rfl).frozen 2; have hf0_3 := (HS.out.pick 0 rfl).frozen 3; have hf0_4 := (HS.out.pick 0 rfl).frozen 4; have hf0_5 := (HS.out.pick 0 rfl).frozen 5; have hf0_6 := (HS.out.pick 0 rfl).frozen 6; have hf0_7 := (HS.out.pick 0 rfl).frozen 7; have hf0_8 := (HS.out.pick 0 rfl).frozen 8))
        have s9 := set9 (.int .i64 u.st) (.string u.ti) (.int .i64 u.op) (.int .i64 u.en) (.string u.ca.f0) (.int .i64 u.ca.f1) (.slice A5 u.pe.length k5) (.slice A6 u.th.length k6) (.int .i64 u.no) HS.out HB.out
        have n0_ := Aside0.mk (s9.1); have n1_ := Aside0.mk (s9.2); clear HS HB; have HS := n0_; have HB := n1_; clear n0_ n1_; (try simp only [List.eraseIdx_cons_succ, List.eraseIdx_cons_zero] at HS)
        generalize World.setCell _ _ _ = w3 at HS HB ⊢
        clear hc0_0 hf0_0 hc0_1 hf0_1 hc0_2 hf0_2 hc0_3 hf0_3 hc0_4 hf0_4 hc0_5 hf0_5 hc0_6 hf0_6 hc0_7 hf0_7 hc0_8 hf0_8 s9
        go_upto_region 17 with (first | (go_at_call 18; (with_reducible refine (Events_ok A' acts2.length c' acts2 rfl hu2.out (fun w' _ h => Kd.C_below HC2.out (HB.out.trans h)) (fun w' v xs _ h => Kd.C_below HC2.out (HB.out.trans h)) HS.out).mono ?_); rintro r_ w4 ⟨ve, rfl, hs, hb⟩; have n0_ := Aside0.mk (hs); have n1_ := Aside0.mk (HB.out.trans hb); clear HS HB; have HS := n0_; have HB := n1_; clear n0_ n1_; (try simp only [List.eraseIdx_cons_succ, List.eraseIdx_cons_zero] at HS); clear hs hb; obtain ⟨A2, c2, ee, _, _⟩ := HS.out.reads; subst ee; generalize hm_ : evs acts2 = m at HS hm24 hma hme; replace hm_ := Aside0.mk hm_))
        go_loopw [18] (fun v18 wr => ∃ i : Nat, i ≤ m.length ∧ v18 = .int .i64 i ∧ Aside0 (St w.heap.size wr (Row k27 27 (.slice A2 m.length c2) ((m.take i).map (later 40) ++ m.drop i) :: Blk g16 #[.int .i64 u.st, .string u.ti, .int .i64 u.op, .int .i64 u.en, .string u.ca.f0, .int .i64 u.ca.f1, .slice A5 u.pe.length k5, .slice A6 u.th.length k6, .int .i64 u.no] 40 :: Row k49 49 (.slice A5 u.pe.length k5) u.pe :: Row k51 51 (.slice A6 u.th.length k6) u.th :: Lg p (sdd l) :: [])) ∧ Aside0 (Below w.heap.size w wr)) (fun v18 _ => m.length - (intOf v18).toNat)
        case atStart => exact ⟨0, Nat.zero_le _, rfl, ⟨by rw [List.take_zero, List.drop_zero]; exact HS.out⟩, HB⟩
        case round =>
          clear HS HB
          obtain ⟨i, hi, rfl, HS, HB⟩ := hrel
          by_cases hlt : i < m.length
          · have q0 : decide ((i : Int) < (m.length : Int)) = true := decide_eq_true (by omega)
            have q1 := eq_true (show (i : Int) < (m.length : Int) by omega)
            have q2 := eq_true (show (0 : Int) ≤ (i : Int) by omega)
            have hw : IntKind.i64.wrap ((i : Int) + 1) = (i : Int) + 1 := by rw [IntKind.wrap_i64]; have := hm24.out; omega
            have hnx := Aside0.mk (mapIn_next (later 40) m i hlt)
            have hst1 := mapIn_set (later 40) m i hlt
            have hlen := mapIn_len (later 40) m i hi
            have hxa := hma.out (rd_T27 m (i : Int)) (by simp [rd_T27, hlt])
            obtain ⟨x, hx0⟩ : ∃ x, rd_T27 m (i : Int) = x := ⟨_, rfl⟩
            rw [hx0] at hnx hst1 hxa
            clear hx0
            have hw2 : IntKind.i64.wrap (x.f1 + 40) = x.f1 + 40 := by rw [IntKind.wrap_i64]; omega
            rw [hst1] at HS
            clear hst1
            generalize (m.take i).map (later 40) ++ m.drop i = D at HS hnx hlen
            have hiD : Aside0 (i < D.length) := ⟨by omega⟩
            obtain ⟨g2, cg, eg, _⟩ := St.row_some flat27 (HS.out.pick 0 rfl) (by rw [List.length_set]; omega)
            obtain ⟨h1_, h2_⟩ : A2 = some ⟨g2, 0, none⟩ ∧ c2 = cg := by
              have h3 := eg
              simp only [Value.slice.injEq] at h3
              exact ⟨h3.1, h3.2.2⟩
            subst h1_
            subst h2_
            clear eg hlen hxa
            have y2 := evCelS (HS.out.pick 0 rfl) hiD.out
            have q5 := row_fz (HS.out.pick 0 rfl) (i * 9 + 2)
            go_wp2_with (first | ((with_reducible refine gate_store (t := 3) (p := 98) rfl ?_); refine store_event (t := 3) (p := 98) (w1 := ?_) rfl rfl rfl ?_ ?_; rotate_left; (focus (first | (go_simp; done) | (go_simp; rfl))); intro w8 hws; have h9 := fldy 2 (.int .i64 (x.f1 + 40)) x (later 40 x) rfl (by decide) (HS.out.pick 0 rfl) hiD.out HB.out; rw [← hws] at h9; clear hws y2 q5; have n0_ := Aside0.mk (h9.1); have n1_ := Aside0.mk (h9.2); clear HS HB; have HS := n0_; have HB := n1_; clear n0_ n1_; (try simp only [List.eraseIdx_cons_succ, List.eraseIdx_cons_zero] at HS); clear h9))
            go_roundw
            case rel =>
              refine ⟨i + 1, by omega, by go_num, ?_, HB⟩
              rw [hnx.out]
              exact HS
            case measure => simp [intOf]; omega
          · obtain rfl : i = m.length := by omega
            have q0 : decide ((m.length : Int) < (m.length : Int)) = false := decide_eq_false (by omega)
            rw [List.take_length, List.drop_length, List.append_nil] at HS
            rw [hm_.out] at hmk
            have hla : ∀ b ∈ m.map (later 40), 39 < b.f1 := fun b hb => by
              obtain ⟨y, hy, rfl⟩ := List.mem_map.mp hb
              have := (hma.out y hy).1
              show 39 < y.f1 + 40
              omega
            have hsl : ∀ a ∈ sdd l, a.f1 ≤ 39 := fun a ha => (hat.out a (sdd_mem ha)).2
            have hDl : (m.map (later 40)).length = m.length := List.length_map _
            generalize m.map (later 40) = D at HS hme hmk hla hDl
            rw [← hDl] at HS hm24 ⊢
            clear hDl
            have hD24 := hm24
            have hlo : upTo 39 (orderE (sdd (sdd l ++ D))) = orderE (sdd l) := by rw [order_sdd]; exact late_order hsl hla
            have hsd2 : Aside0 ((sdd (sdd l ++ D)).length ≤ 48) := ⟨Nat.le_trans (sdd_len _) (by rw [List.length_append]; have := hsd.out; have := hD24.out; omega)⟩
            have hk2 : Aside0 (∀ x ∈ orderE (upTo 39 (orderE (sdd (sdd l ++ D)))), 1 ≤ x.f2 ∧ x.f2 ≤ 9) := ⟨fun x hx => by rw [hlo] at hx; exact hkS.out x (order_mem hx)⟩
            have hat2 : Aside0 (runP (upTo 39 (orderE (sdd (sdd l ++ D)))) = (u, ru)) := ⟨by rw [hlo]; show runO (orderE (orderE (sdd l))) = _; rw [order_idem]; exact hst.out⟩
            replace hlo := Aside0.mk hlo
            replace hla := Aside0.mk hla
            replace hsl := Aside0.mk hsl
            go_upto_region 21 with (first | (go_at_call 27; (with_reducible refine (Add_ok p (sdd l) D (by have := hsd.out; omega) (by have := hD24.out; omega) hme.out A2 c2 (fun w' h => ⟨(h.pick 0 rfl).rowC.2.2, (h.pick 0 rfl).rowC.2.1⟩) ((((((HS.out.pick 3 rfl).pick 3 rfl).pick 3 rfl).pick 3 rfl).pick 4 rfl))).mono ?_); rintro r_ w5 ⟨rfl, hs, hb⟩; have n0_ := Aside0.mk ((((((hs.pick 1 rfl).pick 1 rfl).pick 4 rfl).pick 4 rfl).pick 4 rfl)); have n1_ := Aside0.mk (HB.out.trans hb); clear HS HB; have HS := n0_; have HB := n1_; clear n0_ n1_; (try simp only [List.eraseIdx_cons_succ, List.eraseIdx_cons_zero] at HS); clear hs hb))
            clear q0
            have n0_ := Aside0.mk (HS.out.drew); have n1_ := Aside0.mk (HB.out.drew); clear HS HB; have HS := n0_; have HB := n1_; clear n0_ n1_
            refine start_ (n := 9) (S := fun w' => w'.cell? ⟨g16, 0, none⟩ = some (.int .i64 u.st) ∧ w'.cell? ⟨g16, 1, none⟩ = some (.string u.ti) ∧ w'.cell? ⟨g16, 2, none⟩ = some (.int .i64 u.op) ∧ w'.cell? ⟨g16, 3, none⟩ = some (.int .i64 u.en) ∧ w'.cell? ⟨g16, 4, none⟩ = some (.string u.ca.f0) ∧ w'.cell? ⟨g16, 5, none⟩ = some (.int .i64 u.ca.f1) ∧ w'.cell? ⟨g16, 6, none⟩ = some (.slice A5 u.pe.length k5) ∧ w'.cell? ⟨g16, 7, none⟩ = some (.slice A6 u.th.length k6) ∧ w'.cell? ⟨g16, 8, none⟩ = some (.int .i64 u.no)) (ds := []) #[false, false, false, false, false, false, false, false, false] (by kernel_rfl) rfl rfl ⟨((HS.out.pick 0 rfl).cell 0).trans rfl, ((HS.out.pick 0 rfl).cell 1).trans rfl, ((HS.out.pick 0 rfl).cell 2).trans rfl, ((HS.out.pick 0 rfl).cell 3).trans rfl, ((HS.out.pick 0 rfl).cell 4).trans rfl, ((HS.out.pick 0 rfl).cell 5).trans rfl, ((HS.out.pick 0 rfl).cell 6).trans rfl, ((HS.out.pick 0 rfl).cell 7).trans rfl, ((HS.out.pick 0 rfl).cell 8).trans rfl⟩ (fun hHeld => ?_); refine with_tabW tim.tab21 tim.bits21 (fun HT_ HW_ => ?_)
            generalize w5.drew = w6 at HS HB hHeld ⊢
            refine pU 0 105 #[true, false, false, false, false, false, false, false, false] rfl rfl HT_ ?_
            refine pU 1 106 #[true, true, false, false, false, false, false, false, false] rfl rfl HT_ ?_
            refine pU 2 107 #[true, true, true, false, false, false, false, false, false] rfl rfl HT_ ?_
            refine pU 3 108 #[true, true, true, true, false, false, false, false, false] rfl rfl HT_ ?_
            refine tK 5 110 #[true, true, true, true, false, true, false, false, false] rfl rfl HT_ HW_ hHeld ?_ (by rintro w' ⟨s0, s1, s2, s3, s4, s5, s6, s7, s8⟩; go_simp; with_reducible rfl)
            refine one_ (i := 4) (N := some 109) #[true, true, true, true, true, true, false, false, false] rfl rfl (one_of HT_.out (by kernel_rfl)) (by decide) (fun K hK => ?_)
            refine goes_ Try.func28 (by kernel_rfl) rfl #[.pointer (some ⟨p, 0, none⟩), .int .i64 39] (by rfl) rfl rfl (by (try simp only [List.map_toArray, List.map_cons, List.map_nil]); first | done | rfl | (simp only [List.length_drop, List.length_take]; rfl)) ?_
            with_reducible refine (At_ok p 39 (sdd (sdd l ++ D)) (by have := hsd2.out; omega) hk2.out ((HS.out.pick 3 rfl))).mono ?_
            rintro r_ wx ⟨v5, v6, rfl, hs, hb⟩; rw [hat2.out] at hs ⊢; simp only at hs ⊢
            refine ⟨_, rfl, ?_⟩
            have n0_ := Aside0.mk ((((((((hs.pick 1 rfl).pick 1 rfl).pick 6 rfl).pick 3 rfl).pick 6 rfl).pick 6 rfl).pick 6 rfl)); have n1_ := Aside0.mk (HB.out.trans hb); clear HS HB; have HS := n0_; have HB := n1_; clear n0_ n1_; (try simp only [List.eraseIdx_cons_succ, List.eraseIdx_cons_zero] at HS)
            clear hs hb; obtain ⟨B5, j5, e5, _, _⟩ := (HS.out.pick 5 rfl).reads; subst e5; obtain ⟨B6, j6, e6, _, _⟩ := (HS.out.pick 6 rfl).reads; subst e6
            refine hK.out _ _ ⟨((HS.out.pick 0 rfl).cell 0).trans rfl, ((HS.out.pick 0 rfl).cell 1).trans rfl, ((HS.out.pick 0 rfl).cell 2).trans rfl, ((HS.out.pick 0 rfl).cell 3).trans rfl, ((HS.out.pick 0 rfl).cell 4).trans rfl, ((HS.out.pick 0 rfl).cell 5).trans rfl, ((HS.out.pick 0 rfl).cell 6).trans rfl, ((HS.out.pick 0 rfl).cell 7).trans rfl, ((HS.out.pick 0 rfl).cell 8).trans rfl⟩ (fun hHeld => ?_)
            clear hK K
            refine norm_ (a' := ?_) ?_ ?_
            rotate_left
            · show Act.put _ (some 109) _ = _
              simp only [Act.put, List.setIfInBounds_toArray, List.set_cons_zero, List.set_cons_succ, i64_w, i32_w]
              rfl
            refine one_ (i := 6) (N := some 111) #[true, true, true, true, true, true, true, false, false] rfl rfl (one_of HT_.out (by kernel_rfl)) (by decide) (fun K hK => ?_)
            refine goes_ Try.func21 (by kernel_rfl) rfl #[.agg #[.int .i64 u.st, .string u.ti, .int .i64 u.op, .int .i64 u.en, .string u.ca.f0, .int .i64 u.ca.f1, .slice B5 u.pe.length j5, .slice B6 u.th.length j6, .int .i64 u.no], .agg #[.int .i64 u.st, .string u.ti, .int .i64 u.op, .int .i64 u.en, .string u.ca.f0, .int .i64 u.ca.f1, .slice A5 u.pe.length k5, .slice A6 u.th.length k6, .int .i64 u.no]] (by rfl) rfl rfl (by (try simp only [List.map_toArray, List.map_cons, List.map_nil]); first | done | rfl | (simp only [List.length_drop, List.length_take]; rfl)) ?_
            with_reducible refine (same_self u B5 B6 A5 A6 j5 j6 k5 k6 _ (HS.out.pick 5 rfl).rowC.2.2 (HS.out.pick 5 rfl).rowC.2.1 (HS.out.pick 6 rfl).rowC.2.2 (HS.out.pick 6 rfl).rowC.2.1 (HS.out.pick 1 rfl).rowC.2.2 (HS.out.pick 1 rfl).rowC.2.1 (HS.out.pick 2 rfl).rowC.2.2 (HS.out.pick 2 rfl).rowC.2.1 (by have := hgu.out.1; omega) (by have := hgu.out.2; omega)).mono ?_
            rintro r_ ws ⟨rfl, hb⟩
            refine ⟨_, rfl, ?_⟩
            have n0_ := Aside0.mk (HS.out.step hb); have n1_ := Aside0.mk (below_step' HB.out HS.out.size hb); clear HS HB; have HS := n0_; have HB := n1_; clear n0_ n1_; (try simp only [List.eraseIdx_cons_succ, List.eraseIdx_cons_zero] at HS)
            clear hb
            refine hK.out _ _ ⟨((HS.out.pick 0 rfl).cell 0).trans rfl, ((HS.out.pick 0 rfl).cell 1).trans rfl, ((HS.out.pick 0 rfl).cell 2).trans rfl, ((HS.out.pick 0 rfl).cell 3).trans rfl, ((HS.out.pick 0 rfl).cell 4).trans rfl, ((HS.out.pick 0 rfl).cell 5).trans rfl, ((HS.out.pick 0 rfl).cell 6).trans rfl, ((HS.out.pick 0 rfl).cell 7).trans rfl, ((HS.out.pick 0 rfl).cell 8).trans rfl⟩ (fun hHeld => ?_)
            clear hK K
            refine norm_ (a' := ?_) ?_ ?_
            rotate_left
            · show Act.put _ (some 111) _ = _
              simp only [Act.put, List.setIfInBounds_toArray, List.set_cons_zero, List.set_cons_succ, i64_w, i32_w]
              rfl
            refine pU 7 112 #[true, true, true, true, true, true, true, true, false] rfl rfl HT_ ?_
            refine pU 8 6 #[true, true, true, true, true, true, true, true, true] rfl rfl HT_ ?_
            refine done_ (done_of HT_.out (by kernel_rfl)) ?_
            clear HT_ HW_
            try clear hHeld
            go_wp2
            go_ret
            exact ⟨rfl, HB.out⟩

end Go.Proofs.Ytcjfgejiknlpfaa.PI
