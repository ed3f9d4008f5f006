/- The law IncidentRejects walked. -/
import Derived.Test.YtcjfgejiknlpfaaSq19
import Derived.Test.YtcjfgejiknlpfaaRej
import Derived.Test.YtcjfgejiknlpfaaEqS
namespace Go.Proofs.Ytcjfgejiknlpfaa.PI
open Go.RowKit Go.Proofs.YtcjfgejiknlpfaaW.PrintWords Go.Proofs.YtcjfgejiknlpfaaW.PrintLast Go.Proofs.YtcjfgejiknlpfaaW.PrintMore Go.Proofs.Ytcjfgejiknlpfaa.Sep
set_option linter.unusedVariables false
set_option linter.unusedSimpArgs false
set_option maxHeartbeats 8000000
set_option maxRecDepth 100000

def rjc.T12 : Bool × List (List Nat × List Nat) := (true, [([], []), ([0], [0]), ([], []), ([1, 2, 1], [1, 2]), ([3], [3])])
def rjc.B12 : List Nat := [0, 1, 0, 7, 15]
theorem rjc.tab12 : rtab .any (opsOf Try.f7 12) = rjc.T12 := by kernel_rfl
theorem rjc.bits12 : waitsOk rjc.T12.2 rjc.B12 = true := by kernel_rfl
theorem rowCn {α : Type} {d : Kd α} {e : Nat} {A : Option Addr} {n c : Nat} {xs : List α} {N : Nat} {w : World} {L : List Res} (h : St N w L) (k : Nat) (hk : L[k]? = some (Row d e (.slice A n c) xs)) : Kd.C d w A n xs := by
  have h1 := (h.pick k hk).rowC
  have h2 := h1.2.2
  rw [← h1.1] at h2
  exact h2
def gs1 (x : S27) : S27 := ⟨⟨bZoe, x.f0.f1⟩, x.f1, x.f2, x.f3, x.f4, x.f5, x.f6⟩
def gs2 (x : S27) : S27 := ⟨⟨bZoe, x.f0.f1⟩, x.f1 + 40, x.f2, x.f3, x.f4, x.f5, x.f6⟩
def gs3 (x : S27) : S27 := ⟨⟨bZoe, x.f0.f1⟩, x.f1 + 40, 2, x.f3, x.f4, x.f5, x.f6⟩
theorem guest_1 {x : S27} (h : x.f2 = 1) : guest x = gs3 x := by unfold guest gs3; rw [if_pos h]
theorem guest_n {x : S27} (h : ¬ x.f2 = 1) : guest x = gs2 x := by unfold guest gs2; rw [if_neg h]
theorem gst_len (m : List S27) (i : Nat) (h : i ≤ m.length) : ((m.take i).map guest ++ m.drop i).length = m.length := by simp; omega
theorem gst_set (m : List S27) (i : Nat) (h : i < m.length) : (m.take i).map guest ++ m.drop i = ((m.take i).map guest ++ m.drop i).set i (rd_T27 m (i : Int)) := by
  have e : rd_T27 m (i : Int) = m[i] := by simp [rd_T27, h]
  have hl : ((m.take i).map guest).length = i := by simp; omega
  rw [e, List.set_append_right _ _ (by omega), hl, Nat.sub_self, List.drop_eq_getElem_cons h, List.set_cons_zero]
theorem gst_next (m : List S27) (i : Nat) (h : i < m.length) : (m.take (i + 1)).map guest ++ m.drop (i + 1) = ((m.take i).map guest ++ m.drop i).set i (guest (rd_T27 m (i : Int))) := by
  have e : rd_T27 m (i : Int) = m[i] := by simp [rd_T27, h]
  have hl : ((m.take i).map guest).length = i := by simp; omega
  rw [e, List.set_append_right _ _ (by omega), hl, Nat.sub_self, List.drop_eq_getElem_cons h, List.set_cons_zero, List.take_succ_eq_append_getElem h, List.map_append, List.append_assoc]
  rfl
theorem fldx {N : Nat} {w w0 w1 : World} {L : List Res} {g n cap : Nat} {D : List S27} {i : Nat} (j : Nat) (u : Value) (x x' : S27) (he : (enc27 x).set j u = enc27 x') (hj : j < 9) (h : St N w (Row k27 27 (.slice (some ⟨g, 0, none⟩) n cap) (D.set i x) :: L)) (hi : i < D.length) (hb : Below N w0 w) (hw : w1 = w.setCell ⟨g, i * 9 + j, none⟩ u) :
    St N w1 (Row k27 27 (.slice (some ⟨g, 0, none⟩) n cap) (D.set i x') :: L) ∧ Below N w0 w1 := by
  subst hw
  have := St.field flat27 h i j u x' (by rw [List.length_set]; exact hi) hj (by rw [List.getElem_set_self]; exact he) hb
  rwa [List.set_set] at this
theorem evCellsS {N : Nat} {w : World} {L : List Res} {g n cap : Nat} {D : List S27} {i : Nat} {x : S27} (h : St N w (Row k27 27 (.slice (some ⟨g, 0, none⟩) n cap) (D.set i x) :: L)) (hi : i < D.length) :
    w.cell? ⟨g, i * 9, none⟩ = some (.string x.f0.f0) ∧ w.cell? ⟨g, i * 9 + 1, none⟩ = some (.int .i64 x.f0.f1) ∧ w.cell? ⟨g, i * 9 + 2, none⟩ = some (.int .i64 x.f1) ∧ w.cell? ⟨g, i * 9 + 3, none⟩ = some (.int .i64 x.f2) ∧ w.cell? ⟨g, i * 9 + 4, none⟩ = some (.string x.f3.f0) ∧ w.cell? ⟨g, i * 9 + 5, none⟩ = some (.int .i64 x.f3.f1) ∧ w.cell? ⟨g, i * 9 + 6, none⟩ = some (.string x.f4) ∧ w.cell? ⟨g, i * 9 + 7, none⟩ = some (.int .i64 x.f5) ∧ w.cell? ⟨g, i * 9 + 8, none⟩ = some (.string x.f6) :=
  evCells h i (by rw [List.length_set]; exact hi) x (by simp [rd_T27, hi])
theorem evs_f (l : List S23) : ∀ x ∈ evs l, x.f0.f0 ∈ ppl ∧ (x.f2 = 9 → x.f4 ∈ ppl) ∧ 1 ≤ x.f2 ∧ x.f2 ≤ 9 ∧ x.f1 ≤ 39 := by
  intro x hx
  obtain ⟨a, _, rfl⟩ := List.mem_map.mp hx
  have h := decE_facts a
  exact ⟨h.1, h.2.1, (decE_kind a).1, (decE_kind a).2, h.2.2.2⟩
theorem evs_g (l : List S23) : ∀ x ∈ evs l, 0 ≤ x.f1 ∧ 1 ≤ x.f2 ∧ x.f2 ≤ 9 := by
  intro x hx
  obtain ⟨a, _, rfl⟩ := List.mem_map.mp hx
  exact ⟨(decE_facts a).2.2.1, (decE_kind a).1, (decE_kind a).2⟩
theorem evs_at (l : List S23) (j : Nat) (h : j < (evs l).length) : 0 ≤ (rd_T27 (evs l) (j : Int)).f1 ∧ (rd_T27 (evs l) (j : Int)).f1 ≤ 39 := by
  have e : rd_T27 (evs l) (j : Int) = (evs l)[j] := by simp [rd_T27, h]
  have hm : rd_T27 (evs l) (j : Int) ∈ evs l := by rw [e]; exact List.getElem_mem h
  exact ⟨(evs_g l _ hm).1, (evs_f l _ hm).2.2.2.2⟩
theorem kinds_acc (l : List S27) (rs : List Int) (h : ∀ x ∈ l, 1 ≤ x.f2 ∧ x.f2 ≤ 9) : ∀ x ∈ orderE (accR l rs), 1 ≤ x.f2 ∧ x.f2 ≤ 9 := fun x hx => h x ((accR_sub _ _).subset (order_mem hx))
theorem kinds_guest (l m : List S27) (h : ∀ x ∈ l, 1 ≤ x.f2 ∧ x.f2 ≤ 9) (h2 : ∀ x ∈ m, 0 ≤ x.f1 ∧ 1 ≤ x.f2 ∧ x.f2 ≤ 9) : ∀ x ∈ orderE (l ++ m.map guest), 1 ≤ x.f2 ∧ x.f2 ≤ 9 := fun x hx => by
  rcases List.mem_append.mp (order_mem hx) with hx | hx
  · exact h x hx
  · obtain ⟨y, hy, rfl⟩ := List.mem_map.mp hx
    obtain ⟨_, h3, h4⟩ := h2 y hy
    show 1 ≤ (if y.f2 = 1 then 2 else y.f2) ∧ (if y.f2 = 1 then 2 else y.f2) ≤ 9
    split <;> omega

theorem rejects_walk (A : Option Addr) (c : Nat) (acts : List S23) (hu0 : ∀ a ∈ acts, U8s a) (A' : Option Addr) (c' : Nat) (acts2 : List S23) (hu20 : ∀ a ∈ acts2, U8s a) (w : World) (hc : Kd.C k23 w A acts.length acts) (hc2 : Kd.C k23 w A' acts2.length acts2) :
    Calls Try.prog 7 #[.slice A acts.length c, .slice A' acts2.length c'] w fun r w' => r = .returned (.bool true) ∧ Below w.heap.size w w' := by
  have HS := Aside0.mk (St.none_ (N := w.heap.size) (w := w) (Nat.le_refl _))
  have HB := Aside0.mk (Below.refl w.heap.size w)
  have HC := Aside0.mk hc
  have HC2 := Aside0.mk hc2
  have hu := Aside0.mk hu0
  have hu2 := Aside0.mk hu20
  clear hc hu0 hc2 hu20
  go_enter Try.func7, Try.ntmps7
  go_upto_region 2 with (first | (go_at_call 18; refine (Events_ok A acts.length c acts rfl hu.out (fun w' _ h => Kd.C_below HC.out h) (fun w' v xs _ h => Kd.C_below HC.out h) HS.out).mono ?_; rintro r_ w1 ⟨ve, rfl, hs, hb⟩; have n0_ := Aside0.mk (hs); have n1_ := Aside0.mk (HB.out.trans hb); clear HS HB; have HS := n0_; have HB := n1_; clear n0_ n1_; (try simp only [List.eraseIdx_cons_succ, List.eraseIdx_cons_zero] at HS); clear hs hb; obtain ⟨Ae, ce, ee, _, _⟩ := HS.out.reads; subst ee) | (go_at_call 16; refine (Order_ok Ae _ ce (evs acts) rfl (by have := evs_len acts; omega) (fun w' h _ => (h.pick 0 rfl).rowC.2.2) HS.out).mono ?_; rintro r_ w2 ⟨vo, rfl, hs, hb⟩; have n0_ := Aside0.mk (hs); have n1_ := Aside0.mk (HB.out.trans hb); clear HS HB; have HS := n0_; have HB := n1_; clear n0_ n1_; (try simp only [List.eraseIdx_cons_succ, List.eraseIdx_cons_zero] at HS); clear hs hb; have hl := order_len (evs acts); have hl24 := evs_len acts))
  have hrun : Aside0 (runP (orderE (evs acts)) = runO (orderE (evs acts))) := ⟨runP_order _⟩
  have hkl : Aside0 (∀ x ∈ orderE (orderE (evs acts)), 1 ≤ x.f2 ∧ x.f2 ≤ 9) := ⟨fun x hx => evs_kind acts x (order_mem (order_mem hx))⟩
  have hk0 : ∀ x ∈ orderE (evs acts), 1 ≤ x.f2 ∧ x.f2 ≤ 9 := fun x hx => evs_kind acts x (order_mem hx)
  have hacc := rej_runP (evs acts)
  have hgst := rej_guests (evs acts) (evs acts2) (evs_f acts) (evs_g acts2)
  generalize orderE (evs acts) = l at HS hrun hkl hk0 hacc hgst hl
  have hka := kinds_acc l (runO l).2 hk0
  have hkg := Aside0.mk (kinds_guest l (evs acts2) hk0 (evs_g acts2))
  have hal := (accR_sub l (runO l).2).length_le
  have hlen := Aside0.mk (run_length l)
  have hgd := Aside0.mk (good_run l)
  obtain ⟨Ao, co, eo, _, _⟩ := HS.out.reads
  subst eo
  generalize hq : runO l = q at hrun hacc hgst hka hal hlen hgd
  replace hq := Aside0.mk hq
  obtain ⟨s, rs⟩ := q
  simp only at hacc hgst hka hal
  obtain ⟨n, hn⟩ := hgst
  replace hn := Aside0.mk hn
  replace hacc := Aside0.mk hacc
  replace hka := Aside0.mk hka
  replace hlen : Aside0 (rs.length = l.length) := hlen
  replace hgd : Aside0 (Good s l.length) := hgd
  clear hk0
  go_upto_region 3 with (first | (go_at_call 20; refine (Reasons_ok Ao co l (by omega) hkl.out (fun w' L' h _ => row_kept w' L' h) HS.out).mono ?_; rintro r_ w3 ⟨vr, rfl, hs, hb⟩; rw [hrun.out] at hs; have n0_ := Aside0.mk (hs); have n1_ := Aside0.mk (HB.out.trans hb); clear HS HB; have HS := n0_; have HB := n1_; clear n0_ n1_; (try simp only [List.eraseIdx_cons_succ, List.eraseIdx_cons_zero] at HS); clear hs hb))
  obtain ⟨Ar, cr, er, _, _⟩ := (HS.out.pick 0 rfl).reads
  subst er
  have hlen := hlen.out
  rw [hlen] at HS ⊢
  have q0 : ((l.length : Int) != (l.length : Int)) = false := by simp
  go_upto_region 7 with (first | (go_at_call 13; refine (known_ok _).mono ?_; rintro r_ w6 ⟨rfl, hb⟩; have n0_ := Aside0.mk (HS.out.step hb); have n1_ := Aside0.mk (below_step' HB.out HS.out.size hb); clear HS HB; have HS := n0_; have HB := n1_; clear n0_ n1_; (try simp only [List.eraseIdx_cons_succ, List.eraseIdx_cons_zero] at HS); clear hb))
  clear q0
  go_loopw [7, 8] (fun v7 v8 wr => ∃ i : Nat, i ≤ l.length ∧ v8 = .int .i64 i ∧ Aside0 (St w.heap.size wr (Row k27 27 v7 (accR (l.take i) (rs.take i)) :: Row (Kd.int .i64) 3 (.slice Ar l.length cr) rs :: Row k27 27 (.slice Ao l.length co) l :: Row k27 27 (.slice Ae (evs acts).length ce) (evs acts) :: [])) ∧ Aside0 (Below w.heap.size w wr)) (fun _ v8 _ => l.length - (intOf v8).toNat)
  case atStart => exact ⟨0, Nat.zero_le _, rfl, ⟨HS.out.rowNil⟩, HB⟩
  case round =>
    clear HS HB
    obtain ⟨i, hi, rfl, HS, HB⟩ := hrel
    by_cases hlt0 : i < l.length
    · obtain ⟨go, co2, eo, _⟩ := St.row_some flat27 (HS.out.pick 2 rfl) (by omega)
      cases eo
      obtain ⟨gr, cr2, er, _⟩ := St.row_some flatI (HS.out.pick 1 rfl) (by omega)
      rw [hlen] at er
      cases er
      have hlr : i < rs.length := by omega
      have hdl : Aside0 ((accR (l.take i) (rs.take i)).length ≤ 24) := ⟨by have := (accR_sub (l.take i) (rs.take i)).length_le; rw [List.length_take] at this; omega⟩
      obtain ⟨x, hx⟩ : ∃ x, rd_T27 l (i : Int) = x := ⟨_, rfl⟩
      obtain ⟨r, hr⟩ : ∃ r, rs[i]? = some r := ⟨rs[i]'hlr, List.getElem?_eq_getElem hlr⟩
      obtain ⟨x0, x1, x2, x3, x4, x5, x6, x7, x8⟩ := evCells (HS.out.pick 2 rfl) i hlt0 x hx
      have y0 := rsCell (HS.out.pick 1 rfl) i hlr r hr
      have hst := Aside0.mk (accR_snoc (l.take i) (rs.take i) x r (by simp; omega))
      rw [show l.take i ++ [x] = l.take (i + 1) by rw [← hx]; exact (take_rd l i hlt0).symm, show rs.take i ++ [r] = rs.take (i + 1) by rw [List.take_succ_eq_append_getElem hlr]; rw [List.getElem?_eq_getElem hlr] at hr; rw [Option.some.inj hr]] at hst
      generalize accR (l.take i) (rs.take i) = D at HS hst hdl
      have q1 : decide ((i : Int) < (l.length : Int)) = true := decide_eq_true (by omega)
      have q2 := eq_true (show (i : Int) < (l.length : Int) by omega)
      have q3 := eq_true (show (0 : Int) ≤ (i : Int) by omega)
      have hw : IntKind.i64.wrap ((i : Int) + 1) = (i : Int) + 1 := by rw [IntKind.wrap_i64]; omega
      clear hx hr hlr
      by_cases c1 : r = 0
      · have e1 : (r == 0) = true := by simpa using c1
        rw [if_pos c1] at hst
        replace c1 := Aside0.mk c1
        go_wp2_with (first | ((with_reducible refine gate_builtin (b := .append) (xs := #[.tmp 38, .tmp 43]) rfl ?_); at_builtin; refine S_append k27 rfl (.tmp 38) (.tmp 43) 30 27 (.agg #[(.string ⟨#[]⟩), (.int .i64 0), (.int .i64 0), (.int .i64 0), (.string ⟨#[]⟩), (.int .i64 0), (.string ⟨#[]⟩), (.int .i64 0), (.string ⟨#[]⟩)]) 104 rfl Try.underlying30 info27 rfl (by decide) (by omega) _ _ x [.string x.f0.f0, .int .i64 x.f0.f1, .int .i64 x.f1, .int .i64 x.f2, .string x.f3.f0, .int .i64 x.f3.f1, .string x.f4, .int .i64 x.f5, .string x.f6] rfl rfl (flat_k27 _ _ x) (HS.out.pick 0 rfl) HB.out (by have := hdl.out; omega) ?_; intro v9 w9 hs hb; have n0_ := Aside0.mk (hs); have n1_ := Aside0.mk (hb); clear HS HB; have HS := n0_; have HB := n1_; clear n0_ n1_; (try simp only [List.eraseIdx_cons_succ, List.eraseIdx_cons_zero] at HS); clear hs hb x0 x1 x2 x3 x4 x5 x6 x7 x8 y0))
        go_roundw
        case rel =>
          refine ⟨i + 1, by omega, by go_num, ?_, HB⟩
          rw [hst.out]
          exact HS
        case measure => simp [intOf]; omega
      · have e1 : (r == 0) = false := by simpa using c1
        rw [if_neg c1, List.append_nil] at hst
        replace c1 := Aside0.mk c1
        go_wp2
        go_roundw
        case rel =>
          refine ⟨i + 1, by omega, by go_num, ?_, HB⟩
          rw [hst.out]
          exact HS
        case measure => simp [intOf]; omega
    · obtain rfl : i = l.length := by omega
      clear hi hlt0
      rw [List.take_length, show rs.take l.length = rs by rw [← hlen]; exact List.take_length] at HS
      have q1 : decide ((l.length : Int) < (l.length : Int)) = false := decide_eq_false (by omega)
      go_upto_region 12 with (first | (go_at_call 22; (with_reducible refine (Fold_ok Ao co l (by omega) hkl.out (fun w' L' h _ => (St.pick (r := Row k27 27 (.slice Ao l.length co) l) h (L'.length + 2) (by simp)).rowC.2.2) HS.out).mono ?_); rintro r_ w4 ⟨v5, v6, rfl, hs, hb⟩; rw [hrun.out] at hs ⊢; simp only at hs ⊢; have n0_ := Aside0.mk (hs); have n1_ := Aside0.mk (HB.out.trans hb); clear HS HB; have HS := n0_; have HB := n1_; clear n0_ n1_; (try simp only [List.eraseIdx_cons_succ, List.eraseIdx_cons_zero] at HS); clear hs hb; obtain ⟨A5, k5, e5, _, _⟩ := (HS.out.pick 0 rfl).reads; subst e5; obtain ⟨A6, k6, e6, _, _⟩ := (HS.out.pick 1 rfl).reads; subst e6))
      clear q1
      have hbx := HS.out.box (g := w4.heap.size) (cs := #[.int .i64 s.st, .string s.ti, .int .i64 s.op, .int .i64 s.en, .string s.ca.f0, .int .i64 s.ca.f1, .slice A5 s.pe.length k5, .slice A6 s.th.length k6, .int .i64 s.no]) (t := 40) rfl (new_cells w4 _ _) ((Below.refl _ _).alloc (Nat.le_refl _) _)
      have hbb := below_step' HB.out HS.out.size ((Below.refl _ _).alloc (Nat.le_refl _) (.cells #[.int .i64 s.st, .string s.ti, .int .i64 s.op, .int .i64 s.en, .string s.ca.f0, .int .i64 s.ca.f1, .slice A5 s.pe.length k5, .slice A6 s.th.length k6, .int .i64 s.no] 40))
      generalize w4.heap.size = g at hbx hbb ⊢
      generalize w4.alloc (.cells #[.int .i64 s.st, .string s.ti, .int .i64 s.op, .int .i64 s.en, .string s.ca.f0, .int .i64 s.ca.f1, .slice A5 s.pe.length k5, .slice A6 s.th.length k6, .int .i64 s.no] 40) = w5 at hbx hbb ⊢
      have n0_ := Aside0.mk (hbx); have n1_ := Aside0.mk (hbb); clear HS HB; have HS := n0_; have HB := n1_; clear n0_ n1_; (try simp only [List.eraseIdx_cons_succ, List.eraseIdx_cons_zero] at HS)
      clear hbx hbb
      obtain ⟨Ab, cb, eb, _, _⟩ := (HS.out.pick 3 rfl).reads
      subst eb
      have n0_ := Aside0.mk (HS.out.drew); have n1_ := Aside0.mk (HB.out.drew); clear HS HB; have HS := n0_; have HB := n1_; clear n0_ n1_
      refine start_ (n := 5) (S := fun w' => w'.cell? ⟨g, 0, none⟩ = some (.int .i64 s.st) ∧ w'.cell? ⟨g, 1, none⟩ = some (.string s.ti) ∧ w'.cell? ⟨g, 2, none⟩ = some (.int .i64 s.op) ∧ w'.cell? ⟨g, 3, none⟩ = some (.int .i64 s.en) ∧ w'.cell? ⟨g, 4, none⟩ = some (.string s.ca.f0) ∧ w'.cell? ⟨g, 5, none⟩ = some (.int .i64 s.ca.f1) ∧ w'.cell? ⟨g, 6, none⟩ = some (.slice A5 s.pe.length k5) ∧ w'.cell? ⟨g, 7, none⟩ = some (.slice A6 s.th.length k6) ∧ w'.cell? ⟨g, 8, none⟩ = some (.int .i64 s.no)) (ds := []) #[false, false, false, false, false] (by kernel_rfl) rfl rfl ⟨((HS.out.pick 0 rfl).cell 0).trans rfl, ((HS.out.pick 0 rfl).cell 1).trans rfl, ((HS.out.pick 0 rfl).cell 2).trans rfl, ((HS.out.pick 0 rfl).cell 3).trans rfl, ((HS.out.pick 0 rfl).cell 4).trans rfl, ((HS.out.pick 0 rfl).cell 5).trans rfl, ((HS.out.pick 0 rfl).cell 6).trans rfl, ((HS.out.pick 0 rfl).cell 7).trans rfl, ((HS.out.pick 0 rfl).cell 8).trans rfl⟩ (fun hHeld => ?_); refine with_tabW rjc.tab12 rjc.bits12 (fun HT_ HW_ => ?_)
      generalize w5.drew = w7 at HS HB hHeld ⊢
      refine pU 0 47 #[true, false, false, false, false] rfl rfl HT_ ?_
      refine tK 2 49 #[true, false, true, false, false] rfl rfl HT_ HW_ hHeld ?_ (by rintro w' ⟨s0, s1, s2, s3, s4, s5, s6, s7, s8⟩; go_simp; with_reducible rfl)
      refine one_ (i := 1) (N := some 48) #[true, true, true, false, false] rfl rfl (one_of HT_.out (by kernel_rfl)) (by decide) (fun K hK => ?_)
      refine goes_ Try.func22 (by kernel_rfl) rfl #[.slice Ab (accR l rs).length cb] (by rfl) rfl rfl (by (try simp only [List.map_toArray, List.map_cons, List.map_nil]); first | done | rfl | (simp only [List.length_drop, List.length_take]; rfl)) ?_
      with_reducible refine (Fold_ok Ab cb (accR l rs) (by omega) hka.out (fun w' L' h _ => (St.pick (r := Row k27 27 (.slice Ab (accR l rs).length cb) (accR l rs)) h (L'.length + 3) (by simp)).rowC.2.2) HS.out).mono ?_
      rintro r_ w3 ⟨v7, v8, rfl, hs, hb⟩; rw [hacc.out] at hs ⊢
      refine ⟨_, rfl, ?_⟩
      have n0_ := Aside0.mk ((hs.pick 2 rfl)); have n1_ := Aside0.mk (HB.out.trans hb); clear HS HB; have HS := n0_; have HB := n1_; clear n0_ n1_; (try simp only [List.eraseIdx_cons_succ, List.eraseIdx_cons_zero] at HS)
      clear hs hb; obtain ⟨A7, k7, e7, _, _⟩ := (HS.out.pick 1 rfl).reads; subst e7; obtain ⟨A8, k8, e8, _, _⟩ := (HS.out.pick 2 rfl).reads; subst e8
      refine hK.out _ _ ⟨((HS.out.pick 0 rfl).cell 0).trans rfl, ((HS.out.pick 0 rfl).cell 1).trans rfl, ((HS.out.pick 0 rfl).cell 2).trans rfl, ((HS.out.pick 0 rfl).cell 3).trans rfl, ((HS.out.pick 0 rfl).cell 4).trans rfl, ((HS.out.pick 0 rfl).cell 5).trans rfl, ((HS.out.pick 0 rfl).cell 6).trans rfl, ((HS.out.pick 0 rfl).cell 7).trans rfl, ((HS.out.pick 0 rfl).cell 8).trans rfl⟩ (fun hHeld => ?_)
      clear hK K
      refine norm_ (a' := ?_) ?_ ?_
      rotate_left
      · show Act.put _ (some 48) _ = _
        simp only [Act.put, List.setIfInBounds_toArray, List.set_cons_zero, List.set_cons_succ, i64_w, i32_w]
        rfl
      refine one_ (i := 3) (N := some 50) #[true, true, true, true, false] rfl rfl (one_of HT_.out (by kernel_rfl)) (by decide) (fun K hK => ?_)
      refine goes_ Try.func23 (by kernel_rfl) rfl #[.agg #[.int .i64 s.st, .string s.ti, .int .i64 s.op, .int .i64 s.en, .string s.ca.f0, .int .i64 s.ca.f1, .slice A7 s.pe.length k7, .slice A8 s.th.length k8, .int .i64 s.no], .agg #[.int .i64 s.st, .string s.ti, .int .i64 s.op, .int .i64 s.en, .string s.ca.f0, .int .i64 s.ca.f1, .slice A5 s.pe.length k5, .slice A6 s.th.length k6, .int .i64 s.no]] (by rfl) rfl rfl (by (try simp only [List.map_toArray, List.map_cons, List.map_nil]); first | done | rfl | (simp only [List.length_drop, List.length_take]; rfl)) ?_
      with_reducible refine (equal_same s A7 A8 A5 A6 k7 k8 k5 k6 _ (HS.out.pick 1 rfl).rowC.2.2 (HS.out.pick 1 rfl).rowC.2.1 (HS.out.pick 2 rfl).rowC.2.2 (HS.out.pick 2 rfl).rowC.2.1 (HS.out.pick 3 rfl).rowC.2.2 (HS.out.pick 3 rfl).rowC.2.1 (HS.out.pick 4 rfl).rowC.2.2 (HS.out.pick 4 rfl).rowC.2.1 (by have := hgd.out.lp; omega) (by have := hgd.out.lt; omega)).mono ?_
      rintro r_ w4 ⟨rfl, hb⟩
      refine ⟨_, rfl, ?_⟩
      have n0_ := Aside0.mk (HS.out.step hb); have n1_ := Aside0.mk (below_step' HB.out HS.out.size hb); clear HS HB; have HS := n0_; have HB := n1_; clear n0_ n1_; (try simp only [List.eraseIdx_cons_succ, List.eraseIdx_cons_zero] at HS)
      clear hb
      refine hK.out _ _ ⟨((HS.out.pick 0 rfl).cell 0).trans rfl, ((HS.out.pick 0 rfl).cell 1).trans rfl, ((HS.out.pick 0 rfl).cell 2).trans rfl, ((HS.out.pick 0 rfl).cell 3).trans rfl, ((HS.out.pick 0 rfl).cell 4).trans rfl, ((HS.out.pick 0 rfl).cell 5).trans rfl, ((HS.out.pick 0 rfl).cell 6).trans rfl, ((HS.out.pick 0 rfl).cell 7).trans rfl, ((HS.out.pick 0 rfl).cell 8).trans rfl⟩ (fun hHeld => ?_)
      clear hK K
      refine norm_ (a' := ?_) ?_ ?_
      rotate_left
      · show Act.put _ (some 50) _ = _
        simp only [Act.put, List.setIfInBounds_toArray, List.set_cons_zero, List.set_cons_succ, i64_w, i32_w]
        rfl
      refine pU 4 51 #[true, true, true, true, true] rfl rfl HT_ ?_
      refine done_ (done_of HT_.out (by kernel_rfl)) ?_
      clear HT_ HW_
      try clear hHeld
      have HS1 := Aside0.mk ((((((HS.out.pick 1 rfl).drop.pick 1 rfl).drop.pick 3 rfl).drop.pick 3 rfl).drop.pick 4 rfl).drop)
      clear HS
      have HS := HS1
      clear HS1
      simp only [List.eraseIdx_cons_succ, List.eraseIdx_cons_zero] at HS
      go_upto_region 16 with (first | (go_at_call 18; refine (Events_ok A' acts2.length c' acts2 rfl hu2.out (fun w' _ h => Kd.C_below HC2.out (HB.out.trans h)) (fun w' v xs _ h => Kd.C_below HC2.out (HB.out.trans h)) HS.out).mono ?_; rintro r_ w1 ⟨ve2, rfl, hs, hb⟩; have n0_ := Aside0.mk (hs); have n1_ := Aside0.mk (HB.out.trans hb); clear HS HB; have HS := n0_; have HB := n1_; clear n0_ n1_; (try simp only [List.eraseIdx_cons_succ, List.eraseIdx_cons_zero] at HS); clear hs hb; obtain ⟨A2, c2, ee, _, _⟩ := HS.out.reads; subst ee))
      have hm24 := evs_len acts2
      have hmf := Aside0.mk (evs_at acts2)
      generalize evs acts2 = m at HS hn hkg hm24 hmf
      go_loopw [11] (fun v11 wr => ∃ i : Nat, i ≤ m.length ∧ v11 = .int .i64 i ∧ Aside0 (St w.heap.size wr (Row k27 27 (.slice A2 m.length c2) ((m.take i).map guest ++ m.drop i) :: Blk g #[.int .i64 s.st, .string s.ti, .int .i64 s.op, .int .i64 s.en, .string s.ca.f0, .int .i64 s.ca.f1, .slice A5 s.pe.length k5, .slice A6 s.th.length k6, .int .i64 s.no] 40 :: Row k49 49 (.slice A5 s.pe.length k5) s.pe :: Row k51 51 (.slice A6 s.th.length k6) s.th :: Row k27 27 (.slice Ao l.length co) l :: [])) ∧ Aside0 (Below w.heap.size w wr)) (fun v11 _ => m.length - (intOf v11).toNat)
      case atStart => exact ⟨0, Nat.zero_le _, rfl, HS, HB⟩
      case round =>
        clear HS HB
        obtain ⟨i, hi, rfl, HS, HB⟩ := hrel
        by_cases hlt0 : i < m.length
        · have hnx := Aside0.mk (gst_next m i hlt0)
          have hDl := gst_len m i hi
          rw [gst_set m i hlt0] at HS
          have hxf := hmf.out i hlt0
          generalize rd_T27 m (i : Int) = x at HS hnx hxf
          generalize (m.take i).map guest ++ m.drop i = D at HS hnx hDl
          have hiD : Aside0 (i < D.length) := ⟨by omega⟩
          obtain ⟨g2, cg2, eg, _⟩ := St.row_some flat27 HS.out (by rw [List.length_set]; omega)
          rw [List.length_set, hDl] at eg
          cases eg
          have q1 : decide ((i : Int) < (m.length : Int)) = true := decide_eq_true (by omega)
          have q2 := eq_true (show (i : Int) < (m.length : Int) by omega)
          have q3 := eq_true (show (0 : Int) ≤ (i : Int) by omega)
          have hw : IntKind.i64.wrap ((i : Int) + 1) = (i : Int) + 1 := by rw [IntKind.wrap_i64]; omega
          have hw4 : IntKind.i64.wrap (x.f1 + 40) = x.f1 + 40 := by rw [IntKind.wrap_i64]; omega
          clear hxf hDl
          obtain ⟨y0, _, y2, y3, _, _, _, _, _⟩ := evCellsS (HS.out.pick 0 rfl) hiD.out; have q5 := St.row_frozen flat27 (HS.out.pick 0 rfl) (by rw [List.length_set]; have := hiD.out; omega) (i * 9); have q6 := St.row_frozen flat27 (HS.out.pick 0 rfl) (by rw [List.length_set]; have := hiD.out; omega) (i * 9 + 2); have q7 := St.row_frozen flat27 (HS.out.pick 0 rfl) (by rw [List.length_set]; have := hiD.out; omega) (i * 9 + 3)
          go_upto_region 19 with (first | ((with_reducible refine gate_store (t := 9) (p := 72) rfl ?_); refine store_event (t := 9) (p := 72) (w1 := ?_) rfl rfl rfl ?_ ?_; rotate_left; (focus (first | (go_simp; done) | (go_simp; rfl))); intro w8 hws; have h9 := fldx 0 _ x (gs1 x) rfl (by decide) (HS.out.pick 0 rfl) hiD.out HB.out hws; clear hws y0 y2 y3 q5 q6 q7; have n0_ := Aside0.mk (h9.1); have n1_ := Aside0.mk (h9.2); clear HS HB; have HS := n0_; have HB := n1_; clear n0_ n1_; (try simp only [List.eraseIdx_cons_succ, List.eraseIdx_cons_zero] at HS); clear h9; obtain ⟨y0, _, y2, y3, _, _, _, _, _⟩ := evCellsS (HS.out.pick 0 rfl) hiD.out; have q5 := St.row_frozen flat27 (HS.out.pick 0 rfl) (by rw [List.length_set]; have := hiD.out; omega) (i * 9); have q6 := St.row_frozen flat27 (HS.out.pick 0 rfl) (by rw [List.length_set]; have := hiD.out; omega) (i * 9 + 2); have q7 := St.row_frozen flat27 (HS.out.pick 0 rfl) (by rw [List.length_set]; have := hiD.out; omega) (i * 9 + 3)) | ((with_reducible refine gate_store (t := 3) (p := 74) rfl ?_); refine store_event (t := 3) (p := 74) (w1 := ?_) rfl rfl rfl ?_ ?_; rotate_left; (focus (first | (go_simp; done) | (go_simp; rfl))); intro w9 hws; have h9 := fldx 2 _ (gs1 x) (gs2 x) rfl (by decide) (HS.out.pick 0 rfl) hiD.out HB.out hws; clear hws y0 y2 y3 q5 q6 q7; have n0_ := Aside0.mk (h9.1); have n1_ := Aside0.mk (h9.2); clear HS HB; have HS := n0_; have HB := n1_; clear n0_ n1_; (try simp only [List.eraseIdx_cons_succ, List.eraseIdx_cons_zero] at HS); clear h9; obtain ⟨y0, _, y2, y3, _, _, _, _, _⟩ := evCellsS (HS.out.pick 0 rfl) hiD.out; have q5 := St.row_frozen flat27 (HS.out.pick 0 rfl) (by rw [List.length_set]; have := hiD.out; omega) (i * 9); have q6 := St.row_frozen flat27 (HS.out.pick 0 rfl) (by rw [List.length_set]; have := hiD.out; omega) (i * 9 + 2); have q7 := St.row_frozen flat27 (HS.out.pick 0 rfl) (by rw [List.length_set]; have := hiD.out; omega) (i * 9 + 3); replace y3 : w9.cell? ⟨g2, i * 9 + 3, none⟩ = some (.int .i64 x.f2) := y3))
          by_cases c1 : x.f2 = 1
          · have e1 : (x.f2 == 1) = true := by simpa using c1
            rw [guest_1 c1] at hnx
            replace c1 := Aside0.mk c1
            go_wp2_with (first | ((with_reducible refine gate_store (t := 3) (p := 84) rfl ?_); refine store_event (t := 3) (p := 84) (w1 := ?_) rfl rfl rfl ?_ ?_; rotate_left; (focus (first | (go_simp; done) | (go_simp; rfl))); intro w10 hws; have h9 := fldx 3 _ (gs2 x) (gs3 x) rfl (by decide) (HS.out.pick 0 rfl) hiD.out HB.out hws; clear hws y0 y2 y3 q5 q6 q7; have n0_ := Aside0.mk (h9.1); have n1_ := Aside0.mk (h9.2); clear HS HB; have HS := n0_; have HB := n1_; clear n0_ n1_; (try simp only [List.eraseIdx_cons_succ, List.eraseIdx_cons_zero] at HS); clear h9))
            go_roundw
            case rel =>
              refine ⟨i + 1, by omega, by go_num, ?_, HB⟩
              rw [hnx.out]
              exact HS
            case measure => simp [intOf]; omega
          · have e1 : (x.f2 == 1) = false := by simpa using c1
            rw [guest_n c1] at hnx
            replace c1 := Aside0.mk c1
            go_wp2
            go_roundw
            case rel =>
              refine ⟨i + 1, by omega, by go_num, ?_, HB⟩
              rw [hnx.out]
              exact HS
            case measure => simp [intOf]; omega
        · obtain rfl : i = m.length := by omega
          clear hi hlt0
          rw [List.take_length, List.drop_length, List.append_nil] at HS
          have hGl : (m.map guest).length = m.length := List.length_map _
          generalize m.map guest = G at HS hn hkg hGl
          have q1 : decide ((m.length : Int) < (m.length : Int)) = false := decide_eq_false (by omega)
          go_upto_region 22 with (first | ((with_reducible refine gate_dst (N := 85) rfl ?_); refine S_lit k27 27 ?hg85 (Nt := 85) ?hd85 (xs := ([] : List S27)) (inner := ([] : List Value)) ?hr85 ?hp85 HS.out (by simp) ?_; (case hd85 => rfl); (case hg85 => rfl); (case hr85 => first | (go_simp; done) | (go_simp; rfl)); (case hp85 => exact Reps.none _ _); intro v85 w11 hs hb; have n0_ := Aside0.mk (hs); have n1_ := Aside0.mk (below_step' HB.out HS.out.size hb); clear HS HB; have HS := n0_; have HB := n1_; clear n0_ n1_; (try simp only [List.eraseIdx_cons_succ, List.eraseIdx_cons_zero] at HS); clear hs hb) | ((with_reducible refine gate_builtin (b := .append) (xs := #[.tmp 85, .tmp 86]) rfl ?_); at_builtin; refine S_append_rows k27 rfl (.tmp 85) (.tmp 86) 30 27 (.agg #[(.string ⟨#[]⟩), (.int .i64 0), (.int .i64 0), (.int .i64 0), (.string ⟨#[]⟩), (.int .i64 0), (.string ⟨#[]⟩), (.int .i64 0), (.string ⟨#[]⟩)]) 104 rfl Try.underlying30 info27 rfl (by decide) (by omega) v85 [] l Ao l.length co rfl rfl (fun x cs h => by rw [flat27.K h]; exact flat_k27 _ _ x) HS.out (HS.out.pick 5 rfl).rowC.2.2 HB.out (by (try simp); omega) ?_; intro v87 w12 hs hb; have n0_ := Aside0.mk (hs); have n1_ := Aside0.mk (hb); clear HS HB; have HS := n0_; have HB := n1_; clear n0_ n1_; (try simp only [List.eraseIdx_cons_succ, List.eraseIdx_cons_zero] at HS); clear hs hb; rw [List.nil_append] at HS) | ((with_reducible refine gate_builtin (b := .append) (xs := #[.tmp 87, .tmp 88]) rfl ?_); at_builtin; refine S_append_rows k27 rfl (.tmp 87) (.tmp 88) 30 27 (.agg #[(.string ⟨#[]⟩), (.int .i64 0), (.int .i64 0), (.int .i64 0), (.string ⟨#[]⟩), (.int .i64 0), (.string ⟨#[]⟩), (.int .i64 0), (.string ⟨#[]⟩)]) 104 rfl Try.underlying30 info27 rfl (by decide) (by omega) v87 l G A2 m.length c2 rfl rfl (fun x cs h => by rw [flat27.K h]; exact flat_k27 _ _ x) HS.out (rowCn HS.out 1 rfl) HB.out (by (try simp); omega) ?_; intro v89 w13 hs hb; have n0_ := Aside0.mk (hs); have n1_ := Aside0.mk (hb); clear HS HB; have HS := n0_; have HB := n1_; clear n0_ n1_; (try simp only [List.eraseIdx_cons_succ, List.eraseIdx_cons_zero] at HS); clear hs hb; generalize hEE : l ++ G = E at HS hn hkg; have hEl : E.length ≤ 48 := (by rw [← hEE, List.length_append]; omega); replace hEE := Aside0.mk hEE; obtain ⟨Ag, cg, eg, _, _⟩ := HS.out.reads; subst eg) | (go_at_call 22; (with_reducible refine (Fold_ok Ag cg E (by omega) hkg.out (fun w' L' h _ => row_kept w' L' h) HS.out).mono ?_); rintro r_ w14 ⟨v9, v8, rfl, hs, hb⟩; rw [hn.out] at hs ⊢; simp only at hs ⊢; have n0_ := Aside0.mk (hs); have n1_ := Aside0.mk (HB.out.trans hb); clear HS HB; have HS := n0_; have HB := n1_; clear n0_ n1_; (try simp only [List.eraseIdx_cons_succ, List.eraseIdx_cons_zero] at HS); clear hs hb; obtain ⟨A9, k9, e9, _, _⟩ := (HS.out.pick 0 rfl).reads; subst e9; obtain ⟨A8, k8, e8, _, _⟩ := (HS.out.pick 1 rfl).reads; subst e8))
          clear q1
          have hbx := HS.out.box (g := w14.heap.size) (cs := #[.int .i64 s.st, .string s.ti, .int .i64 s.op, .int .i64 s.en, .string s.ca.f0, .int .i64 s.ca.f1, .slice A9 s.pe.length k9, .slice A8 s.th.length k8, .int .i64 n]) (t := 40) rfl (new_cells w14 _ _) ((Below.refl _ _).alloc (Nat.le_refl _) _)
          have hbb := below_step' HB.out HS.out.size ((Below.refl _ _).alloc (Nat.le_refl _) (.cells #[.int .i64 s.st, .string s.ti, .int .i64 s.op, .int .i64 s.en, .string s.ca.f0, .int .i64 s.ca.f1, .slice A9 s.pe.length k9, .slice A8 s.th.length k8, .int .i64 n] 40))
          generalize w14.heap.size = g3 at hbx hbb ⊢
          generalize w14.alloc (.cells #[.int .i64 s.st, .string s.ti, .int .i64 s.op, .int .i64 s.en, .string s.ca.f0, .int .i64 s.ca.f1, .slice A9 s.pe.length k9, .slice A8 s.th.length k8, .int .i64 n] 40) = w15 at hbx hbb ⊢
          have n0_ := Aside0.mk (hbx); have n1_ := Aside0.mk (hbb); clear HS HB; have HS := n0_; have HB := n1_; clear n0_ n1_; (try simp only [List.eraseIdx_cons_succ, List.eraseIdx_cons_zero] at HS)
          clear hbx hbb
          have p8 : w15.cell? ⟨g, 8, none⟩ = some (.int .i64 s.no) := ((HS.out.pick 5 rfl).cell 8).trans rfl
          have p9 : w15.cell? ⟨g3, 8, none⟩ = some (.int .i64 n) := ((HS.out.pick 0 rfl).cell 8).trans rfl
          have p7 := (HS.out.pick 0 rfl).frozen 8
          go_upto_region 23 with (fail)
          have h9 := HS.out.set 8 (.int .i64 s.no) #[.int .i64 s.st, .string s.ti, .int .i64 s.op, .int .i64 s.en, .string s.ca.f0, .int .i64 s.ca.f1, .slice A9 s.pe.length k9, .slice A8 s.th.length k8, .int .i64 s.no] rfl
          have h8 := HS.out.below_set (i := 8) (u := .int .i64 s.no) HB.out
          generalize World.setCell _ _ _ = w16 at h9 h8 ⊢
          clear p7 p8 p9
          have n0_ := Aside0.mk (h9); have n1_ := Aside0.mk (h8); clear HS HB; have HS := n0_; have HB := n1_; clear n0_ n1_; (try simp only [List.eraseIdx_cons_succ, List.eraseIdx_cons_zero] at HS)
          clear h9 h8
          have p0 : w16.cell? ⟨g3, 0, none⟩ = some (.int .i64 s.st) := ((HS.out.pick 0 rfl).cell 0).trans rfl; have p1 : w16.cell? ⟨g3, 1, none⟩ = some (.string s.ti) := ((HS.out.pick 0 rfl).cell 1).trans rfl; have p2 : w16.cell? ⟨g3, 2, none⟩ = some (.int .i64 s.op) := ((HS.out.pick 0 rfl).cell 2).trans rfl; have p3 : w16.cell? ⟨g3, 3, none⟩ = some (.int .i64 s.en) := ((HS.out.pick 0 rfl).cell 3).trans rfl; have p4 : w16.cell? ⟨g3, 4, none⟩ = some (.string s.ca.f0) := ((HS.out.pick 0 rfl).cell 4).trans rfl; have p5 : w16.cell? ⟨g3, 5, none⟩ = some (.int .i64 s.ca.f1) := ((HS.out.pick 0 rfl).cell 5).trans rfl; have p6 : w16.cell? ⟨g3, 6, none⟩ = some (.slice A9 s.pe.length k9) := ((HS.out.pick 0 rfl).cell 6).trans rfl; have p7 : w16.cell? ⟨g3, 7, none⟩ = some (.slice A8 s.th.length k8) := ((HS.out.pick 0 rfl).cell 7).trans rfl; have p8 : w16.cell? ⟨g3, 8, none⟩ = some (.int .i64 s.no) := ((HS.out.pick 0 rfl).cell 8).trans rfl
          have o0 : w16.cell? ⟨g, 0, none⟩ = some (.int .i64 s.st) := ((HS.out.pick 5 rfl).cell 0).trans rfl; have o1 : w16.cell? ⟨g, 1, none⟩ = some (.string s.ti) := ((HS.out.pick 5 rfl).cell 1).trans rfl; have o2 : w16.cell? ⟨g, 2, none⟩ = some (.int .i64 s.op) := ((HS.out.pick 5 rfl).cell 2).trans rfl; have o3 : w16.cell? ⟨g, 3, none⟩ = some (.int .i64 s.en) := ((HS.out.pick 5 rfl).cell 3).trans rfl; have o4 : w16.cell? ⟨g, 4, none⟩ = some (.string s.ca.f0) := ((HS.out.pick 5 rfl).cell 4).trans rfl; have o5 : w16.cell? ⟨g, 5, none⟩ = some (.int .i64 s.ca.f1) := ((HS.out.pick 5 rfl).cell 5).trans rfl; have o6 : w16.cell? ⟨g, 6, none⟩ = some (.slice A5 s.pe.length k5) := ((HS.out.pick 5 rfl).cell 6).trans rfl; have o7 : w16.cell? ⟨g, 7, none⟩ = some (.slice A6 s.th.length k6) := ((HS.out.pick 5 rfl).cell 7).trans rfl; have o8 : w16.cell? ⟨g, 8, none⟩ = some (.int .i64 s.no) := ((HS.out.pick 5 rfl).cell 8).trans rfl
          go_wp2_with (first | (go_at_call 23; (with_reducible refine (equal_same s A9 A8 A5 A6 k9 k8 k5 k6 _ (HS.out.pick 1 rfl).rowC.2.2 (HS.out.pick 1 rfl).rowC.2.1 (HS.out.pick 2 rfl).rowC.2.2 (HS.out.pick 2 rfl).rowC.2.1 (HS.out.pick 6 rfl).rowC.2.2 (HS.out.pick 6 rfl).rowC.2.1 (HS.out.pick 7 rfl).rowC.2.2 (HS.out.pick 7 rfl).rowC.2.1 (by have := hgd.out.lp; omega) (by have := hgd.out.lt; omega)).mono ?_); rintro r_ w18 ⟨rfl, hb⟩; have n0_ := Aside0.mk (HS.out.step hb); have n1_ := Aside0.mk (below_step' HB.out HS.out.size hb); clear HS HB; have HS := n0_; have HB := n1_; clear n0_ n1_; (try simp only [List.eraseIdx_cons_succ, List.eraseIdx_cons_zero] at HS); clear hb))
          go_ret
          exact ⟨rfl, HB.out⟩

end Go.Proofs.Ytcjfgejiknlpfaa.PI
