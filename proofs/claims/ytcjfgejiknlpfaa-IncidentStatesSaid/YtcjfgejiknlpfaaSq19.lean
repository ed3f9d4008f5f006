/- The law IncidentResolves walked. -/
import Derived.Test.YtcjfgejiknlpfaaSq18
import Derived.Test.YtcjfgejiknlpfaaSq16
import Derived.Test.YtcjfgejiknlpfaaRes
namespace Go.Proofs.Ytcjfgejiknlpfaa.PI
open Go.RowKit Go.Proofs.YtcjfgejiknlpfaaW.PrintWords Go.Proofs.YtcjfgejiknlpfaaW.PrintLast Go.Proofs.YtcjfgejiknlpfaaW.PrintMore Go.Proofs.Ytcjfgejiknlpfaa.Sep
set_option linter.unusedVariables false
set_option linter.unusedSimpArgs false
set_option maxHeartbeats 8000000
set_option maxRecDepth 100000

def rsv.T11 : Bool × List (List Nat × List Nat) := (true, [([], []), ([], []), ([0, 1], [0, 1]), ([2], [2]), ([3], [3]), ([4], [4]), ([5], [5]), ([5], [5]), ([6, 7, 5], [5, 6, 7]), ([8, 5], [5, 8]), ([9, 5], [5, 9]), ([10, 5], [5, 10]), ([5, 11], [5, 11]), ([12, 5], [12]), ([13], [13]), ([13], [13]), ([14, 15, 13], [13, 14, 15]), ([16, 13], [13, 16]), ([17, 13], [13, 17]), ([13], [13]), ([19, 13], [13, 19]), ([18, 20, 13], [13, 18, 20]), ([13, 21], [13, 21]), ([22, 13], [22]), ([23], [23]), ([23], [23]), ([24, 25, 23], [23, 24, 25]), ([26, 23], [23, 26]), ([27, 23], [23, 27]), ([28, 23], [23, 28]), ([23], [23]), ([30, 23], [23, 30]), ([31, 23], [23, 31]), ([29, 32, 23], [23, 29, 32]), ([23, 33], [23, 33]), ([34, 23], [34]), ([35], [35]), ([35], [35]), ([36, 37, 35], [35, 36, 37]), ([38, 35], [35, 38]), ([39, 35], [35, 39]), ([35], [35]), ([41, 35], [35, 41]), ([40, 42, 35], [35, 40, 42]), ([35, 43], [35, 43])])
def rsv.B11 : List Nat := [0, 0, 3, 7, 15, 31, 63, 63, 255, 511, 1023, 2047, 4095, 8191, 16383, 16383, 65535, 131071, 262143, 16383, 540671, 2097151, 4194303, 8388607, 16777215, 16777215, 67108863, 134217727, 268435455, 536870911, 16777215, 1090519039, 3238002687, 8589934591, 17179869183, 34359738367, 68719476735, 68719476735, 274877906943, 549755813887, 1099511627775, 68719476735, 2267742732287, 8796093022207, 17592186044415]
theorem rsv.tab11 : rtab .any (opsOf Try.f5 11) = rsv.T11 := by kernel_rfl
theorem rsv.bits11 : waitsOk rsv.T11.2 rsv.B11 = true := by kernel_rfl
theorem evCells {N : Nat} {w : World} {L : List Res} {g n cap : Nat} {l : List S27} (h : St N w (Row k27 27 (.slice (some ⟨g, 0, none⟩) n cap) l :: L)) (j : Nat) (hj : j < l.length) (x : S27) (hx : rd_T27 l (j : Int) = x) :
    w.cell? ⟨g, j * 9, none⟩ = some (.string x.f0.f0) ∧ w.cell? ⟨g, j * 9 + 1, none⟩ = some (.int .i64 x.f0.f1) ∧ w.cell? ⟨g, j * 9 + 2, none⟩ = some (.int .i64 x.f1) ∧ w.cell? ⟨g, j * 9 + 3, none⟩ = some (.int .i64 x.f2) ∧ w.cell? ⟨g, j * 9 + 4, none⟩ = some (.string x.f3.f0) ∧ w.cell? ⟨g, j * 9 + 5, none⟩ = some (.int .i64 x.f3.f1) ∧ w.cell? ⟨g, j * 9 + 6, none⟩ = some (.string x.f4) ∧ w.cell? ⟨g, j * 9 + 7, none⟩ = some (.int .i64 x.f5) ∧ w.cell? ⟨g, j * 9 + 8, none⟩ = some (.string x.f6) := by
  subst hx
  obtain ⟨ad, ea, x0, x1, x2, x3, x4, x5, x6, x7, x8⟩ := at_T27 h.rowC.2.2 (j : Int) (by omega) (by omega)
  cases ea
  rw [Int.toNat_natCast, Addr.add_lit, Nat.zero_add] at x0 x1 x2 x3 x4 x5 x6 x7 x8
  exact ⟨x0, x1, x2, x3, x4, x5, x6, x7, x8⟩
theorem rsCell {N : Nat} {w : World} {L : List Res} {g n cap : Nat} {l : List Int} (h : St N w (Row (Kd.int .i64) 3 (.slice (some ⟨g, 0, none⟩) n cap) l :: L)) (j : Nat) (hj : j < l.length) (r : Int) (hr : l[j]? = some r) : w.cell? ⟨g, j, none⟩ = some (.int .i64 r) := by
  obtain ⟨ad, ea, x0⟩ := at_ints h.rowC.2.2 j (by omega)
  cases ea
  rw [Addr.add_lit, Nat.zero_add, List.getD_eq_getElem?_getD, hr] at x0
  exact x0
theorem row_kept1 {α : Type} {d : Kd α} {e : Nat} {A : Option Addr} {n c : Nat} {xs : List α} {R : Res} {N : Nat} {L : List Res} : ∀ w' L', St N w' (L' ++ R :: Row d e (.slice A n c) xs :: L) → Kd.C d w' A xs.length xs := fun w' L' h => (St.pick (r := Row d e (.slice A n c) xs) h (L'.length + 1) (by simp)).rowC.2.2

theorem resolves_walk (A : Option Addr) (c : Nat) (acts : List S23) (hu0 : ∀ a ∈ acts, U8s a) (w : World) (hc : Kd.C k23 w A acts.length acts) :
    Calls Try.prog 5 #[.slice A acts.length c] w fun r w' => r = .returned (.bool true) ∧ Below w.heap.size w w' := by
  have HS := Aside0.mk (St.none_ (N := w.heap.size) (w := w) (Nat.le_refl _))
  have HB := Aside0.mk (Below.refl w.heap.size w)
  have HC := Aside0.mk hc
  have hu := Aside0.mk hu0
  clear hc hu0
  go_enter Try.func5, Try.ntmps5
  go_upto_region 2 with (first | (go_at_call 18; refine (Events_ok A acts.length c acts rfl hu.out (fun w' _ h => Kd.C_below HC.out h) (fun w' v xs _ h => Kd.C_below HC.out h) HS.out).mono ?_; rintro r_ w1 ⟨ve, rfl, hs, hb⟩; have n0_ := Aside0.mk (hs); have n1_ := Aside0.mk (HB.out.trans hb); clear HS HB; have HS := n0_; have HB := n1_; clear n0_ n1_; (try simp only [List.eraseIdx_cons_succ, List.eraseIdx_cons_zero] at HS); clear hs hb; obtain ⟨Ae, ce, ee, _, _⟩ := HS.out.reads; subst ee) | (go_at_call 16; refine (Order_ok Ae _ ce (evs acts) rfl (by have := evs_len acts; omega) (fun w' h _ => (h.pick 0 rfl).rowC.2.2) HS.out).mono ?_; rintro r_ w2 ⟨vo, rfl, hs, hb⟩; have n0_ := Aside0.mk (hs); have n1_ := Aside0.mk (HB.out.trans hb); clear HS HB; have HS := n0_; have HB := n1_; clear n0_ n1_; (try simp only [List.eraseIdx_cons_succ, List.eraseIdx_cons_zero] at HS); clear hs hb; have hl := order_len (evs acts); have hl24 := evs_len acts))
  have hrun : Aside0 (runP (orderE (evs acts)) = runO (orderE (evs acts))) := ⟨runP_order _⟩
  have hkl : Aside0 (∀ x ∈ orderE (orderE (evs acts)), 1 ≤ x.f2 ∧ x.f2 ≤ 9) := ⟨fun x hx => evs_kind acts x (order_mem (order_mem hx))⟩
  have hinv := Aside0.mk (rinv_run _ (order_ord (evs acts)))
  generalize orderE (evs acts) = l at HS hrun hkl hinv hl
  obtain ⟨Ao, co, eo, _, _⟩ := HS.out.reads
  subst eo
  generalize hq : runO l = q at hrun hinv
  replace hq := Aside0.mk hq
  obtain ⟨s, rs⟩ := q
  simp only at hinv
  go_upto_region 4 with (first | (go_at_call 20; refine (Reasons_ok Ao co l (by omega) hkl.out (fun w' L' h _ => row_kept w' L' h) HS.out).mono ?_; rintro r_ w3 ⟨vr, rfl, hs, hb⟩; rw [hrun.out] at hs; have n0_ := Aside0.mk (hs); have n1_ := Aside0.mk (HB.out.trans hb); clear HS HB; have HS := n0_; have HB := n1_; clear n0_ n1_; (try simp only [List.eraseIdx_cons_succ, List.eraseIdx_cons_zero] at HS); clear hs hb) | (go_at_call 22; refine (Fold_ok Ao co l (by omega) hkl.out (fun w' L' h _ => row_kept1 w' L' h) HS.out).mono ?_; rintro r_ w4 ⟨v5, v6, rfl, hs, hb⟩; rw [hrun.out] at hs ⊢; simp only [hq.out] at hs ⊢; have n0_ := Aside0.mk (hs); have n1_ := Aside0.mk (HB.out.trans hb); clear HS HB; have HS := n0_; have HB := n1_; clear n0_ n1_; (try simp only [List.eraseIdx_cons_succ, List.eraseIdx_cons_zero] at HS); clear hs hb; obtain ⟨A5, k5, e5, _, _⟩ := (HS.out.pick 0 rfl).reads; subst e5; obtain ⟨A6, k6, e6, _, _⟩ := (HS.out.pick 1 rfl).reads; subst e6))
  have hbx := HS.out.box (g := w4.heap.size) (cs := #[.int .i64 s.st, .string s.ti, .int .i64 s.op, .int .i64 s.en, .string s.ca.f0, .int .i64 s.ca.f1, .slice A5 s.pe.length k5, .slice A6 s.th.length k6, .int .i64 s.no]) (t := 40) rfl (new_cells w4 _ _) ((Below.refl _ _).alloc (Nat.le_refl _) _)
  have hbb := below_step' HB.out HS.out.size ((Below.refl _ _).alloc (Nat.le_refl _) (.cells #[.int .i64 s.st, .string s.ti, .int .i64 s.op, .int .i64 s.en, .string s.ca.f0, .int .i64 s.ca.f1, .slice A5 s.pe.length k5, .slice A6 s.th.length k6, .int .i64 s.no] 40))
  generalize w4.heap.size = g at hbx hbb ⊢
  generalize w4.alloc (.cells #[.int .i64 s.st, .string s.ti, .int .i64 s.op, .int .i64 s.en, .string s.ca.f0, .int .i64 s.ca.f1, .slice A5 s.pe.length k5, .slice A6 s.th.length k6, .int .i64 s.no] 40) = w5 at hbx hbb ⊢
  have n0_ := Aside0.mk (hbx); have n1_ := Aside0.mk (hbb); clear HS HB; have HS := n0_; have HB := n1_; clear n0_ n1_; (try simp only [List.eraseIdx_cons_succ, List.eraseIdx_cons_zero] at HS)
  clear hbx hbb
  obtain ⟨Ar, cr, er, _, _⟩ := (HS.out.pick 3 rfl).reads
  subst er
  have hlen := hinv.out.len
  rw [hlen] at HS ⊢
  have q0 : ((l.length : Int) != (l.length : Int)) = false := by simp
  go_upto_region 6 with (first | (go_at_call 13; refine (known_ok _).mono ?_; rintro r_ w6 ⟨rfl, hb⟩; have n0_ := Aside0.mk (HS.out.step hb); have n1_ := Aside0.mk (below_step' HB.out HS.out.size hb); clear HS HB; have HS := n0_; have HB := n1_; clear n0_ n1_; (try simp only [List.eraseIdx_cons_succ, List.eraseIdx_cons_zero] at HS); clear hb))
  by_cases h3 : s.st = 3
  · have p0 : w6.cell? ⟨g, 0, none⟩ = some (.int .i64 3) := ((HS.out.pick 0 rfl).cell 0).trans (show _ = some (Value.int .i64 3) by rw [← h3]; rfl)
    obtain ⟨iw, xw, hww⟩ := hinv.out.res h3
    have hww := Aside0.mk hww
    replace h3 := Aside0.mk h3
    go_upto_region 9 with (fail)
    go_loopw [6] (fun v6 wr => ∃ i : Nat, i ≤ l.length ∧ v6 = .int .i64 i ∧ Aside0 (∀ (m : Nat) (y : S27), m < i → ¬ (Wit l rs s.ca m y ∧ y.f1 ≤ s.en)) ∧ Aside0 (St w.heap.size wr (Blk g #[.int .i64 s.st, .string s.ti, .int .i64 s.op, .int .i64 s.en, .string s.ca.f0, .int .i64 s.ca.f1, .slice A5 s.pe.length k5, .slice A6 s.th.length k6, .int .i64 s.no] 40 :: Row k49 49 (.slice A5 s.pe.length k5) s.pe :: Row k51 51 (.slice A6 s.th.length k6) s.th :: Row (Kd.int .i64) 3 (.slice Ar l.length cr) rs :: Row k27 27 (.slice Ao l.length co) l :: Row k27 27 (.slice Ae (evs acts).length ce) (evs acts) :: [])) ∧ Aside0 (Below w.heap.size w wr)) (fun v6 _ => l.length - (intOf v6).toNat)
    case atStart => exact ⟨0, Nat.zero_le _, rfl, ⟨fun m y hm => absurd hm (Nat.not_lt_zero _)⟩, HS, HB⟩
    case round =>
      clear HS HB
      obtain ⟨i, hi, rfl, HM, HS, HB⟩ := hrel
      by_cases hlt0 : i < l.length
      · obtain ⟨go, co2, eo, _⟩ := St.row_some flat27 (HS.out.pick 4 rfl) (by omega)
        cases eo
        obtain ⟨gr, cr2, er, _⟩ := St.row_some flatI (HS.out.pick 3 rfl) (by omega)
        rw [hlen] at er
        cases er
        have hlr : Aside0 (i < rs.length) := ⟨by omega⟩
        have hlt := Aside0.mk hlt0
        obtain ⟨x, hx0⟩ : ∃ x, rd_T27 l (i : Int) = x := ⟨_, rfl⟩
        have hxl : Aside0 (l[i]? = some x) := ⟨by rw [← hx0]; simp [rd_T27, hlt0]⟩
        have hx := Aside0.mk hx0
        obtain ⟨r, hr0⟩ : ∃ r, rs[i]? = some r := ⟨rs[i]'(hlr.out), List.getElem?_eq_getElem hlr.out⟩
        have hr := Aside0.mk hr0
        have q1 : decide ((i : Int) < (l.length : Int)) = true := decide_eq_true (by omega)
        have q2 := eq_true (show (i : Int) < (l.length : Int) by omega)
        have q3 := eq_true (show (0 : Int) ≤ (i : Int) by omega)
        have hw : IntKind.i64.wrap ((i : Int) + 1) = (i : Int) + 1 := by rw [IntKind.wrap_i64]; omega
        clear hx0 hr0
        go_upto_region 11 with (fail)
        by_cases c1 : r = 0
        · have e1 : (r == 0) = true := by simpa using c1
          have k1 := Aside0.mk c1
          clear c1
          by_cases c2 : x.f2 = 4
          · have e2 : (x.f2 == 4) = true := by simpa using c2
            have k2 := Aside0.mk c2
            clear c2
            by_cases c3 : x.f3 = s.ca
            · have e3 : (x.f3.f0.toList == s.ca.f0.toList) = true := by rw [c3]; simp
              have e3b : (x.f3.f1 == s.ca.f1) = true := by rw [c3]; simp
              have e3c : decide (x.f3.f0.toList = s.ca.f0.toList) = true := by rw [c3]; simp
              have e3d : decide (x.f3.f1 = s.ca.f1) = true := by rw [c3]; simp
              have k3 := Aside0.mk c3
              clear c3
              by_cases c4 : x.f0.f0 = s.ca.f0
              · have q4 : (x.f0.f0.toList != s.ca.f0.toList) = false := by rw [c4]; simp
                have q4b : (x.f0.f0.toList == s.ca.f0.toList) = true := by rw [c4]; simp
                have k4 := Aside0.mk c4
                clear c4
                have n0_ := Aside0.mk (HS.out.drew); have n1_ := Aside0.mk (HB.out.drew); clear HS HB; have HS := n0_; have HB := n1_; clear n0_ n1_
                refine start_ (n := 45) (S := fun w' => w'.cell? ⟨gr, i, none⟩ = some (.int .i64 r) ∧ w'.cell? ⟨go, i * 9, none⟩ = some (.string x.f0.f0) ∧ w'.cell? ⟨go, i * 9 + 2, none⟩ = some (.int .i64 x.f1) ∧ w'.cell? ⟨go, i * 9 + 3, none⟩ = some (.int .i64 x.f2) ∧ w'.cell? ⟨go, i * 9 + 4, none⟩ = some (.string x.f3.f0) ∧ w'.cell? ⟨go, i * 9 + 5, none⟩ = some (.int .i64 x.f3.f1) ∧ w'.cell? ⟨g, 3, none⟩ = some (.int .i64 s.en) ∧ w'.cell? ⟨g, 4, none⟩ = some (.string s.ca.f0) ∧ w'.cell? ⟨g, 5, none⟩ = some (.int .i64 s.ca.f1)) (ds := []) (tfs true [0, 45]).toArray (by kernel_rfl) rfl rfl ⟨(rsCell (HS.out.pick 3 rfl) i hlr.out r hr.out), (evCells (HS.out.pick 4 rfl) i hlt.out x hx.out).1, (evCells (HS.out.pick 4 rfl) i hlt.out x hx.out).2.2.1, (evCells (HS.out.pick 4 rfl) i hlt.out x hx.out).2.2.2.1, (evCells (HS.out.pick 4 rfl) i hlt.out x hx.out).2.2.2.2.1, (evCells (HS.out.pick 4 rfl) i hlt.out x hx.out).2.2.2.2.2.1, ((HS.out.pick 0 rfl).cell 3).trans rfl, ((HS.out.pick 0 rfl).cell 4).trans rfl, ((HS.out.pick 0 rfl).cell 5).trans rfl⟩ (fun hHeld => ?_); refine with_tabW rsv.tab11 rsv.bits11 (fun HT_ HW_ => ?_)
                generalize wr.drew = wd at HS HB hHeld ⊢
                refine pU 0 41 (tfs true [1, 44]).toArray rfl rfl HT_ ?_
                refine pU 1 42 (tfs true [2, 43]).toArray rfl rfl HT_ ?_
                refine pU 2 43 (tfs true [3, 42]).toArray rfl rfl HT_ ?_
                refine tK 3 44 (tfs true [4, 41]).toArray rfl rfl HT_ HW_ hHeld ?_ (by rintro w' ⟨s0, s1, s2, s3, s4, s5, s6, s7, s8⟩; go_simp; with_reducible rfl)
                refine pU 4 45 (tfs true [5, 40]).toArray rfl rfl HT_ ?_
                refine pU 5 46 (tfs true [6, 39]).toArray rfl rfl HT_ ?_
                refine pU 6 47 (tfs true [7, 38]).toArray rfl rfl HT_ ?_
                refine pU 7 48 (tfs true [8, 37]).toArray rfl rfl HT_ ?_
                refine pU 8 49 (tfs true [9, 36]).toArray rfl rfl HT_ ?_
                refine pU 9 50 (tfs true [10, 35]).toArray rfl rfl HT_ ?_
                refine tK 10 51 (tfs true [11, 34]).toArray rfl rfl HT_ HW_ hHeld ?_ (by rintro w' ⟨s0, s1, s2, s3, s4, s5, s6, s7, s8⟩; go_simp; with_reducible rfl)
                refine pU 11 52 (tfs true [12, 33]).toArray rfl rfl HT_ ?_
                refine pU 12 53 (tfs true [13, 32]).toArray rfl rfl HT_ ?_
                refine pU 13 54 (tfs true [14, 31]).toArray rfl rfl HT_ ?_
                refine pU 14 55 (tfs true [15, 30]).toArray rfl rfl HT_ ?_
                refine pU 15 56 (tfs true [16, 29]).toArray rfl rfl HT_ ?_
                refine pU 16 57 (tfs true [17, 28]).toArray rfl rfl HT_ ?_
                refine pU 17 58 (tfs true [18, 27]).toArray rfl rfl HT_ ?_
                refine pU 19 60 (tfs true [18, 1, 1, 25]).toArray rfl rfl HT_ ?_
                refine tK 18 59 (tfs true [20, 25]).toArray rfl rfl HT_ HW_ hHeld ?_ (by rintro w' ⟨s0, s1, s2, s3, s4, s5, s6, s7, s8⟩; go_simp; with_reducible rfl)
                refine tK 20 61 (tfs true [21, 24]).toArray rfl rfl HT_ HW_ hHeld ?_ (by rintro w' ⟨s0, s1, s2, s3, s4, s5, s6, s7, s8⟩; go_simp; with_reducible rfl)
                refine pU 21 62 (tfs true [22, 23]).toArray rfl rfl HT_ ?_
                refine pU 22 63 (tfs true [23, 22]).toArray rfl rfl HT_ ?_
                refine pU 23 64 (tfs true [24, 21]).toArray rfl rfl HT_ ?_
                refine pU 24 65 (tfs true [25, 20]).toArray rfl rfl HT_ ?_
                refine pU 25 66 (tfs true [26, 19]).toArray rfl rfl HT_ ?_
                refine pU 26 67 (tfs true [27, 18]).toArray rfl rfl HT_ ?_
                refine pU 27 68 (tfs true [28, 17]).toArray rfl rfl HT_ ?_
                refine pU 28 69 (tfs true [29, 16]).toArray rfl rfl HT_ ?_
                refine pU 30 71 (tfs true [29, 1, 1, 14]).toArray rfl rfl HT_ ?_
                refine pU 31 72 (tfs true [29, 1, 2, 13]).toArray rfl rfl HT_ ?_
                refine tK 29 70 (tfs true [32, 13]).toArray rfl rfl HT_ HW_ hHeld ?_ (by rintro w' ⟨s0, s1, s2, s3, s4, s5, s6, s7, s8⟩; go_simp; with_reducible rfl)
                refine tK 32 73 (tfs true [33, 12]).toArray rfl rfl HT_ HW_ hHeld ?_ (by rintro w' ⟨s0, s1, s2, s3, s4, s5, s6, s7, s8⟩; go_simp; with_reducible rfl)
                refine pU 33 74 (tfs true [34, 11]).toArray rfl rfl HT_ ?_
                refine pU 34 75 (tfs true [35, 10]).toArray rfl rfl HT_ ?_
                refine pU 35 76 (tfs true [36, 9]).toArray rfl rfl HT_ ?_
                refine pO 36 (some 77) (tfs true [37, 8]).toArray rfl rfl HT_ ?_
                refine pO 37 (some 78) (tfs true [38, 7]).toArray rfl rfl HT_ ?_
                refine pO 38 (some 79) (tfs true [39, 6]).toArray rfl rfl HT_ ?_
                refine pO 39 (some 80) (tfs true [40, 5]).toArray rfl rfl HT_ ?_
                refine pO 40 (some 81) (tfs true [41, 4]).toArray rfl rfl HT_ ?_
                refine pO 41 (some 82) (tfs true [42, 3]).toArray rfl rfl HT_ ?_
                refine pO 42 (some 83) (tfs true [43, 2]).toArray rfl rfl HT_ ?_
                refine pO 43 (some 84) (tfs true [44, 1]).toArray rfl rfl HT_ ?_
                refine pU 44 85 (tfs true [45]).toArray rfl rfl HT_ ?_
                refine done_ (done_of HT_.out (by kernel_rfl)) ?_
                clear HT_ HW_
                try clear hHeld
                go_wp2
                go_roundw
                case rel =>
                  refine ⟨i + 1, by omega, by go_num, ⟨fun m y hm hwit => ?_⟩, HS, HB⟩
                  by_cases h : m < i
                  · exact HM.out m y h hwit
                  · obtain rfl : m = i := by omega
                    obtain ⟨⟨w1, w2, w3, w4, w5⟩, w6⟩ := hwit
                    have ey : y = x := by rw [hxl.out] at w2; exact (Option.some.inj w2).symm
                    subst ey
                    rw [hr.out] at w1
                    have er : r = 0 := Option.some.inj w1
                    exact absurd k4.out w5
                case measure => simp [intOf]; omega
              · have q4 : (x.f0.f0.toList != s.ca.f0.toList) = true := by simpa using (fun h => c4 (bytes_ext _ _ h) : ¬ x.f0.f0.toList = s.ca.f0.toList)
                have q4b : (x.f0.f0.toList == s.ca.f0.toList) = false := by simpa using (fun h => c4 (bytes_ext _ _ h) : ¬ x.f0.f0.toList = s.ca.f0.toList)
                have k4 := Aside0.mk c4
                clear c4
                by_cases c5 : x.f1 ≤ s.en
                · have q5 : decide (x.f1 ≤ s.en) = true := decide_eq_true c5
                  have n0_ := Aside0.mk (HS.out.drew); have n1_ := Aside0.mk (HB.out.drew); clear HS HB; have HS := n0_; have HB := n1_; clear n0_ n1_
                  refine start_ (n := 45) (S := fun w' => w'.cell? ⟨gr, i, none⟩ = some (.int .i64 r) ∧ w'.cell? ⟨go, i * 9, none⟩ = some (.string x.f0.f0) ∧ w'.cell? ⟨go, i * 9 + 2, none⟩ = some (.int .i64 x.f1) ∧ w'.cell? ⟨go, i * 9 + 3, none⟩ = some (.int .i64 x.f2) ∧ w'.cell? ⟨go, i * 9 + 4, none⟩ = some (.string x.f3.f0) ∧ w'.cell? ⟨go, i * 9 + 5, none⟩ = some (.int .i64 x.f3.f1) ∧ w'.cell? ⟨g, 3, none⟩ = some (.int .i64 s.en) ∧ w'.cell? ⟨g, 4, none⟩ = some (.string s.ca.f0) ∧ w'.cell? ⟨g, 5, none⟩ = some (.int .i64 s.ca.f1)) (ds := []) (tfs true [0, 45]).toArray (by kernel_rfl) rfl rfl ⟨(rsCell (HS.out.pick 3 rfl) i hlr.out r hr.out), (evCells (HS.out.pick 4 rfl) i hlt.out x hx.out).1, (evCells (HS.out.pick 4 rfl) i hlt.out x hx.out).2.2.1, (evCells (HS.out.pick 4 rfl) i hlt.out x hx.out).2.2.2.1, (evCells (HS.out.pick 4 rfl) i hlt.out x hx.out).2.2.2.2.1, (evCells (HS.out.pick 4 rfl) i hlt.out x hx.out).2.2.2.2.2.1, ((HS.out.pick 0 rfl).cell 3).trans rfl, ((HS.out.pick 0 rfl).cell 4).trans rfl, ((HS.out.pick 0 rfl).cell 5).trans rfl⟩ (fun hHeld => ?_); refine with_tabW rsv.tab11 rsv.bits11 (fun HT_ HW_ => ?_)
                  generalize wr.drew = wd at HS HB hHeld ⊢
                  refine pU 0 41 (tfs true [1, 44]).toArray rfl rfl HT_ ?_
                  refine pU 1 42 (tfs true [2, 43]).toArray rfl rfl HT_ ?_
                  refine pU 2 43 (tfs true [3, 42]).toArray rfl rfl HT_ ?_
                  refine tK 3 44 (tfs true [4, 41]).toArray rfl rfl HT_ HW_ hHeld ?_ (by rintro w' ⟨s0, s1, s2, s3, s4, s5, s6, s7, s8⟩; go_simp; with_reducible rfl)
                  refine pU 4 45 (tfs true [5, 40]).toArray rfl rfl HT_ ?_
                  refine pU 5 46 (tfs true [6, 39]).toArray rfl rfl HT_ ?_
                  refine pU 6 47 (tfs true [7, 38]).toArray rfl rfl HT_ ?_
                  refine pU 7 48 (tfs true [8, 37]).toArray rfl rfl HT_ ?_
                  refine pU 8 49 (tfs true [9, 36]).toArray rfl rfl HT_ ?_
                  refine pU 9 50 (tfs true [10, 35]).toArray rfl rfl HT_ ?_
                  refine tK 10 51 (tfs true [11, 34]).toArray rfl rfl HT_ HW_ hHeld ?_ (by rintro w' ⟨s0, s1, s2, s3, s4, s5, s6, s7, s8⟩; go_simp; with_reducible rfl)
                  refine pU 11 52 (tfs true [12, 33]).toArray rfl rfl HT_ ?_
                  refine pU 12 53 (tfs true [13, 32]).toArray rfl rfl HT_ ?_
                  refine pU 13 54 (tfs true [14, 31]).toArray rfl rfl HT_ ?_
                  refine pU 14 55 (tfs true [15, 30]).toArray rfl rfl HT_ ?_
                  refine pU 15 56 (tfs true [16, 29]).toArray rfl rfl HT_ ?_
                  refine pU 16 57 (tfs true [17, 28]).toArray rfl rfl HT_ ?_
                  refine pU 17 58 (tfs true [18, 27]).toArray rfl rfl HT_ ?_
                  refine pU 19 60 (tfs true [18, 1, 1, 25]).toArray rfl rfl HT_ ?_
                  refine tK 18 59 (tfs true [20, 25]).toArray rfl rfl HT_ HW_ hHeld ?_ (by rintro w' ⟨s0, s1, s2, s3, s4, s5, s6, s7, s8⟩; go_simp; with_reducible rfl)
                  refine tK 20 61 (tfs true [21, 24]).toArray rfl rfl HT_ HW_ hHeld ?_ (by rintro w' ⟨s0, s1, s2, s3, s4, s5, s6, s7, s8⟩; go_simp; with_reducible rfl)
                  refine pU 21 62 (tfs true [22, 23]).toArray rfl rfl HT_ ?_
                  refine pU 22 63 (tfs true [23, 22]).toArray rfl rfl HT_ ?_
                  refine pU 23 64 (tfs true [24, 21]).toArray rfl rfl HT_ ?_
                  refine pU 24 65 (tfs true [25, 20]).toArray rfl rfl HT_ ?_
                  refine pU 25 66 (tfs true [26, 19]).toArray rfl rfl HT_ ?_
                  refine pU 26 67 (tfs true [27, 18]).toArray rfl rfl HT_ ?_
                  refine pU 27 68 (tfs true [28, 17]).toArray rfl rfl HT_ ?_
                  refine pU 28 69 (tfs true [29, 16]).toArray rfl rfl HT_ ?_
                  refine pU 30 71 (tfs true [29, 1, 1, 14]).toArray rfl rfl HT_ ?_
                  refine pU 31 72 (tfs true [29, 1, 2, 13]).toArray rfl rfl HT_ ?_
                  refine tK 29 70 (tfs true [32, 13]).toArray rfl rfl HT_ HW_ hHeld ?_ (by rintro w' ⟨s0, s1, s2, s3, s4, s5, s6, s7, s8⟩; go_simp; with_reducible rfl)
                  refine tK 32 73 (tfs true [33, 12]).toArray rfl rfl HT_ HW_ hHeld ?_ (by rintro w' ⟨s0, s1, s2, s3, s4, s5, s6, s7, s8⟩; go_simp; with_reducible rfl)
                  refine pU 33 74 (tfs true [34, 11]).toArray rfl rfl HT_ ?_
                  refine pU 34 75 (tfs true [35, 10]).toArray rfl rfl HT_ ?_
                  refine pU 35 76 (tfs true [36, 9]).toArray rfl rfl HT_ ?_
                  refine pU 36 77 (tfs true [37, 8]).toArray rfl rfl HT_ ?_
                  refine pU 37 78 (tfs true [38, 7]).toArray rfl rfl HT_ ?_
                  refine pU 38 79 (tfs true [39, 6]).toArray rfl rfl HT_ ?_
                  refine pU 39 80 (tfs true [40, 5]).toArray rfl rfl HT_ ?_
                  refine pU 41 82 (tfs true [40, 1, 1, 3]).toArray rfl rfl HT_ ?_
                  refine tK 40 81 (tfs true [42, 3]).toArray rfl rfl HT_ HW_ hHeld ?_ (by rintro w' ⟨s0, s1, s2, s3, s4, s5, s6, s7, s8⟩; go_simp; with_reducible rfl)
                  refine tK 42 83 (tfs true [43, 2]).toArray rfl rfl HT_ HW_ hHeld ?_ (by rintro w' ⟨s0, s1, s2, s3, s4, s5, s6, s7, s8⟩; go_simp; with_reducible rfl)
                  refine pU 43 84 (tfs true [44, 1]).toArray rfl rfl HT_ ?_
                  refine pU 44 85 (tfs true [45]).toArray rfl rfl HT_ ?_
                  refine done_ (done_of HT_.out (by kernel_rfl)) ?_
                  clear HT_ HW_
                  try clear hHeld
                  go_wp2
                  go_ret
                  exact ⟨rfl, HB.out⟩
                · have q5 : decide (x.f1 ≤ s.en) = false := decide_eq_false c5
                  have k5_ := Aside0.mk c5
                  clear c5
                  have n0_ := Aside0.mk (HS.out.drew); have n1_ := Aside0.mk (HB.out.drew); clear HS HB; have HS := n0_; have HB := n1_; clear n0_ n1_
                  refine start_ (n := 45) (S := fun w' => w'.cell? ⟨gr, i, none⟩ = some (.int .i64 r) ∧ w'.cell? ⟨go, i * 9, none⟩ = some (.string x.f0.f0) ∧ w'.cell? ⟨go, i * 9 + 2, none⟩ = some (.int .i64 x.f1) ∧ w'.cell? ⟨go, i * 9 + 3, none⟩ = some (.int .i64 x.f2) ∧ w'.cell? ⟨go, i * 9 + 4, none⟩ = some (.string x.f3.f0) ∧ w'.cell? ⟨go, i * 9 + 5, none⟩ = some (.int .i64 x.f3.f1) ∧ w'.cell? ⟨g, 3, none⟩ = some (.int .i64 s.en) ∧ w'.cell? ⟨g, 4, none⟩ = some (.string s.ca.f0) ∧ w'.cell? ⟨g, 5, none⟩ = some (.int .i64 s.ca.f1)) (ds := []) (tfs true [0, 45]).toArray (by kernel_rfl) rfl rfl ⟨(rsCell (HS.out.pick 3 rfl) i hlr.out r hr.out), (evCells (HS.out.pick 4 rfl) i hlt.out x hx.out).1, (evCells (HS.out.pick 4 rfl) i hlt.out x hx.out).2.2.1, (evCells (HS.out.pick 4 rfl) i hlt.out x hx.out).2.2.2.1, (evCells (HS.out.pick 4 rfl) i hlt.out x hx.out).2.2.2.2.1, (evCells (HS.out.pick 4 rfl) i hlt.out x hx.out).2.2.2.2.2.1, ((HS.out.pick 0 rfl).cell 3).trans rfl, ((HS.out.pick 0 rfl).cell 4).trans rfl, ((HS.out.pick 0 rfl).cell 5).trans rfl⟩ (fun hHeld => ?_); refine with_tabW rsv.tab11 rsv.bits11 (fun HT_ HW_ => ?_)
                  generalize wr.drew = wd at HS HB hHeld ⊢
                  refine pU 0 41 (tfs true [1, 44]).toArray rfl rfl HT_ ?_
                  refine pU 1 42 (tfs true [2, 43]).toArray rfl rfl HT_ ?_
                  refine pU 2 43 (tfs true [3, 42]).toArray rfl rfl HT_ ?_
                  refine tK 3 44 (tfs true [4, 41]).toArray rfl rfl HT_ HW_ hHeld ?_ (by rintro w' ⟨s0, s1, s2, s3, s4, s5, s6, s7, s8⟩; go_simp; with_reducible rfl)
                  refine pU 4 45 (tfs true [5, 40]).toArray rfl rfl HT_ ?_
                  refine pU 5 46 (tfs true [6, 39]).toArray rfl rfl HT_ ?_
                  refine pU 6 47 (tfs true [7, 38]).toArray rfl rfl HT_ ?_
                  refine pU 7 48 (tfs true [8, 37]).toArray rfl rfl HT_ ?_
                  refine pU 8 49 (tfs true [9, 36]).toArray rfl rfl HT_ ?_
                  refine pU 9 50 (tfs true [10, 35]).toArray rfl rfl HT_ ?_
                  refine tK 10 51 (tfs true [11, 34]).toArray rfl rfl HT_ HW_ hHeld ?_ (by rintro w' ⟨s0, s1, s2, s3, s4, s5, s6, s7, s8⟩; go_simp; with_reducible rfl)
                  refine pU 11 52 (tfs true [12, 33]).toArray rfl rfl HT_ ?_
                  refine pU 12 53 (tfs true [13, 32]).toArray rfl rfl HT_ ?_
                  refine pU 13 54 (tfs true [14, 31]).toArray rfl rfl HT_ ?_
                  refine pU 14 55 (tfs true [15, 30]).toArray rfl rfl HT_ ?_
                  refine pU 15 56 (tfs true [16, 29]).toArray rfl rfl HT_ ?_
                  refine pU 16 57 (tfs true [17, 28]).toArray rfl rfl HT_ ?_
                  refine pU 17 58 (tfs true [18, 27]).toArray rfl rfl HT_ ?_
                  refine pU 19 60 (tfs true [18, 1, 1, 25]).toArray rfl rfl HT_ ?_
                  refine tK 18 59 (tfs true [20, 25]).toArray rfl rfl HT_ HW_ hHeld ?_ (by rintro w' ⟨s0, s1, s2, s3, s4, s5, s6, s7, s8⟩; go_simp; with_reducible rfl)
                  refine tK 20 61 (tfs true [21, 24]).toArray rfl rfl HT_ HW_ hHeld ?_ (by rintro w' ⟨s0, s1, s2, s3, s4, s5, s6, s7, s8⟩; go_simp; with_reducible rfl)
                  refine pU 21 62 (tfs true [22, 23]).toArray rfl rfl HT_ ?_
                  refine pU 22 63 (tfs true [23, 22]).toArray rfl rfl HT_ ?_
                  refine pU 23 64 (tfs true [24, 21]).toArray rfl rfl HT_ ?_
                  refine pU 24 65 (tfs true [25, 20]).toArray rfl rfl HT_ ?_
                  refine pU 25 66 (tfs true [26, 19]).toArray rfl rfl HT_ ?_
                  refine pU 26 67 (tfs true [27, 18]).toArray rfl rfl HT_ ?_
                  refine pU 27 68 (tfs true [28, 17]).toArray rfl rfl HT_ ?_
                  refine pU 28 69 (tfs true [29, 16]).toArray rfl rfl HT_ ?_
                  refine pU 30 71 (tfs true [29, 1, 1, 14]).toArray rfl rfl HT_ ?_
                  refine pU 31 72 (tfs true [29, 1, 2, 13]).toArray rfl rfl HT_ ?_
                  refine tK 29 70 (tfs true [32, 13]).toArray rfl rfl HT_ HW_ hHeld ?_ (by rintro w' ⟨s0, s1, s2, s3, s4, s5, s6, s7, s8⟩; go_simp; with_reducible rfl)
                  refine tK 32 73 (tfs true [33, 12]).toArray rfl rfl HT_ HW_ hHeld ?_ (by rintro w' ⟨s0, s1, s2, s3, s4, s5, s6, s7, s8⟩; go_simp; with_reducible rfl)
                  refine pU 33 74 (tfs true [34, 11]).toArray rfl rfl HT_ ?_
                  refine pU 34 75 (tfs true [35, 10]).toArray rfl rfl HT_ ?_
                  refine pU 35 76 (tfs true [36, 9]).toArray rfl rfl HT_ ?_
                  refine pU 36 77 (tfs true [37, 8]).toArray rfl rfl HT_ ?_
                  refine pU 37 78 (tfs true [38, 7]).toArray rfl rfl HT_ ?_
                  refine pU 38 79 (tfs true [39, 6]).toArray rfl rfl HT_ ?_
                  refine pU 39 80 (tfs true [40, 5]).toArray rfl rfl HT_ ?_
                  refine pU 41 82 (tfs true [40, 1, 1, 3]).toArray rfl rfl HT_ ?_
                  refine tK 40 81 (tfs true [42, 3]).toArray rfl rfl HT_ HW_ hHeld ?_ (by rintro w' ⟨s0, s1, s2, s3, s4, s5, s6, s7, s8⟩; go_simp; with_reducible rfl)
                  refine tK 42 83 (tfs true [43, 2]).toArray rfl rfl HT_ HW_ hHeld ?_ (by rintro w' ⟨s0, s1, s2, s3, s4, s5, s6, s7, s8⟩; go_simp; with_reducible rfl)
                  refine pU 43 84 (tfs true [44, 1]).toArray rfl rfl HT_ ?_
                  refine pU 44 85 (tfs true [45]).toArray rfl rfl HT_ ?_
                  refine done_ (done_of HT_.out (by kernel_rfl)) ?_
                  clear HT_ HW_
                  try clear hHeld
                  go_wp2
                  go_roundw
                  case rel =>
                    refine ⟨i + 1, by omega, by go_num, ⟨fun m y hm hwit => ?_⟩, HS, HB⟩
                    by_cases h : m < i
                    · exact HM.out m y h hwit
                    · obtain rfl : m = i := by omega
                      obtain ⟨⟨w1, w2, w3, w4, w5⟩, w6⟩ := hwit
                      have ey : y = x := by rw [hxl.out] at w2; exact (Option.some.inj w2).symm
                      subst ey
                      rw [hr.out] at w1
                      have er : r = 0 := Option.some.inj w1
                      exact absurd w6 k5_.out
                  case measure => simp [intOf]; omega
            · by_cases d3 : x.f3.f0.toList = s.ca.f0.toList
              · have e3 : (x.f3.f0.toList == s.ca.f0.toList) = true := by simpa using d3
                have d4 : ¬ x.f3.f1 = s.ca.f1 := fun h => c3 (by obtain ⟨⟨p1, p2⟩, _, _, ⟨p3, p4⟩, _, _, _⟩ := x; obtain ⟨_, _, _, _, ⟨p5, p6⟩, _, _, _⟩ := s; simp only at d3 h ⊢; rw [bytes_ext _ _ d3, h])
                have e3b : (x.f3.f1 == s.ca.f1) = false := by simpa using d4
                have k3 := Aside0.mk c3
                have k3b := Aside0.mk d3
                have k3c := Aside0.mk d4
                clear c3 d3 d4
                have n0_ := Aside0.mk (HS.out.drew); have n1_ := Aside0.mk (HB.out.drew); clear HS HB; have HS := n0_; have HB := n1_; clear n0_ n1_
                refine start_ (n := 45) (S := fun w' => w'.cell? ⟨gr, i, none⟩ = some (.int .i64 r) ∧ w'.cell? ⟨go, i * 9, none⟩ = some (.string x.f0.f0) ∧ w'.cell? ⟨go, i * 9 + 2, none⟩ = some (.int .i64 x.f1) ∧ w'.cell? ⟨go, i * 9 + 3, none⟩ = some (.int .i64 x.f2) ∧ w'.cell? ⟨go, i * 9 + 4, none⟩ = some (.string x.f3.f0) ∧ w'.cell? ⟨go, i * 9 + 5, none⟩ = some (.int .i64 x.f3.f1) ∧ w'.cell? ⟨g, 3, none⟩ = some (.int .i64 s.en) ∧ w'.cell? ⟨g, 4, none⟩ = some (.string s.ca.f0) ∧ w'.cell? ⟨g, 5, none⟩ = some (.int .i64 s.ca.f1)) (ds := []) (tfs true [0, 45]).toArray (by kernel_rfl) rfl rfl ⟨(rsCell (HS.out.pick 3 rfl) i hlr.out r hr.out), (evCells (HS.out.pick 4 rfl) i hlt.out x hx.out).1, (evCells (HS.out.pick 4 rfl) i hlt.out x hx.out).2.2.1, (evCells (HS.out.pick 4 rfl) i hlt.out x hx.out).2.2.2.1, (evCells (HS.out.pick 4 rfl) i hlt.out x hx.out).2.2.2.2.1, (evCells (HS.out.pick 4 rfl) i hlt.out x hx.out).2.2.2.2.2.1, ((HS.out.pick 0 rfl).cell 3).trans rfl, ((HS.out.pick 0 rfl).cell 4).trans rfl, ((HS.out.pick 0 rfl).cell 5).trans rfl⟩ (fun hHeld => ?_); refine with_tabW rsv.tab11 rsv.bits11 (fun HT_ HW_ => ?_)
                generalize wr.drew = wd at HS HB hHeld ⊢
                refine pU 0 41 (tfs true [1, 44]).toArray rfl rfl HT_ ?_
                refine pU 1 42 (tfs true [2, 43]).toArray rfl rfl HT_ ?_
                refine pU 2 43 (tfs true [3, 42]).toArray rfl rfl HT_ ?_
                refine tK 3 44 (tfs true [4, 41]).toArray rfl rfl HT_ HW_ hHeld ?_ (by rintro w' ⟨s0, s1, s2, s3, s4, s5, s6, s7, s8⟩; go_simp; with_reducible rfl)
                refine pU 4 45 (tfs true [5, 40]).toArray rfl rfl HT_ ?_
                refine pU 5 46 (tfs true [6, 39]).toArray rfl rfl HT_ ?_
                refine pU 6 47 (tfs true [7, 38]).toArray rfl rfl HT_ ?_
                refine pU 7 48 (tfs true [8, 37]).toArray rfl rfl HT_ ?_
                refine pU 8 49 (tfs true [9, 36]).toArray rfl rfl HT_ ?_
                refine pU 9 50 (tfs true [10, 35]).toArray rfl rfl HT_ ?_
                refine tK 10 51 (tfs true [11, 34]).toArray rfl rfl HT_ HW_ hHeld ?_ (by rintro w' ⟨s0, s1, s2, s3, s4, s5, s6, s7, s8⟩; go_simp; with_reducible rfl)
                refine pU 11 52 (tfs true [12, 33]).toArray rfl rfl HT_ ?_
                refine pU 12 53 (tfs true [13, 32]).toArray rfl rfl HT_ ?_
                refine pU 13 54 (tfs true [14, 31]).toArray rfl rfl HT_ ?_
                refine pU 14 55 (tfs true [15, 30]).toArray rfl rfl HT_ ?_
                refine pU 15 56 (tfs true [16, 29]).toArray rfl rfl HT_ ?_
                refine pU 16 57 (tfs true [17, 28]).toArray rfl rfl HT_ ?_
                refine pU 17 58 (tfs true [18, 27]).toArray rfl rfl HT_ ?_
                refine pU 19 60 (tfs true [18, 1, 1, 25]).toArray rfl rfl HT_ ?_
                refine tK 18 59 (tfs true [20, 25]).toArray rfl rfl HT_ HW_ hHeld ?_ (by rintro w' ⟨s0, s1, s2, s3, s4, s5, s6, s7, s8⟩; go_simp; with_reducible rfl)
                refine tK 20 61 (tfs true [21, 24]).toArray rfl rfl HT_ HW_ hHeld ?_ (by rintro w' ⟨s0, s1, s2, s3, s4, s5, s6, s7, s8⟩; go_simp; with_reducible rfl)
                refine pU 21 62 (tfs true [22, 23]).toArray rfl rfl HT_ ?_
                refine pU 22 63 (tfs true [23, 22]).toArray rfl rfl HT_ ?_
                refine pU 23 64 (tfs true [24, 21]).toArray rfl rfl HT_ ?_
                refine pO 24 (some 65) (tfs true [25, 20]).toArray rfl rfl HT_ ?_
                refine pO 25 (some 66) (tfs true [26, 19]).toArray rfl rfl HT_ ?_
                refine pO 26 (some 67) (tfs true [27, 18]).toArray rfl rfl HT_ ?_
                refine pO 27 (some 68) (tfs true [28, 17]).toArray rfl rfl HT_ ?_
                refine pO 28 (some 69) (tfs true [29, 16]).toArray rfl rfl HT_ ?_
                refine pO 29 (some 70) (tfs true [30, 15]).toArray rfl rfl HT_ ?_
                refine pO 30 (some 71) (tfs true [31, 14]).toArray rfl rfl HT_ ?_
                refine pO 31 (some 72) (tfs true [32, 13]).toArray rfl rfl HT_ ?_
                refine pO 32 (some 73) (tfs true [33, 12]).toArray rfl rfl HT_ ?_
                refine pO 33 (some 74) (tfs true [34, 11]).toArray rfl rfl HT_ ?_
                refine pU 34 75 (tfs true [35, 10]).toArray rfl rfl HT_ ?_
                refine pU 35 76 (tfs true [36, 9]).toArray rfl rfl HT_ ?_
                refine pO 36 (some 77) (tfs true [37, 8]).toArray rfl rfl HT_ ?_
                refine pO 37 (some 78) (tfs true [38, 7]).toArray rfl rfl HT_ ?_
                refine pO 38 (some 79) (tfs true [39, 6]).toArray rfl rfl HT_ ?_
                refine pO 39 (some 80) (tfs true [40, 5]).toArray rfl rfl HT_ ?_
                refine pO 40 (some 81) (tfs true [41, 4]).toArray rfl rfl HT_ ?_
                refine pO 41 (some 82) (tfs true [42, 3]).toArray rfl rfl HT_ ?_
                refine pO 42 (some 83) (tfs true [43, 2]).toArray rfl rfl HT_ ?_
                refine pO 43 (some 84) (tfs true [44, 1]).toArray rfl rfl HT_ ?_
                refine pU 44 85 (tfs true [45]).toArray rfl rfl HT_ ?_
                refine done_ (done_of HT_.out (by kernel_rfl)) ?_
                clear HT_ HW_
                try clear hHeld
                go_wp2
                go_roundw
                case rel =>
                  refine ⟨i + 1, by omega, by go_num, ⟨fun m y hm hwit => ?_⟩, HS, HB⟩
                  by_cases h : m < i
                  · exact HM.out m y h hwit
                  · obtain rfl : m = i := by omega
                    obtain ⟨⟨w1, w2, w3, w4, w5⟩, w6⟩ := hwit
                    have ey : y = x := by rw [hxl.out] at w2; exact (Option.some.inj w2).symm
                    subst ey
                    rw [hr.out] at w1
                    have er : r = 0 := Option.some.inj w1
                    exact absurd w4 k3.out
                case measure => simp [intOf]; omega
              · have e3 : (x.f3.f0.toList == s.ca.f0.toList) = false := by simpa using d3
                have k3 := Aside0.mk c3
                have k3b := Aside0.mk d3
                clear c3 d3
                have n0_ := Aside0.mk (HS.out.drew); have n1_ := Aside0.mk (HB.out.drew); clear HS HB; have HS := n0_; have HB := n1_; clear n0_ n1_
                refine start_ (n := 45) (S := fun w' => w'.cell? ⟨gr, i, none⟩ = some (.int .i64 r) ∧ w'.cell? ⟨go, i * 9, none⟩ = some (.string x.f0.f0) ∧ w'.cell? ⟨go, i * 9 + 2, none⟩ = some (.int .i64 x.f1) ∧ w'.cell? ⟨go, i * 9 + 3, none⟩ = some (.int .i64 x.f2) ∧ w'.cell? ⟨go, i * 9 + 4, none⟩ = some (.string x.f3.f0) ∧ w'.cell? ⟨go, i * 9 + 5, none⟩ = some (.int .i64 x.f3.f1) ∧ w'.cell? ⟨g, 3, none⟩ = some (.int .i64 s.en) ∧ w'.cell? ⟨g, 4, none⟩ = some (.string s.ca.f0) ∧ w'.cell? ⟨g, 5, none⟩ = some (.int .i64 s.ca.f1)) (ds := []) (tfs true [0, 45]).toArray (by kernel_rfl) rfl rfl ⟨(rsCell (HS.out.pick 3 rfl) i hlr.out r hr.out), (evCells (HS.out.pick 4 rfl) i hlt.out x hx.out).1, (evCells (HS.out.pick 4 rfl) i hlt.out x hx.out).2.2.1, (evCells (HS.out.pick 4 rfl) i hlt.out x hx.out).2.2.2.1, (evCells (HS.out.pick 4 rfl) i hlt.out x hx.out).2.2.2.2.1, (evCells (HS.out.pick 4 rfl) i hlt.out x hx.out).2.2.2.2.2.1, ((HS.out.pick 0 rfl).cell 3).trans rfl, ((HS.out.pick 0 rfl).cell 4).trans rfl, ((HS.out.pick 0 rfl).cell 5).trans rfl⟩ (fun hHeld => ?_); refine with_tabW rsv.tab11 rsv.bits11 (fun HT_ HW_ => ?_)
                generalize wr.drew = wd at HS HB hHeld ⊢
                refine pU 0 41 (tfs true [1, 44]).toArray rfl rfl HT_ ?_
                refine pU 1 42 (tfs true [2, 43]).toArray rfl rfl HT_ ?_
                refine pU 2 43 (tfs true [3, 42]).toArray rfl rfl HT_ ?_
                refine tK 3 44 (tfs true [4, 41]).toArray rfl rfl HT_ HW_ hHeld ?_ (by rintro w' ⟨s0, s1, s2, s3, s4, s5, s6, s7, s8⟩; go_simp; with_reducible rfl)
                refine pU 4 45 (tfs true [5, 40]).toArray rfl rfl HT_ ?_
                refine pU 5 46 (tfs true [6, 39]).toArray rfl rfl HT_ ?_
                refine pU 6 47 (tfs true [7, 38]).toArray rfl rfl HT_ ?_
                refine pU 7 48 (tfs true [8, 37]).toArray rfl rfl HT_ ?_
                refine pU 8 49 (tfs true [9, 36]).toArray rfl rfl HT_ ?_
                refine pU 9 50 (tfs true [10, 35]).toArray rfl rfl HT_ ?_
                refine tK 10 51 (tfs true [11, 34]).toArray rfl rfl HT_ HW_ hHeld ?_ (by rintro w' ⟨s0, s1, s2, s3, s4, s5, s6, s7, s8⟩; go_simp; with_reducible rfl)
                refine pU 11 52 (tfs true [12, 33]).toArray rfl rfl HT_ ?_
                refine pU 12 53 (tfs true [13, 32]).toArray rfl rfl HT_ ?_
                refine pU 13 54 (tfs true [14, 31]).toArray rfl rfl HT_ ?_
                refine pU 14 55 (tfs true [15, 30]).toArray rfl rfl HT_ ?_
                refine pU 15 56 (tfs true [16, 29]).toArray rfl rfl HT_ ?_
                refine pU 16 57 (tfs true [17, 28]).toArray rfl rfl HT_ ?_
                refine pU 17 58 (tfs true [18, 27]).toArray rfl rfl HT_ ?_
                refine pU 19 60 (tfs true [18, 1, 1, 25]).toArray rfl rfl HT_ ?_
                refine tK 18 59 (tfs true [20, 25]).toArray rfl rfl HT_ HW_ hHeld ?_ (by rintro w' ⟨s0, s1, s2, s3, s4, s5, s6, s7, s8⟩; go_simp; with_reducible rfl)
                refine tK 20 61 (tfs true [21, 24]).toArray rfl rfl HT_ HW_ hHeld ?_ (by rintro w' ⟨s0, s1, s2, s3, s4, s5, s6, s7, s8⟩; go_simp; with_reducible rfl)
                refine pU 21 62 (tfs true [22, 23]).toArray rfl rfl HT_ ?_
                refine pU 22 63 (tfs true [23, 22]).toArray rfl rfl HT_ ?_
                refine pU 23 64 (tfs true [24, 21]).toArray rfl rfl HT_ ?_
                refine pO 24 (some 65) (tfs true [25, 20]).toArray rfl rfl HT_ ?_
                refine pO 25 (some 66) (tfs true [26, 19]).toArray rfl rfl HT_ ?_
                refine pO 26 (some 67) (tfs true [27, 18]).toArray rfl rfl HT_ ?_
                refine pO 27 (some 68) (tfs true [28, 17]).toArray rfl rfl HT_ ?_
                refine pO 28 (some 69) (tfs true [29, 16]).toArray rfl rfl HT_ ?_
                refine pO 29 (some 70) (tfs true [30, 15]).toArray rfl rfl HT_ ?_
                refine pO 30 (some 71) (tfs true [31, 14]).toArray rfl rfl HT_ ?_
                refine pO 31 (some 72) (tfs true [32, 13]).toArray rfl rfl HT_ ?_
                refine pO 32 (some 73) (tfs true [33, 12]).toArray rfl rfl HT_ ?_
                refine pO 33 (some 74) (tfs true [34, 11]).toArray rfl rfl HT_ ?_
                refine pU 34 75 (tfs true [35, 10]).toArray rfl rfl HT_ ?_
                refine pU 35 76 (tfs true [36, 9]).toArray rfl rfl HT_ ?_
                refine pO 36 (some 77) (tfs true [37, 8]).toArray rfl rfl HT_ ?_
                refine pO 37 (some 78) (tfs true [38, 7]).toArray rfl rfl HT_ ?_
                refine pO 38 (some 79) (tfs true [39, 6]).toArray rfl rfl HT_ ?_
                refine pO 39 (some 80) (tfs true [40, 5]).toArray rfl rfl HT_ ?_
                refine pO 40 (some 81) (tfs true [41, 4]).toArray rfl rfl HT_ ?_
                refine pO 41 (some 82) (tfs true [42, 3]).toArray rfl rfl HT_ ?_
                refine pO 42 (some 83) (tfs true [43, 2]).toArray rfl rfl HT_ ?_
                refine pO 43 (some 84) (tfs true [44, 1]).toArray rfl rfl HT_ ?_
                refine pU 44 85 (tfs true [45]).toArray rfl rfl HT_ ?_
                refine done_ (done_of HT_.out (by kernel_rfl)) ?_
                clear HT_ HW_
                try clear hHeld
                go_wp2
                go_roundw
                case rel =>
                  refine ⟨i + 1, by omega, by go_num, ⟨fun m y hm hwit => ?_⟩, HS, HB⟩
                  by_cases h : m < i
                  · exact HM.out m y h hwit
                  · obtain rfl : m = i := by omega
                    obtain ⟨⟨w1, w2, w3, w4, w5⟩, w6⟩ := hwit
                    have ey : y = x := by rw [hxl.out] at w2; exact (Option.some.inj w2).symm
                    subst ey
                    rw [hr.out] at w1
                    have er : r = 0 := Option.some.inj w1
                    exact absurd w4 k3.out
                case measure => simp [intOf]; omega
          · have e2 : (x.f2 == 4) = false := by simpa using c2
            have k2 := Aside0.mk c2
            clear c2
            have n0_ := Aside0.mk (HS.out.drew); have n1_ := Aside0.mk (HB.out.drew); clear HS HB; have HS := n0_; have HB := n1_; clear n0_ n1_
            refine start_ (n := 45) (S := fun w' => w'.cell? ⟨gr, i, none⟩ = some (.int .i64 r) ∧ w'.cell? ⟨go, i * 9, none⟩ = some (.string x.f0.f0) ∧ w'.cell? ⟨go, i * 9 + 2, none⟩ = some (.int .i64 x.f1) ∧ w'.cell? ⟨go, i * 9 + 3, none⟩ = some (.int .i64 x.f2) ∧ w'.cell? ⟨go, i * 9 + 4, none⟩ = some (.string x.f3.f0) ∧ w'.cell? ⟨go, i * 9 + 5, none⟩ = some (.int .i64 x.f3.f1) ∧ w'.cell? ⟨g, 3, none⟩ = some (.int .i64 s.en) ∧ w'.cell? ⟨g, 4, none⟩ = some (.string s.ca.f0) ∧ w'.cell? ⟨g, 5, none⟩ = some (.int .i64 s.ca.f1)) (ds := []) (tfs true [0, 45]).toArray (by kernel_rfl) rfl rfl ⟨(rsCell (HS.out.pick 3 rfl) i hlr.out r hr.out), (evCells (HS.out.pick 4 rfl) i hlt.out x hx.out).1, (evCells (HS.out.pick 4 rfl) i hlt.out x hx.out).2.2.1, (evCells (HS.out.pick 4 rfl) i hlt.out x hx.out).2.2.2.1, (evCells (HS.out.pick 4 rfl) i hlt.out x hx.out).2.2.2.2.1, (evCells (HS.out.pick 4 rfl) i hlt.out x hx.out).2.2.2.2.2.1, ((HS.out.pick 0 rfl).cell 3).trans rfl, ((HS.out.pick 0 rfl).cell 4).trans rfl, ((HS.out.pick 0 rfl).cell 5).trans rfl⟩ (fun hHeld => ?_); refine with_tabW rsv.tab11 rsv.bits11 (fun HT_ HW_ => ?_)
            generalize wr.drew = wd at HS HB hHeld ⊢
            refine pU 0 41 (tfs true [1, 44]).toArray rfl rfl HT_ ?_
            refine pU 1 42 (tfs true [2, 43]).toArray rfl rfl HT_ ?_
            refine pU 2 43 (tfs true [3, 42]).toArray rfl rfl HT_ ?_
            refine tK 3 44 (tfs true [4, 41]).toArray rfl rfl HT_ HW_ hHeld ?_ (by rintro w' ⟨s0, s1, s2, s3, s4, s5, s6, s7, s8⟩; go_simp; with_reducible rfl)
            refine pU 4 45 (tfs true [5, 40]).toArray rfl rfl HT_ ?_
            refine pU 5 46 (tfs true [6, 39]).toArray rfl rfl HT_ ?_
            refine pU 6 47 (tfs true [7, 38]).toArray rfl rfl HT_ ?_
            refine pU 7 48 (tfs true [8, 37]).toArray rfl rfl HT_ ?_
            refine pU 8 49 (tfs true [9, 36]).toArray rfl rfl HT_ ?_
            refine pU 9 50 (tfs true [10, 35]).toArray rfl rfl HT_ ?_
            refine tK 10 51 (tfs true [11, 34]).toArray rfl rfl HT_ HW_ hHeld ?_ (by rintro w' ⟨s0, s1, s2, s3, s4, s5, s6, s7, s8⟩; go_simp; with_reducible rfl)
            refine pU 11 52 (tfs true [12, 33]).toArray rfl rfl HT_ ?_
            refine pU 12 53 (tfs true [13, 32]).toArray rfl rfl HT_ ?_
            refine pU 13 54 (tfs true [14, 31]).toArray rfl rfl HT_ ?_
            refine pO 14 (some 55) (tfs true [15, 30]).toArray rfl rfl HT_ ?_
            refine pO 15 (some 56) (tfs true [16, 29]).toArray rfl rfl HT_ ?_
            refine pO 16 (some 57) (tfs true [17, 28]).toArray rfl rfl HT_ ?_
            refine pO 17 (some 58) (tfs true [18, 27]).toArray rfl rfl HT_ ?_
            refine pO 18 (some 59) (tfs true [19, 26]).toArray rfl rfl HT_ ?_
            refine pO 19 (some 60) (tfs true [20, 25]).toArray rfl rfl HT_ ?_
            refine pO 20 (some 61) (tfs true [21, 24]).toArray rfl rfl HT_ ?_
            refine pO 21 (some 62) (tfs true [22, 23]).toArray rfl rfl HT_ ?_
            refine pU 22 63 (tfs true [23, 22]).toArray rfl rfl HT_ ?_
            refine pU 23 64 (tfs true [24, 21]).toArray rfl rfl HT_ ?_
            refine pO 24 (some 65) (tfs true [25, 20]).toArray rfl rfl HT_ ?_
            refine pO 25 (some 66) (tfs true [26, 19]).toArray rfl rfl HT_ ?_
            refine pO 26 (some 67) (tfs true [27, 18]).toArray rfl rfl HT_ ?_
            refine pO 27 (some 68) (tfs true [28, 17]).toArray rfl rfl HT_ ?_
            refine pO 28 (some 69) (tfs true [29, 16]).toArray rfl rfl HT_ ?_
            refine pO 29 (some 70) (tfs true [30, 15]).toArray rfl rfl HT_ ?_
            refine pO 30 (some 71) (tfs true [31, 14]).toArray rfl rfl HT_ ?_
            refine pO 31 (some 72) (tfs true [32, 13]).toArray rfl rfl HT_ ?_
            refine pO 32 (some 73) (tfs true [33, 12]).toArray rfl rfl HT_ ?_
            refine pO 33 (some 74) (tfs true [34, 11]).toArray rfl rfl HT_ ?_
            refine pU 34 75 (tfs true [35, 10]).toArray rfl rfl HT_ ?_
            refine pU 35 76 (tfs true [36, 9]).toArray rfl rfl HT_ ?_
            refine pO 36 (some 77) (tfs true [37, 8]).toArray rfl rfl HT_ ?_
            refine pO 37 (some 78) (tfs true [38, 7]).toArray rfl rfl HT_ ?_
            refine pO 38 (some 79) (tfs true [39, 6]).toArray rfl rfl HT_ ?_
            refine pO 39 (some 80) (tfs true [40, 5]).toArray rfl rfl HT_ ?_
            refine pO 40 (some 81) (tfs true [41, 4]).toArray rfl rfl HT_ ?_
            refine pO 41 (some 82) (tfs true [42, 3]).toArray rfl rfl HT_ ?_
            refine pO 42 (some 83) (tfs true [43, 2]).toArray rfl rfl HT_ ?_
            refine pO 43 (some 84) (tfs true [44, 1]).toArray rfl rfl HT_ ?_
            refine pU 44 85 (tfs true [45]).toArray rfl rfl HT_ ?_
            refine done_ (done_of HT_.out (by kernel_rfl)) ?_
            clear HT_ HW_
            try clear hHeld
            go_wp2
            go_roundw
            case rel =>
              refine ⟨i + 1, by omega, by go_num, ⟨fun m y hm hwit => ?_⟩, HS, HB⟩
              by_cases h : m < i
              · exact HM.out m y h hwit
              · obtain rfl : m = i := by omega
                obtain ⟨⟨w1, w2, w3, w4, w5⟩, w6⟩ := hwit
                have ey : y = x := by rw [hxl.out] at w2; exact (Option.some.inj w2).symm
                subst ey
                rw [hr.out] at w1
                have er : r = 0 := Option.some.inj w1
                exact absurd w3 k2.out
            case measure => simp [intOf]; omega
        · have e1 : (r == 0) = false := by simpa using c1
          have k1 := Aside0.mk c1
          clear c1
          have n0_ := Aside0.mk (HS.out.drew); have n1_ := Aside0.mk (HB.out.drew); clear HS HB; have HS := n0_; have HB := n1_; clear n0_ n1_
          refine start_ (n := 45) (S := fun w' => w'.cell? ⟨gr, i, none⟩ = some (.int .i64 r) ∧ w'.cell? ⟨go, i * 9, none⟩ = some (.string x.f0.f0) ∧ w'.cell? ⟨go, i * 9 + 2, none⟩ = some (.int .i64 x.f1) ∧ w'.cell? ⟨go, i * 9 + 3, none⟩ = some (.int .i64 x.f2) ∧ w'.cell? ⟨go, i * 9 + 4, none⟩ = some (.string x.f3.f0) ∧ w'.cell? ⟨go, i * 9 + 5, none⟩ = some (.int .i64 x.f3.f1) ∧ w'.cell? ⟨g, 3, none⟩ = some (.int .i64 s.en) ∧ w'.cell? ⟨g, 4, none⟩ = some (.string s.ca.f0) ∧ w'.cell? ⟨g, 5, none⟩ = some (.int .i64 s.ca.f1)) (ds := []) (tfs true [0, 45]).toArray (by kernel_rfl) rfl rfl ⟨(rsCell (HS.out.pick 3 rfl) i hlr.out r hr.out), (evCells (HS.out.pick 4 rfl) i hlt.out x hx.out).1, (evCells (HS.out.pick 4 rfl) i hlt.out x hx.out).2.2.1, (evCells (HS.out.pick 4 rfl) i hlt.out x hx.out).2.2.2.1, (evCells (HS.out.pick 4 rfl) i hlt.out x hx.out).2.2.2.2.1, (evCells (HS.out.pick 4 rfl) i hlt.out x hx.out).2.2.2.2.2.1, ((HS.out.pick 0 rfl).cell 3).trans rfl, ((HS.out.pick 0 rfl).cell 4).trans rfl, ((HS.out.pick 0 rfl).cell 5).trans rfl⟩ (fun hHeld => ?_); refine with_tabW rsv.tab11 rsv.bits11 (fun HT_ HW_ => ?_)
          generalize wr.drew = wd at HS HB hHeld ⊢
          refine pU 0 41 (tfs true [1, 44]).toArray rfl rfl HT_ ?_
          refine pU 1 42 (tfs true [2, 43]).toArray rfl rfl HT_ ?_
          refine pU 2 43 (tfs true [3, 42]).toArray rfl rfl HT_ ?_
          refine tK 3 44 (tfs true [4, 41]).toArray rfl rfl HT_ HW_ hHeld ?_ (by rintro w' ⟨s0, s1, s2, s3, s4, s5, s6, s7, s8⟩; go_simp; with_reducible rfl)
          refine pU 4 45 (tfs true [5, 40]).toArray rfl rfl HT_ ?_
          refine pU 5 46 (tfs true [6, 39]).toArray rfl rfl HT_ ?_
          refine pO 6 (some 47) (tfs true [7, 38]).toArray rfl rfl HT_ ?_
          refine pO 7 (some 48) (tfs true [8, 37]).toArray rfl rfl HT_ ?_
          refine pO 8 (some 49) (tfs true [9, 36]).toArray rfl rfl HT_ ?_
          refine pO 9 (some 50) (tfs true [10, 35]).toArray rfl rfl HT_ ?_
          refine pO 10 (some 51) (tfs true [11, 34]).toArray rfl rfl HT_ ?_
          refine pO 11 (some 52) (tfs true [12, 33]).toArray rfl rfl HT_ ?_
          refine pU 12 53 (tfs true [13, 32]).toArray rfl rfl HT_ ?_
          refine pU 13 54 (tfs true [14, 31]).toArray rfl rfl HT_ ?_
          refine pO 14 (some 55) (tfs true [15, 30]).toArray rfl rfl HT_ ?_
          refine pO 15 (some 56) (tfs true [16, 29]).toArray rfl rfl HT_ ?_
          refine pO 16 (some 57) (tfs true [17, 28]).toArray rfl rfl HT_ ?_
          refine pO 17 (some 58) (tfs true [18, 27]).toArray rfl rfl HT_ ?_
          refine pO 18 (some 59) (tfs true [19, 26]).toArray rfl rfl HT_ ?_
          refine pO 19 (some 60) (tfs true [20, 25]).toArray rfl rfl HT_ ?_
          refine pO 20 (some 61) (tfs true [21, 24]).toArray rfl rfl HT_ ?_
          refine pO 21 (some 62) (tfs true [22, 23]).toArray rfl rfl HT_ ?_
          refine pU 22 63 (tfs true [23, 22]).toArray rfl rfl HT_ ?_
          refine pU 23 64 (tfs true [24, 21]).toArray rfl rfl HT_ ?_
          refine pO 24 (some 65) (tfs true [25, 20]).toArray rfl rfl HT_ ?_
          refine pO 25 (some 66) (tfs true [26, 19]).toArray rfl rfl HT_ ?_
          refine pO 26 (some 67) (tfs true [27, 18]).toArray rfl rfl HT_ ?_
          refine pO 27 (some 68) (tfs true [28, 17]).toArray rfl rfl HT_ ?_
          refine pO 28 (some 69) (tfs true [29, 16]).toArray rfl rfl HT_ ?_
          refine pO 29 (some 70) (tfs true [30, 15]).toArray rfl rfl HT_ ?_
          refine pO 30 (some 71) (tfs true [31, 14]).toArray rfl rfl HT_ ?_
          refine pO 31 (some 72) (tfs true [32, 13]).toArray rfl rfl HT_ ?_
          refine pO 32 (some 73) (tfs true [33, 12]).toArray rfl rfl HT_ ?_
          refine pO 33 (some 74) (tfs true [34, 11]).toArray rfl rfl HT_ ?_
          refine pU 34 75 (tfs true [35, 10]).toArray rfl rfl HT_ ?_
          refine pU 35 76 (tfs true [36, 9]).toArray rfl rfl HT_ ?_
          refine pO 36 (some 77) (tfs true [37, 8]).toArray rfl rfl HT_ ?_
          refine pO 37 (some 78) (tfs true [38, 7]).toArray rfl rfl HT_ ?_
          refine pO 38 (some 79) (tfs true [39, 6]).toArray rfl rfl HT_ ?_
          refine pO 39 (some 80) (tfs true [40, 5]).toArray rfl rfl HT_ ?_
          refine pO 40 (some 81) (tfs true [41, 4]).toArray rfl rfl HT_ ?_
          refine pO 41 (some 82) (tfs true [42, 3]).toArray rfl rfl HT_ ?_
          refine pO 42 (some 83) (tfs true [43, 2]).toArray rfl rfl HT_ ?_
          refine pO 43 (some 84) (tfs true [44, 1]).toArray rfl rfl HT_ ?_
          refine pU 44 85 (tfs true [45]).toArray rfl rfl HT_ ?_
          refine done_ (done_of HT_.out (by kernel_rfl)) ?_
          clear HT_ HW_
          try clear hHeld
          go_wp2
          go_roundw
          case rel =>
            refine ⟨i + 1, by omega, by go_num, ⟨fun m y hm hwit => ?_⟩, HS, HB⟩
            by_cases h : m < i
            · exact HM.out m y h hwit
            · obtain rfl : m = i := by omega
              obtain ⟨⟨w1, w2, w3, w4, w5⟩, w6⟩ := hwit
              have ey : y = x := by rw [hxl.out] at w2; exact (Option.some.inj w2).symm
              subst ey
              rw [hr.out] at w1
              have er : r = 0 := Option.some.inj w1
              exact absurd er k1.out
          case measure => simp [intOf]; omega
      · obtain rfl : i = l.length := by omega
        exact absurd hww.out (HM.out iw xw (List.getElem?_eq_some_iff.mp hww.out.1.2.1).1)
  · have hf := hinv.out.fresh h3
    have p0 : w6.cell? ⟨g, 0, none⟩ = some (.int .i64 s.st) := ((HS.out.pick 0 rfl).cell 0).trans rfl
    have p4 : w6.cell? ⟨g, 4, none⟩ = some (.string ⟨#[]⟩) := ((HS.out.pick 0 rfl).cell 4).trans (show _ = some (Value.string ⟨#[]⟩) by rw [show (⟨#[]⟩ : ByteArray) = s.ca.f0 by rw [hf.1]; rfl]; rfl)
    have p5 : w6.cell? ⟨g, 5, none⟩ = some (.int .i64 0) := ((HS.out.pick 0 rfl).cell 5).trans (show _ = some (Value.int .i64 0) by rw [show (0 : Int) = s.ca.f1 by rw [hf.1]; rfl]; rfl)
    have p3 : w6.cell? ⟨g, 3, none⟩ = some (.int .i64 0) := ((HS.out.pick 0 rfl).cell 3).trans (show _ = some (Value.int .i64 0) by rw [show (0 : Int) = s.en by rw [hf.2]]; rfl)
    have n3 : (s.st != 3) = true := by simpa using h3
    have n3b : (s.st == 3) = false := by simpa using h3
    have n3c : decide (s.st = 3) = false := decide_eq_false h3
    replace h3 := Aside0.mk h3
    clear hf
    go_wp2
    go_ret
    exact ⟨rfl, HB.out⟩

end Go.Proofs.Ytcjfgejiknlpfaa.PI
