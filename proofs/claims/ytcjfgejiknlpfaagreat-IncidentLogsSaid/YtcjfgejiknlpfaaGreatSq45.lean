/- The law IncidentLogs walked. -/
import Derived.Test.YtcjfgejiknlpfaaGreatSetP
import Derived.Test.YtcjfgejiknlpfaaGreatSq33
import Derived.Test.YtcjfgejiknlpfaaGreatSq38
namespace Go.Proofs.YtcjfgejiknlpfaaGreat.PI
open Go.RowKit Go.Proofs.YtcjfgejiknlpfaaGreatW.PrintWords Go.Proofs.YtcjfgejiknlpfaaGreatW.PrintLast Go.Proofs.YtcjfgejiknlpfaaGreatW.PrintMore Go.Proofs.YtcjfgejiknlpfaaGreat.Sep
set_option linter.unusedVariables false
set_option linter.unusedSimpArgs false
set_option maxHeartbeats 8000000
set_option maxRecDepth 100000

theorem St.firstTwo {N : Nat} {w : World} {L : List Res} {a b : Res} (h : St N w (a :: b :: L)) : St N w (a :: b :: []) := by
  obtain ⟨G, g0, g1, H, h0, h1, _⟩ := h.own
  exact ⟨h.size, G, g0, g1, H, h0, h1, trivial⟩

def lgs.T9 : Bool × List (List Nat × List Nat) := (true, [([], []), ([0], [0]), ([], []), ([2, 1], [2]), ([1, 3, 3], [1, 3]), ([4], [4]), ([5, 4], [5]), ([6], [6]), ([7, 6, 6], [6, 7]), ([6], [6]), ([8, 9, 8, 6], [6, 8, 9]), ([10, 6], [6, 10]), ([6, 11], [6, 11])])
def lgs.B9 : List Nat := [0, 1, 0, 7, 15, 31, 63, 127, 255, 127, 1023, 2047, 4095]
theorem lgs.tab9 : rtab .any (opsOf Tryz.f3 9) = lgs.T9 := by kernel_rfl
theorem lgs.bits9 : waitsOk lgs.T9.2 lgs.B9 = true := by kernel_rfl
def lgs.T22 : Bool × List (List Nat × List Nat) := (true, [([], []), ([], []), ([0, 1], [0, 1]), ([2], [2]), ([3], [3]), ([], []), ([4, 5], [4, 5])])
def lgs.B22 : List Nat := [0, 0, 3, 7, 15, 0, 63]
theorem lgs.tab22 : rtab .any (opsOf Tryz.f3 22) = lgs.T22 := by kernel_rfl
theorem lgs.bits22 : waitsOk lgs.T22.2 lgs.B22 = true := by kernel_rfl
def lgs.T25 : Bool × List (List Nat × List Nat) := (true, [([], []), ([], []), ([1], [1]), ([0, 2], [0, 2]), ([3], [3]), ([4], [4]), ([4], [4]), ([5, 6, 4], [4, 5, 6]), ([7, 4], [4, 7]), ([4], [4]), ([8, 9, 4], [4, 8, 9]), ([4, 10], [4, 10])])
def lgs.B25 : List Nat := [0, 0, 2, 7, 15, 31, 31, 127, 255, 31, 1023, 2047]
theorem lgs.tab25 : rtab .any (opsOf Tryz.f3 25) = lgs.T25 := by kernel_rfl
theorem lgs.bits25 : waitsOk lgs.T25.2 lgs.B25 = true := by kernel_rfl
theorem eqK (d : Nat) (w : World) (x y : S33) : (Op.equalIn (d + 2) 33 (.agg #[.string x.f0, .int .i64 x.f1]) (.agg #[.string y.f0, .int .i64 y.f1])).run Tryz.prog w = .ok (decide (x = y)) w := by
  rw [eqA33, bytes_iff_]
  congr 1
  obtain ⟨a, b⟩ := x
  obtain ⟨c, e⟩ := y
  by_cases h1 : a = c <;> by_cases h2 : b = e <;> simp [h1, h2]
attribute [local go_sem high] eqK
theorem set_ok (A : Option Addr) (c : Nat) (l : List S50) (hl : l.length ≤ 100000) {N : Nat} {w : World} {L : List Res} (hC : k50.C w A l.length l) (hc : l.length ≤ c) (HS : St N w L) :
    Calls Tryz.prog 9 #[.slice A l.length c] w fun e w' => ∃ v, e = .returned v ∧ St N w' (Row k50 50 v (st l) :: L) ∧ Below N w w' := by
  obtain ⟨k, hk⟩ := set_is l hl
  refine (sleuthlaw51_set.calls k A c l (st l) w hC hc hk).mono ?_
  rintro e w' ⟨v, rfl, hr, hb⟩
  exact ⟨v, rfl, HS.made hr hb, hb.mono HS.size⟩
theorem kyCel {N : Nat} {w : World} {L : List Res} {g n cap : Nat} {l : List S33} (h : St N w (Row k33 33 (.slice (some ⟨g, 0, none⟩) n cap) l :: L)) (j : Nat) (hj : j < l.length) (x : S33) (hx : l[j]? = some x) :
    w.cell? ⟨g, j * 2, none⟩ = some (.string x.f0) ∧ w.cell? ⟨g, j * 2 + 1, none⟩ = some (.int .i64 x.f1) := by
  have e : rd_T33 l (j : Int) = x := by unfold rd_T33; rw [Int.toNat_natCast, List.getD_eq_getElem?_getD, hx]; rfl
  subst e
  obtain ⟨ad, ea, x0, x1⟩ := at_T33 h.rowC.2.2 (j : Int) (by omega) (by have := h.rowC.1; omega)
  cases ea
  rw [Int.toNat_natCast, Addr.add_lit, Nat.zero_add] at x0 x1
  exact ⟨x0, x1⟩
theorem cnt_next (D : List S50) (q : Nat) (h : q < D.length) (k : S33) : ((D.take (q + 1)).map (·.f0)).count k = ((D.take q).map (·.f0)).count k + (if (rd_T50 D (q : Int)).f0 = k then 1 else 0) := by
  rw [take_rd D q h, List.map_append, List.count_append]
  congr 1
  rw [List.map_cons, List.map_nil, List.count_singleton]
  by_cases hk : (rd_T50 D (q : Int)).f0 = k <;> simp [hk]
theorem cnt_le (D : List S50) (q : Nat) (k : S33) : ((D.take q).map (·.f0)).count k ≤ D.length := by
  have := List.count_le_length (a := k) (l := (D.take q).map (·.f0))
  rw [List.length_map, List.length_take] at this
  omega
theorem evs_key (l : List S61) : ∀ x ∈ evs l, x.f0 ∈ K18 := by
  intro x hx
  obtain ⟨a, _, rfl⟩ := List.mem_map.mp hx
  exact key_in a
theorem logs_walk (A : Option Addr) (c : Nat) (acts : List S61) (hu0 : ∀ a ∈ acts, U8s a) (A' : Option Addr) (c' : Nat) (acts2 : List S61) (hu20 : ∀ a ∈ acts2, U8s a) (w : World) (hc : Kd.C k61 w A acts.length acts) (hc2 : Kd.C k61 w A' acts2.length acts2) :
    Calls Tryz.prog 3 #[.slice A acts.length c, .slice A' acts2.length c'] w fun r w' => r = .returned (.bool true) ∧ Below w.heap.size w w' := by
  have HS := Aside0.mk (St.none_ (N := w.heap.size) (w := w) (Nat.le_refl _))
  have HB := Aside0.mk (Below.refl w.heap.size w)
  have HC := Aside0.mk hc
  have HC2 := Aside0.mk hc2
  have hu := Aside0.mk hu0
  have hu2 := Aside0.mk hu20
  clear hc hu0 hc2 hu20
  have hl24 := Aside0.mk (evs_len acts)
  have hev := Aside0.mk (evs_ok acts)
  have hke := Aside0.mk (evs_key acts)
  have her : Aside0 (∀ x ∈ evs acts, Fine x) := ⟨fun x hx => evs_err acts 0 (by decide) x (by rw [show (evs acts).map (later 0) = evs acts from (List.map_congr_left (fun x _ => later_zero x)).trans (List.map_id _)]; exact hx)⟩
  have hm24 := Aside0.mk (evs_len acts2)
  have hev2 := Aside0.mk (evs_ok acts2)
  have hke2 := Aside0.mk (evs_key acts2)
  have her2 : Aside0 (∀ x ∈ evs acts2, Fine x) := ⟨fun x hx => evs_err acts2 0 (by decide) x (by rw [show (evs acts2).map (later 0) = evs acts2 from (List.map_congr_left (fun x _ => later_zero x)).trans (List.map_id _)]; exact hx)⟩
  go_enter Tryz.func3, Tryz.ntmps3
  go_upto_region 3 with (first | (go_at_call 5; (with_reducible refine (New_ok (L := []) HS.out).mono ?_); rintro r_ w1 ⟨p, rfl, hs, hb⟩; have n0_ := Aside0.mk (hs); have n1_ := Aside0.mk (HB.out.trans hb); clear HS HB; have HS := n0_; have HB := n1_; clear n0_ n1_; (try simp only [List.eraseIdx_cons_succ, List.eraseIdx_cons_zero] at HS); clear hs hb) | (go_at_call 6; (with_reducible refine (Events_ok A acts.length c acts rfl hu.out (fun w' _ h => Kd.C_below HC.out (HB.out.trans h)) (fun w' v xs _ h => Kd.C_below HC.out (HB.out.trans h)) HS.out).mono ?_); rintro r_ w2 ⟨ve, rfl, hs, hb⟩; have n0_ := Aside0.mk (hs); have n1_ := Aside0.mk (HB.out.trans hb); clear HS HB; have HS := n0_; have HB := n1_; clear n0_ n1_; (try simp only [List.eraseIdx_cons_succ, List.eraseIdx_cons_zero] at HS); clear hs hb; obtain ⟨Ae, ce, ee, _, _⟩ := HS.out.reads; subst ee; generalize hl_ : evs acts = l at HS hl24 hev her hke; replace hl_ := Aside0.mk hl_) | (go_at_call 6; (with_reducible refine (Events_ok A' acts2.length c' acts2 rfl hu2.out (fun w' _ h => Kd.C_below HC2.out (HB.out.trans h)) (fun w' v xs _ h => Kd.C_below HC2.out (HB.out.trans h)) HS.out).mono ?_); rintro r_ w3 ⟨ve, rfl, hs, hb⟩; have n0_ := Aside0.mk (hs); have n1_ := Aside0.mk (HB.out.trans hb); clear HS HB; have HS := n0_; have HB := n1_; clear n0_ n1_; (try simp only [List.eraseIdx_cons_succ, List.eraseIdx_cons_zero] at HS); clear hs hb; obtain ⟨A2, c2, ee, _, _⟩ := HS.out.reads; subst ee; generalize hm_ : evs acts2 = m at HS hm24 hev2 her2 hke2; replace hm_ := Aside0.mk hm_))
  have hsd : Aside0 ((sdd l).length ≤ 24) := ⟨Nat.le_trans (sdd_len l) hl24.out⟩
  have hU0 : Aside0 (sdd (sdd l ++ m) = sdd (l ++ m)) := ⟨sdd_ext (fun x => by simp only [List.mem_append, mem_sdd])⟩
  have hG48 : Aside0 ((l ++ m).length ≤ 48) := ⟨by rw [List.length_append]; have := hl24.out; have := hm24.out; omega⟩
  have hGe : Aside0 (∀ x ∈ orderE (l ++ m), EvOk x) := ⟨fun x hx => by
    rcases List.mem_append.mp (order_mem hx) with h2 | h2
    · exact hev.out x h2
    · exact hev2.out x h2⟩
  have hGk : Aside0 (∀ x ∈ l ++ m, x.f0 ∈ K18) := ⟨fun x hx => by
    rcases List.mem_append.mp hx with h2 | h2
    · exact hke.out x h2
    · exact hke2.out x h2⟩
  go_upto_region 6 with (first | (go_at_call 7; (with_reducible refine (Add_ok p [] l (by decide) (by have := hl24.out; omega) her.out Ae ce (fun w' h => ⟨(h.pick 1 rfl).rowC.2.2, (h.pick 1 rfl).rowC.2.1⟩) (HS.out.pick 2 rfl)).mono ?_); rintro r_ w4 ⟨rfl, hs, hb⟩; generalize hx1_ : ((sdd ([] ++ l)).length : Int) - (([] : List S50).length : Int) = x1; have hx1 : Aside0 (x1 = ((sdd l).length : Int)) := ⟨by rw [← hx1_]; simp⟩; clear hx1_; rw [List.nil_append] at hs; have n0_ := Aside0.mk (hs); have n1_ := Aside0.mk (HB.out.trans hb); clear HS HB; have HS := n0_; have HB := n1_; clear n0_ n1_; (try simp only [List.eraseIdx_cons_succ, List.eraseIdx_cons_zero] at HS); clear hs hb) | (go_at_call 7; (with_reducible refine (Add_ok p (sdd l) m (by have := hsd.out; omega) (by have := hm24.out; omega) her2.out A2 c2 (fun w' h => ⟨(h.pick 0 rfl).rowC.2.2, (h.pick 0 rfl).rowC.2.1⟩) HS.out).mono ?_); rintro r_ w5 ⟨rfl, hs, hb⟩; generalize hx2_ : ((sdd (sdd l ++ m)).length : Int) - ((sdd l).length : Int) = x2; have hx2 : Aside0 (x2 = ((sdd (sdd l ++ m)).length : Int) - ((sdd l).length : Int)) := ⟨hx2_.symm⟩; clear hx2_; have n0_ := Aside0.mk (hs); have n1_ := Aside0.mk (HB.out.trans hb); clear HS HB; have HS := n0_; have HB := n1_; clear n0_ n1_; (try simp only [List.eraseIdx_cons_succ, List.eraseIdx_cons_zero] at HS); clear hs hb) | ((with_reducible refine gate_dst (N := 39) rfl ?_); refine S_lit k50 50 ?hg39 (Nt := 39) ?hd39 (xs := ([] : List S50)) (inner := ([] : List Value)) ?hr39 ?hp39 HS.out (by simp) ?_; (case hd39 => rfl); (case hg39 => rfl); (case hr39 => first | (go_simp; done) | (go_simp; rfl)); (case hp39 => exact Reps.none _ _); intro v39 w6 hs hb; have n0_ := Aside0.mk (hs); have n1_ := Aside0.mk (below_step' HB.out HS.out.size hb); clear HS HB; have HS := n0_; have HB := n1_; clear n0_ n1_; (try simp only [List.eraseIdx_cons_succ, List.eraseIdx_cons_zero] at HS); clear hs hb) | ((with_reducible refine gate_builtin (b := .append) (xs := #[.tmp 39, .tmp 40]) rfl ?_); at_builtin; refine S_append_rows k50 rfl (.tmp 39) (.tmp 40) 25 50 (.agg #[(.string ⟨#[]⟩), (.int .i64 0), (.int .i64 0), (.int .i64 0), (.string ⟨#[]⟩), (.int .i64 0), (.string ⟨#[]⟩), (.int .i64 0), (.string ⟨#[]⟩)]) 104 rfl Tryz.underlying25 info50 rfl (by decide) (by omega) v39 [] l Ae l.length ce rfl rfl (fun x cs h => by rw [flat50.K h]; exact flat_k50 _ _ x) HS.out (HS.out.pick 3 rfl).rowC.2.2 HB.out (by have := hl24.out; have := hm24.out; (try simp); omega) ?_; intro v41 w7 hs hb; have n0_ := Aside0.mk (hs); have n1_ := Aside0.mk (hb); clear HS HB; have HS := n0_; have HB := n1_; clear n0_ n1_; (try simp only [List.eraseIdx_cons_succ, List.eraseIdx_cons_zero] at HS); clear hs hb; rw [List.nil_append] at HS) | ((with_reducible refine gate_builtin (b := .append) (xs := #[.tmp 41, .tmp 42]) rfl ?_); at_builtin; refine S_append_rows k50 rfl (.tmp 41) (.tmp 42) 25 50 (.agg #[(.string ⟨#[]⟩), (.int .i64 0), (.int .i64 0), (.int .i64 0), (.string ⟨#[]⟩), (.int .i64 0), (.string ⟨#[]⟩), (.int .i64 0), (.string ⟨#[]⟩)]) 104 rfl Tryz.underlying25 info50 rfl (by decide) (by omega) v41 l m A2 m.length c2 rfl rfl (fun x cs h => by rw [flat50.K h]; exact flat_k50 _ _ x) HS.out (HS.out.pick 2 rfl).rowC.2.2 HB.out (by have := hl24.out; have := hm24.out; (try simp); omega) ?_; intro v43 w8 hs hb; have n0_ := Aside0.mk (hs); have n1_ := Aside0.mk (hb); clear HS HB; have HS := n0_; have HB := n1_; clear n0_ n1_; (try simp only [List.eraseIdx_cons_succ, List.eraseIdx_cons_zero] at HS); clear hs hb; generalize hG_ : l ++ m = G at HS hU0 hG48 hGk hGe; replace hG_ := Aside0.mk hG_; obtain ⟨Ag, cg, eg, _, _⟩ := HS.out.reads; subst eg))
  obtain ⟨U, hU_⟩ : ∃ U, sdd (sdd l ++ m) = U := ⟨_, rfl⟩
  rw [hU_] at HS hU0 hx2
  have hU := Aside0.mk hU_
  have qn1 : (x1 != ((st l).length : Int)) = false := by rw [hx1.out, st_len]; simp
  have hw1 : IntKind.i64.wrap (x1 + x2) = ((st G).length : Int) := by
    have h1 := hx1.out
    have h2 := hx2.out
    have h3 : (st G).length = U.length := by rw [st_len, hU0.out]
    have h4 : U.length ≤ 48 := by rw [hU0.out]; exact Nat.le_trans (sdd_len _) hG48.out
    rw [IntKind.wrap_i64, h3]
    omega
  have qn2 : (((st G).length : Int) != ((st G).length : Int)) = false := by simp
  clear hU_
  go_upto_region 8 with (first | (go_at_call 8; (with_reducible refine (known_ok _).mono ?_); rintro r_ w9 ⟨rfl, hb⟩; have n0_ := Aside0.mk (HS.out.step hb); have n1_ := Aside0.mk (below_step' HB.out HS.out.size hb); clear HS HB; have HS := n0_; have HB := n1_; clear n0_ n1_; (try simp only [List.eraseIdx_cons_succ, List.eraseIdx_cons_zero] at HS); clear hb) | (go_at_call 9; (with_reducible refine (set_ok Ae ce l (by have := hl24.out; omega) (HS.out.pick 3 rfl).rowC.2.2 (HS.out.pick 3 rfl).rowC.2.1 HS.out).mono ?_); rintro r_ w10 ⟨vs1, rfl, hs, hb⟩; have n0_ := Aside0.mk (hs); have n1_ := Aside0.mk (HB.out.trans hb); clear HS HB; have HS := n0_; have HB := n1_; clear n0_ n1_; (try simp only [List.eraseIdx_cons_succ, List.eraseIdx_cons_zero] at HS); clear hs hb; obtain ⟨As, cs, es, _, _⟩ := HS.out.reads; subst es) | (go_at_call 9; (with_reducible refine (set_ok Ag cg G (by have := hG48.out; omega) (HS.out.pick 1 rfl).rowC.2.2 (HS.out.pick 1 rfl).rowC.2.1 HS.out).mono ?_); rintro r_ w11 ⟨vs2, rfl, hs, hb⟩; have n0_ := Aside0.mk (hs); have n1_ := Aside0.mk (HB.out.trans hb); clear HS HB; have HS := n0_; have HB := n1_; clear n0_ n1_; (try simp only [List.eraseIdx_cons_succ, List.eraseIdx_cons_zero] at HS); clear hs hb; obtain ⟨At, ct, et, _, _⟩ := HS.out.reads; subst et))
  clear qn1 hw1 qn2
  obtain ⟨qq, hq0⟩ : ∃ q, runP G = q := ⟨_, rfl⟩
  have hg1 := good_run (orderE G)
  rw [show runO (orderE G) = qq from hq0] at hg1
  obtain ⟨s, rs⟩ := qq
  have hrun := Aside0.mk hq0
  have hgd : Aside0 (s.pe.length ≤ 48 ∧ s.th.length ≤ 48) := ⟨by have h1 := hg1.lp; have h2 := hg1.lt; have h3 := order_len G; have h4 := hG48.out; exact ⟨by simp only at h1; omega, by simp only at h2; omega⟩⟩
  have hoU : orderE U = orderE G := by rw [hU0.out, order_sdd]
  have hrunU : Aside0 (runP U = (s, rs)) := ⟨by show runO (orderE U) = _; rw [hoU]; exact hq0⟩
  have hU48 : Aside0 (U.length ≤ 48) := ⟨by rw [hU0.out]; exact Nat.le_trans (sdd_len _) hG48.out⟩
  have hkU : Aside0 (∀ x ∈ orderE U, 1 ≤ x.f2 ∧ x.f2 ≤ 9) := ⟨fun x hx => by rw [hoU] at hx; exact (hGe.out x hx).1⟩
  have hUk : Aside0 (∀ x ∈ U, x.f0 ∈ K18) := ⟨fun x hx => by rw [hU0.out] at hx; exact hGk.out x (sdd_mem hx)⟩
  obtain ⟨O, hO_⟩ : ∃ O, orderE G = O := ⟨_, rfl⟩
  have hog := Aside0.mk hO_
  have hou : Aside0 (orderE U = O) := ⟨hoU.trans hO_⟩
  have hO : Aside0 (O.length ≤ 100000) := ⟨by rw [← hO_]; have := order_len G; have := hG48.out; omega⟩
  obtain ⟨D, hD0⟩ : ∃ D, st G = D := ⟨_, rfl⟩
  have hcnt : Aside0 (∀ k, (D.map (·.f0)).count k = (U.map (·.f0)).count k) := ⟨fun k => by rw [← hD0, hU0.out]; exact st_count G k⟩
  have hD48 : Aside0 (D.length ≤ 48) := ⟨by rw [← hD0, st_len]; exact Nat.le_trans (sdd_len _) hG48.out⟩
  have hD_ := Aside0.mk hD0
  have hCe := Aside0.mk (nC_end D)
  have hCa := Aside0.mk (nC_at D)
  clear hq0 hg1 hoU hO_ hD0
  go_upto_region 9 with (first | (go_at_call 10; (with_reducible refine (fold_ok Ag cg G (by have := hG48.out; omega) hGe.out (HS.out.pick 2 rfl)).mono ?_); rintro r_ w12 ⟨v5, v6, vr, rfl, hs, hb⟩; rw [hrun.out] at hs ⊢; simp only at hs ⊢; have n0_ := Aside0.mk (hs); have n1_ := Aside0.mk (HB.out.trans hb); clear HS HB; have HS := n0_; have HB := n1_; clear n0_ n1_; (try simp only [List.eraseIdx_cons_succ, List.eraseIdx_cons_zero] at HS); clear hs hb; obtain ⟨A5, k5, e5, _, _⟩ := (HS.out.pick 0 rfl).reads; subst e5; obtain ⟨A6, k6, e6, _, _⟩ := (HS.out.pick 1 rfl).reads; subst e6) | ((with_reducible refine gate_dst (N := 13) rfl ?_); refine box_event ?hg (N := 13) ?hd (cs := #[.int .i64 0, .string ⟨#[]⟩, .int .i64 0, .int .i64 0, .string ⟨#[]⟩, .int .i64 0, .slice none 0 0, .slice none 0 0, .int .i64 0]) (t := 37) ?hr ?_; (case hd => rfl); (case hg => rfl); (case hr => first | (go_simp; done) | (go_simp; rfl)); intro g13 hg w13 hbox hb; have n0_ := Aside0.mk (HS.out.box hg hbox hb); have n1_ := Aside0.mk (below_step' HB.out HS.out.size hb); clear HS HB; have HS := n0_; have HB := n1_; clear n0_ n1_; (try simp only [List.eraseIdx_cons_succ, List.eraseIdx_cons_zero] at HS); clear hb hbox hg; have hc0_0 := ((HS.out.pick 0 rfl).cell 0).trans (show _ = some (.int .i64 0) from rfl); have hc0_1 := ((HS.out.pick 0 rfl).cell 1).trans (show _ = some (.string ⟨#[]⟩) from rfl); have hc0_2 := ((HS.out.pick 0 rfl).cell 2).trans (show _ = some (.int .i64 0) from rfl); have hc0_3 := ((HS.out.pick 0 rfl).cell 3).trans (show _ = some (.int .i64 0) from rfl); have hc0_4 := ((HS.out.pick 0 rfl).cell 4).trans (show _ = some (.string ⟨#[]⟩) from rfl); have hc0_5 := ((HS.out.pick 0 rfl).cell 5).trans (show _ = some (.int .i64 0) from rfl); have hc0_6 := ((HS.out.pick 0 rfl).cell 6).trans (show _ = some (.slice none 0 0) from rfl); have hc0_7 := ((HS.out.pick 0 rfl).cell 7).trans (show _ = some (.slice none 0 0) from rfl); have hc0_8 := ((HS.out.pick 0 rfl).cell 8).trans (show _ = some (.int .i64 0) from rfl); have hf0_0 := (HS.out.pick 0 rfl).frozen 0; have hf0_1 := (HS.out.pick 0 rfl).frozen 1; have hf0_2 := (HS.out.pick 0 rfl).frozen 2; have hf0_3 := (HS.out.pick 0 rfl).frozen 3; have hf0_4 := (HS.out.pick 0 rfl).frozen 4; have hf0_5 := (HS.out.pick 0 rfl).frozen 5; have hf0_6 := (HS.out.pick 0 rfl).frozen 6; have hf0_7 := (HS.out.pick 0 rfl).frozen 7; have hf0_8 := (HS.out.pick 0 rfl).frozen 8))
  have s9 := set9 (.int .i64 s.st) (.string s.ti) (.int .i64 s.op) (.int .i64 s.en) (.string s.ca.f0) (.int .i64 s.ca.f1) (.slice A5 s.pe.length k5) (.slice A6 s.th.length k6) (.int .i64 s.no) HS.out HB.out
  have n0_ := Aside0.mk (s9.1); have n1_ := Aside0.mk (s9.2); clear HS HB; have HS := n0_; have HB := n1_; clear n0_ n1_; (try simp only [List.eraseIdx_cons_succ, List.eraseIdx_cons_zero] at HS)
  generalize World.setCell _ _ _ = w14 at HS HB ⊢
  clear hc0_0 hf0_0 hc0_1 hf0_1 hc0_2 hf0_2 hc0_3 hf0_3 hc0_4 hf0_4 hc0_5 hf0_5 hc0_6 hf0_6 hc0_7 hf0_7 hc0_8 hf0_8 s9
  have n0_ := Aside0.mk (HS.out.drew); have n1_ := Aside0.mk (HB.out.drew); clear HS HB; have HS := n0_; have HB := n1_; clear n0_ n1_
  refine start_ (n := 13) (S := fun w' => w'.cell? ⟨g13, 0, none⟩ = some (.int .i64 s.st) ∧ w'.cell? ⟨g13, 1, none⟩ = some (.string s.ti) ∧ w'.cell? ⟨g13, 2, none⟩ = some (.int .i64 s.op) ∧ w'.cell? ⟨g13, 3, none⟩ = some (.int .i64 s.en) ∧ w'.cell? ⟨g13, 4, none⟩ = some (.string s.ca.f0) ∧ w'.cell? ⟨g13, 5, none⟩ = some (.int .i64 s.ca.f1) ∧ w'.cell? ⟨g13, 6, none⟩ = some (.slice A5 s.pe.length k5) ∧ w'.cell? ⟨g13, 7, none⟩ = some (.slice A6 s.th.length k6) ∧ w'.cell? ⟨g13, 8, none⟩ = some (.int .i64 s.no)) (ds := []) (tfs true [0, 13]).toArray (by kernel_rfl) rfl rfl ⟨((HS.out.pick 0 rfl).cell 0).trans rfl, ((HS.out.pick 0 rfl).cell 1).trans rfl, ((HS.out.pick 0 rfl).cell 2).trans rfl, ((HS.out.pick 0 rfl).cell 3).trans rfl, ((HS.out.pick 0 rfl).cell 4).trans rfl, ((HS.out.pick 0 rfl).cell 5).trans rfl, ((HS.out.pick 0 rfl).cell 6).trans rfl, ((HS.out.pick 0 rfl).cell 7).trans rfl, ((HS.out.pick 0 rfl).cell 8).trans rfl⟩ (fun hHeld => ?_); refine with_tabW lgs.tab9 lgs.bits9 (fun HT_ HW_ => ?_)
  generalize w14.drew = w15 at HS HB hHeld ⊢
  refine pU 0 75 (tfs true [1, 12]).toArray rfl rfl HT_ ?_
  refine pU 2 77 (tfs true [1, 1, 1, 10]).toArray rfl rfl HT_ ?_
  refine one_ (i := 1) (N := some 76) (tfs true [3, 10]).toArray rfl rfl (one_of HT_.out (by kernel_rfl)) (by decide) (fun K hK => ?_)
  refine goes_ Tryz.func12 (by kernel_rfl) rfl #[.pointer (some ⟨p, 0, none⟩)] (by rfl) rfl rfl (by (try simp only [List.map_toArray, List.map_cons, List.map_nil]); first | done | rfl | (simp only [List.length_drop, List.length_take]; rfl)) ?_
  with_reducible refine (LEvents_ok p U (by have := hU48.out; omega) (HS.out.pick 7 rfl)).mono ?_
  rintro r_ wx ⟨vo1, rfl, hs, hb⟩; rw [hou.out] at hs
  refine ⟨_, rfl, ?_⟩
  have n0_ := Aside0.mk ((((((((((((hs.pick 0 rfl).pick 10 rfl).pick 10 rfl).pick 3 rfl).pick 10 rfl).pick 10 rfl).pick 10 rfl).pick 10 rfl).pick 10 rfl).pick 10 rfl).pick 10 rfl)); have n1_ := Aside0.mk (HB.out.trans hb); clear HS HB; have HS := n0_; have HB := n1_; clear n0_ n1_; (try simp only [List.eraseIdx_cons_succ, List.eraseIdx_cons_zero] at HS)
  clear hs hb; obtain ⟨Ap, cp, ep, _, _⟩ := (HS.out.pick 10 rfl).reads; subst ep
  refine hK.out _ _ ⟨((HS.out.pick 0 rfl).cell 0).trans rfl, ((HS.out.pick 0 rfl).cell 1).trans rfl, ((HS.out.pick 0 rfl).cell 2).trans rfl, ((HS.out.pick 0 rfl).cell 3).trans rfl, ((HS.out.pick 0 rfl).cell 4).trans rfl, ((HS.out.pick 0 rfl).cell 5).trans rfl, ((HS.out.pick 0 rfl).cell 6).trans rfl, ((HS.out.pick 0 rfl).cell 7).trans rfl, ((HS.out.pick 0 rfl).cell 8).trans rfl⟩ (fun hHeld => ?_)
  clear hK K
  refine norm_ (a' := ?_) ?_ ?_
  rotate_left
  · show Act.put _ (some 76) _ = _
    simp only [Act.put, List.setIfInBounds_toArray, List.set_cons_zero, List.set_cons_succ, i64_w, i32_w]
    rfl
  refine one_ (i := 3) (N := some 78) (tfs true [4, 9]).toArray rfl rfl (one_of HT_.out (by kernel_rfl)) (by decide) (fun K hK => ?_)
  refine goes_ Tryz.func13 (by kernel_rfl) rfl #[.slice Ag G.length cg] (by rfl) rfl rfl (by (try simp only [List.map_toArray, List.map_cons, List.map_nil]); first | done | rfl | (simp only [List.length_drop, List.length_take]; rfl)) ?_
  with_reducible refine (counting_ok Ag cg G (by have := hG48.out; omega) (HS.out.pick 4 rfl)).mono ?_
  rintro r_ wx ⟨vo2, rfl, hs, hb⟩; rw [hog.out] at hs
  refine ⟨_, rfl, ?_⟩
  have n0_ := Aside0.mk (((((((((((((hs.pick 0 rfl).pick 11 rfl).pick 11 rfl).pick 11 rfl).pick 11 rfl).pick 11 rfl).pick 11 rfl).pick 7 rfl).pick 11 rfl).pick 11 rfl).pick 11 rfl).pick 11 rfl)); have n1_ := Aside0.mk (HB.out.trans hb); clear HS HB; have HS := n0_; have HB := n1_; clear n0_ n1_; (try simp only [List.eraseIdx_cons_succ, List.eraseIdx_cons_zero] at HS)
  clear hs hb; obtain ⟨Aq, cq, eq_, _, _⟩ := (HS.out.pick 11 rfl).reads; subst eq_
  refine hK.out _ _ ⟨((HS.out.pick 0 rfl).cell 0).trans rfl, ((HS.out.pick 0 rfl).cell 1).trans rfl, ((HS.out.pick 0 rfl).cell 2).trans rfl, ((HS.out.pick 0 rfl).cell 3).trans rfl, ((HS.out.pick 0 rfl).cell 4).trans rfl, ((HS.out.pick 0 rfl).cell 5).trans rfl, ((HS.out.pick 0 rfl).cell 6).trans rfl, ((HS.out.pick 0 rfl).cell 7).trans rfl, ((HS.out.pick 0 rfl).cell 8).trans rfl⟩ (fun hHeld => ?_)
  clear hK K
  refine norm_ (a' := ?_) ?_ ?_
  rotate_left
  · show Act.put _ (some 78) _ = _
    simp only [Act.put, List.setIfInBounds_toArray, List.set_cons_zero, List.set_cons_succ, i64_w, i32_w]
    rfl
  refine one_ (i := 4) (N := some 79) (tfs true [5, 8]).toArray rfl rfl (one_of HT_.out (by kernel_rfl)) (by decide) (fun K hK => ?_)
  refine goes_ Tryz.func11 (by kernel_rfl) rfl #[.slice Ap O.length cp, .slice Aq O.length cq] (by rfl) rfl rfl (by (try simp only [List.map_toArray, List.map_cons, List.map_nil]); first | done | rfl | (simp only [List.length_drop, List.length_take]; rfl)) ?_
  with_reducible refine (sameEv_ok Ap Aq cp cq O O _ hO.out (HS.out.pick 10 rfl).rowC.2.2 (HS.out.pick 10 rfl).rowC.2.1 (HS.out.pick 11 rfl).rowC.2.2 (HS.out.pick 11 rfl).rowC.2.1 true (decide_eq_true rfl)).mono ?_
  rintro r_ wx ⟨rfl, hb0⟩; have hb := hb0.below; clear hb0
  refine ⟨_, rfl, ?_⟩
  have n0_ := Aside0.mk (HS.out.step hb); have n1_ := Aside0.mk (below_step' HB.out HS.out.size hb); clear HS HB; have HS := n0_; have HB := n1_; clear n0_ n1_; (try simp only [List.eraseIdx_cons_succ, List.eraseIdx_cons_zero] at HS)
  clear hb
  refine hK.out _ _ ⟨((HS.out.pick 0 rfl).cell 0).trans rfl, ((HS.out.pick 0 rfl).cell 1).trans rfl, ((HS.out.pick 0 rfl).cell 2).trans rfl, ((HS.out.pick 0 rfl).cell 3).trans rfl, ((HS.out.pick 0 rfl).cell 4).trans rfl, ((HS.out.pick 0 rfl).cell 5).trans rfl, ((HS.out.pick 0 rfl).cell 6).trans rfl, ((HS.out.pick 0 rfl).cell 7).trans rfl, ((HS.out.pick 0 rfl).cell 8).trans rfl⟩ (fun hHeld => ?_)
  clear hK K
  refine norm_ (a' := ?_) ?_ ?_
  rotate_left
  · show Act.put _ (some 79) _ = _
    simp only [Act.put, List.setIfInBounds_toArray, List.set_cons_zero, List.set_cons_succ, i64_w, i32_w]
    rfl
  refine pU 5 80 (tfs true [6, 7]).toArray rfl rfl HT_ ?_
  refine pU 6 81 (tfs true [7, 6]).toArray rfl rfl HT_ ?_
  refine pU 7 82 (tfs true [8, 5]).toArray rfl rfl HT_ ?_
  refine tK 9 84 (tfs true [8, 1, 1, 3]).toArray rfl rfl HT_ HW_ hHeld ?_ (by rintro w' ⟨s0, s1, s2, s3, s4, s5, s6, s7, s8⟩; go_simp; with_reducible rfl)
  refine one_ (i := 8) (N := some 83) (tfs true [10, 3]).toArray rfl rfl (one_of HT_.out (by kernel_rfl)) (by decide) (fun K hK => ?_)
  refine goes_ Tryz.func15 (by kernel_rfl) rfl #[.pointer (some ⟨p, 0, none⟩)] (by rfl) rfl rfl (by (try simp only [List.map_toArray, List.map_cons, List.map_nil]); first | done | rfl | (simp only [List.length_drop, List.length_take]; rfl)) ?_
  with_reducible refine (State_ok p U (by have := hU48.out; omega) hkU.out (HS.out.pick 7 rfl)).mono ?_
  rintro r_ wx ⟨v7, v8, rfl, hs, hb⟩; rw [hrunU.out] at hs ⊢; simp only at hs ⊢
  refine ⟨_, rfl, ?_⟩
  have n0_ := Aside0.mk (((((((((((((((hs.pick 1 rfl).pick 1 rfl).pick 13 rfl).pick 13 rfl).pick 13 rfl).pick 13 rfl).pick 6 rfl).pick 13 rfl).pick 13 rfl).pick 13 rfl).pick 13 rfl).pick 13 rfl).pick 13 rfl).pick 13 rfl)); have n1_ := Aside0.mk (HB.out.trans hb); clear HS HB; have HS := n0_; have HB := n1_; clear n0_ n1_; (try simp only [List.eraseIdx_cons_succ, List.eraseIdx_cons_zero] at HS)
  clear hs hb; obtain ⟨B5, j5, e5, _, _⟩ := (HS.out.pick 12 rfl).reads; subst e5; obtain ⟨B6, j6, e6, _, _⟩ := (HS.out.pick 13 rfl).reads; subst e6
  refine hK.out _ _ ⟨((HS.out.pick 0 rfl).cell 0).trans rfl, ((HS.out.pick 0 rfl).cell 1).trans rfl, ((HS.out.pick 0 rfl).cell 2).trans rfl, ((HS.out.pick 0 rfl).cell 3).trans rfl, ((HS.out.pick 0 rfl).cell 4).trans rfl, ((HS.out.pick 0 rfl).cell 5).trans rfl, ((HS.out.pick 0 rfl).cell 6).trans rfl, ((HS.out.pick 0 rfl).cell 7).trans rfl, ((HS.out.pick 0 rfl).cell 8).trans rfl⟩ (fun hHeld => ?_)
  clear hK K
  refine norm_ (a' := ?_) ?_ ?_
  rotate_left
  · show Act.put _ (some 83) _ = _
    simp only [Act.put, List.setIfInBounds_toArray, List.set_cons_zero, List.set_cons_succ, i64_w, i32_w]
    rfl
  refine one_ (i := 10) (N := some 85) (tfs true [11, 2]).toArray rfl rfl (one_of HT_.out (by kernel_rfl)) (by decide) (fun K hK => ?_)
  refine goes_ Tryz.func14 (by kernel_rfl) rfl #[.agg #[.int .i64 s.st, .string s.ti, .int .i64 s.op, .int .i64 s.en, .string s.ca.f0, .int .i64 s.ca.f1, .slice B5 s.pe.length j5, .slice B6 s.th.length j6, .int .i64 s.no], .agg #[.int .i64 s.st, .string s.ti, .int .i64 s.op, .int .i64 s.en, .string s.ca.f0, .int .i64 s.ca.f1, .slice A5 s.pe.length k5, .slice A6 s.th.length k6, .int .i64 s.no]] (by rfl) rfl rfl (by (try simp only [List.map_toArray, List.map_cons, List.map_nil]); first | done | rfl | (simp only [List.length_drop, List.length_take]; rfl)) ?_
  with_reducible refine (same_self s B5 B6 A5 A6 j5 j6 k5 k6 _ (HS.out.pick 12 rfl).rowC.2.2 (HS.out.pick 12 rfl).rowC.2.1 (HS.out.pick 13 rfl).rowC.2.2 (HS.out.pick 13 rfl).rowC.2.1 (HS.out.pick 1 rfl).rowC.2.2 (HS.out.pick 1 rfl).rowC.2.1 (HS.out.pick 2 rfl).rowC.2.2 (HS.out.pick 2 rfl).rowC.2.1 (by have := hgd.out.1; omega) (by have := hgd.out.2; omega)).mono ?_
  rintro r_ wx ⟨rfl, hb⟩
  refine ⟨_, rfl, ?_⟩
  have n0_ := Aside0.mk (HS.out.step hb); have n1_ := Aside0.mk (below_step' HB.out HS.out.size hb); clear HS HB; have HS := n0_; have HB := n1_; clear n0_ n1_; (try simp only [List.eraseIdx_cons_succ, List.eraseIdx_cons_zero] at HS)
  clear hb
  refine hK.out _ _ ⟨((HS.out.pick 0 rfl).cell 0).trans rfl, ((HS.out.pick 0 rfl).cell 1).trans rfl, ((HS.out.pick 0 rfl).cell 2).trans rfl, ((HS.out.pick 0 rfl).cell 3).trans rfl, ((HS.out.pick 0 rfl).cell 4).trans rfl, ((HS.out.pick 0 rfl).cell 5).trans rfl, ((HS.out.pick 0 rfl).cell 6).trans rfl, ((HS.out.pick 0 rfl).cell 7).trans rfl, ((HS.out.pick 0 rfl).cell 8).trans rfl⟩ (fun hHeld => ?_)
  clear hK K
  refine norm_ (a' := ?_) ?_ ?_
  rotate_left
  · show Act.put _ (some 85) _ = _
    simp only [Act.put, List.setIfInBounds_toArray, List.set_cons_zero, List.set_cons_succ, i64_w, i32_w]
    rfl
  refine pU 11 86 (tfs true [12, 1]).toArray rfl rfl HT_ ?_
  refine pU 12 87 (tfs true [13]).toArray rfl rfl HT_ ?_
  refine done_ (done_of HT_.out (by kernel_rfl)) ?_
  clear HT_ HW_
  try clear hHeld
  go_upto_region 14 with (first | (go_at_call 16; (with_reducible refine (Conflicts_ok p U (by have := hU48.out; omega) (HS.out.pick 7 rfl)).mono ?_); rintro r_ w16 ⟨vc, C, rfl, hcf_, hs, hb⟩; obtain rfl := conf_is hcf_ hUk.out hcnt.out; clear hcf_; have n0_ := Aside0.mk (hs); have n1_ := Aside0.mk (HB.out.trans hb); clear HS HB; have HS := n0_; have HB := n1_; clear n0_ n1_; (try simp only [List.eraseIdx_cons_succ, List.eraseIdx_cons_zero] at HS); clear hs hb; obtain ⟨Ac, cc, ec, _, _⟩ := HS.out.reads; subst ec; generalize hC_ : K18.filter (two D) = C at HS hCe hCa; replace hC_ := Aside0.mk hC_) | (go_at_call 9; (with_reducible refine (set_ok Ag cg G (by have := hG48.out; omega) (HS.out.pick 6 rfl).rowC.2.2 (HS.out.pick 6 rfl).rowC.2.1 HS.out).mono ?_); rintro r_ w17 ⟨vs3, rfl, hs, hb⟩; rw [hD_.out] at hs; have n0_ := Aside0.mk (hs); have n1_ := Aside0.mk (HB.out.trans hb); clear HS HB; have HS := n0_; have HB := n1_; clear n0_ n1_; (try simp only [List.eraseIdx_cons_succ, List.eraseIdx_cons_zero] at HS); clear hs hb; obtain ⟨Ad, cd, ed, _, _⟩ := HS.out.reads; subst ed))
  have hC18 : Aside0 (C.length ≤ 18) := ⟨by rw [← hCe.out]; unfold nC; exact Nat.le_trans (List.length_filter_le _ _) (by rw [List.length_take]; omega)⟩
  have HSk := Aside0.mk (St.firstTwo HS.out)
  clear HS
  have HS := HSk
  clear HSk
  go_upto_region 15 with (fail)
  go_loopw [16, 18] (fun v16 v18 wr => ∃ n : Nat, n ≤ 18 ∧ v18 = .int .i64 n ∧ v16 = .int .i64 (nC D n) ∧ Aside0 (St w.heap.size wr (Row k50 50 (.slice Ad D.length cd) D :: Row k33 33 (.slice Ac C.length cc) C :: [])) ∧ Aside0 (Below w.heap.size w wr)) (fun _ v18 _ => 18 - (intOf v18).toNat)
  case atStart => exact ⟨0, Nat.zero_le _, rfl, rfl, HS, HB⟩
  case round =>
    clear HS HB
    obtain ⟨n, hn, rfl, rfl, HS, HB⟩ := hrel
    by_cases hlt : n < 18
    · obtain ⟨q6, hq6_⟩ : ∃ q : Nat, n / 6 = q := ⟨_, rfl⟩
      obtain ⟨r6, hr6_⟩ : ∃ r : Nat, n % 6 = r := ⟨_, rfl⟩
      have t1 : (n : Int).tdiv 6 = (q6 : Int) := by rw [← hq6_]; rfl
      have t2 : (n : Int).tmod 6 = (r6 : Int) := by rw [← hr6_]; rfl
      have hq6 : Aside0 (q6 < 3) := ⟨by omega⟩
      have hr6 : Aside0 (r6 < 6) := ⟨by omega⟩
      have q0 : decide ((n : Int) < 18) = true := decide_eq_true (by omega)
      have q1 := eq_true (show (q6 : Int) < (ppl.length : Int) from by show (q6 : Int) < 3; have := hq6.out; omega)
      have q2 := eq_true (show (0 : Int) ≤ (q6 : Int) by omega)
      have w1_ : IntKind.i64.wrap (q6 : Int) = (q6 : Int) := by rw [IntKind.wrap_i64]; have := hq6.out; omega
      have w2_ : IntKind.i64.wrap (1 + (r6 : Int)) = 1 + (r6 : Int) := by rw [IntKind.wrap_i64]; have := hr6.out; omega
      have w3_ : IntKind.i64.wrap ((n : Int) + 1) = (n : Int) + 1 := by rw [IntKind.wrap_i64]; omega
      obtain ⟨kp, hkp_⟩ : ∃ k, k18 n = k := ⟨_, rfl⟩
      have e0 : rdOf ByteArray.empty ppl (q6 : Int) = kp.f0 := by rw [← hkp_, ← hq6_]; rfl
      have e1 : 1 + (r6 : Int) = kp.f1 := by rw [← hkp_, ← hr6_]; rfl
      have hnx := Aside0.mk (nC_next D n hlt)
      have hca := Aside0.mk (hCa.out n hlt)
      rw [hkp_] at hnx hca
      clear hq6_ hr6_ hkp_
      replace e0 := Aside0.mk e0
      replace e1 := Aside0.mk e1
      go_upto_region 18 with (first | (go_at_call 17; (with_reducible refine (sleuthlaw51_people.calls ppl _ ppl_ok).mono ?_); rintro r_ w18 ⟨vp, rfl, hr, hb⟩; have n0_ := Aside0.mk (HS.out.made hr hb); have n1_ := Aside0.mk (below_step' HB.out HS.out.size hb); clear HS HB; have HS := n0_; have HB := n1_; clear n0_ n1_; (try simp only [List.eraseIdx_cons_succ, List.eraseIdx_cons_zero] at HS); clear hr hb; obtain ⟨gw, cw, ew, _⟩ := St.row_some flatS HS.out (by decide); subst ew; have hnm := nm_cell HS.out q6 hq6.out))
      rw [e0.out, e1.out]
      clear t1 t2 q0 q1 q2 w1_ w2_ hnm
      have hbx := HS.out.box (g := w18.heap.size) (cs := #[.string kp.f0, .int .i64 kp.f1]) (t := 33) rfl (new_cells w18 _ _) ((Below.refl _ _).alloc (Nat.le_refl _) _)
      have hbb := below_step' HB.out HS.out.size ((Below.refl _ _).alloc (Nat.le_refl _) (.cells #[.string kp.f0, .int .i64 kp.f1] 33))
      generalize w18.heap.size = g19 at hbx hbb ⊢
      generalize w18.alloc (.cells #[.string kp.f0, .int .i64 kp.f1] 33) = w19 at hbx hbb ⊢
      have n0_ := Aside0.mk (hbx); have n1_ := Aside0.mk (hbb); clear HS HB; have HS := n0_; have HB := n1_; clear n0_ n1_; (try simp only [List.eraseIdx_cons_succ, List.eraseIdx_cons_zero] at HS)
      clear hbx hbb
      go_upto_region 20 with (fail)
      go_loopw [20, 21] (fun v20 v21 wq => ∃ q : Nat, q ≤ D.length ∧ v21 = .int .i64 q ∧ v20 = .int .i64 (((D.take q).map (·.f0)).count kp) ∧ Aside0 (St w.heap.size wq (Blk g19 #[.string kp.f0, .int .i64 kp.f1] 33 :: Row k50 50 (.slice Ad D.length cd) D :: Row k33 33 (.slice Ac C.length cc) C :: [])) ∧ Aside0 (Below w.heap.size w wq)) (fun _ v21 _ => D.length - (intOf v21).toNat)
      case atStart => exact ⟨0, Nat.zero_le _, rfl, rfl, ⟨HS.out.swap.drop⟩, HB⟩
      case round =>
        clear HS HB
        obtain ⟨q, hq, rfl, rfl, HS, HB⟩ := hrel
        by_cases hlq : q < D.length
        · obtain ⟨gD, cgD, eD, _⟩ := St.row_some flat50 (HS.out.pick 1 rfl) (by omega)
          obtain ⟨hA, hcz⟩ : Ad = some ⟨gD, 0, none⟩ ∧ cd = cgD := by simpa using eD
          subst hA
          subst hcz
          clear eD
          have p0 : decide ((q : Int) < (D.length : Int)) = true := decide_eq_true (by omega)
          have p1 := eq_true (show (q : Int) < (D.length : Int) by omega)
          have p2 := eq_true (show (0 : Int) ≤ (q : Int) by omega)
          have pw : IntKind.i64.wrap ((q : Int) + 1) = (q : Int) + 1 := by rw [IntKind.wrap_i64]; have := hD48.out; omega
          have hqD := Aside0.mk hlq
          obtain ⟨y, hy0⟩ : ∃ y, rd_T50 D (q : Int) = y := ⟨_, rfl⟩
          have hy := Aside0.mk hy0
          have hct := cnt_next D q hlq kp
          rw [hy0] at hct
          have hcl := cnt_le D q kp
          obtain ⟨ct_, hct_⟩ : ∃ c, ((D.take q).map (·.f0)).count kp = c := ⟨_, rfl⟩
          rw [hct_] at hct hcl ⊢
          have pw2 : IntKind.i64.wrap ((ct_ : Int) + 1) = (ct_ : Int) + 1 := by rw [IntKind.wrap_i64]; have := hD48.out; omega
          replace hct := Aside0.mk hct
          obtain ⟨b1, hb1⟩ : ∃ b, decide (y.f0 = kp) = b := ⟨_, rfl⟩
          have e9 := hb1
          replace hb1 := Aside0.mk hb1
          clear hy0 hcl hct_
          go_upto_region 22 with (fail)
          have n0_ := Aside0.mk (HS.out.drew); have n1_ := Aside0.mk (HB.out.drew); clear HS HB; have HS := n0_; have HB := n1_; clear n0_ n1_
          refine start_ (n := 7) (S := fun w' => w'.cell? ⟨gD, q * 9, none⟩ = some (.string y.f0.f0) ∧ w'.cell? ⟨gD, q * 9 + 1, none⟩ = some (.int .i64 y.f0.f1) ∧ w'.cell? ⟨g19, 0, none⟩ = some (.string kp.f0) ∧ w'.cell? ⟨g19, 1, none⟩ = some (.int .i64 kp.f1)) (ds := []) #[false, false, false, false, false, false, false] (by kernel_rfl) rfl rfl ⟨(evCel (HS.out.pick 1 rfl) q hqD.out y hy.out).1, (evCel (HS.out.pick 1 rfl) q hqD.out y hy.out).2.1, ((HS.out.pick 0 rfl).cell 0).trans rfl, ((HS.out.pick 0 rfl).cell 1).trans rfl⟩ (fun hHeld => ?_); refine with_tabW lgs.tab22 lgs.bits22 (fun HT_ HW_ => ?_)
          generalize wr.drew = wd at HS HB hHeld ⊢
          refine pU 0 111 #[true, false, false, false, false, false, false] rfl rfl HT_ ?_
          refine pU 1 112 #[true, true, false, false, false, false, false] rfl rfl HT_ ?_
          refine pU 2 113 #[true, true, true, false, false, false, false] rfl rfl HT_ ?_
          refine pU 3 114 #[true, true, true, true, false, false, false] rfl rfl HT_ ?_
          refine tK 4 115 #[true, true, true, true, true, false, false] rfl rfl HT_ HW_ hHeld ?_ (by rintro w' ⟨s0, s1, s2, s3⟩; go_simp; with_reducible rfl)
          refine tK 5 116 #[true, true, true, true, true, true, false] rfl rfl HT_ HW_ hHeld ?_ (by rintro w' ⟨s0, s1, s2, s3⟩; go_simp; with_reducible rfl)
          refine pU 6 117 #[true, true, true, true, true, true, true] rfl rfl HT_ ?_
          refine done_ (done_of HT_.out (by kernel_rfl)) ?_
          clear HT_ HW_
          try clear hHeld
          clear e9
          cases b1 with
          | true =>
            have hy1 : Aside0 (((D.take (q + 1)).map (·.f0)).count kp = ct_ + 1) := ⟨by rw [hct.out, if_pos (of_decide_eq_true hb1.out)]⟩
            go_wp2
            go_roundw
            case rel => exact ⟨q + 1, by omega, by go_num, by rw [hy1.out]; go_num, HS, HB⟩
            case measure => simp [intOf]; omega
          | false =>
            have hy1 : Aside0 (((D.take (q + 1)).map (·.f0)).count kp = ct_) := ⟨by rw [hct.out, if_neg (of_decide_eq_false hb1.out), Nat.add_zero]⟩
            go_wp2
            go_roundw
            case rel => exact ⟨q + 1, by omega, by go_num, by rw [hy1.out], HS, HB⟩
            case measure => simp [intOf]; omega
        · obtain rfl : q = D.length := by omega
          have p0 : decide ((D.length : Int) < (D.length : Int)) = false := decide_eq_false (by omega)
          rw [List.take_length]
          by_cases h2 : 2 ≤ (D.map (·.f0)).count kp
          · have ht : two D kp = true := decide_eq_true h2
            have hnx1 : Aside0 (nC D (n + 1) = nC D n + 1) := ⟨by rw [hnx.out, if_pos ht]⟩
            have hkC0 := hca.out ht
            obtain ⟨i, hi_⟩ : ∃ i, nC D n = i := ⟨_, rfl⟩
            rw [hi_] at hkC0 hnx1 ⊢
            have hkC := Aside0.mk hkC0
            have hiC : Aside0 (i < C.length) := ⟨(List.getElem?_eq_some_iff.mp hkC.out).1⟩
            obtain ⟨gC, cgC, eC, _⟩ := St.row_some flat33 (HS.out.pick 2 rfl) (by have := hiC.out; omega)
            obtain ⟨hA, hcz⟩ : Ac = some ⟨gC, 0, none⟩ ∧ cc = cgC := by simpa using eC
            subst hA
            subst hcz
            clear eC hkC0 hi_
            have hct2 : decide ((((D.map (·.f0)).count kp : Nat) : Int) < 2) = false := decide_eq_false (by omega)
            have r0 : decide ((C.length : Int) ≤ (i : Int)) = false := decide_eq_false (by have := hiC.out; omega)
            have r0b : decide (C.length ≤ i) = false := decide_eq_false (by have := hiC.out; omega)
            have r0c := eq_false (show ¬ (C.length : Int) ≤ (i : Int) by have := hiC.out; omega)
            have r0d := eq_false (show ¬ C.length ≤ i by have := hiC.out; omega)
            have r1b := eq_true (show i < C.length from hiC.out)
            have r1 := eq_true (show (i : Int) < (C.length : Int) by have := hiC.out; omega)
            have r2 := eq_true (show (0 : Int) ≤ (i : Int) by omega)
            have r3 : IntKind.i64.wrap ((i : Int) + 1) = (i : Int) + 1 := by rw [IntKind.wrap_i64]; have := hiC.out; have := hC18.out; omega
            have e9 : decide (kp = kp) = true := decide_eq_true rfl
            replace h2 := Aside0.mk h2
            go_upto_region 25 with (fail)
            have n0_ := Aside0.mk (HS.out.drew); have n1_ := Aside0.mk (HB.out.drew); clear HS HB; have HS := n0_; have HB := n1_; clear n0_ n1_
            refine start_ (n := 12) (S := fun w' => w'.cell? ⟨gC, i * 2, none⟩ = some (.string kp.f0) ∧ w'.cell? ⟨gC, i * 2 + 1, none⟩ = some (.int .i64 kp.f1) ∧ w'.cell? ⟨g19, 0, none⟩ = some (.string kp.f0) ∧ w'.cell? ⟨g19, 1, none⟩ = some (.int .i64 kp.f1)) (ds := []) (tfs true [0, 12]).toArray (by kernel_rfl) rfl rfl ⟨(kyCel (HS.out.pick 2 rfl) i hiC.out kp hkC.out).1, (kyCel (HS.out.pick 2 rfl) i hiC.out kp hkC.out).2, ((HS.out.pick 0 rfl).cell 0).trans rfl, ((HS.out.pick 0 rfl).cell 1).trans rfl⟩ (fun hHeld => ?_); refine with_tabW lgs.tab25 lgs.bits25 (fun HT_ HW_ => ?_)
            generalize wr.drew = wd at HS HB hHeld ⊢
            refine pU 0 122 (tfs true [1, 11]).toArray rfl rfl HT_ ?_
            refine pU 1 123 (tfs true [2, 10]).toArray rfl rfl HT_ ?_
            refine pU 2 124 (tfs true [3, 9]).toArray rfl rfl HT_ ?_
            refine pU 3 125 (tfs true [4, 8]).toArray rfl rfl HT_ ?_
            refine pU 4 126 (tfs true [5, 7]).toArray rfl rfl HT_ ?_
            refine pU 5 127 (tfs true [6, 6]).toArray rfl rfl HT_ ?_
            refine pU 6 128 (tfs true [7, 5]).toArray rfl rfl HT_ ?_
            refine pU 7 129 (tfs true [8, 4]).toArray rfl rfl HT_ ?_
            refine tK 8 130 (tfs true [9, 3]).toArray rfl rfl HT_ HW_ hHeld ?_ (by rintro w' ⟨s0, s1, s2, s3⟩; go_simp; with_reducible rfl)
            refine tK 9 131 (tfs true [10, 2]).toArray rfl rfl HT_ HW_ hHeld ?_ (by rintro w' ⟨s0, s1, s2, s3⟩; go_simp; with_reducible rfl)
            refine pU 10 132 (tfs true [11, 1]).toArray rfl rfl HT_ ?_
            refine pU 11 133 (tfs true [12]).toArray rfl rfl HT_ ?_
            refine done_ (done_of HT_.out (by kernel_rfl)) ?_
            clear HT_ HW_
            try clear hHeld
            go_wp2
            go_roundw
            case rel =>
              refine ⟨n + 1, by omega, by go_num, ?_, ⟨HS.out.drop⟩, HB⟩
              rw [hnx1.out]
              go_num
            case measure => simp [intOf]; omega
          · have ht : ¬ two D kp = true := fun h => h2 (of_decide_eq_true h)
            have hnx1 : Aside0 (nC D (n + 1) = nC D n) := ⟨by rw [hnx.out, if_neg ht]⟩
            have hct2 : decide ((((D.map (·.f0)).count kp : Nat) : Int) < 2) = true := decide_eq_true (by omega)
            replace h2 := Aside0.mk h2
            go_wp2
            go_roundw
            case rel =>
              refine ⟨n + 1, by omega, by go_num, ?_, ⟨HS.out.drop⟩, HB⟩
              rw [hnx1.out]
            case measure => simp [intOf]; omega
    · obtain rfl : n = 18 := by omega
      have q0 : decide (((18 : Nat) : Int) < 18) = false := by decide
      have q1 : (((nC D 18 : Nat) : Int) == (C.length : Int)) = true := by rw [hCe.out]; simp
      go_wp2
      go_ret
      exact ⟨rfl, HB.out⟩

end Go.Proofs.YtcjfgejiknlpfaaGreat.PI
