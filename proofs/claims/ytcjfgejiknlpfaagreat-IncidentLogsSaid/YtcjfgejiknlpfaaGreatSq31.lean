/- The model's accept: the state behind an accepted event. -/
import Derived.Test.YtcjfgejiknlpfaaGreatSq29
import Derived.Test.YtcjfgejiknlpfaaGreatSq30
import Derived.Test.YtcjfgejiknlpfaaGreatJ4
namespace Go.Proofs.YtcjfgejiknlpfaaGreat.PI
open Go.RowKit Go.Proofs.YtcjfgejiknlpfaaGreatW.PrintWords Go.Proofs.YtcjfgejiknlpfaaGreatW.PrintLast Go.Proofs.YtcjfgejiknlpfaaGreatW.PrintMore Go.Proofs.YtcjfgejiknlpfaaGreat.Sep
set_option linter.unusedVariables false
set_option linter.unusedSimpArgs false
set_option maxHeartbeats 8000000
set_option maxRecDepth 100000

def acm.T4 : Bool × List (List Nat × List Nat) := (true, [([], []), ([0], [0]), ([], []), ([2], [2]), ([], []), ([4], [4]), ([0, 1, 4, 5], []), ([6, 1, 5, 0, 1, 4, 5], [1, 6]), ([0, 1, 2, 3, 4, 5, 6, 7], []), ([8, 3, 7, 0, 1, 2, 3, 4, 5, 6, 7], [3, 8])])
def acm.B4 : List Nat := [0, 1, 0, 4, 0, 16, 51, 115, 255, 511]
theorem acm.tab4 : rtab .any (opsOf Tryz.f31 4) = acm.T4 := by kernel_rfl
theorem acm.bits4 : waitsOk acm.T4.2 acm.B4 = true := by kernel_rfl
def acm.T11 : Bool × List (List Nat × List Nat) := (true, [([], []), ([0], [0]), ([], []), ([], []), ([3], [3]), ([2, 4], [2, 4]), ([1, 5, 0, 1, 2, 3, 4, 5], [1, 5]), ([6, 0, 1, 2, 3, 4, 5], [6]), ([7, 5, 0, 1, 2, 3, 4, 5], [7])])
def acm.B11 : List Nat := [0, 1, 0, 0, 8, 28, 63, 127, 255]
theorem acm.tab11 : rtab .any (opsOf Tryz.f31 11) = acm.T11 := by kernel_rfl
theorem acm.bits11 : waitsOk acm.T11.2 acm.B11 = true := by kernel_rfl
def acm.T13 : Bool × List (List Nat × List Nat) := (true, [([], []), ([0], [0]), ([], []), ([], []), ([3], [3]), ([2, 4], [2, 4]), ([1, 5, 0, 1, 2, 3, 4, 5], [1, 5]), ([6, 0, 1, 2, 3, 4, 5], [6]), ([7, 5, 0, 1, 2, 3, 4, 5], [7])])
def acm.B13 : List Nat := [0, 1, 0, 0, 8, 28, 63, 127, 255]
theorem acm.tab13 : rtab .any (opsOf Tryz.f31 13) = acm.T13 := by kernel_rfl
theorem acm.bits13 : waitsOk acm.T13.2 acm.B13 = true := by kernel_rfl
def acm.T17 : Bool × List (List Nat × List Nat) := (true, [([], []), ([0], [0]), ([], []), ([2], [2]), ([], []), ([4], [4]), ([0, 1, 4, 5], []), ([6, 1, 5, 0, 1, 4, 5], [1, 6]), ([0, 1, 2, 3, 4, 5, 6, 7], []), ([8, 3, 7, 0, 1, 2, 3, 4, 5, 6, 7], [3, 8])])
def acm.B17 : List Nat := [0, 1, 0, 4, 0, 16, 51, 115, 255, 511]
theorem acm.tab17 : rtab .any (opsOf Tryz.f31 17) = acm.T17 := by kernel_rfl
theorem acm.bits17 : waitsOk acm.T17.2 acm.B17 = true := by kernel_rfl
theorem accept_ok {N : Nat} {w : World} {L : List Res} (s : PS) (e : S50) (A6 A7 : Option Addr) (k6 k7 : Nat) (hk0 : 1 ≤ e.f2 ∧ e.f2 ≤ 9) (hth0 : e.f2 = 4 ∨ e.f2 = 5 → 0 ≤ thIx e.f3 s.th) (m10 : s.pe.length ≤ 100000) (m20 : s.th.length ≤ 100000) (hno0 : 0 ≤ s.no ∧ s.no ≤ 100000)
    (HS0 : St N w (Row k69 69 (.slice A6 s.pe.length k6) s.pe :: Row k71 71 (.slice A7 s.th.length k7) s.th :: L)) :
    Calls Tryz.prog 31 #[.agg #[.int .i64 s.st, .string s.ti, .int .i64 s.op, .int .i64 s.en, .string s.ca.f0, .int .i64 s.ca.f1, .slice A6 s.pe.length k6, .slice A7 s.th.length k7, .int .i64 s.no], .agg #[.string e.f0.f0, .int .i64 e.f0.f1, .int .i64 e.f1, .int .i64 e.f2, .string e.f3.f0, .int .i64 e.f3.f1, .string e.f4, .int .i64 e.f5, .string e.f6]] w fun r w' => ∃ v6 v7, r = .returned (.agg #[.int .i64 (accM s e).st, .string (accM s e).ti, .int .i64 (accM s e).op, .int .i64 (accM s e).en, .string (accM s e).ca.f0, .int .i64 (accM s e).ca.f1, v6, v7, .int .i64 (accM s e).no]) ∧ St N w' (Row k69 69 v6 (accM s e).pe :: Row k71 71 v7 (accM s e).th :: L) ∧ Below N w w' := by
  have HS := Aside0.mk HS0
  have HB := Aside0.mk (Below.refl N w)
  have hth := Aside0.mk hth0
  have m1 := Aside0.mk m10
  have m2 := Aside0.mk m20
  have hno := Aside0.mk hno0
  clear HS0 hth0 m10 m20 hno0
  go_enter Tryz.func31, Tryz.ntmps31
  go_upto_region 2 with (first | ((with_reducible refine gate_dst (N := 2) rfl ?_); refine box_event ?hg (N := 2) ?hd (cs := #[.int .i64 s.st, .string s.ti, .int .i64 s.op, .int .i64 s.en, .string s.ca.f0, .int .i64 s.ca.f1, .slice A6 s.pe.length k6, .slice A7 s.th.length k7, .int .i64 s.no]) (t := 37) ?hr ?_; (case hd => rfl); (case hg => rfl); (case hr => first | (go_simp; done) | (go_simp; rfl)); intro gS hg w1 hbox hb; have n0_ := Aside0.mk (HS.out.box hg hbox hb); have n1_ := Aside0.mk (below_step' HB.out HS.out.size hb); clear HS HB; have HS := n0_; have HB := n1_; clear n0_ n1_; (try simp only [List.eraseIdx_cons_succ, List.eraseIdx_cons_zero] at HS); clear hb hbox hg) | ((with_reducible refine gate_dst (N := 3) rfl ?_); refine box_event ?hg (N := 3) ?hd (cs := #[.string e.f0.f0, .int .i64 e.f0.f1, .int .i64 e.f1, .int .i64 e.f2, .string e.f3.f0, .int .i64 e.f3.f1, .string e.f4, .int .i64 e.f5, .string e.f6]) (t := 50) ?hr ?_; (case hd => rfl); (case hg => rfl); (case hr => first | (go_simp; done) | (go_simp; rfl)); intro gE hg w2 hbox hb; have n0_ := Aside0.mk (HS.out.box hg hbox hb); have n1_ := Aside0.mk (below_step' HB.out HS.out.size hb); clear HS HB; have HS := n0_; have HB := n1_; clear n0_ n1_; (try simp only [List.eraseIdx_cons_succ, List.eraseIdx_cons_zero] at HS); clear hb hbox hg) | ((with_reducible refine gate_dst (N := 4) rfl ?_); refine box_event ?hg (N := 4) ?hd (cs := #[.int .i64 0, .string ⟨#[]⟩, .int .i64 0, .int .i64 0, .string ⟨#[]⟩, .int .i64 0, .slice none 0 0, .slice none 0 0, .int .i64 0]) (t := 37) ?hr ?_; (case hd => rfl); (case hg => rfl); (case hr => first | (go_simp; done) | (go_simp; rfl)); intro gR hg w3 hbox hb; have n0_ := Aside0.mk (HS.out.box hg hbox hb); have n1_ := Aside0.mk (below_step' HB.out HS.out.size hb); clear HS HB; have HS := n0_; have HB := n1_; clear n0_ n1_; (try simp only [List.eraseIdx_cons_succ, List.eraseIdx_cons_zero] at HS); clear hb hbox hg) | ((with_reducible refine gate_dst (N := 5) rfl ?_); refine S_lit k71 71 ?hg5 (Nt := 5) ?hd5 (xs := ([] : List S71)) (inner := ([] : List Value)) ?hr5 ?hp5 HS.out (by simp) ?_; (case hd5 => rfl); (case hg5 => rfl); (case hr5 => first | (go_simp; done) | (go_simp; rfl)); (case hp5 => exact Reps.none _ _); intro v5 w4 hs hb; have n0_ := Aside0.mk (hs); have n1_ := Aside0.mk (below_step' HB.out HS.out.size hb); clear HS HB; have HS := n0_; have HB := n1_; clear n0_ n1_; (try simp only [List.eraseIdx_cons_succ, List.eraseIdx_cons_zero] at HS); clear hs hb; have z7 : w4.cell? ⟨gS, 7, none⟩ = some (.slice A7 s.th.length k7) := ((HS.out.pick 3 rfl).cell 7).trans rfl; have f7 := (HS.out.pick 3 rfl).frozen 7) | ((with_reducible refine gate_builtin (b := .append) (xs := #[.tmp 5, .tmp 7]) rfl ?_); at_builtin; refine S_append_rows k71 rfl (.tmp 5) (.tmp 7) 35 71 (.agg #[(.string ⟨#[]⟩), (.int .i64 0), (.string ⟨#[]⟩), (.int .i64 0)]) 48 rfl Tryz.underlying35 info71 rfl (by decide) (by omega) v5 [] s.th A7 s.th.length k7 rfl rfl (fun x cs h => by rw [flatT.K h]; exact k71_mkM _ _ _ x) HS.out (HS.out.pick 5 rfl).rowC.2.2 HB.out (by have := m2.out; simp; omega) ?_; intro v8 w5 hs hb; rw [List.nil_append] at hs; clear z7 f7; have n0_ := Aside0.mk (hs); have n1_ := Aside0.mk (hb); clear HS HB; have HS := n0_; have HB := n1_; clear n0_ n1_; (try simp only [List.eraseIdx_cons_succ, List.eraseIdx_cons_zero] at HS); clear hs hb; obtain ⟨AT, kT, eT, _, _⟩ := HS.out.reads; subst eT; have z7 : w5.cell? ⟨gS, 7, none⟩ = some (.slice A7 s.th.length k7) := ((HS.out.pick 3 rfl).cell 7).trans rfl; have f7 := (HS.out.pick 3 rfl).frozen 7))
  have s0 := (HS.out.pick 3 rfl).set 7 (.slice AT s.th.length kT) #[.int .i64 s.st, .string s.ti, .int .i64 s.op, .int .i64 s.en, .string s.ca.f0, .int .i64 s.ca.f1, .slice A6 s.pe.length k6, .slice AT s.th.length kT, .int .i64 s.no] rfl
  have b0 := (HS.out.pick 3 rfl).below_set (i := 7) (u := .slice AT s.th.length kT) HB.out
  have n0_ := Aside0.mk ((((((((s0.pick 5 rfl).pick 5 rfl).pick 4 rfl).pick 4 rfl).pick 4 rfl).pick 5 rfl))); have n1_ := Aside0.mk (b0); clear HS HB; have HS := n0_; have HB := n1_; clear n0_ n1_; (try simp only [List.eraseIdx_cons_succ, List.eraseIdx_cons_zero] at HS)
  clear s0 b0
  generalize World.setCell _ _ _ = w6 at HS HB ⊢
  clear z7 f7
  have hks : e.f2 = 1 ∨ e.f2 = 2 ∨ e.f2 = 3 ∨ e.f2 = 4 ∨ e.f2 = 5 ∨ e.f2 = 6 ∨ e.f2 = 7 ∨ e.f2 = 8 ∨ e.f2 = 9 := by omega
  clear hk0
  rcases hks with hk | hk | hk | hk | hk | hk | hk | hk | hk
  · have ha : Aside0 (accM s e = { s with st := 1, ti := e.f6, op := e.f1, pe := appM e.f0.f0 3 s.pe }) := ⟨by unfold accM; rw [if_pos hk]⟩
    have y3 : w6.cell? ⟨gE, 3, none⟩ = some (.int .i64 1) := ((HS.out.pick 0 rfl).cell 3).trans (show _ = some (Value.int .i64 1) by rw [← hk]; rfl)
    clear hk
    go_upto_region 4 with (fail)
    clear y3
    have n0_ := Aside0.mk (HS.out.drew); have n1_ := Aside0.mk (HB.out.drew); clear HS HB; have HS := n0_; have HB := n1_; clear n0_ n1_
    refine start_ (n := 10) (S := fun w' => w'.cell? ⟨gE, 8, none⟩ = some (.string e.f6) ∧ w'.cell? ⟨gE, 2, none⟩ = some (.int .i64 e.f1)) (ds := []) #[false, false, false, false, false, false, false, false, false, false] (by kernel_rfl) rfl rfl ⟨((HS.out.pick 0 rfl).cell 8).trans rfl, ((HS.out.pick 0 rfl).cell 2).trans rfl⟩ (fun hHeld => ?_); refine with_tabW acm.tab4 acm.bits4 (fun HT_ HW_ => ?_)
    generalize w6.drew = w7 at HS HB hHeld ⊢
    refine pU 0 14 #[true, false, false, false, false, false, false, false, false, false] rfl rfl HT_ ?_
    refine pU 2 16 #[true, false, true, false, false, false, false, false, false, false] rfl rfl HT_ ?_
    refine pU 4 18 #[true, false, true, false, true, false, false, false, false, false] rfl rfl HT_ ?_
    refine tK 1 15 #[true, true, true, false, true, false, false, false, false, false] rfl rfl HT_ HW_ hHeld ?_ (by rintro w' ⟨s0, s1⟩; go_simp; with_reducible rfl)
    refine tK 3 17 #[true, true, true, true, true, false, false, false, false, false] rfl rfl HT_ HW_ hHeld ?_ (by rintro w' ⟨s0, s1⟩; go_simp; with_reducible rfl)
    refine one_ (i := 5) (N := none) #[true, true, true, true, true, true, false, false, false, false] rfl rfl (one_of HT_.out (by kernel_rfl)) (by decide) (fun K hK => ?_)
    have q0 := ((HS.out.pick 1 rfl).cell 0).trans (show _ = some (.int .i64 s.st) from rfl); have e0 := (HS.out.pick 1 rfl).frozen 0
    refine skip_ (w1 := ?_) (by rfl) rfl ?_ ?_
    rotate_left
    · go_simp
      rfl
    clear q0 e0
    have n0_ := Aside0.mk (((HS.out.pick 1 rfl).set 0 (.int .i64 1) #[.int .i64 1, .string s.ti, .int .i64 s.op, .int .i64 s.en, .string s.ca.f0, .int .i64 s.ca.f1, .slice A6 s.pe.length k6, .slice AT s.th.length kT, .int .i64 s.no] rfl).swap); have n1_ := Aside0.mk (((HS.out.pick 1 rfl).below_set (i := 0) (u := .int .i64 1) HB.out)); clear HS HB; have HS := n0_; have HB := n1_; clear n0_ n1_; (try simp only [List.eraseIdx_cons_succ, List.eraseIdx_cons_zero] at HS)
    refine hK.out _ _ ⟨((HS.out.pick 0 rfl).cell 8).trans rfl, ((HS.out.pick 0 rfl).cell 2).trans rfl⟩ (fun hHeld => ?_)
    clear hK K
    refine pU 6 19 #[true, true, true, true, true, true, true, false, false, false] rfl rfl HT_ ?_
    refine one_ (i := 7) (N := none) #[true, true, true, true, true, true, true, true, false, false] rfl rfl (one_of HT_.out (by kernel_rfl)) (by decide) (fun K hK => ?_)
    have q1 := ((HS.out.pick 1 rfl).cell 1).trans (show _ = some (.string s.ti) from rfl); have e1 := (HS.out.pick 1 rfl).frozen 1
    refine skip_ (w1 := ?_) (by rfl) rfl ?_ ?_
    rotate_left
    · go_simp
      rfl
    clear q1 e1
    have n0_ := Aside0.mk (((HS.out.pick 1 rfl).set 1 (.string e.f6) #[.int .i64 1, .string e.f6, .int .i64 s.op, .int .i64 s.en, .string s.ca.f0, .int .i64 s.ca.f1, .slice A6 s.pe.length k6, .slice AT s.th.length kT, .int .i64 s.no] rfl).swap); have n1_ := Aside0.mk (((HS.out.pick 1 rfl).below_set (i := 1) (u := .string e.f6) HB.out)); clear HS HB; have HS := n0_; have HB := n1_; clear n0_ n1_; (try simp only [List.eraseIdx_cons_succ, List.eraseIdx_cons_zero] at HS)
    refine hK.out _ _ ⟨((HS.out.pick 0 rfl).cell 8).trans rfl, ((HS.out.pick 0 rfl).cell 2).trans rfl⟩ (fun hHeld => ?_)
    clear hK K
    refine pU 8 20 #[true, true, true, true, true, true, true, true, true, false] rfl rfl HT_ ?_
    refine one_ (i := 9) (N := none) #[true, true, true, true, true, true, true, true, true, true] rfl rfl (one_of HT_.out (by kernel_rfl)) (by decide) (fun K hK => ?_)
    have q2 := ((HS.out.pick 1 rfl).cell 2).trans (show _ = some (.int .i64 s.op) from rfl); have e2 := (HS.out.pick 1 rfl).frozen 2
    refine skip_ (w1 := ?_) (by rfl) rfl ?_ ?_
    rotate_left
    · go_simp
      rfl
    clear q2 e2
    have n0_ := Aside0.mk (((HS.out.pick 1 rfl).set 2 (.int .i64 e.f1) #[.int .i64 1, .string e.f6, .int .i64 e.f1, .int .i64 s.en, .string s.ca.f0, .int .i64 s.ca.f1, .slice A6 s.pe.length k6, .slice AT s.th.length kT, .int .i64 s.no] rfl).swap); have n1_ := Aside0.mk (((HS.out.pick 1 rfl).below_set (i := 2) (u := .int .i64 e.f1) HB.out)); clear HS HB; have HS := n0_; have HB := n1_; clear n0_ n1_; (try simp only [List.eraseIdx_cons_succ, List.eraseIdx_cons_zero] at HS)
    refine hK.out _ _ ⟨((HS.out.pick 0 rfl).cell 8).trans rfl, ((HS.out.pick 0 rfl).cell 2).trans rfl⟩ (fun hHeld => ?_)
    clear hK K
    refine done_ (done_of HT_.out (by kernel_rfl)) ?_
    clear HT_ HW_
    try clear hHeld
    generalize World.setCell _ _ _ = w7 at HS HB ⊢
    obtain ⟨z0, z1, z2, z3, z4, z5, z6, z7, z8⟩ := cells9 (HS.out.pick 1 rfl)
    have y0 : w7.cell? ⟨gE, 0, none⟩ = some (.string e.f0.f0) := ((HS.out.pick 0 rfl).cell 0).trans rfl
    go_upto_region 22 with (first | (go_at_call 56; refine (appoint_ok ({ s with st := 1, ti := e.f6, op := e.f1 }) e.f0.f0 3 A6 AT k6 s.th.length kT m1.out (fun w' L' h _ => (St.pick (r := Row k69 69 (.slice A6 s.pe.length k6) s.pe) h (L'.length + 4) (by simp)).rowC.2.2) HS.out).mono ?_; rintro r_ w8 ⟨v, rfl, hs, hb⟩; clear y0 z0 z1 z2 z3 z4 z5 z6 z7 z8; have n0_ := Aside0.mk (hs); have n1_ := Aside0.mk (HB.out.trans hb); clear HS HB; have HS := n0_; have HB := n1_; clear n0_ n1_; (try simp only [List.eraseIdx_cons_succ, List.eraseIdx_cons_zero] at HS); clear hs hb; obtain ⟨q, hq0⟩ : ∃ q, appM e.f0.f0 3 s.pe = q := ⟨_, rfl⟩; have HS2 : Aside0 (St N w8 (Row k69 69 v (appM e.f0.f0 3 s.pe) :: _)) := HS; rw [hq0] at HS2; clear HS; have HS := HS2; clear HS2; have hq := Aside0.mk hq0; clear hq0; obtain ⟨Av, cv, ev, _, _⟩ := HS.out.reads; subst ev; obtain ⟨z0, z1, z2, z3, z4, z5, z6, z7, z8⟩ := cells9 (HS.out.pick 2 rfl); obtain ⟨f0, f1, f2, f3, f4, f5, f6, f7, f8⟩ := frozen9 (HS.out.pick 2 rfl)))
    have s9 := set9 (.int .i64 1) (.string e.f6) (.int .i64 e.f1) (.int .i64 s.en) (.string s.ca.f0) (.int .i64 s.ca.f1) (.slice Av q.length cv) (.slice AT s.th.length kT) (.int .i64 s.no) (HS.out.pick 2 rfl) HB.out
    have n0_ := Aside0.mk (((((((((s9.1.pick 6 rfl).pick 6 rfl).pick 6 rfl).pick 6 rfl).pick 4 rfl).pick 6 rfl).pick 6 rfl))); have n1_ := Aside0.mk (s9.2); clear HS HB; have HS := n0_; have HB := n1_; clear n0_ n1_; (try simp only [List.eraseIdx_cons_succ, List.eraseIdx_cons_zero] at HS)
    clear s9
    generalize World.setCell _ _ _ = w9 at HS HB ⊢
    clear z0 f0 z1 f1 z2 f2 z3 f3 z4 f4 z5 f5 z6 f6 z7 f7 z8 f8
    go_upto_region 22 with (fail)
    obtain ⟨p0, p1, p2, p3, p4, p5, p6, p7, p8⟩ := cells9 (HS.out.pick 2 rfl)
    obtain ⟨c0, c1, c2, c3, c4, c5, c6, c7, c8⟩ := cells9 (HS.out.pick 4 rfl)
    obtain ⟨f0, f1, f2, f3, f4, f5, f6, f7, f8⟩ := frozen9 (HS.out.pick 4 rfl)
    go_wp2
    have s9 := set9 (.int .i64 1) (.string e.f6) (.int .i64 e.f1) (.int .i64 s.en) (.string s.ca.f0) (.int .i64 s.ca.f1) (.slice Av q.length cv) (.slice AT s.th.length kT) (.int .i64 s.no) (HS.out.pick 4 rfl) HB.out
    refine bodyPost_ret (results_cell_row rfl _ _ gR 37 _ (0, 0) _ rfl s9.1.blk Tryz.underlying37 rfl (by kernel_rfl)) rfl ?_
    have h := ((((((((s9.1.pick 4 rfl).pick 2 rfl).pick 6 rfl).pick 6 rfl).pick 6 rfl).pick 6 rfl).pick 6 rfl)).drop.drop.drop.drop.drop
    have ha := Aside0.mk (ha.out.trans (by rw [hq.out]))
    rw [ha.out]
    exact ⟨_, _, rfl, h, s9.2⟩
  · have ha : Aside0 (accM s e = { s with no := s.no + 1 }) := ⟨by unfold accM; rw [if_neg (show ¬ e.f2 = 1 by omega), if_pos hk]⟩
    have y3 : w6.cell? ⟨gE, 3, none⟩ = some (.int .i64 2) := ((HS.out.pick 0 rfl).cell 3).trans (show _ = some (Value.int .i64 2) by rw [← hk]; rfl)
    clear hk
    have hw : IntKind.i64.wrap (s.no + 1) = s.no + 1 := by rw [IntKind.wrap_i64]; have := hno.out; omega
    have z8 : w6.cell? ⟨gS, 8, none⟩ = some (.int .i64 s.no) := ((HS.out.pick 1 rfl).cell 8).trans rfl
    have f8 := (HS.out.pick 1 rfl).frozen 8
    go_upto_region 22 with (fail)
    have s0 := (HS.out.pick 1 rfl).set 8 (.int .i64 (s.no + 1)) #[.int .i64 s.st, .string s.ti, .int .i64 s.op, .int .i64 s.en, .string s.ca.f0, .int .i64 s.ca.f1, .slice A6 s.pe.length k6, .slice AT s.th.length kT, .int .i64 (s.no + 1)] rfl
    have b0 := (HS.out.pick 1 rfl).below_set (i := 8) (u := .int .i64 (s.no + 1)) HB.out
    have n0_ := Aside0.mk ((((((((s0.pick 5 rfl).pick 5 rfl).pick 5 rfl).pick 5 rfl).pick 4 rfl).pick 5 rfl))); have n1_ := Aside0.mk (b0); clear HS HB; have HS := n0_; have HB := n1_; clear n0_ n1_; (try simp only [List.eraseIdx_cons_succ, List.eraseIdx_cons_zero] at HS)
    clear s0 b0
    generalize World.setCell _ _ _ = w9 at HS HB ⊢
    clear z8 f8
    clear y3 hw
    go_upto_region 22 with (fail)
    obtain ⟨p0, p1, p2, p3, p4, p5, p6, p7, p8⟩ := cells9 (HS.out.pick 1 rfl)
    obtain ⟨c0, c1, c2, c3, c4, c5, c6, c7, c8⟩ := cells9 (HS.out.pick 3 rfl)
    obtain ⟨f0, f1, f2, f3, f4, f5, f6, f7, f8⟩ := frozen9 (HS.out.pick 3 rfl)
    go_wp2
    have s9 := set9 (.int .i64 s.st) (.string s.ti) (.int .i64 s.op) (.int .i64 s.en) (.string s.ca.f0) (.int .i64 s.ca.f1) (.slice A6 s.pe.length k6) (.slice AT s.th.length kT) (.int .i64 (s.no + 1)) (HS.out.pick 3 rfl) HB.out
    refine bodyPost_ret (results_cell_row rfl _ _ gR 37 _ (0, 0) _ rfl s9.1.blk Tryz.underlying37 rfl (by kernel_rfl)) rfl ?_
    have h := (((((((s9.1.pick 3 rfl).pick 4 rfl).pick 5 rfl).pick 5 rfl).pick 5 rfl).pick 5 rfl)).drop.drop.drop.drop
    rw [ha.out]
    exact ⟨_, _, rfl, h, s9.2⟩
  · have ha : Aside0 (accM s e = { s with th := s.th ++ [(⟨e.f0, e.f6, 1⟩ : S71)] }) := ⟨by unfold accM; rw [if_neg (show ¬ e.f2 = 1 by omega), if_neg (show ¬ e.f2 = 2 by omega), if_pos hk]⟩
    have y3 : w6.cell? ⟨gE, 3, none⟩ = some (.int .i64 3) := ((HS.out.pick 0 rfl).cell 3).trans (show _ = some (Value.int .i64 3) by rw [← hk]; rfl)
    clear hk
    have z7 : w6.cell? ⟨gS, 7, none⟩ = some (.slice AT s.th.length kT) := ((HS.out.pick 1 rfl).cell 7).trans rfl
    have f7 := (HS.out.pick 1 rfl).frozen 7
    have y0 : w6.cell? ⟨gE, 0, none⟩ = some (.string e.f0.f0) := ((HS.out.pick 0 rfl).cell 0).trans rfl
    have y1 : w6.cell? ⟨gE, 1, none⟩ = some (.int .i64 e.f0.f1) := ((HS.out.pick 0 rfl).cell 1).trans rfl
    have y8 : w6.cell? ⟨gE, 8, none⟩ = some (.string e.f6) := ((HS.out.pick 0 rfl).cell 8).trans rfl
    go_upto_region 22 with (first | ((with_reducible refine gate_builtin (b := .append) (xs := #[.tmp 35, .tmp 41]) rfl ?_); at_builtin; refine S_append k71 rfl (.tmp 35) (.tmp 41) 35 71 (.agg #[(.string ⟨#[]⟩), (.int .i64 0), (.string ⟨#[]⟩), (.int .i64 0)]) 48 rfl Tryz.underlying35 info71 rfl (by decide) (by omega) _ _ (⟨e.f0, e.f6, 1⟩ : S71) [.string e.f0.f0, .int .i64 e.f0.f1, .string e.f6, .int .i64 1] rfl rfl (k71_mkM _ _ _ (⟨e.f0, e.f6, 1⟩ : S71)) (HS.out.pick 2 rfl) HB.out (by have := m2.out; omega) ?_; intro vU w8 hs hb; clear y3 y0 y1 y8 z7 f7; have n0_ := Aside0.mk ((hs.pick 2 rfl).pick 2 rfl); have n1_ := Aside0.mk (hb); clear HS HB; have HS := n0_; have HB := n1_; clear n0_ n1_; (try simp only [List.eraseIdx_cons_succ, List.eraseIdx_cons_zero] at HS); clear hs hb; obtain ⟨q, hq0⟩ : ∃ q, s.th ++ [(⟨e.f0, e.f6, 1⟩ : S71)] = q := ⟨_, rfl⟩; rw [hq0] at HS; have hq := Aside0.mk hq0; clear hq0; obtain ⟨AU, kU, eU, _, _⟩ := (HS.out.pick 2 rfl).reads; subst eU; have z7 : w8.cell? ⟨gS, 7, none⟩ = some (.slice AT s.th.length kT) := ((HS.out.pick 1 rfl).cell 7).trans rfl; have f7 := (HS.out.pick 1 rfl).frozen 7))
    have s0 := (HS.out.pick 1 rfl).set 7 (.slice AU q.length kU) #[.int .i64 s.st, .string s.ti, .int .i64 s.op, .int .i64 s.en, .string s.ca.f0, .int .i64 s.ca.f1, .slice A6 s.pe.length k6, .slice AU q.length kU, .int .i64 s.no] rfl
    have b0 := (HS.out.pick 1 rfl).below_set (i := 7) (u := .slice AU q.length kU) HB.out
    have n0_ := Aside0.mk ((((((((s0.pick 5 rfl).pick 5 rfl).pick 5 rfl).pick 5 rfl).pick 4 rfl).pick 5 rfl))); have n1_ := Aside0.mk (b0); clear HS HB; have HS := n0_; have HB := n1_; clear n0_ n1_; (try simp only [List.eraseIdx_cons_succ, List.eraseIdx_cons_zero] at HS)
    clear s0 b0
    generalize World.setCell _ _ _ = w9 at HS HB ⊢
    clear z7 f7
    go_upto_region 22 with (fail)
    obtain ⟨p0, p1, p2, p3, p4, p5, p6, p7, p8⟩ := cells9 (HS.out.pick 1 rfl)
    obtain ⟨c0, c1, c2, c3, c4, c5, c6, c7, c8⟩ := cells9 (HS.out.pick 3 rfl)
    obtain ⟨f0, f1, f2, f3, f4, f5, f6, f7, f8⟩ := frozen9 (HS.out.pick 3 rfl)
    go_wp2
    have s9 := set9 (.int .i64 s.st) (.string s.ti) (.int .i64 s.op) (.int .i64 s.en) (.string s.ca.f0) (.int .i64 s.ca.f1) (.slice A6 s.pe.length k6) (.slice AU q.length kU) (.int .i64 s.no) (HS.out.pick 3 rfl) HB.out
    refine bodyPost_ret (results_cell_row rfl _ _ gR 37 _ (0, 0) _ rfl s9.1.blk Tryz.underlying37 rfl (by kernel_rfl)) rfl ?_
    have h := (((((((s9.1.pick 3 rfl).pick 4 rfl).pick 5 rfl).pick 5 rfl).pick 5 rfl).pick 5 rfl)).drop.drop.drop.drop
    have ha := Aside0.mk (ha.out.trans (by rw [hq.out]))
    rw [ha.out]
    exact ⟨_, _, rfl, h, s9.2⟩
  · have ha : Aside0 (accM s e = { s with th := statP e.f3 2 s.th }) := ⟨by unfold accM; rw [if_neg (show ¬ e.f2 = 1 by omega), if_neg (show ¬ e.f2 = 2 by omega), if_neg (show ¬ e.f2 = 3 by omega), if_pos hk]⟩
    have y3 : w6.cell? ⟨gE, 3, none⟩ = some (.int .i64 4) := ((HS.out.pick 0 rfl).cell 3).trans (show _ = some (Value.int .i64 4) by rw [← hk]; rfl)
    obtain ⟨j, hj, hti0⟩ : ∃ j : Nat, j < s.th.length ∧ thIx e.f3 s.th = (j : Int) := by
      have h0 := hth.out (by omega)
      rcases thIx_range e.f3 s.th with h | ⟨j, h1, h2, _⟩
      · omega
      · exact ⟨j, h1, h2⟩
    clear hk
    have hti := Aside0.mk hti0
    have hst : Aside0 (statP e.f3 2 s.th = s.th.set j ⟨(rd_T71 s.th (j : Int)).f0, (rd_T71 s.th (j : Int)).f1, 2⟩) := ⟨by unfold statP; rw [hti0, Int.toNat_natCast]⟩
    clear hti0
    obtain ⟨gt, ct, et, _⟩ := St.row_some flatT (HS.out.pick 2 rfl) (by omega)
    obtain ⟨h1_, h2_⟩ : AT = some ⟨gt, 0, none⟩ ∧ kT = ct := by simpa using et
    subst h1_
    subst h2_
    clear et
    have q2 : decide ((j : Int) < (s.th.length : Int)) = true := decide_eq_true (by omega)
    have q3 := eq_true (show (j : Int) < (s.th.length : Int) by omega)
    have q4 := eq_true (show (0 : Int) ≤ (j : Int) by omega)
    go_upto_region 11 with (fail)
    clear y3
    have n0_ := Aside0.mk (HS.out.drew); have n1_ := Aside0.mk (HB.out.drew); clear HS HB; have HS := n0_; have HB := n1_; clear n0_ n1_
    refine start_ (n := 9) (S := fun w' => w'.cell? ⟨gS, 0, none⟩ = some (.int .i64 s.st) ∧ w'.cell? ⟨gS, 1, none⟩ = some (.string s.ti) ∧ w'.cell? ⟨gS, 2, none⟩ = some (.int .i64 s.op) ∧ w'.cell? ⟨gS, 3, none⟩ = some (.int .i64 s.en) ∧ w'.cell? ⟨gS, 4, none⟩ = some (.string s.ca.f0) ∧ w'.cell? ⟨gS, 5, none⟩ = some (.int .i64 s.ca.f1) ∧ w'.cell? ⟨gS, 6, none⟩ = some (.slice A6 s.pe.length k6) ∧ w'.cell? ⟨gS, 7, none⟩ = some (.slice (some ⟨gt, 0, none⟩) s.th.length kT) ∧ w'.cell? ⟨gS, 8, none⟩ = some (.int .i64 s.no) ∧ w'.cell? ⟨gE, 4, none⟩ = some (.string e.f3.f0) ∧ w'.cell? ⟨gE, 5, none⟩ = some (.int .i64 e.f3.f1)) (ds := [8]) #[false, false, false, false, false, false, false, false, false] (by kernel_rfl) rfl rfl ⟨((HS.out.pick 1 rfl).cell 0).trans rfl, ((HS.out.pick 1 rfl).cell 1).trans rfl, ((HS.out.pick 1 rfl).cell 2).trans rfl, ((HS.out.pick 1 rfl).cell 3).trans rfl, ((HS.out.pick 1 rfl).cell 4).trans rfl, ((HS.out.pick 1 rfl).cell 5).trans rfl, ((HS.out.pick 1 rfl).cell 6).trans rfl, ((HS.out.pick 1 rfl).cell 7).trans rfl, ((HS.out.pick 1 rfl).cell 8).trans rfl, ((HS.out.pick 0 rfl).cell 4).trans rfl, ((HS.out.pick 0 rfl).cell 5).trans rfl⟩ (fun hHeld => ?_); refine with_tabW acm.tab11 acm.bits11 (fun HT_ HW_ => ?_)
    generalize w6.drew = w7 at HS HB hHeld ⊢
    refine pU 0 46 #[true, false, false, false, false, false, false, false, false] rfl rfl HT_ ?_
    refine pU 3 49 #[true, false, false, true, false, false, false, false, false] rfl rfl HT_ ?_
    refine tK 1 47 #[true, true, false, true, false, false, false, false, false] rfl rfl HT_ HW_ hHeld ?_ (by rintro w' ⟨s0, s1, s2, s3, s4, s5, s6, s7, s8, s9, s10⟩; go_simp; with_reducible rfl)
    refine tK 2 48 #[true, true, true, true, false, false, false, false, false] rfl rfl HT_ HW_ hHeld ?_ (by rintro w' ⟨s0, s1, s2, s3, s4, s5, s6, s7, s8, s9, s10⟩; go_simp; with_reducible rfl)
    refine tK 4 50 #[true, true, true, true, true, false, false, false, false] rfl rfl HT_ HW_ hHeld ?_ (by rintro w' ⟨s0, s1, s2, s3, s4, s5, s6, s7, s8, s9, s10⟩; go_simp; with_reducible rfl)
    refine one_ (i := 5) (N := some 51) #[true, true, true, true, true, true, false, false, false] rfl rfl (one_of HT_.out (by kernel_rfl)) (by decide) (fun K hK => ?_)
    refine goes_ Tryz.func54 (by kernel_rfl) rfl #[.agg #[.int .i64 s.st, .string s.ti, .int .i64 s.op, .int .i64 s.en, .string s.ca.f0, .int .i64 s.ca.f1, .slice A6 s.pe.length k6, .slice (some ⟨gt, 0, none⟩) s.th.length kT, .int .i64 s.no], .agg #[.string e.f3.f0, .int .i64 e.f3.f1]] (by rfl) rfl rfl (by (try simp only [List.map_toArray, List.map_cons, List.map_nil]); first | done | rfl | (simp only [List.length_drop, List.length_take]; rfl)) ?_
    with_reducible refine (theoryM_ok s A6 (some ⟨gt, 0, none⟩) k6 kT _ (HS.out.pick 4 rfl).rowC.2.2 (HS.out.pick 4 rfl).rowC.2.1 (HS.out.pick 2 rfl).rowC.2.2 (HS.out.pick 2 rfl).rowC.2.1 m2.out e.f3).mono ?_
    rintro r_ w7 ⟨rfl, hb⟩; rw [hti.out]
    refine ⟨_, rfl, ?_⟩
    have n0_ := Aside0.mk (HS.out.step hb); have n1_ := Aside0.mk (below_step' HB.out HS.out.size hb); clear HS HB; have HS := n0_; have HB := n1_; clear n0_ n1_; (try simp only [List.eraseIdx_cons_succ, List.eraseIdx_cons_zero] at HS)
    clear hb
    refine hK.out _ _ ⟨((HS.out.pick 1 rfl).cell 0).trans rfl, ((HS.out.pick 1 rfl).cell 1).trans rfl, ((HS.out.pick 1 rfl).cell 2).trans rfl, ((HS.out.pick 1 rfl).cell 3).trans rfl, ((HS.out.pick 1 rfl).cell 4).trans rfl, ((HS.out.pick 1 rfl).cell 5).trans rfl, ((HS.out.pick 1 rfl).cell 6).trans rfl, ((HS.out.pick 1 rfl).cell 7).trans rfl, ((HS.out.pick 1 rfl).cell 8).trans rfl, ((HS.out.pick 0 rfl).cell 4).trans rfl, ((HS.out.pick 0 rfl).cell 5).trans rfl⟩ (fun hHeld => ?_)
    clear hK K
    refine norm_ (a' := ?_) ?_ ?_
    rotate_left
    · show Act.put _ (some 51) _ = _
      simp only [Act.put, List.setIfInBounds_toArray, List.set_cons_zero, List.set_cons_succ, i64_w, i32_w]
      rfl
    refine pU 6 52 #[true, true, true, true, true, true, true, false, false] rfl rfl HT_ ?_
    refine pU 7 53 #[true, true, true, true, true, true, true, true, false] rfl rfl HT_ ?_
    refine last_ (i := 8) (N := none) #[true, true, true, true, true, true, true, true, true] rfl rfl (one_of HT_.out (by kernel_rfl)) (by decide) (fun K hK => ?_)
    obtain ⟨x0, x1, x2, x3⟩ := thCells (HS.out.pick 2 rfl) j hj
    have q5 := (St.row_frozen flatT (HS.out.pick 2 rfl) (by omega) (j * 4 + 3))
    refine skip_ (w1 := ?_) (by rfl) rfl ?_ ?_
    rotate_left
    · go_simp
      rfl
    clear x0 x1 x2 x3 q5
    have h9 := stat_end (HS.out.pick 2 rfl) HB.out j 2 hj
    have n0_ := Aside0.mk (((h9.1.pick 2 rfl).pick 2 rfl)); have n1_ := Aside0.mk (h9.2); clear HS HB; have HS := n0_; have HB := n1_; clear n0_ n1_; (try simp only [List.eraseIdx_cons_succ, List.eraseIdx_cons_zero] at HS)
    clear h9
    refine hK.out _ _ ?_
    clear hK K
    refine done_ (done_of HT_.out (by kernel_rfl)) ?_
    clear HT_ HW_
    try clear hHeld
    go_upto_region 22 with (fail)
    generalize World.setCell _ _ _ = w9 at HS HB ⊢
    rw [← hst.out] at HS
    go_upto_region 22 with (fail)
    obtain ⟨p0, p1, p2, p3, p4, p5, p6, p7, p8⟩ := cells9 (HS.out.pick 1 rfl)
    obtain ⟨c0, c1, c2, c3, c4, c5, c6, c7, c8⟩ := cells9 (HS.out.pick 3 rfl)
    obtain ⟨f0, f1, f2, f3, f4, f5, f6, f7, f8⟩ := frozen9 (HS.out.pick 3 rfl)
    go_wp2
    have s9 := set9 (.int .i64 s.st) (.string s.ti) (.int .i64 s.op) (.int .i64 s.en) (.string s.ca.f0) (.int .i64 s.ca.f1) (.slice A6 s.pe.length k6) (.slice (some ⟨gt, 0, none⟩) s.th.length kT) (.int .i64 s.no) (HS.out.pick 3 rfl) HB.out
    refine bodyPost_ret (results_cell_row rfl _ _ gR 37 _ (0, 0) _ rfl s9.1.blk Tryz.underlying37 rfl (by kernel_rfl)) rfl ?_
    have h := (((((((s9.1.pick 3 rfl).pick 4 rfl).pick 5 rfl).pick 5 rfl).pick 5 rfl).pick 5 rfl)).drop.drop.drop.drop
    rw [ha.out]
    exact ⟨_, _, rfl, h, s9.2⟩
  · have ha : Aside0 (accM s e = { s with th := statP e.f3 3 s.th }) := ⟨by unfold accM; rw [if_neg (show ¬ e.f2 = 1 by omega), if_neg (show ¬ e.f2 = 2 by omega), if_neg (show ¬ e.f2 = 3 by omega), if_neg (show ¬ e.f2 = 4 by omega), if_pos hk]⟩
    have y3 : w6.cell? ⟨gE, 3, none⟩ = some (.int .i64 5) := ((HS.out.pick 0 rfl).cell 3).trans (show _ = some (Value.int .i64 5) by rw [← hk]; rfl)
    obtain ⟨j, hj, hti0⟩ : ∃ j : Nat, j < s.th.length ∧ thIx e.f3 s.th = (j : Int) := by
      have h0 := hth.out (by omega)
      rcases thIx_range e.f3 s.th with h | ⟨j, h1, h2, _⟩
      · omega
      · exact ⟨j, h1, h2⟩
    clear hk
    have hti := Aside0.mk hti0
    have hst : Aside0 (statP e.f3 3 s.th = s.th.set j ⟨(rd_T71 s.th (j : Int)).f0, (rd_T71 s.th (j : Int)).f1, 3⟩) := ⟨by unfold statP; rw [hti0, Int.toNat_natCast]⟩
    clear hti0
    obtain ⟨gt, ct, et, _⟩ := St.row_some flatT (HS.out.pick 2 rfl) (by omega)
    obtain ⟨h1_, h2_⟩ : AT = some ⟨gt, 0, none⟩ ∧ kT = ct := by simpa using et
    subst h1_
    subst h2_
    clear et
    have q2 : decide ((j : Int) < (s.th.length : Int)) = true := decide_eq_true (by omega)
    have q3 := eq_true (show (j : Int) < (s.th.length : Int) by omega)
    have q4 := eq_true (show (0 : Int) ≤ (j : Int) by omega)
    go_upto_region 13 with (fail)
    clear y3
    have n0_ := Aside0.mk (HS.out.drew); have n1_ := Aside0.mk (HB.out.drew); clear HS HB; have HS := n0_; have HB := n1_; clear n0_ n1_
    refine start_ (n := 9) (S := fun w' => w'.cell? ⟨gS, 0, none⟩ = some (.int .i64 s.st) ∧ w'.cell? ⟨gS, 1, none⟩ = some (.string s.ti) ∧ w'.cell? ⟨gS, 2, none⟩ = some (.int .i64 s.op) ∧ w'.cell? ⟨gS, 3, none⟩ = some (.int .i64 s.en) ∧ w'.cell? ⟨gS, 4, none⟩ = some (.string s.ca.f0) ∧ w'.cell? ⟨gS, 5, none⟩ = some (.int .i64 s.ca.f1) ∧ w'.cell? ⟨gS, 6, none⟩ = some (.slice A6 s.pe.length k6) ∧ w'.cell? ⟨gS, 7, none⟩ = some (.slice (some ⟨gt, 0, none⟩) s.th.length kT) ∧ w'.cell? ⟨gS, 8, none⟩ = some (.int .i64 s.no) ∧ w'.cell? ⟨gE, 4, none⟩ = some (.string e.f3.f0) ∧ w'.cell? ⟨gE, 5, none⟩ = some (.int .i64 e.f3.f1)) (ds := [8]) #[false, false, false, false, false, false, false, false, false] (by kernel_rfl) rfl rfl ⟨((HS.out.pick 1 rfl).cell 0).trans rfl, ((HS.out.pick 1 rfl).cell 1).trans rfl, ((HS.out.pick 1 rfl).cell 2).trans rfl, ((HS.out.pick 1 rfl).cell 3).trans rfl, ((HS.out.pick 1 rfl).cell 4).trans rfl, ((HS.out.pick 1 rfl).cell 5).trans rfl, ((HS.out.pick 1 rfl).cell 6).trans rfl, ((HS.out.pick 1 rfl).cell 7).trans rfl, ((HS.out.pick 1 rfl).cell 8).trans rfl, ((HS.out.pick 0 rfl).cell 4).trans rfl, ((HS.out.pick 0 rfl).cell 5).trans rfl⟩ (fun hHeld => ?_); refine with_tabW acm.tab13 acm.bits13 (fun HT_ HW_ => ?_)
    generalize w6.drew = w7 at HS HB hHeld ⊢
    refine pU 0 56 #[true, false, false, false, false, false, false, false, false] rfl rfl HT_ ?_
    refine pU 3 59 #[true, false, false, true, false, false, false, false, false] rfl rfl HT_ ?_
    refine tK 1 57 #[true, true, false, true, false, false, false, false, false] rfl rfl HT_ HW_ hHeld ?_ (by rintro w' ⟨s0, s1, s2, s3, s4, s5, s6, s7, s8, s9, s10⟩; go_simp; with_reducible rfl)
    refine tK 2 58 #[true, true, true, true, false, false, false, false, false] rfl rfl HT_ HW_ hHeld ?_ (by rintro w' ⟨s0, s1, s2, s3, s4, s5, s6, s7, s8, s9, s10⟩; go_simp; with_reducible rfl)
    refine tK 4 60 #[true, true, true, true, true, false, false, false, false] rfl rfl HT_ HW_ hHeld ?_ (by rintro w' ⟨s0, s1, s2, s3, s4, s5, s6, s7, s8, s9, s10⟩; go_simp; with_reducible rfl)
    refine one_ (i := 5) (N := some 61) #[true, true, true, true, true, true, false, false, false] rfl rfl (one_of HT_.out (by kernel_rfl)) (by decide) (fun K hK => ?_)
    refine goes_ Tryz.func54 (by kernel_rfl) rfl #[.agg #[.int .i64 s.st, .string s.ti, .int .i64 s.op, .int .i64 s.en, .string s.ca.f0, .int .i64 s.ca.f1, .slice A6 s.pe.length k6, .slice (some ⟨gt, 0, none⟩) s.th.length kT, .int .i64 s.no], .agg #[.string e.f3.f0, .int .i64 e.f3.f1]] (by rfl) rfl rfl (by (try simp only [List.map_toArray, List.map_cons, List.map_nil]); first | done | rfl | (simp only [List.length_drop, List.length_take]; rfl)) ?_
    with_reducible refine (theoryM_ok s A6 (some ⟨gt, 0, none⟩) k6 kT _ (HS.out.pick 4 rfl).rowC.2.2 (HS.out.pick 4 rfl).rowC.2.1 (HS.out.pick 2 rfl).rowC.2.2 (HS.out.pick 2 rfl).rowC.2.1 m2.out e.f3).mono ?_
    rintro r_ w7 ⟨rfl, hb⟩; rw [hti.out]
    refine ⟨_, rfl, ?_⟩
    have n0_ := Aside0.mk (HS.out.step hb); have n1_ := Aside0.mk (below_step' HB.out HS.out.size hb); clear HS HB; have HS := n0_; have HB := n1_; clear n0_ n1_; (try simp only [List.eraseIdx_cons_succ, List.eraseIdx_cons_zero] at HS)
    clear hb
    refine hK.out _ _ ⟨((HS.out.pick 1 rfl).cell 0).trans rfl, ((HS.out.pick 1 rfl).cell 1).trans rfl, ((HS.out.pick 1 rfl).cell 2).trans rfl, ((HS.out.pick 1 rfl).cell 3).trans rfl, ((HS.out.pick 1 rfl).cell 4).trans rfl, ((HS.out.pick 1 rfl).cell 5).trans rfl, ((HS.out.pick 1 rfl).cell 6).trans rfl, ((HS.out.pick 1 rfl).cell 7).trans rfl, ((HS.out.pick 1 rfl).cell 8).trans rfl, ((HS.out.pick 0 rfl).cell 4).trans rfl, ((HS.out.pick 0 rfl).cell 5).trans rfl⟩ (fun hHeld => ?_)
    clear hK K
    refine norm_ (a' := ?_) ?_ ?_
    rotate_left
    · show Act.put _ (some 61) _ = _
      simp only [Act.put, List.setIfInBounds_toArray, List.set_cons_zero, List.set_cons_succ, i64_w, i32_w]
      rfl
    refine pU 6 62 #[true, true, true, true, true, true, true, false, false] rfl rfl HT_ ?_
    refine pU 7 63 #[true, true, true, true, true, true, true, true, false] rfl rfl HT_ ?_
    refine last_ (i := 8) (N := none) #[true, true, true, true, true, true, true, true, true] rfl rfl (one_of HT_.out (by kernel_rfl)) (by decide) (fun K hK => ?_)
    obtain ⟨x0, x1, x2, x3⟩ := thCells (HS.out.pick 2 rfl) j hj
    have q5 := (St.row_frozen flatT (HS.out.pick 2 rfl) (by omega) (j * 4 + 3))
    refine skip_ (w1 := ?_) (by rfl) rfl ?_ ?_
    rotate_left
    · go_simp
      rfl
    clear x0 x1 x2 x3 q5
    have h9 := stat_end (HS.out.pick 2 rfl) HB.out j 3 hj
    have n0_ := Aside0.mk (((h9.1.pick 2 rfl).pick 2 rfl)); have n1_ := Aside0.mk (h9.2); clear HS HB; have HS := n0_; have HB := n1_; clear n0_ n1_; (try simp only [List.eraseIdx_cons_succ, List.eraseIdx_cons_zero] at HS)
    clear h9
    refine hK.out _ _ ?_
    clear hK K
    refine done_ (done_of HT_.out (by kernel_rfl)) ?_
    clear HT_ HW_
    try clear hHeld
    go_upto_region 22 with (fail)
    generalize World.setCell _ _ _ = w9 at HS HB ⊢
    rw [← hst.out] at HS
    go_upto_region 22 with (fail)
    obtain ⟨p0, p1, p2, p3, p4, p5, p6, p7, p8⟩ := cells9 (HS.out.pick 1 rfl)
    obtain ⟨c0, c1, c2, c3, c4, c5, c6, c7, c8⟩ := cells9 (HS.out.pick 3 rfl)
    obtain ⟨f0, f1, f2, f3, f4, f5, f6, f7, f8⟩ := frozen9 (HS.out.pick 3 rfl)
    go_wp2
    have s9 := set9 (.int .i64 s.st) (.string s.ti) (.int .i64 s.op) (.int .i64 s.en) (.string s.ca.f0) (.int .i64 s.ca.f1) (.slice A6 s.pe.length k6) (.slice (some ⟨gt, 0, none⟩) s.th.length kT) (.int .i64 s.no) (HS.out.pick 3 rfl) HB.out
    refine bodyPost_ret (results_cell_row rfl _ _ gR 37 _ (0, 0) _ rfl s9.1.blk Tryz.underlying37 rfl (by kernel_rfl)) rfl ?_
    have h := (((((((s9.1.pick 3 rfl).pick 4 rfl).pick 5 rfl).pick 5 rfl).pick 5 rfl).pick 5 rfl)).drop.drop.drop.drop
    rw [ha.out]
    exact ⟨_, _, rfl, h, s9.2⟩
  · have ha : Aside0 (accM s e = { s with st := 2 }) := ⟨by unfold accM; rw [if_neg (show ¬ e.f2 = 1 by omega), if_neg (show ¬ e.f2 = 2 by omega), if_neg (show ¬ e.f2 = 3 by omega), if_neg (show ¬ e.f2 = 4 by omega), if_neg (show ¬ e.f2 = 5 by omega), if_pos hk]⟩
    have y3 : w6.cell? ⟨gE, 3, none⟩ = some (.int .i64 6) := ((HS.out.pick 0 rfl).cell 3).trans (show _ = some (Value.int .i64 6) by rw [← hk]; rfl)
    clear hk
    have z0 : w6.cell? ⟨gS, 0, none⟩ = some (.int .i64 s.st) := ((HS.out.pick 1 rfl).cell 0).trans rfl
    have f0 := (HS.out.pick 1 rfl).frozen 0
    go_upto_region 22 with (fail)
    have s0 := (HS.out.pick 1 rfl).set 0 (.int .i64 2) #[.int .i64 2, .string s.ti, .int .i64 s.op, .int .i64 s.en, .string s.ca.f0, .int .i64 s.ca.f1, .slice A6 s.pe.length k6, .slice AT s.th.length kT, .int .i64 s.no] rfl
    have b0 := (HS.out.pick 1 rfl).below_set (i := 0) (u := .int .i64 2) HB.out
    have n0_ := Aside0.mk ((((((((s0.pick 5 rfl).pick 5 rfl).pick 5 rfl).pick 5 rfl).pick 4 rfl).pick 5 rfl))); have n1_ := Aside0.mk (b0); clear HS HB; have HS := n0_; have HB := n1_; clear n0_ n1_; (try simp only [List.eraseIdx_cons_succ, List.eraseIdx_cons_zero] at HS)
    clear s0 b0
    generalize World.setCell _ _ _ = w9 at HS HB ⊢
    clear z0 f0
    clear y3
    go_upto_region 22 with (fail)
    obtain ⟨p0, p1, p2, p3, p4, p5, p6, p7, p8⟩ := cells9 (HS.out.pick 1 rfl)
    obtain ⟨c0, c1, c2, c3, c4, c5, c6, c7, c8⟩ := cells9 (HS.out.pick 3 rfl)
    obtain ⟨f0, f1, f2, f3, f4, f5, f6, f7, f8⟩ := frozen9 (HS.out.pick 3 rfl)
    go_wp2
    have s9 := set9 (.int .i64 2) (.string s.ti) (.int .i64 s.op) (.int .i64 s.en) (.string s.ca.f0) (.int .i64 s.ca.f1) (.slice A6 s.pe.length k6) (.slice AT s.th.length kT) (.int .i64 s.no) (HS.out.pick 3 rfl) HB.out
    refine bodyPost_ret (results_cell_row rfl _ _ gR 37 _ (0, 0) _ rfl s9.1.blk Tryz.underlying37 rfl (by kernel_rfl)) rfl ?_
    have h := (((((((s9.1.pick 3 rfl).pick 4 rfl).pick 5 rfl).pick 5 rfl).pick 5 rfl).pick 5 rfl)).drop.drop.drop.drop
    rw [ha.out]
    exact ⟨_, _, rfl, h, s9.2⟩
  · have ha : Aside0 (accM s e = { s with st := 3, en := e.f1, ca := e.f3 }) := ⟨by unfold accM; rw [if_neg (show ¬ e.f2 = 1 by omega), if_neg (show ¬ e.f2 = 2 by omega), if_neg (show ¬ e.f2 = 3 by omega), if_neg (show ¬ e.f2 = 4 by omega), if_neg (show ¬ e.f2 = 5 by omega), if_neg (show ¬ e.f2 = 6 by omega), if_pos hk]⟩
    have y3 : w6.cell? ⟨gE, 3, none⟩ = some (.int .i64 7) := ((HS.out.pick 0 rfl).cell 3).trans (show _ = some (Value.int .i64 7) by rw [← hk]; rfl)
    clear hk
    go_upto_region 17 with (fail)
    clear y3
    have n0_ := Aside0.mk (HS.out.drew); have n1_ := Aside0.mk (HB.out.drew); clear HS HB; have HS := n0_; have HB := n1_; clear n0_ n1_
    refine start_ (n := 10) (S := fun w' => w'.cell? ⟨gE, 2, none⟩ = some (.int .i64 e.f1) ∧ w'.cell? ⟨gE, 4, none⟩ = some (.string e.f3.f0) ∧ w'.cell? ⟨gE, 5, none⟩ = some (.int .i64 e.f3.f1)) (ds := []) #[false, false, false, false, false, false, false, false, false, false] (by kernel_rfl) rfl rfl ⟨((HS.out.pick 0 rfl).cell 2).trans rfl, ((HS.out.pick 0 rfl).cell 4).trans rfl, ((HS.out.pick 0 rfl).cell 5).trans rfl⟩ (fun hHeld => ?_); refine with_tabW acm.tab17 acm.bits17 (fun HT_ HW_ => ?_)
    generalize w6.drew = w7 at HS HB hHeld ⊢
    refine pU 0 69 #[true, false, false, false, false, false, false, false, false, false] rfl rfl HT_ ?_
    refine pU 2 71 #[true, false, true, false, false, false, false, false, false, false] rfl rfl HT_ ?_
    refine pU 4 73 #[true, false, true, false, true, false, false, false, false, false] rfl rfl HT_ ?_
    refine tK 1 70 #[true, true, true, false, true, false, false, false, false, false] rfl rfl HT_ HW_ hHeld ?_ (by rintro w' ⟨s0, s1, s2⟩; go_simp; with_reducible rfl)
    refine tK 3 72 #[true, true, true, true, true, false, false, false, false, false] rfl rfl HT_ HW_ hHeld ?_ (by rintro w' ⟨s0, s1, s2⟩; go_simp; with_reducible rfl)
    refine one_ (i := 5) (N := none) #[true, true, true, true, true, true, false, false, false, false] rfl rfl (one_of HT_.out (by kernel_rfl)) (by decide) (fun K hK => ?_)
    have q0 := ((HS.out.pick 1 rfl).cell 0).trans (show _ = some (.int .i64 s.st) from rfl); have e0 := (HS.out.pick 1 rfl).frozen 0
    refine skip_ (w1 := ?_) (by rfl) rfl ?_ ?_
    rotate_left
    · go_simp
      rfl
    clear q0 e0
    have n0_ := Aside0.mk (((HS.out.pick 1 rfl).set 0 (.int .i64 3) #[.int .i64 3, .string s.ti, .int .i64 s.op, .int .i64 s.en, .string s.ca.f0, .int .i64 s.ca.f1, .slice A6 s.pe.length k6, .slice AT s.th.length kT, .int .i64 s.no] rfl).swap); have n1_ := Aside0.mk (((HS.out.pick 1 rfl).below_set (i := 0) (u := .int .i64 3) HB.out)); clear HS HB; have HS := n0_; have HB := n1_; clear n0_ n1_; (try simp only [List.eraseIdx_cons_succ, List.eraseIdx_cons_zero] at HS)
    refine hK.out _ _ ⟨((HS.out.pick 0 rfl).cell 2).trans rfl, ((HS.out.pick 0 rfl).cell 4).trans rfl, ((HS.out.pick 0 rfl).cell 5).trans rfl⟩ (fun hHeld => ?_)
    clear hK K
    refine pU 6 74 #[true, true, true, true, true, true, true, false, false, false] rfl rfl HT_ ?_
    refine one_ (i := 7) (N := none) #[true, true, true, true, true, true, true, true, false, false] rfl rfl (one_of HT_.out (by kernel_rfl)) (by decide) (fun K hK => ?_)
    have q3 := ((HS.out.pick 1 rfl).cell 3).trans (show _ = some (.int .i64 s.en) from rfl); have e3 := (HS.out.pick 1 rfl).frozen 3
    refine skip_ (w1 := ?_) (by rfl) rfl ?_ ?_
    rotate_left
    · go_simp
      rfl
    clear q3 e3
    have n0_ := Aside0.mk (((HS.out.pick 1 rfl).set 3 (.int .i64 e.f1) #[.int .i64 3, .string s.ti, .int .i64 s.op, .int .i64 e.f1, .string s.ca.f0, .int .i64 s.ca.f1, .slice A6 s.pe.length k6, .slice AT s.th.length kT, .int .i64 s.no] rfl).swap); have n1_ := Aside0.mk (((HS.out.pick 1 rfl).below_set (i := 3) (u := .int .i64 e.f1) HB.out)); clear HS HB; have HS := n0_; have HB := n1_; clear n0_ n1_; (try simp only [List.eraseIdx_cons_succ, List.eraseIdx_cons_zero] at HS)
    refine hK.out _ _ ⟨((HS.out.pick 0 rfl).cell 2).trans rfl, ((HS.out.pick 0 rfl).cell 4).trans rfl, ((HS.out.pick 0 rfl).cell 5).trans rfl⟩ (fun hHeld => ?_)
    clear hK K
    refine pU 8 75 #[true, true, true, true, true, true, true, true, true, false] rfl rfl HT_ ?_
    refine one_ (i := 9) (N := none) #[true, true, true, true, true, true, true, true, true, true] rfl rfl (one_of HT_.out (by kernel_rfl)) (by decide) (fun K hK => ?_)
    have q4 := ((HS.out.pick 1 rfl).cell 4).trans (show _ = some (.string s.ca.f0) from rfl); have e4 := (HS.out.pick 1 rfl).frozen 4; have q5 := ((HS.out.pick 1 rfl).cell 5).trans (show _ = some (.int .i64 s.ca.f1) from rfl); have e5 := (HS.out.pick 1 rfl).frozen 5
    refine skip_ (w1 := ?_) (by rfl) rfl ?_ ?_
    rotate_left
    · go_simp
      rfl
    clear q4 e4 q5 e5
    have n0_ := Aside0.mk ((((HS.out.pick 1 rfl).set 4 (.string e.f3.f0) #[.int .i64 3, .string s.ti, .int .i64 s.op, .int .i64 e.f1, .string e.f3.f0, .int .i64 s.ca.f1, .slice A6 s.pe.length k6, .slice AT s.th.length kT, .int .i64 s.no] rfl).set 5 (.int .i64 e.f3.f1) #[.int .i64 3, .string s.ti, .int .i64 s.op, .int .i64 e.f1, .string e.f3.f0, .int .i64 e.f3.f1, .slice A6 s.pe.length k6, .slice AT s.th.length kT, .int .i64 s.no] rfl).swap); have n1_ := Aside0.mk ((((HS.out.pick 1 rfl).set 4 (.string e.f3.f0) #[.int .i64 3, .string s.ti, .int .i64 s.op, .int .i64 e.f1, .string e.f3.f0, .int .i64 s.ca.f1, .slice A6 s.pe.length k6, .slice AT s.th.length kT, .int .i64 s.no] rfl).below_set (i := 5) (u := .int .i64 e.f3.f1) ((HS.out.pick 1 rfl).below_set (i := 4) (u := .string e.f3.f0) HB.out))); clear HS HB; have HS := n0_; have HB := n1_; clear n0_ n1_; (try simp only [List.eraseIdx_cons_succ, List.eraseIdx_cons_zero] at HS)
    refine hK.out _ _ ⟨((HS.out.pick 0 rfl).cell 2).trans rfl, ((HS.out.pick 0 rfl).cell 4).trans rfl, ((HS.out.pick 0 rfl).cell 5).trans rfl⟩ (fun hHeld => ?_)
    clear hK K
    refine done_ (done_of HT_.out (by kernel_rfl)) ?_
    clear HT_ HW_
    try clear hHeld
    go_upto_region 22 with (fail)
    generalize World.setCell _ _ _ = w9 at HS HB ⊢
    go_upto_region 22 with (fail)
    obtain ⟨p0, p1, p2, p3, p4, p5, p6, p7, p8⟩ := cells9 (HS.out.pick 1 rfl)
    obtain ⟨c0, c1, c2, c3, c4, c5, c6, c7, c8⟩ := cells9 (HS.out.pick 3 rfl)
    obtain ⟨f0, f1, f2, f3, f4, f5, f6, f7, f8⟩ := frozen9 (HS.out.pick 3 rfl)
    go_wp2
    have s9 := set9 (.int .i64 3) (.string s.ti) (.int .i64 s.op) (.int .i64 e.f1) (.string e.f3.f0) (.int .i64 e.f3.f1) (.slice A6 s.pe.length k6) (.slice AT s.th.length kT) (.int .i64 s.no) (HS.out.pick 3 rfl) HB.out
    refine bodyPost_ret (results_cell_row rfl _ _ gR 37 _ (0, 0) _ rfl s9.1.blk Tryz.underlying37 rfl (by kernel_rfl)) rfl ?_
    have h := (((((((s9.1.pick 3 rfl).pick 4 rfl).pick 5 rfl).pick 5 rfl).pick 5 rfl).pick 5 rfl)).drop.drop.drop.drop
    rw [ha.out]
    exact ⟨_, _, rfl, h, s9.2⟩
  · have ha : Aside0 (accM s e = { s with st := 1, en := 0, ca := z33 }) := ⟨by unfold accM; rw [if_neg (show ¬ e.f2 = 1 by omega), if_neg (show ¬ e.f2 = 2 by omega), if_neg (show ¬ e.f2 = 3 by omega), if_neg (show ¬ e.f2 = 4 by omega), if_neg (show ¬ e.f2 = 5 by omega), if_neg (show ¬ e.f2 = 6 by omega), if_neg (show ¬ e.f2 = 7 by omega), if_pos hk]⟩
    have y3 : w6.cell? ⟨gE, 3, none⟩ = some (.int .i64 8) := ((HS.out.pick 0 rfl).cell 3).trans (show _ = some (Value.int .i64 8) by rw [← hk]; rfl)
    clear hk
    have z0 : w6.cell? ⟨gS, 0, none⟩ = some (.int .i64 s.st) := ((HS.out.pick 1 rfl).cell 0).trans rfl
    have z3 : w6.cell? ⟨gS, 3, none⟩ = some (.int .i64 s.en) := ((HS.out.pick 1 rfl).cell 3).trans rfl
    have z4 : w6.cell? ⟨gS, 4, none⟩ = some (.string s.ca.f0) := ((HS.out.pick 1 rfl).cell 4).trans rfl
    have z5 : w6.cell? ⟨gS, 5, none⟩ = some (.int .i64 s.ca.f1) := ((HS.out.pick 1 rfl).cell 5).trans rfl
    have f0 := (HS.out.pick 1 rfl).frozen 0
    have f3 := (HS.out.pick 1 rfl).frozen 3
    have f4 := (HS.out.pick 1 rfl).frozen 4
    have f5 := (HS.out.pick 1 rfl).frozen 5
    go_upto_region 22 with (fail)
    have s0 := (HS.out.pick 1 rfl).set 0 (.int .i64 1) #[.int .i64 1, .string s.ti, .int .i64 s.op, .int .i64 s.en, .string s.ca.f0, .int .i64 s.ca.f1, .slice A6 s.pe.length k6, .slice AT s.th.length kT, .int .i64 s.no] rfl
    have b0 := (HS.out.pick 1 rfl).below_set (i := 0) (u := .int .i64 1) HB.out
    have s1 := s0.set 3 (.int .i64 0) #[.int .i64 1, .string s.ti, .int .i64 s.op, .int .i64 0, .string s.ca.f0, .int .i64 s.ca.f1, .slice A6 s.pe.length k6, .slice AT s.th.length kT, .int .i64 s.no] rfl
    have b1 := s0.below_set (i := 3) (u := .int .i64 0) b0
    have s2 := s1.set 4 (.string ⟨#[]⟩) #[.int .i64 1, .string s.ti, .int .i64 s.op, .int .i64 0, .string ⟨#[]⟩, .int .i64 s.ca.f1, .slice A6 s.pe.length k6, .slice AT s.th.length kT, .int .i64 s.no] rfl
    have b2 := s1.below_set (i := 4) (u := .string ⟨#[]⟩) b1
    have s3 := s2.set 5 (.int .i64 0) #[.int .i64 1, .string s.ti, .int .i64 s.op, .int .i64 0, .string ⟨#[]⟩, .int .i64 0, .slice A6 s.pe.length k6, .slice AT s.th.length kT, .int .i64 s.no] rfl
    have b3 := s2.below_set (i := 5) (u := .int .i64 0) b2
    have n0_ := Aside0.mk ((((((((s3.pick 5 rfl).pick 5 rfl).pick 5 rfl).pick 5 rfl).pick 4 rfl).pick 5 rfl))); have n1_ := Aside0.mk (b3); clear HS HB; have HS := n0_; have HB := n1_; clear n0_ n1_; (try simp only [List.eraseIdx_cons_succ, List.eraseIdx_cons_zero] at HS)
    clear s0 b0 s1 b1 s2 b2 s3 b3
    generalize World.setCell _ _ _ = w9 at HS HB ⊢
    clear z0 f0 z3 f3 z4 f4 z5 f5
    clear y3
    go_upto_region 22 with (fail)
    obtain ⟨p0, p1, p2, p3, p4, p5, p6, p7, p8⟩ := cells9 (HS.out.pick 1 rfl)
    obtain ⟨c0, c1, c2, c3, c4, c5, c6, c7, c8⟩ := cells9 (HS.out.pick 3 rfl)
    obtain ⟨f0, f1, f2, f3, f4, f5, f6, f7, f8⟩ := frozen9 (HS.out.pick 3 rfl)
    go_wp2
    have s9 := set9 (.int .i64 1) (.string s.ti) (.int .i64 s.op) (.int .i64 0) (.string ⟨#[]⟩) (.int .i64 0) (.slice A6 s.pe.length k6) (.slice AT s.th.length kT) (.int .i64 s.no) (HS.out.pick 3 rfl) HB.out
    refine bodyPost_ret (results_cell_row rfl _ _ gR 37 _ (0, 0) _ rfl s9.1.blk Tryz.underlying37 rfl (by kernel_rfl)) rfl ?_
    have h := (((((((s9.1.pick 3 rfl).pick 4 rfl).pick 5 rfl).pick 5 rfl).pick 5 rfl).pick 5 rfl)).drop.drop.drop.drop
    rw [ha.out]
    exact ⟨_, _, rfl, h, s9.2⟩
  · have ha : Aside0 (accM s e = { s with pe := appM e.f4 e.f5 s.pe }) := ⟨by unfold accM; rw [if_neg (show ¬ e.f2 = 1 by omega), if_neg (show ¬ e.f2 = 2 by omega), if_neg (show ¬ e.f2 = 3 by omega), if_neg (show ¬ e.f2 = 4 by omega), if_neg (show ¬ e.f2 = 5 by omega), if_neg (show ¬ e.f2 = 6 by omega), if_neg (show ¬ e.f2 = 7 by omega), if_neg (show ¬ e.f2 = 8 by omega)]⟩
    have y3 : w6.cell? ⟨gE, 3, none⟩ = some (.int .i64 9) := ((HS.out.pick 0 rfl).cell 3).trans (show _ = some (Value.int .i64 9) by rw [← hk]; rfl)
    clear hk
    obtain ⟨z0, z1, z2, z3, z4, z5, z6, z7, z8⟩ := cells9 (HS.out.pick 1 rfl)
    have y6 : w6.cell? ⟨gE, 6, none⟩ = some (.string e.f4) := ((HS.out.pick 0 rfl).cell 6).trans rfl
    have y7 : w6.cell? ⟨gE, 7, none⟩ = some (.int .i64 e.f5) := ((HS.out.pick 0 rfl).cell 7).trans rfl
    go_upto_region 22 with (first | (go_at_call 56; refine (appoint_ok (s) e.f4 e.f5 A6 AT k6 s.th.length kT m1.out (fun w' L' h _ => (St.pick (r := Row k69 69 (.slice A6 s.pe.length k6) s.pe) h (L'.length + 4) (by simp)).rowC.2.2) HS.out).mono ?_; rintro r_ w8 ⟨v, rfl, hs, hb⟩; clear y3 y6 y7 z0 z1 z2 z3 z4 z5 z6 z7 z8; have n0_ := Aside0.mk (hs); have n1_ := Aside0.mk (HB.out.trans hb); clear HS HB; have HS := n0_; have HB := n1_; clear n0_ n1_; (try simp only [List.eraseIdx_cons_succ, List.eraseIdx_cons_zero] at HS); clear hs hb; obtain ⟨q, hq0⟩ : ∃ q, appM e.f4 e.f5 s.pe = q := ⟨_, rfl⟩; have HS2 : Aside0 (St N w8 (Row k69 69 v (appM e.f4 e.f5 s.pe) :: _)) := HS; rw [hq0] at HS2; clear HS; have HS := HS2; clear HS2; have hq := Aside0.mk hq0; clear hq0; obtain ⟨Av, cv, ev, _, _⟩ := HS.out.reads; subst ev; obtain ⟨z0, z1, z2, z3, z4, z5, z6, z7, z8⟩ := cells9 (HS.out.pick 2 rfl); obtain ⟨f0, f1, f2, f3, f4, f5, f6, f7, f8⟩ := frozen9 (HS.out.pick 2 rfl)))
    have s9 := set9 (.int .i64 s.st) (.string s.ti) (.int .i64 s.op) (.int .i64 s.en) (.string s.ca.f0) (.int .i64 s.ca.f1) (.slice Av q.length cv) (.slice AT s.th.length kT) (.int .i64 s.no) (HS.out.pick 2 rfl) HB.out
    have n0_ := Aside0.mk (((((((((s9.1.pick 6 rfl).pick 6 rfl).pick 6 rfl).pick 6 rfl).pick 4 rfl).pick 6 rfl).pick 6 rfl))); have n1_ := Aside0.mk (s9.2); clear HS HB; have HS := n0_; have HB := n1_; clear n0_ n1_; (try simp only [List.eraseIdx_cons_succ, List.eraseIdx_cons_zero] at HS)
    clear s9
    generalize World.setCell _ _ _ = w9 at HS HB ⊢
    clear z0 f0 z1 f1 z2 f2 z3 f3 z4 f4 z5 f5 z6 f6 z7 f7 z8 f8
    go_upto_region 22 with (fail)
    obtain ⟨p0, p1, p2, p3, p4, p5, p6, p7, p8⟩ := cells9 (HS.out.pick 2 rfl)
    obtain ⟨c0, c1, c2, c3, c4, c5, c6, c7, c8⟩ := cells9 (HS.out.pick 4 rfl)
    obtain ⟨f0, f1, f2, f3, f4, f5, f6, f7, f8⟩ := frozen9 (HS.out.pick 4 rfl)
    go_wp2
    have s9 := set9 (.int .i64 s.st) (.string s.ti) (.int .i64 s.op) (.int .i64 s.en) (.string s.ca.f0) (.int .i64 s.ca.f1) (.slice Av q.length cv) (.slice AT s.th.length kT) (.int .i64 s.no) (HS.out.pick 4 rfl) HB.out
    refine bodyPost_ret (results_cell_row rfl _ _ gR 37 _ (0, 0) _ rfl s9.1.blk Tryz.underlying37 rfl (by kernel_rfl)) rfl ?_
    have h := ((((((((s9.1.pick 4 rfl).pick 2 rfl).pick 6 rfl).pick 6 rfl).pick 6 rfl).pick 6 rfl).pick 6 rfl)).drop.drop.drop.drop.drop
    have ha := Aside0.mk (ha.out.trans (by rw [hq.out]))
    rw [ha.out]
    exact ⟨_, _, rfl, h, s9.2⟩

end Go.Proofs.YtcjfgejiknlpfaaGreat.PI
