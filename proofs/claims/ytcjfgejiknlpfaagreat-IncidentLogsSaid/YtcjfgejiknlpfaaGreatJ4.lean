/- Texts of this claim, taken together: Sq12, MapF, Sq13, Good. -/
import Derived.Test.YtcjfgejiknlpfaaGreatSq11
import Derived.Test.YtcjfgejiknlpfaaGreatJ2
/-! # Sq12 -/
section
namespace Go.Proofs.YtcjfgejiknlpfaaGreat.PI
open Go.RowKit Go.Proofs.YtcjfgejiknlpfaaGreatW.PrintWords Go.Proofs.YtcjfgejiknlpfaaGreatW.PrintLast Go.Proofs.YtcjfgejiknlpfaaGreatW.PrintMore Go.Proofs.YtcjfgejiknlpfaaGreat.Sep
set_option linter.unusedVariables false
set_option linter.unusedSimpArgs false
set_option maxHeartbeats 8000000
set_option maxRecDepth 100000

theorem stat_end {N : Nat} {w w0 : World} {L : List Res} {g n cap : Nat} {l : List S71} (h : St N w (Row k71 71 (.slice (some ⟨g, 0, none⟩) n cap) l :: L)) (hb : Below N w0 w) (i : Nat) (v : Int) (hi : i < l.length) :
    St N (w.setCell ⟨g, i * 4 + 3, none⟩ (.int .i64 v)) (Row k71 71 (.slice (some ⟨g, 0, none⟩) n cap) (l.set i ⟨(rd_T71 l (i : Int)).f0, (rd_T71 l (i : Int)).f1, v⟩) :: L) ∧ Below N w0 (w.setCell ⟨g, i * 4 + 3, none⟩ (.int .i64 v)) :=
  St.field flatT h i 3 (.int .i64 v) ⟨(rd_T71 l (i : Int)).f0, (rd_T71 l (i : Int)).f1, v⟩ hi (by decide) (by rw [get_rdT l i hi]; rfl) hb

def ecf83.T1 : Bool × List (List Nat × List Nat) := (true, [([], []), ([0], [0]), ([1], [1]), ([2], [2]), ([], []), ([], []), ([5], [5]), ([4, 6], [4, 6]), ([3, 7, 0, 1, 2, 3, 4, 5, 6, 7], [3, 7]), ([8, 0, 1, 2, 3, 4, 5, 6, 7], [8]), ([9, 7, 0, 1, 2, 3, 4, 5, 6, 7], [9])])
def ecf83.B1 : List Nat := [0, 1, 3, 7, 0, 0, 32, 112, 255, 511, 1023]
theorem ecf83.tab1 : rtab .any (opsOf Tryz.f100 1) = ecf83.T1 := by kernel_rfl
theorem ecf83.bits1 : waitsOk ecf83.T1.2 ecf83.B1 = true := by kernel_rfl
theorem St.row_frozen {α : Type} {d : Kd α} {enc : α → List Value} (F : Flat d enc) {N : Nat} {w : World} {L : List Res} {e : Nat} {g n cap : Nat} {l : List α} (h : St N w (Row d e (.slice (some ⟨g, 0, none⟩) n cap) l :: L)) (hl : 0 < l.length) (i : Nat) : w.frozen? ⟨g, i, none⟩ = false := by
  obtain ⟨g', cap', e', hf⟩ := St.row_some F h hl
  cases e'
  exact hf i
theorem thCells {N : Nat} {w : World} {L : List Res} {g n cap : Nat} {l : List S71} (h : St N w (Row k71 71 (.slice (some ⟨g, 0, none⟩) n cap) l :: L)) (j : Nat) (hj : j < l.length) :
    w.cell? ⟨g, j * 4, none⟩ = some (.string (rd_T71 l (j : Int)).f0.f0) ∧ w.cell? ⟨g, j * 4 + 1, none⟩ = some (.int .i64 (rd_T71 l (j : Int)).f0.f1) ∧ w.cell? ⟨g, j * 4 + 2, none⟩ = some (.string (rd_T71 l (j : Int)).f1) ∧ w.cell? ⟨g, j * 4 + 3, none⟩ = some (.int .i64 (rd_T71 l (j : Int)).f2) := by
  obtain ⟨ad, ea, x0, x1, x2, x3⟩ := at_T71 h.rowC.2.2 (j : Int) (by omega) (by omega)
  cases ea
  rw [Int.toNat_natCast, Addr.add_lit, Nat.zero_add] at x0 x1 x2 x3
  exact ⟨x0, x1, x2, x3⟩

theorem eff_confirm (B p : Nat) (s : PS) (hl2 : s.th.length ≤ 1000000) (e : S50) (hacc : 0 ≤ thIx e.f3 s.th) : EffOk 100 B p s { s with th := statP e.f3 2 s.th } e := by
  obtain ⟨j, hj, hti0⟩ : ∃ j : Nat, j < s.th.length ∧ thIx e.f3 s.th = (j : Int) := by
    rcases thIx_range e.f3 s.th with h | ⟨j, h1, h2, _⟩
    · omega
    · exact ⟨j, h1, h2⟩
  have hti := Aside0.mk hti0
  have hst : Aside0 (statP e.f3 2 s.th = s.th.set j ⟨(rd_T71 s.th (j : Int)).f0, (rd_T71 s.th (j : Int)).f1, 2⟩) := ⟨by unfold statP; rw [hti0, Int.toNat_natCast]⟩
  clear hti0 hacc
  intro N w L HP
  obtain ⟨v5, v6, HS0⟩ := HP
  obtain ⟨A5, k5, e5, _, _⟩ := (HS0.pick 2 rfl).reads
  subst e5
  obtain ⟨gt, ct, e6, _⟩ := St.row_some flatT (HS0.pick 3 rfl) (by omega)
  subst e6
  go_enter Tryz.func100, Tryz.ntmps100
  go_upto_region 1 with (fail)
  have hbx := HS0.box (g := w.heap.size) (cs := #[.string e.f0.f0, .int .i64 e.f0.f1, .int .i64 e.f1, .int .i64 e.f2, .string e.f3.f0, .int .i64 e.f3.f1, .string e.f4, .int .i64 e.f5, .string e.f6]) (t := 50) rfl (new_cells w _ _) ((Below.refl _ _).alloc (Nat.le_refl _) _)
  have hbb : Below N w (w.alloc (.cells #[.string e.f0.f0, .int .i64 e.f0.f1, .int .i64 e.f1, .int .i64 e.f2, .string e.f3.f0, .int .i64 e.f3.f1, .string e.f4, .int .i64 e.f5, .string e.f6] 50)) := (Below.refl _ _).alloc HS0.size _
  generalize w.heap.size = g at hbx ⊢
  generalize w.alloc (.cells #[.string e.f0.f0, .int .i64 e.f0.f1, .int .i64 e.f1, .int .i64 e.f2, .string e.f3.f0, .int .i64 e.f3.f1, .string e.f4, .int .i64 e.f5, .string e.f6] 50) = w1 at hbx hbb ⊢
  have HS := Aside0.mk hbx
  have HB := Aside0.mk hbb
  clear hbx hbb HS0
  have q2 : decide ((j : Int) < (s.th.length : Int)) = true := decide_eq_true (by omega)
  have q3 := eq_true (show (j : Int) < (s.th.length : Int) by omega)
  have q4 := eq_true (show (0 : Int) ≤ (j : Int) by omega)
  have n0_ := Aside0.mk (HS.out.drew); have n1_ := Aside0.mk (HB.out.drew); clear HS HB; have HS := n0_; have HB := n1_; clear n0_ n1_
  refine start_ (n := 11) (S := fun w' => w'.cell? ⟨B, 0, none⟩ = some (.pointer (some ⟨p, 0, none⟩)) ∧ w'.cell? ⟨p, 7, none⟩ = some (.slice (some ⟨gt, 0, none⟩) s.th.length ct) ∧ w'.cell? ⟨g, 4, none⟩ = some (.string e.f3.f0) ∧ w'.cell? ⟨g, 5, none⟩ = some (.int .i64 e.f3.f1)) (ds := [10]) #[false, false, false, false, false, false, false, false, false, false, false] (by kernel_rfl) rfl rfl ⟨((HS.out.pick 1 rfl).cell 0).trans rfl, ((HS.out.pick 2 rfl).cell 7).trans rfl, ((HS.out.pick 0 rfl).cell 4).trans rfl, ((HS.out.pick 0 rfl).cell 5).trans rfl⟩ (fun hHeld => ?_); refine with_tabW ecf83.tab1 ecf83.bits1 (fun HT_ HW_ => ?_)
  generalize w1.drew = w2 at HS HB hHeld ⊢
  refine pU 5 8 #[false, false, false, false, false, true, false, false, false, false, false] rfl rfl HT_ ?_
  refine tK 0 3 #[true, false, false, false, false, true, false, false, false, false, false] rfl rfl HT_ HW_ hHeld ?_ (by rintro w' ⟨s0, s1, s2, s3⟩; go_simp; with_reducible rfl)
  refine pU 1 4 #[true, true, false, false, false, true, false, false, false, false, false] rfl rfl HT_ ?_
  refine pU 2 5 #[true, true, true, false, false, true, false, false, false, false, false] rfl rfl HT_ ?_
  refine tK 3 6 #[true, true, true, true, false, true, false, false, false, false, false] rfl rfl HT_ HW_ hHeld ?_ (by rintro w' ⟨s0, s1, s2, s3⟩; go_simp; with_reducible rfl)
  refine tK 4 7 #[true, true, true, true, true, true, false, false, false, false, false] rfl rfl HT_ HW_ hHeld ?_ (by rintro w' ⟨s0, s1, s2, s3⟩; go_simp; with_reducible rfl)
  refine tK 6 9 #[true, true, true, true, true, true, true, false, false, false, false] rfl rfl HT_ HW_ hHeld ?_ (by rintro w' ⟨s0, s1, s2, s3⟩; go_simp; with_reducible rfl)
  refine one_ (i := 7) (N := some 10) #[true, true, true, true, true, true, true, true, false, false, false] rfl rfl (one_of HT_.out (by kernel_rfl)) (by decide) (fun K hK => ?_)
  refine goes_ Tryz.func101 (by kernel_rfl) rfl #[.pointer (some ⟨p, 0, none⟩), .agg #[.string e.f3.f0, .int .i64 e.f3.f1]] (by rfl) rfl rfl (by (try simp only [List.map_toArray, List.map_cons, List.map_nil]); first | done | rfl | (simp only [List.length_drop, List.length_take]; rfl)) ?_
  with_reducible refine (theory_ok p s (by omega) e.f3 _ (rd_of HS.out.drop.drop)).mono ?_
  rintro r_ w3 ⟨rfl, hb⟩
  rw [hti.out]
  refine ⟨_, rfl, ?_⟩
  have n0_ := Aside0.mk (HS.out.step hb); have n1_ := Aside0.mk (below_step' HB.out HS.out.size hb); clear HS HB; have HS := n0_; have HB := n1_; clear n0_ n1_; (try simp only [List.eraseIdx_cons_succ, List.eraseIdx_cons_zero] at HS)
  clear hb
  refine hK.out _ _ ⟨((HS.out.pick 1 rfl).cell 0).trans rfl, ((HS.out.pick 2 rfl).cell 7).trans rfl, ((HS.out.pick 0 rfl).cell 4).trans rfl, ((HS.out.pick 0 rfl).cell 5).trans rfl⟩ (fun hHeld => ?_)
  clear hK K
  refine norm_ (a' := ?_) ?_ ?_
  rotate_left
  · show Act.put _ (some 10) _ = _
    simp only [Act.put, List.setIfInBounds_toArray, List.set_cons_zero, List.set_cons_succ, i64_w, i32_w]
    rfl
  refine pU 8 11 #[true, true, true, true, true, true, true, true, true, false, false] rfl rfl HT_ ?_
  refine pU 9 12 #[true, true, true, true, true, true, true, true, true, true, false] rfl rfl HT_ ?_
  refine last_ (i := 10) (N := none) #[true, true, true, true, true, true, true, true, true, true, true] rfl rfl (one_of HT_.out (by kernel_rfl)) (by decide) (fun K hK => ?_)
  obtain ⟨x0, x1, x2, x3⟩ := thCells (HS.out.pick 4 rfl) j hj
  have q5 := (St.row_frozen flatT (HS.out.pick 4 rfl) (by omega) (j * 4 + 3))
  refine skip_ (w1 := ?_) (by rfl) rfl ?_ ?_
  rotate_left
  · go_simp
    rfl
  clear x0 x1 x2 x3 q5
  have h9 := stat_end (HS.out.pick 4 rfl) HB.out j 2 hj
  have n0_ := Aside0.mk (((((h9.1.pick 4 rfl).pick 4 rfl).pick 4 rfl).pick 4 rfl)); have n1_ := Aside0.mk (h9.2); clear HS HB; have HS := n0_; have HB := n1_; clear n0_ n1_; (try simp only [List.eraseIdx_cons_succ, List.eraseIdx_cons_zero] at HS)
  clear h9
  refine hK.out _ _ ?_
  clear hK K
  refine done_ (done_of HT_.out (by kernel_rfl)) ?_
  clear HT_ HW_
  try clear hHeld
  go_wp2
  go_end0
  have h := HS.out.drop
  rw [← hst.out] at h
  exact ⟨rfl, ⟨_, _, h⟩, HB.out⟩

def ecf85.T1 : Bool × List (List Nat × List Nat) := (true, [([], []), ([0], [0]), ([1], [1]), ([2], [2]), ([], []), ([], []), ([5], [5]), ([4, 6], [4, 6]), ([3, 7, 0, 1, 2, 3, 4, 5, 6, 7], [3, 7]), ([8, 0, 1, 2, 3, 4, 5, 6, 7], [8]), ([9, 7, 0, 1, 2, 3, 4, 5, 6, 7], [9])])
def ecf85.B1 : List Nat := [0, 1, 3, 7, 0, 0, 32, 112, 255, 511, 1023]
theorem ecf85.tab1 : rtab .any (opsOf Tryz.f102 1) = ecf85.T1 := by kernel_rfl
theorem ecf85.bits1 : waitsOk ecf85.T1.2 ecf85.B1 = true := by kernel_rfl
theorem eff_refute (B p : Nat) (s : PS) (hl2 : s.th.length ≤ 1000000) (e : S50) (hacc : 0 ≤ thIx e.f3 s.th) : EffOk 102 B p s { s with th := statP e.f3 3 s.th } e := by
  obtain ⟨j, hj, hti0⟩ : ∃ j : Nat, j < s.th.length ∧ thIx e.f3 s.th = (j : Int) := by
    rcases thIx_range e.f3 s.th with h | ⟨j, h1, h2, _⟩
    · omega
    · exact ⟨j, h1, h2⟩
  have hti := Aside0.mk hti0
  have hst : Aside0 (statP e.f3 3 s.th = s.th.set j ⟨(rd_T71 s.th (j : Int)).f0, (rd_T71 s.th (j : Int)).f1, 3⟩) := ⟨by unfold statP; rw [hti0, Int.toNat_natCast]⟩
  clear hti0 hacc
  intro N w L HP
  obtain ⟨v5, v6, HS0⟩ := HP
  obtain ⟨A5, k5, e5, _, _⟩ := (HS0.pick 2 rfl).reads
  subst e5
  obtain ⟨gt, ct, e6, _⟩ := St.row_some flatT (HS0.pick 3 rfl) (by omega)
  subst e6
  go_enter Tryz.func102, Tryz.ntmps102
  go_upto_region 1 with (fail)
  have hbx := HS0.box (g := w.heap.size) (cs := #[.string e.f0.f0, .int .i64 e.f0.f1, .int .i64 e.f1, .int .i64 e.f2, .string e.f3.f0, .int .i64 e.f3.f1, .string e.f4, .int .i64 e.f5, .string e.f6]) (t := 50) rfl (new_cells w _ _) ((Below.refl _ _).alloc (Nat.le_refl _) _)
  have hbb : Below N w (w.alloc (.cells #[.string e.f0.f0, .int .i64 e.f0.f1, .int .i64 e.f1, .int .i64 e.f2, .string e.f3.f0, .int .i64 e.f3.f1, .string e.f4, .int .i64 e.f5, .string e.f6] 50)) := (Below.refl _ _).alloc HS0.size _
  generalize w.heap.size = g at hbx ⊢
  generalize w.alloc (.cells #[.string e.f0.f0, .int .i64 e.f0.f1, .int .i64 e.f1, .int .i64 e.f2, .string e.f3.f0, .int .i64 e.f3.f1, .string e.f4, .int .i64 e.f5, .string e.f6] 50) = w1 at hbx hbb ⊢
  have HS := Aside0.mk hbx
  have HB := Aside0.mk hbb
  clear hbx hbb HS0
  have q2 : decide ((j : Int) < (s.th.length : Int)) = true := decide_eq_true (by omega)
  have q3 := eq_true (show (j : Int) < (s.th.length : Int) by omega)
  have q4 := eq_true (show (0 : Int) ≤ (j : Int) by omega)
  have n0_ := Aside0.mk (HS.out.drew); have n1_ := Aside0.mk (HB.out.drew); clear HS HB; have HS := n0_; have HB := n1_; clear n0_ n1_
  refine start_ (n := 11) (S := fun w' => w'.cell? ⟨B, 0, none⟩ = some (.pointer (some ⟨p, 0, none⟩)) ∧ w'.cell? ⟨p, 7, none⟩ = some (.slice (some ⟨gt, 0, none⟩) s.th.length ct) ∧ w'.cell? ⟨g, 4, none⟩ = some (.string e.f3.f0) ∧ w'.cell? ⟨g, 5, none⟩ = some (.int .i64 e.f3.f1)) (ds := [10]) #[false, false, false, false, false, false, false, false, false, false, false] (by kernel_rfl) rfl rfl ⟨((HS.out.pick 1 rfl).cell 0).trans rfl, ((HS.out.pick 2 rfl).cell 7).trans rfl, ((HS.out.pick 0 rfl).cell 4).trans rfl, ((HS.out.pick 0 rfl).cell 5).trans rfl⟩ (fun hHeld => ?_); refine with_tabW ecf85.tab1 ecf85.bits1 (fun HT_ HW_ => ?_)
  generalize w1.drew = w2 at HS HB hHeld ⊢
  refine pU 5 8 #[false, false, false, false, false, true, false, false, false, false, false] rfl rfl HT_ ?_
  refine tK 0 3 #[true, false, false, false, false, true, false, false, false, false, false] rfl rfl HT_ HW_ hHeld ?_ (by rintro w' ⟨s0, s1, s2, s3⟩; go_simp; with_reducible rfl)
  refine pU 1 4 #[true, true, false, false, false, true, false, false, false, false, false] rfl rfl HT_ ?_
  refine pU 2 5 #[true, true, true, false, false, true, false, false, false, false, false] rfl rfl HT_ ?_
  refine tK 3 6 #[true, true, true, true, false, true, false, false, false, false, false] rfl rfl HT_ HW_ hHeld ?_ (by rintro w' ⟨s0, s1, s2, s3⟩; go_simp; with_reducible rfl)
  refine tK 4 7 #[true, true, true, true, true, true, false, false, false, false, false] rfl rfl HT_ HW_ hHeld ?_ (by rintro w' ⟨s0, s1, s2, s3⟩; go_simp; with_reducible rfl)
  refine tK 6 9 #[true, true, true, true, true, true, true, false, false, false, false] rfl rfl HT_ HW_ hHeld ?_ (by rintro w' ⟨s0, s1, s2, s3⟩; go_simp; with_reducible rfl)
  refine one_ (i := 7) (N := some 10) #[true, true, true, true, true, true, true, true, false, false, false] rfl rfl (one_of HT_.out (by kernel_rfl)) (by decide) (fun K hK => ?_)
  refine goes_ Tryz.func101 (by kernel_rfl) rfl #[.pointer (some ⟨p, 0, none⟩), .agg #[.string e.f3.f0, .int .i64 e.f3.f1]] (by rfl) rfl rfl (by (try simp only [List.map_toArray, List.map_cons, List.map_nil]); first | done | rfl | (simp only [List.length_drop, List.length_take]; rfl)) ?_
  with_reducible refine (theory_ok p s (by omega) e.f3 _ (rd_of HS.out.drop.drop)).mono ?_
  rintro r_ w3 ⟨rfl, hb⟩
  rw [hti.out]
  refine ⟨_, rfl, ?_⟩
  have n0_ := Aside0.mk (HS.out.step hb); have n1_ := Aside0.mk (below_step' HB.out HS.out.size hb); clear HS HB; have HS := n0_; have HB := n1_; clear n0_ n1_; (try simp only [List.eraseIdx_cons_succ, List.eraseIdx_cons_zero] at HS)
  clear hb
  refine hK.out _ _ ⟨((HS.out.pick 1 rfl).cell 0).trans rfl, ((HS.out.pick 2 rfl).cell 7).trans rfl, ((HS.out.pick 0 rfl).cell 4).trans rfl, ((HS.out.pick 0 rfl).cell 5).trans rfl⟩ (fun hHeld => ?_)
  clear hK K
  refine norm_ (a' := ?_) ?_ ?_
  rotate_left
  · show Act.put _ (some 10) _ = _
    simp only [Act.put, List.setIfInBounds_toArray, List.set_cons_zero, List.set_cons_succ, i64_w, i32_w]
    rfl
  refine pU 8 11 #[true, true, true, true, true, true, true, true, true, false, false] rfl rfl HT_ ?_
  refine pU 9 12 #[true, true, true, true, true, true, true, true, true, true, false] rfl rfl HT_ ?_
  refine last_ (i := 10) (N := none) #[true, true, true, true, true, true, true, true, true, true, true] rfl rfl (one_of HT_.out (by kernel_rfl)) (by decide) (fun K hK => ?_)
  obtain ⟨x0, x1, x2, x3⟩ := thCells (HS.out.pick 4 rfl) j hj
  have q5 := (St.row_frozen flatT (HS.out.pick 4 rfl) (by omega) (j * 4 + 3))
  refine skip_ (w1 := ?_) (by rfl) rfl ?_ ?_
  rotate_left
  · go_simp
    rfl
  clear x0 x1 x2 x3 q5
  have h9 := stat_end (HS.out.pick 4 rfl) HB.out j 3 hj
  have n0_ := Aside0.mk (((((h9.1.pick 4 rfl).pick 4 rfl).pick 4 rfl).pick 4 rfl)); have n1_ := Aside0.mk (h9.2); clear HS HB; have HS := n0_; have HB := n1_; clear n0_ n1_; (try simp only [List.eraseIdx_cons_succ, List.eraseIdx_cons_zero] at HS)
  clear h9
  refine hK.out _ _ ?_
  clear hK K
  refine done_ (done_of HT_.out (by kernel_rfl)) ?_
  clear HT_ HW_
  try clear hHeld
  go_wp2
  go_end0
  have h := HS.out.drop
  rw [← hst.out] at h
  exact ⟨rfl, ⟨_, _, h⟩, HB.out⟩

end Go.Proofs.YtcjfgejiknlpfaaGreat.PI
end

/-! # MapF -/
section
namespace Go.Proofs.YtcjfgejiknlpfaaGreat.PI
open Go.RowKit Go.Proofs.YtcjfgejiknlpfaaGreatW.PrintWords Go.Proofs.YtcjfgejiknlpfaaGreatW.PrintLast Go.Proofs.YtcjfgejiknlpfaaGreatW.PrintMore Go.Proofs.YtcjfgejiknlpfaaGreat.Sep
open Go.ChangeMaps (setBlock)
set_option linter.unusedVariables false
set_option linter.unusedSimpArgs false
set_option maxRecDepth 100000
/-- The map's entries, in the order in which they came. -/
def MapAt (b : Nat) (l : List (Int × Value)) (w : World) : Prop :=
  ∃ es clock, w.heap[b]? = some (.map es clock) ∧ es.toList.map (fun e => (e.key, e.val)) = l.map (fun x => (.int .i64 x.1, x.2))
def MapF (b : Nat) (l : List (Int × Value)) : Res where
  sat := fun _ w F => F b ∧ MapAt b l w
  move := fun hm ⟨hf, es, clock, h, h1⟩ => ⟨hf, es, clock, (hm b hf (Array.getElem?_eq_some_iff.1 h).1).trans h, h1⟩
  mono := fun hm h => ⟨hm _ h.1, h.2⟩
def lk (i : Int) : List (Int × Value) → Option Value
  | [] => none
  | x :: l => if i = x.1 then some x.2 else lk i l
theorem find_now (i : Int) : ∀ (es : List MapEntry) (l : List (Int × Value)) (n : Nat), es.map (fun e => (e.key, e.val)) = l.map (fun x => (.int .i64 x.1, x.2)) →
    (lk i l = none → Instr.findNow (.int .i64) (.int .i64 i) es n = some none) ∧ (∀ v, lk i l = some v → ∃ j, Instr.findNow (.int .i64) (.int .i64 i) es n = some (some (j, v)))
  | [], [], n, _ => ⟨fun _ => rfl, fun v h => by simp [lk] at h⟩
  | [], _ :: _, _, h => by simp at h
  | _ :: _, [], _, h => by simp at h
  | e :: es, x :: l, n, h => by
    simp only [List.map_cons, List.cons.injEq, Prod.mk.injEq] at h
    obtain ⟨⟨h1, h2⟩, h3⟩ := h
    have ih := find_now i es l (n + 1) h3
    by_cases he : i = x.1
    · refine ⟨fun h => by simp [lk, he] at h, fun v hv => ⟨n, ?_⟩⟩
      simp only [lk, if_pos he, Option.some.injEq] at hv
      simp [Instr.findNow, Instr.sameNow, h1, he, h2, hv]
    · have hb : (i == x.1) = false := by simpa using he
      refine ⟨fun h => ?_, fun v hv => ?_⟩
      · simp only [lk, if_neg he] at h
        simp [Instr.findNow, Instr.sameNow, h1, hb, ih.1 h]
      · simp only [lk, if_neg he] at hv
        obtain ⟨j, hj⟩ := ih.2 v hv
        exact ⟨j, by simp [Instr.findNow, Instr.sameNow, h1, hb, hj]⟩
theorem check_i (i : Int) (em : Bool) (w : World) : (Instr.checkKey em 10000 3 (.int .i64 i)).run Tryz.prog w = .ok () w := check_int i em 9999 w
section
variable {N : Nat} {w w0 : World} {L : List Res} {b : Nat} {l : List (Int × Value)}
theorem mapf_at (h : St N w (MapF b l :: L)) : MapAt b l w := by
  obtain ⟨_, _, g1, _⟩ := h.own
  exact g1.2
theorem mapf_ge (h : St N w (MapF b l :: L)) : N ≤ b := by
  obtain ⟨_, g0, g1, _⟩ := h.own
  exact (g0 _ g1.1).2.1
theorem mapf_lookup (t e : TypeId) (ht : Tryz.prog.underlying t = some (.map 3 e)) (i : Int) (v : Value) (hv : lk i l = some v) (h : MapAt b l w) : (Instr.lookup t (.map (some b)) (.int .i64 i) false).run Tryz.prog w = .ok v w := by
  obtain ⟨es, clock, hb, h1⟩ := h
  obtain ⟨j, hj⟩ := (find_now i es.toList l 0 h1).2 v hv
  have hf : (Instr.findKey 3 (.int .i64 i) es.toList).run Tryz.prog w = .ok (some (j, v)) w := by simp [Instr.findKey, run_underlying Tryz.underlying3, hj]
  simp [Instr.lookup, run_underlying ht, MapKept.run_getObj_map hb, check_i, hf, Result.andThen]
theorem mapf_none (t e : TypeId) (ht : Tryz.prog.underlying t = some (.map 3 e)) (i : Int) (z : Value) (hz : (zeroValue e).run Tryz.prog w = .ok z w) (hv : lk i l = none) (h : MapAt b l w) : (Instr.lookup t (.map (some b)) (.int .i64 i) false).run Tryz.prog w = .ok z w := by
  obtain ⟨es, clock, hb, h1⟩ := h
  have hj := (find_now i es.toList l 0 h1).1 hv
  have hf : (Instr.findKey 3 (.int .i64 i) es.toList).run Tryz.prog w = .ok none w := by simp [Instr.findKey, run_underlying Tryz.underlying3, hj]
  simp [Instr.lookup, run_underlying ht, MapKept.run_getObj_map hb, check_i, hf, hz, Result.andThen]
theorem mapf_insert (t e : TypeId) (ht : Tryz.prog.underlying t = some (.map 3 e)) (i : Int) (v : Value) (hv : lk i l = none) (h : MapAt b l w) : ∃ o, (Instr.mapUpdate t (.map (some b)) (.int .i64 i) v).run Tryz.prog w = .ok () (setBlock w b o) ∧ MapAt b (l ++ [(i, v)]) (setBlock w b o) := by
  obtain ⟨es, clock, hb, h1⟩ := h
  have hj := (find_now i es.toList l 0 h1).1 hv
  have hf : (Instr.findKey 3 (.int .i64 i) es.toList).run Tryz.prog w = .ok none w := by simp [Instr.findKey, run_underlying Tryz.underlying3, hj]
  refine ⟨.map (es.push ⟨.int .i64 i, v, clock⟩) (clock + 1), ?_, es.push ⟨.int .i64 i, v, clock⟩, clock + 1, ?_, ?_⟩
  · simp [Instr.mapUpdate, run_underlying ht, MapKept.run_getObj_map hb, check_i, hf, MapKept.run_setObj_map _ hb, Result.andThen, setBlock]
  · show (w.heap.setIfInBounds b _)[b]? = _
    rw [Array.getElem?_setIfInBounds_self_of_lt (Array.getElem?_eq_some_iff.1 hb).1]
  · simp [h1]
theorem mapf_put {o : Obj} (h : St N w (MapF b l :: L)) {l' : List (Int × Value)} (hs : MapAt b l' (setBlock w b o)) : St N (setBlock w b o) (MapF b l' :: L) ∧ Below N w (setBlock w b o) := by
  have hsz : (setBlock w b o).heap.size = w.heap.size := by simp [setBlock]
  have hoth : ∀ k, k ≠ b → (setBlock w b o).heap[k]? = w.heap[k]? := fun k hk => by
    show (w.heap.setIfInBounds b o)[k]? = _
    rw [Array.getElem?_setIfInBounds_ne (fun e => hk e.symm)]
  exact ⟨h.upd (Nat.le_of_eq hsz.symm) (fun G g0 hg => ⟨fun k hk hn => hoth k (fun e => hn (e ▸ hg.1)), G, fun k hk => ⟨.inl hk, by rw [hsz]; exact (g0 k hk).2⟩, hg.1, hs⟩),
    rfl, rfl, rfl, Nat.le_of_eq hsz.symm, fun k hk => hoth k (by have := mapf_ge h; omega)⟩
theorem mapf_new (h : St N w L) : St N (w.alloc (.map #[] 0)) (MapF w.heap.size [] :: L) ∧ Below N w (w.alloc (.map #[] 0)) := by
  have hb : Below w.heap.size w (w.alloc (.map #[] 0)) := (Below.refl _ _).alloc (Nat.le_refl _) _
  refine ⟨h.add hb ⟨fun k => k = w.heap.size, fun k hk => ?_, rfl, #[], 0, heap_new w _, by simp⟩, hb.mono h.size⟩
  subst hk
  exact ⟨Nat.le_refl _, by simp⟩
end
/-! ### the operations, in a walk -/
section
variable {ops : Array Oper} {rest : List Oper} {o : Oper} {a : Act} {Q : Exit → Act → World → Prop} {N : Nat} {L : List Res} {w0 W : World}
theorem gate_op {p : Op} (_h : o.op = p) (h : wpList Tryz.prog ops Q (o :: rest) a W) : wpList Tryz.prog ops Q (o :: rest) a W := h
theorem S_makeMap (hgd : o.guard = none) (t : TypeId) (hop : o.op = Op.makeMap t none) (HS : St N W L) (HB : Below N w0 W)
    (h : ∀ b w1, St N w1 (MapF b [] :: L) → Below N w0 w1 → wpList Tryz.prog ops Q rest (a.put o.dst (.map (some b))) w1) : wpList Tryz.prog ops Q (o :: rest) a W := by
  refine wpList_plain hgd fun K' hK' => ?_
  have hrun := @run_makeMap Tryz.prog t W
  unfold Oper.wp
  simp [execOp, hop, hrun, Result.andThen]
  obtain ⟨h1, h2⟩ := mapf_new HS
  exact hK' _ _ (h _ _ h1 (HB.trans h2))
theorem S_insert (hgd : o.guard = none) (m x y : Operand) (t e : TypeId) (hop : o.op = Op.insert t m x y) (ht : Tryz.prog.underlying t = some (.map 3 e)) (b : Nat) (l : List (Int × Value)) (i : Int) (v : Value)
    (hm : a.eval m = .map (some b)) (hx : a.eval x = .int .i64 i) (hy : a.eval y = v) (hv : lk i l = none) (HS : St N W (MapF b l :: L)) (HB : Below N w0 W)
    (h : ∀ w1, St N w1 (MapF b (l ++ [(i, v)]) :: L) → Below N w0 w1 → wpList Tryz.prog ops Q rest (a.put o.dst undef) w1) : wpList Tryz.prog ops Q (o :: rest) a W := by
  obtain ⟨ob, hr, hs⟩ := mapf_insert t e ht i v hv (mapf_at HS)
  obtain ⟨h1, h2⟩ := mapf_put HS hs
  refine wpList_plain hgd fun K' hK' => ?_
  unfold Oper.wp
  simp [execOp, hop, hm, hx, hy, hr, Result.andThen]
  exact hK' _ _ (h _ h1 (HB.trans h2))
end
end Go.Proofs.YtcjfgejiknlpfaaGreat.PI
end

/-! # Sq13 -/
section
namespace Go.Proofs.YtcjfgejiknlpfaaGreat.PI
open Go.RowKit Go.Proofs.YtcjfgejiknlpfaaGreatW.PrintWords Go.Proofs.YtcjfgejiknlpfaaGreatW.PrintLast Go.Proofs.YtcjfgejiknlpfaaGreatW.PrintMore Go.Proofs.YtcjfgejiknlpfaaGreat.Sep
set_option linter.unusedVariables false
set_option linter.unusedSimpArgs false
set_option maxHeartbeats 8000000
set_option maxRecDepth 100000

def effL (B : Nat) : List (Int × Value) := [(1, .func (.func 96) #[] #[.pointer (some ⟨B, 0, none⟩)]), (2, .func (.func 98) #[] #[.pointer (some ⟨B, 0, none⟩)]), (3, .func (.func 99) #[] #[.pointer (some ⟨B, 0, none⟩)]), (4, .func (.func 100) #[] #[.pointer (some ⟨B, 0, none⟩)]), (5, .func (.func 102) #[] #[.pointer (some ⟨B, 0, none⟩)]), (6, .func (.func 103) #[] #[.pointer (some ⟨B, 0, none⟩)]), (7, .func (.func 104) #[] #[.pointer (some ⟨B, 0, none⟩)]), (8, .func (.func 105) #[] #[.pointer (some ⟨B, 0, none⟩)]), (9, .func (.func 106) #[] #[.pointer (some ⟨B, 0, none⟩)])]

theorem effects_ok (p : Nat) {N : Nat} {w : World} {L : List Res} (HS0 : St N w L) :
    Calls Tryz.prog 71 #[.pointer (some ⟨p, 0, none⟩)] w fun e w' => ∃ b B, e = .returned (.map (some b)) ∧ St N w' (MapF b (effL B) :: Blk B #[.pointer (some ⟨p, 0, none⟩)] 110 :: L) ∧ Below N w w' := by
  go_enter Tryz.func71, Tryz.ntmps71
  go_upto_region 1 with (fail)
  have hbx := HS0.box (g := w.heap.size) (cs := #[.pointer (some ⟨p, 0, none⟩)]) (t := 110) rfl (new_cells w _ _) ((Below.refl _ _).alloc (Nat.le_refl _) _)
  have hbb : Below N w (w.alloc (.cells #[.pointer (some ⟨p, 0, none⟩)] 110)) := (Below.refl _ _).alloc HS0.size _
  generalize w.heap.size = B at hbx ⊢
  generalize w.alloc (.cells #[.pointer (some ⟨p, 0, none⟩)] 110) = w1 at hbx hbb ⊢
  have HS := Aside0.mk hbx
  have HB := Aside0.mk hbb
  clear hbx hbb HS0
  go_wp2_with (first | ((with_reducible refine gate_op (p := Op.makeMap 111 none) rfl ?_); refine S_makeMap rfl 111 rfl HS.out HB.out ?_; intro b w2 hs hb; have n0_ := Aside0.mk (hs); have n1_ := Aside0.mk (hb); clear HS HB; have HS := n0_; have HB := n1_; clear n0_ n1_; (try simp only [List.eraseIdx_cons_succ, List.eraseIdx_cons_zero] at HS); clear hs hb) | ((with_reducible refine gate_op (p := Op.insert 111 (.tmp 3) (.const (.int .i64 1)) (.tmp 4)) rfl ?_); refine S_insert rfl (.tmp 3) (.const (.int .i64 1)) (.tmp 4) 111 114 rfl Tryz.underlying111 _ _ 1 (.func (.func 96) #[] #[.pointer (some ⟨B, 0, none⟩)]) rfl rfl rfl (by simp [lk]) HS.out HB.out ?_; intro w_ hs hb; have n0_ := Aside0.mk (hs); have n1_ := Aside0.mk (hb); clear HS HB; have HS := n0_; have HB := n1_; clear n0_ n1_; (try simp only [List.eraseIdx_cons_succ, List.eraseIdx_cons_zero] at HS); clear hs hb) | ((with_reducible refine gate_op (p := Op.insert 111 (.tmp 3) (.const (.int .i64 2)) (.tmp 5)) rfl ?_); refine S_insert rfl (.tmp 3) (.const (.int .i64 2)) (.tmp 5) 111 114 rfl Tryz.underlying111 _ _ 2 (.func (.func 98) #[] #[.pointer (some ⟨B, 0, none⟩)]) rfl rfl rfl (by simp [lk]) HS.out HB.out ?_; intro w_ hs hb; have n0_ := Aside0.mk (hs); have n1_ := Aside0.mk (hb); clear HS HB; have HS := n0_; have HB := n1_; clear n0_ n1_; (try simp only [List.eraseIdx_cons_succ, List.eraseIdx_cons_zero] at HS); clear hs hb) | ((with_reducible refine gate_op (p := Op.insert 111 (.tmp 3) (.const (.int .i64 3)) (.tmp 6)) rfl ?_); refine S_insert rfl (.tmp 3) (.const (.int .i64 3)) (.tmp 6) 111 114 rfl Tryz.underlying111 _ _ 3 (.func (.func 99) #[] #[.pointer (some ⟨B, 0, none⟩)]) rfl rfl rfl (by simp [lk]) HS.out HB.out ?_; intro w_ hs hb; have n0_ := Aside0.mk (hs); have n1_ := Aside0.mk (hb); clear HS HB; have HS := n0_; have HB := n1_; clear n0_ n1_; (try simp only [List.eraseIdx_cons_succ, List.eraseIdx_cons_zero] at HS); clear hs hb) | ((with_reducible refine gate_op (p := Op.insert 111 (.tmp 3) (.const (.int .i64 4)) (.tmp 7)) rfl ?_); refine S_insert rfl (.tmp 3) (.const (.int .i64 4)) (.tmp 7) 111 114 rfl Tryz.underlying111 _ _ 4 (.func (.func 100) #[] #[.pointer (some ⟨B, 0, none⟩)]) rfl rfl rfl (by simp [lk]) HS.out HB.out ?_; intro w_ hs hb; have n0_ := Aside0.mk (hs); have n1_ := Aside0.mk (hb); clear HS HB; have HS := n0_; have HB := n1_; clear n0_ n1_; (try simp only [List.eraseIdx_cons_succ, List.eraseIdx_cons_zero] at HS); clear hs hb) | ((with_reducible refine gate_op (p := Op.insert 111 (.tmp 3) (.const (.int .i64 5)) (.tmp 8)) rfl ?_); refine S_insert rfl (.tmp 3) (.const (.int .i64 5)) (.tmp 8) 111 114 rfl Tryz.underlying111 _ _ 5 (.func (.func 102) #[] #[.pointer (some ⟨B, 0, none⟩)]) rfl rfl rfl (by simp [lk]) HS.out HB.out ?_; intro w_ hs hb; have n0_ := Aside0.mk (hs); have n1_ := Aside0.mk (hb); clear HS HB; have HS := n0_; have HB := n1_; clear n0_ n1_; (try simp only [List.eraseIdx_cons_succ, List.eraseIdx_cons_zero] at HS); clear hs hb) | ((with_reducible refine gate_op (p := Op.insert 111 (.tmp 3) (.const (.int .i64 6)) (.tmp 9)) rfl ?_); refine S_insert rfl (.tmp 3) (.const (.int .i64 6)) (.tmp 9) 111 114 rfl Tryz.underlying111 _ _ 6 (.func (.func 103) #[] #[.pointer (some ⟨B, 0, none⟩)]) rfl rfl rfl (by simp [lk]) HS.out HB.out ?_; intro w_ hs hb; have n0_ := Aside0.mk (hs); have n1_ := Aside0.mk (hb); clear HS HB; have HS := n0_; have HB := n1_; clear n0_ n1_; (try simp only [List.eraseIdx_cons_succ, List.eraseIdx_cons_zero] at HS); clear hs hb) | ((with_reducible refine gate_op (p := Op.insert 111 (.tmp 3) (.const (.int .i64 7)) (.tmp 10)) rfl ?_); refine S_insert rfl (.tmp 3) (.const (.int .i64 7)) (.tmp 10) 111 114 rfl Tryz.underlying111 _ _ 7 (.func (.func 104) #[] #[.pointer (some ⟨B, 0, none⟩)]) rfl rfl rfl (by simp [lk]) HS.out HB.out ?_; intro w_ hs hb; have n0_ := Aside0.mk (hs); have n1_ := Aside0.mk (hb); clear HS HB; have HS := n0_; have HB := n1_; clear n0_ n1_; (try simp only [List.eraseIdx_cons_succ, List.eraseIdx_cons_zero] at HS); clear hs hb) | ((with_reducible refine gate_op (p := Op.insert 111 (.tmp 3) (.const (.int .i64 8)) (.tmp 11)) rfl ?_); refine S_insert rfl (.tmp 3) (.const (.int .i64 8)) (.tmp 11) 111 114 rfl Tryz.underlying111 _ _ 8 (.func (.func 105) #[] #[.pointer (some ⟨B, 0, none⟩)]) rfl rfl rfl (by simp [lk]) HS.out HB.out ?_; intro w_ hs hb; have n0_ := Aside0.mk (hs); have n1_ := Aside0.mk (hb); clear HS HB; have HS := n0_; have HB := n1_; clear n0_ n1_; (try simp only [List.eraseIdx_cons_succ, List.eraseIdx_cons_zero] at HS); clear hs hb) | ((with_reducible refine gate_op (p := Op.insert 111 (.tmp 3) (.const (.int .i64 9)) (.tmp 12)) rfl ?_); refine S_insert rfl (.tmp 3) (.const (.int .i64 9)) (.tmp 12) 111 114 rfl Tryz.underlying111 _ _ 9 (.func (.func 106) #[] #[.pointer (some ⟨B, 0, none⟩)]) rfl rfl rfl (by simp [lk]) HS.out HB.out ?_; intro w_ hs hb; have n0_ := Aside0.mk (hs); have n1_ := Aside0.mk (hb); clear HS HB; have HS := n0_; have HB := n1_; clear n0_ n1_; (try simp only [List.eraseIdx_cons_succ, List.eraseIdx_cons_zero] at HS); clear hs hb))
  go_ret
  exact ⟨b, B, rfl, HS.out, HB.out⟩

end Go.Proofs.YtcjfgejiknlpfaaGreat.PI
end

/-! # Good -/
section
namespace Go.Proofs.YtcjfgejiknlpfaaGreat.PI
open Go.RowKit Go.Proofs.YtcjfgejiknlpfaaGreatW.PrintWords
set_option linter.unusedVariables false
set_option linter.unusedSimpArgs false
def asgR (nm : ByteArray) (r : Int) : List S69 → List S69
  | [] => [⟨nm, r⟩]
  | y :: l => if bcmp y.f0 nm < 0 then y :: asgR nm r l else if bcmp y.f0 nm = 0 then ⟨y.f0, r⟩ :: l else ⟨nm, r⟩ :: y :: l
theorem hitP_lt {nm : ByteArray} {y : S69} {l : List S69} (h : bcmp y.f0 nm < 0) : plcP nm (y :: l) = plcP nm l + 1 ∧ hitP nm (y :: l) = hitP nm l := by
  have e : plcP nm (y :: l) = plcP nm l + 1 := by rw [plcP, if_pos h]
  refine ⟨e, ?_⟩
  unfold hitP
  rw [e, rdP_cons]
  congr 1
  simp
theorem hitP_ge {nm : ByteArray} {y : S69} {l : List S69} (h : ¬ bcmp y.f0 nm < 0) : plcP nm (y :: l) = 0 ∧ hitP nm (y :: l) = decide (bcmp y.f0 nm = 0) := by
  have e : plcP nm (y :: l) = 0 := by rw [plcP, if_neg h]
  refine ⟨e, ?_⟩
  unfold hitP
  rw [e]
  have : rd_T69 (y :: l) ((0 : Nat) : Int) = y := by simp [rd_T69]
  rw [this]
  by_cases h0 : bcmp y.f0 nm = 0 <;> simp [h0]
theorem assign_is (nm : ByteArray) (r : Int) : ∀ l, assignP nm r l = asgR nm r l
  | [] => by simp [assignP, hitP, plcP, asgR]
  | y :: l => by
    have ih := assign_is nm r l
    unfold asgR
    by_cases h : bcmp y.f0 nm < 0
    · obtain ⟨h1, h2⟩ := hitP_lt (l := l) h
      rw [if_pos h, ← ih]
      unfold assignP
      rw [h1, h2, rdP_cons]
      by_cases hh : hitP nm l = true
      · rw [if_pos hh, if_pos hh]; rfl
      · rw [if_neg hh, if_neg hh]; rfl
    · obtain ⟨h1, h2⟩ := hitP_ge (l := l) h
      rw [if_neg h]
      unfold assignP
      rw [h1, h2]
      have e : rd_T69 (y :: l) ((0 : Nat) : Int) = y := by simp [rd_T69]
      rw [e]
      by_cases h0 : bcmp y.f0 nm = 0
      · rw [if_pos h0, if_pos (decide_eq_true h0)]; rfl
      · rw [if_neg h0, if_neg (by simpa using h0)]; rfl
theorem asgR_mem {nm : ByteArray} {r : Int} {x : S69} : ∀ {l : List S69}, x ∈ asgR nm r l → x.f0 = nm ∨ ∃ y ∈ l, x.f0 = y.f0
  | [], h => by simp [asgR] at h; exact .inl (by rw [h])
  | y :: l, h => by
    unfold asgR at h
    split at h
    · rcases List.mem_cons.mp h with rfl | h
      · exact .inr ⟨x, List.mem_cons_self, rfl⟩
      · rcases asgR_mem h with h | ⟨z, hz, h⟩
        · exact .inl h
        · exact .inr ⟨z, List.mem_cons_of_mem _ hz, h⟩
    · split at h
      · rcases List.mem_cons.mp h with rfl | h
        · exact .inr ⟨y, List.mem_cons_self, rfl⟩
        · exact .inr ⟨x, List.mem_cons_of_mem _ h, rfl⟩
      · rcases List.mem_cons.mp h with rfl | h
        · exact .inl rfl
        · exact .inr ⟨x, h, rfl⟩
theorem asgR_inc (nm : ByteArray) (r : Int) : ∀ {l : List S69}, IncP l → IncP (asgR nm r l)
  | [], _ => List.pairwise_singleton _ _
  | y :: l, h => by
    obtain ⟨hy, hl⟩ := List.pairwise_cons.mp h
    unfold asgR
    split
    · rename_i hb
      refine List.pairwise_cons.mpr ⟨fun x hx => ?_, asgR_inc nm r hl⟩
      rcases asgR_mem hx with e | ⟨z, hz, e⟩
      · rw [e]; exact hb
      · rw [e]; exact hy z hz
    · rename_i hb
      split
      · exact List.pairwise_cons.mpr ⟨fun x hx => hy x hx, hl⟩
      · rename_i h0
        have hn : bcmp nm y.f0 < 0 := by have := bcmp_neg y.f0 nm; omega
        refine List.pairwise_cons.mpr ⟨fun x hx => ?_, h⟩
        rcases List.mem_cons.mp hx with rfl | hx
        · exact hn
        · exact bcmp_lt_trans hn (hy x hx)
theorem asgR_len (nm : ByteArray) (r : Int) : ∀ l : List S69, (asgR nm r l).length ≤ l.length + 1
  | [] => Nat.le_refl _
  | y :: l => by
    have := asgR_len nm r l
    unfold asgR
    split
    · simpa using this
    · split <;> simp
structure Good (s : PS) (n : Nat) : Prop where
  inc : IncP s.pe
  lp : s.pe.length ≤ n
  lt : s.th.length ≤ n
  n0 : 0 ≤ s.no
  n1 : s.no ≤ n
theorem good_zero : Good PS0 0 := ⟨List.Pairwise.nil, Nat.le_refl _, Nat.le_refl _, Int.le_refl _, Int.le_refl _⟩
theorem Good.up {s : PS} {n : Nat} (h : Good s n) : Good s (n + 1) := ⟨h.inc, by have := h.lp; omega, by have := h.lt; omega, h.n0, by have := h.n1; omega⟩
theorem good_eff {s : PS} {n : Nat} (h : Good s n) (e : S50) : Good (effP s e) (n + 1) := by
  have hA : ∀ nm r, IncP (assignP nm r s.pe) ∧ (assignP nm r s.pe).length ≤ n + 1 := fun nm r => by
    rw [assign_is]
    exact ⟨asgR_inc nm r h.inc, by have := asgR_len nm r s.pe; have := h.lp; omega⟩
  have h2 := h.up
  unfold effP
  split
  · exact ⟨(hA _ _).1, (hA _ _).2, h2.lt, h2.n0, h2.n1⟩
  · split
    · exact ⟨h2.inc, h2.lp, h2.lt, by have := h.n0; show 0 ≤ s.no + 1; omega, by have := h.n1; show s.no + 1 ≤ _; omega⟩
    · split
      · exact ⟨h2.inc, h2.lp, by have := h.lt; show (s.th ++ [_]).length ≤ _; simp; exact this, h2.n0, h2.n1⟩
      · split
        · exact ⟨h2.inc, h2.lp, by show (statP _ _ _).length ≤ _; unfold statP; rw [List.length_set]; exact h2.lt, h2.n0, h2.n1⟩
        · split
          · exact ⟨h2.inc, h2.lp, by show (statP _ _ _).length ≤ _; unfold statP; rw [List.length_set]; exact h2.lt, h2.n0, h2.n1⟩
          · split
            · exact ⟨h2.inc, h2.lp, h2.lt, h2.n0, h2.n1⟩
            · split
              · exact ⟨h2.inc, h2.lp, h2.lt, h2.n0, h2.n1⟩
              · split
                · exact ⟨h2.inc, h2.lp, h2.lt, h2.n0, h2.n1⟩
                · exact ⟨(hA _ _).1, (hA _ _).2, h2.lt, h2.n0, h2.n1⟩
theorem good_step {x : PS × List Int} {n : Nat} (h : Good x.1 n) (e : S50) : Good (stepP x e).1 (n + 1) := by
  unfold stepP
  by_cases h0 : reasonP x.1 e = 0
  · rw [if_pos h0]; exact good_eff h e
  · rw [if_neg h0]; exact h.up
theorem good_take (l : List S50) : ∀ i, i ≤ l.length → Good (runO (l.take i)).1 i
  | 0, _ => by rw [List.take_zero]; exact good_zero
  | i + 1, h => by
    rw [List.take_succ_eq_append_getElem (by omega), runO_snoc]
    exact good_step (good_take l i (by omega)) _
theorem good_run (l : List S50) : Good (runO l).1 l.length := by
  have := good_take l l.length (Nat.le_refl _)
  rwa [List.take_length] at this
theorem run_len (l : List S50) : ∀ i, i ≤ l.length → (runO (l.take i)).2.length = i
  | 0, _ => by rw [List.take_zero]; rfl
  | i + 1, h => by
    rw [List.take_succ_eq_append_getElem (by omega), runO_snoc]
    show ((runO (l.take i)).2 ++ [_]).length = _
    rw [List.length_append, run_len l i (by omega)]; rfl
theorem run_length (l : List S50) : (runO l).2.length = l.length := by
  have := run_len l l.length (Nat.le_refl _)
  rwa [List.take_length] at this
/-- An accepted Confirm or Refute names a theory. -/
theorem acc_theory {s : PS} {e : S50} (h : reasonP s e = 0) (hk : e.f2 = 4 ∨ e.f2 = 5 ∨ e.f2 = 7) : 0 ≤ thIx e.f3 s.th := by
  have h6 : ¬ e.f2 = 6 := by omega
  unfold reasonP at h
  have ht : targetP s e = 0 := by
    split at h
    · cases h
    · split at h
      · cases h
      · split at h
        · cases h
        · split at h
          · cases h
          · split at h
            · cases h
            · exact h
  unfold targetP at ht
  rw [if_neg h6, if_pos hk] at ht
  split at ht
  · cases ht
  · omega
end Go.Proofs.YtcjfgejiknlpfaaGreat.PI
end
