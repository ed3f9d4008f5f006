/- A theory is confirmed, or refuted. -/
import Derived.Test.YtcjfgejiknlpfaaGreatSq11
namespace Go.Proofs.YtcjfgejiknlpfaaGreat.PI
open Go.RowKit Go.Proofs.YtcjfgejiknlpfaaGreatW.PrintWords Go.Proofs.YtcjfgejiknlpfaaGreatW.PrintLast Go.Proofs.YtcjfgejiknlpfaaGreatW.PrintMore Go.Proofs.YtcjfgejiknlpfaaGreat.Sep
set_option linter.unusedVariables false
set_option linter.unusedSimpArgs false
set_option maxHeartbeats 8000000
set_option maxRecDepth 100000

theorem stat_end {N : Nat} {w w0 : World} {L : List Res} {g n cap : Nat} {l : List S71} (h : St N w (Row k71 71 (.slice (some ⟨g, 0, none⟩) n cap) l :: L)) (hb : Below N w0 w) (i : Nat) (v : Int) (hi : i < l.length) :
    St N (w.setCell ⟨g, i * 4 + 3, none⟩ (.int .i64 v)) (Row k71 71 (.slice (some ⟨g, 0, none⟩) n cap) (l.set i ⟨(rd_T71 l (i : Int)).f0, (rd_T71 l (i : Int)).f1, v⟩) :: L) ∧ Below N w0 (w.setCell ⟨g, i * 4 + 3, none⟩ (.int .i64 v)) :=
  St.field flatT h i 3 (.int .i64 v) ⟨(rd_T71 l (i : Int)).f0, (rd_T71 l (i : Int)).f1, v⟩ hi (by decide) (by rw [get_rdT l i hi]; rfl) hb

def ecf83.T1 : Bool × List (List Nat × List Nat) := (true, [([], []), ([0], [0]), ([1], [1]), ([2], [2]), ([], []), ([], []), ([5], [5]), ([4, 6], [4, 6]), ([3, 7, 0, 1, 2, 3, 4, 5, 6, 7], [3, 7]), ([8, 0, 1, 2, 3, 4, 5, 6, 7], [8]), ([9, 7, 0, 1, 2, 3, 4, 5, 6, 7], [9])])
def ecf83.B1 : List Nat := [0, 1, 3, 7, 0, 0, 32, 112, 255, 511, 1023]
theorem ecf83.tab1 : rtab .any (opsOf Tryz.f100 1) = ecf83.T1 := by kernel_rfl
theorem ecf83.bits1 : waitsOk ecf83.T1.2 ecf83.B1 = true := by kernel_rfl
theorem St.row_frozen {α : Type} {d : Kd α} {enc : α → List Value} (F : Flat d enc) {N : Nat} {w : World} {L : List Res} {e : Nat} {g n cap : Nat} {l : List α} (h : St N w (Row d e (.slice (some ⟨g, 0, none⟩) n cap) l :: L)) (hl : 0 < l.length) (i : Nat) : w.frozen? ⟨g, i, none⟩ = false := by
  obtain ⟨g', cap', e', hf⟩ := St.row_some F h hl
  cases e'
  exact hf i
theorem thCells {N : Nat} {w : World} {L : List Res} {g n cap : Nat} {l : List S71} (h : St N w (Row k71 71 (.slice (some ⟨g, 0, none⟩) n cap) l :: L)) (j : Nat) (hj : j < l.length) :
    w.cell? ⟨g, j * 4, none⟩ = some (.string (rd_T71 l (j : Int)).f0.f0) ∧ w.cell? ⟨g, j * 4 + 1, none⟩ = some (.int .i64 (rd_T71 l (j : Int)).f0.f1) ∧ w.cell? ⟨g, j * 4 + 2, none⟩ = some (.string (rd_T71 l (j : Int)).f1) ∧ w.cell? ⟨g, j * 4 + 3, none⟩ = some (.int .i64 (rd_T71 l (j : Int)).f2) := by
  obtain ⟨ad, ea, x0, x1, x2, x3⟩ := at_T71 h.rowC.2.2 (j : Int) (by omega) (by omega)
  cases ea
  rw [Int.toNat_natCast, Addr.add_lit, Nat.zero_add] at x0 x1 x2 x3
  exact ⟨x0, x1, x2, x3⟩

theorem eff_confirm (B p : Nat) (s : PS) (hl2 : s.th.length ≤ 1000000) (e : S50) (hacc : 0 ≤ thIx e.f3 s.th) : EffOk 100 B p s { s with th := statP e.f3 2 s.th } e := by
  obtain ⟨j, hj, hti0⟩ : ∃ j : Nat, j < s.th.length ∧ thIx e.f3 s.th = (j : Int) := by
    rcases thIx_range e.f3 s.th with h | ⟨j, h1, h2, _⟩
    · omega
    · exact ⟨j, h1, h2⟩
  have hti := Aside0.mk hti0
  have hst : Aside0 (statP e.f3 2 s.th = s.th.set j ⟨(rd_T71 s.th (j : Int)).f0, (rd_T71 s.th (j : Int)).f1, 2⟩) := ⟨by unfold statP; rw [hti0, Int.toNat_natCast]⟩
  clear hti0 hacc
  intro N w L HP
  obtain ⟨v5, v6, HS0⟩ := HP
  obtain ⟨A5, k5, e5, _, _⟩ := (HS0.pick 2 rfl).reads
  subst e5
  obtain ⟨gt, ct, e6, _⟩ := St.row_some flatT (HS0.pick 3 rfl) (by omega)
  subst e6
  go_enter Tryz.func100, Tryz.ntmps100
  go_upto_region 1 with (fail)
  have hbx := HS0.box (g := w.heap.size) (cs := #[.string e.f0.f0, .int .i64 e.f0.f1, .int .i64 e.f1, .int .i64 e.f2, .string e.f3.f0, .int .i64 e.f3.f1, .string e.f4, .int .i64 e.f5, .string e.f6]) (t := 50) rfl (new_cells w _ _) ((Below.refl _ _).alloc (Nat.le_refl _) _)
  have hbb : Below N w (w.alloc (.cells #[.string e.f0.f0, .int .i64 e.f0.f1, .int .i64 e.f1, .int .i64 e.f2, .string e.f3.f0, .int .i64 e.f3.f1, .string e.f4, .int .i64 e.f5, .string e.f6] 50)) := (Below.refl _ _).alloc HS0.size _
  generalize w.heap.size = g at hbx ⊢
  generalize w.alloc (.cells #[.string e.f0.f0, .int .i64 e.f0.f1, .int .i64 e.f1, .int .i64 e.f2, .string e.f3.f0, .int .i64 e.f3.f1, .string e.f4, .int .i64 e.f5, .string e.f6] 50) = w1 at hbx hbb ⊢
  have HS := Aside0.mk hbx
  have HB := Aside0.mk hbb
  clear hbx hbb HS0
  have q2 : decide ((j : Int) < (s.th.length : Int)) = true := decide_eq_true (by omega)
  have q3 := eq_true (show (j : Int) < (s.th.length : Int) by omega)
  have q4 := eq_true (show (0 : Int) ≤ (j : Int) by omega)
  have n0_ := Aside0.mk (HS.out.drew); have n1_ := Aside0.mk (HB.out.drew); clear HS HB; have HS := n0_; have HB := n1_; clear n0_ n1_
  refine start_ (n := 11) (S := fun w' => w'.cell? ⟨B, 0, none⟩ = some (.pointer (some ⟨p, 0, none⟩)) ∧ w'.cell? ⟨p, 7, none⟩ = some (.slice (some ⟨gt, 0, none⟩) s.th.length ct) ∧ w'.cell? ⟨g, 4, none⟩ = some (.string e.f3.f0) ∧ w'.cell? ⟨g, 5, none⟩ = some (.int .i64 e.f3.f1)) (ds := [10]) #[false, false, false, false, false, false, false, false, false, false, false] (by kernel_rfl) rfl rfl ⟨((HS.out.pick 1 rfl).cell 0).trans rfl, ((HS.out.pick 2 rfl).cell 7).trans rfl, ((HS.out.pick 0 rfl).cell 4).trans rfl, ((HS.out.pick 0 rfl).cell 5).trans rfl⟩ (fun hHeld => ?_); refine with_tabW ecf83.tab1 ecf83.bits1 (fun HT_ HW_ => ?_)
  generalize w1.drew = w2 at HS HB hHeld ⊢
  refine pU 5 8 #[false, false, false, false, false, true, false, false, false, false, false] rfl rfl HT_ ?_
  refine tK 0 3 #[true, false, false, false, false, true, false, false, false, false, false] rfl rfl HT_ HW_ hHeld ?_ (by rintro w' ⟨s0, s1, s2, s3⟩; go_simp; with_reducible rfl)
  refine pU 1 4 #[true, true, false, false, false, true, false, false, false, false, false] rfl rfl HT_ ?_
  refine pU 2 5 #[true, true, true, false, false, true, false, false, false, false, false] rfl rfl HT_ ?_
  refine tK 3 6 #[true, true, true, true, false, true, false, false, false, false, false] rfl rfl HT_ HW_ hHeld ?_ (by rintro w' ⟨s0, s1, s2, s3⟩; go_simp; with_reducible rfl)
  refine tK 4 7 #[true, true, true, true, true, true, false, false, false, false, false] rfl rfl HT_ HW_ hHeld ?_ (by rintro w' ⟨s0, s1, s2, s3⟩; go_simp; with_reducible rfl)
  refine tK 6 9 #[true, true, true, true, true, true, true, false, false, false, false] rfl rfl HT_ HW_ hHeld ?_ (by rintro w' ⟨s0, s1, s2, s3⟩; go_simp; with_reducible rfl)
  refine one_ (i := 7) (N := some 10) #[true, true, true, true, true, true, true, true, false, false, false] rfl rfl (one_of HT_.out (by kernel_rfl)) (by decide) (fun K hK => ?_)
  refine goes_ Tryz.func101 (by kernel_rfl) rfl #[.pointer (some ⟨p, 0, none⟩), .agg #[.string e.f3.f0, .int .i64 e.f3.f1]] (by rfl) rfl rfl (by (try simp only [List.map_toArray, List.map_cons, List.map_nil]); first | done | rfl | (simp only [List.length_drop, List.length_take]; rfl)) ?_
  with_reducible refine (theory_ok p s (by omega) e.f3 _ (rd_of HS.out.drop.drop)).mono ?_
  rintro r_ w3 ⟨rfl, hb⟩
  rw [hti.out]
  refine ⟨_, rfl, ?_⟩
  have n0_ := Aside0.mk (HS.out.step hb); have n1_ := Aside0.mk (below_step' HB.out HS.out.size hb); clear HS HB; have HS := n0_; have HB := n1_; clear n0_ n1_; (try simp only [List.eraseIdx_cons_succ, List.eraseIdx_cons_zero] at HS)
  clear hb
  refine hK.out _ _ ⟨((HS.out.pick 1 rfl).cell 0).trans rfl, ((HS.out.pick 2 rfl).cell 7).trans rfl, ((HS.out.pick 0 rfl).cell 4).trans rfl, ((HS.out.pick 0 rfl).cell 5).trans rfl⟩ (fun hHeld => ?_)
  clear hK K
  refine norm_ (a' := ?_) ?_ ?_
  rotate_left
  · show Act.put _ (some 10) _ = _
    simp only [Act.put, List.setIfInBounds_toArray, List.set_cons_zero, List.set_cons_succ, i64_w, i32_w]
    rfl
  refine pU 8 11 #[true, true, true, true, true, true, true, true, true, false, false] rfl rfl HT_ ?_
  refine pU 9 12 #[true, true, true, true, true, true, true, true, true, true, false] rfl rfl HT_ ?_
  refine last_ (i := 10) (N := none) #[true, true, true, true, true, true, true, true, true, true, true] rfl rfl (one_of HT_.out (by kernel_rfl)) (by decide) (fun K hK => ?_)
  obtain ⟨x0, x1, x2, x3⟩ := thCells (HS.out.pick 4 rfl) j hj
  have q5 := (St.row_frozen flatT (HS.out.pick 4 rfl) (by omega) (j * 4 + 3))
  refine skip_ (w1 := ?_) (by rfl) rfl ?_ ?_
  rotate_left
  · go_simp
    rfl
  clear x0 x1 x2 x3 q5
  have h9 := stat_end (HS.out.pick 4 rfl) HB.out j 2 hj
  have n0_ := Aside0.mk (((((h9.1.pick 4 rfl).pick 4 rfl).pick 4 rfl).pick 4 rfl)); have n1_ := Aside0.mk (h9.2); clear HS HB; have HS := n0_; have HB := n1_; clear n0_ n1_; (try simp only [List.eraseIdx_cons_succ, List.eraseIdx_cons_zero] at HS)
  clear h9
  refine hK.out _ _ ?_
  clear hK K
  refine done_ (done_of HT_.out (by kernel_rfl)) ?_
  clear HT_ HW_
  try clear hHeld
  go_wp2
  go_end0
  have h := HS.out.drop
  rw [← hst.out] at h
  exact ⟨rfl, ⟨_, _, h⟩, HB.out⟩

def ecf85.T1 : Bool × List (List Nat × List Nat) := (true, [([], []), ([0], [0]), ([1], [1]), ([2], [2]), ([], []), ([], []), ([5], [5]), ([4, 6], [4, 6]), ([3, 7, 0, 1, 2, 3, 4, 5, 6, 7], [3, 7]), ([8, 0, 1, 2, 3, 4, 5, 6, 7], [8]), ([9, 7, 0, 1, 2, 3, 4, 5, 6, 7], [9])])
def ecf85.B1 : List Nat := [0, 1, 3, 7, 0, 0, 32, 112, 255, 511, 1023]
theorem ecf85.tab1 : rtab .any (opsOf Tryz.f102 1) = ecf85.T1 := by kernel_rfl
theorem ecf85.bits1 : waitsOk ecf85.T1.2 ecf85.B1 = true := by kernel_rfl
theorem eff_refute (B p : Nat) (s : PS) (hl2 : s.th.length ≤ 1000000) (e : S50) (hacc : 0 ≤ thIx e.f3 s.th) : EffOk 102 B p s { s with th := statP e.f3 3 s.th } e := by
  obtain ⟨j, hj, hti0⟩ : ∃ j : Nat, j < s.th.length ∧ thIx e.f3 s.th = (j : Int) := by
    rcases thIx_range e.f3 s.th with h | ⟨j, h1, h2, _⟩
    · omega
    · exact ⟨j, h1, h2⟩
  have hti := Aside0.mk hti0
  have hst : Aside0 (statP e.f3 3 s.th = s.th.set j ⟨(rd_T71 s.th (j : Int)).f0, (rd_T71 s.th (j : Int)).f1, 3⟩) := ⟨by unfold statP; rw [hti0, Int.toNat_natCast]⟩
  clear hti0 hacc
  intro N w L HP
  obtain ⟨v5, v6, HS0⟩ := HP
  obtain ⟨A5, k5, e5, _, _⟩ := (HS0.pick 2 rfl).reads
  subst e5
  obtain ⟨gt, ct, e6, _⟩ := St.row_some flatT (HS0.pick 3 rfl) (by omega)
  subst e6
  go_enter Tryz.func102, Tryz.ntmps102
  go_upto_region 1 with (fail)
  have hbx := HS0.box (g := w.heap.size) (cs := #[.string e.f0.f0, .int .i64 e.f0.f1, .int .i64 e.f1, .int .i64 e.f2, .string e.f3.f0, .int .i64 e.f3.f1, .string e.f4, .int .i64 e.f5, .string e.f6]) (t := 50) rfl (new_cells w _ _) ((Below.refl _ _).alloc (Nat.le_refl _) _)
  have hbb : Below N w (w.alloc (.cells #[.string e.f0.f0, .int .i64 e.f0.f1, .int .i64 e.f1, .int .i64 e.f2, .string e.f3.f0, .int .i64 e.f3.f1, .string e.f4, .int .i64 e.f5, .string e.f6] 50)) := (Below.refl _ _).alloc HS0.size _
  generalize w.heap.size = g at hbx ⊢
  generalize w.alloc (.cells #[.string e.f0.f0, .int .i64 e.f0.f1, .int .i64 e.f1, .int .i64 e.f2, .string e.f3.f0, .int .i64 e.f3.f1, .string e.f4, .int .i64 e.f5, .string e.f6] 50) = w1 at hbx hbb ⊢
  have HS := Aside0.mk hbx
  have HB := Aside0.mk hbb
  clear hbx hbb HS0
  have q2 : decide ((j : Int) < (s.th.length : Int)) = true := decide_eq_true (by omega)
  have q3 := eq_true (show (j : Int) < (s.th.length : Int) by omega)
  have q4 := eq_true (show (0 : Int) ≤ (j : Int) by omega)
  have n0_ := Aside0.mk (HS.out.drew); have n1_ := Aside0.mk (HB.out.drew); clear HS HB; have HS := n0_; have HB := n1_; clear n0_ n1_
  refine start_ (n := 11) (S := fun w' => w'.cell? ⟨B, 0, none⟩ = some (.pointer (some ⟨p, 0, none⟩)) ∧ w'.cell? ⟨p, 7, none⟩ = some (.slice (some ⟨gt, 0, none⟩) s.th.length ct) ∧ w'.cell? ⟨g, 4, none⟩ = some (.string e.f3.f0) ∧ w'.cell? ⟨g, 5, none⟩ = some (.int .i64 e.f3.f1)) (ds := [10]) #[false, false, false, false, false, false, false, false, false, false, false] (by kernel_rfl) rfl rfl ⟨((HS.out.pick 1 rfl).cell 0).trans rfl, ((HS.out.pick 2 rfl).cell 7).trans rfl, ((HS.out.pick 0 rfl).cell 4).trans rfl, ((HS.out.pick 0 rfl).cell 5).trans rfl⟩ (fun hHeld => ?_); refine with_tabW ecf85.tab1 ecf85.bits1 (fun HT_ HW_ => ?_)
  generalize w1.drew = w2 at HS HB hHeld ⊢
  refine pU 5 8 #[false, false, false, false, false, true, false, false, false, false, false] rfl rfl HT_ ?_
  refine tK 0 3 #[true, false, false, false, false, true, false, false, false, false, false] rfl rfl HT_ HW_ hHeld ?_ (by rintro w' ⟨s0, s1, s2, s3⟩; go_simp; with_reducible rfl)
  refine pU 1 4 #[true, true, false, false, false, true, false, false, false, false, false] rfl rfl HT_ ?_
  refine pU 2 5 #[true, true, true, false, false, true, false, false, false, false, false] rfl rfl HT_ ?_
  refine tK 3 6 #[true, true, true, true, false, true, false, false, false, false, false] rfl rfl HT_ HW_ hHeld ?_ (by rintro w' ⟨s0, s1, s2, s3⟩; go_simp; with_reducible rfl)
  refine tK 4 7 #[true, true, true, true, true, true, false, false, false, false, false] rfl rfl HT_ HW_ hHeld ?_ (by rintro w' ⟨s0, s1, s2, s3⟩; go_simp; with_reducible rfl)
  refine tK 6 9 #[true, true, true, true, true, true, true, false, false, false, false] rfl rfl HT_ HW_ hHeld ?_ (by rintro w' ⟨s0, s1, s2, s3⟩; go_simp; with_reducible rfl)
  refine one_ (i := 7) (N := some 10) #[true, true, true, true, true, true, true, true, false, false, false] rfl rfl (one_of HT_.out (by kernel_rfl)) (by decide) (fun K hK => ?_)
  refine goes_ Tryz.func101 (by kernel_rfl) rfl #[.pointer (some ⟨p, 0, none⟩), .agg #[.string e.f3.f0, .int .i64 e.f3.f1]] (by rfl) rfl rfl (by (try simp only [List.map_toArray, List.map_cons, List.map_nil]); first | done | rfl | (simp only [List.length_drop, List.length_take]; rfl)) ?_
  with_reducible refine (theory_ok p s (by omega) e.f3 _ (rd_of HS.out.drop.drop)).mono ?_
  rintro r_ w3 ⟨rfl, hb⟩
  rw [hti.out]
  refine ⟨_, rfl, ?_⟩
  have n0_ := Aside0.mk (HS.out.step hb); have n1_ := Aside0.mk (below_step' HB.out HS.out.size hb); clear HS HB; have HS := n0_; have HB := n1_; clear n0_ n1_; (try simp only [List.eraseIdx_cons_succ, List.eraseIdx_cons_zero] at HS)
  clear hb
  refine hK.out _ _ ⟨((HS.out.pick 1 rfl).cell 0).trans rfl, ((HS.out.pick 2 rfl).cell 7).trans rfl, ((HS.out.pick 0 rfl).cell 4).trans rfl, ((HS.out.pick 0 rfl).cell 5).trans rfl⟩ (fun hHeld => ?_)
  clear hK K
  refine norm_ (a' := ?_) ?_ ?_
  rotate_left
  · show Act.put _ (some 10) _ = _
    simp only [Act.put, List.setIfInBounds_toArray, List.set_cons_zero, List.set_cons_succ, i64_w, i32_w]
    rfl
  refine pU 8 11 #[true, true, true, true, true, true, true, true, true, false, false] rfl rfl HT_ ?_
  refine pU 9 12 #[true, true, true, true, true, true, true, true, true, true, false] rfl rfl HT_ ?_
  refine last_ (i := 10) (N := none) #[true, true, true, true, true, true, true, true, true, true, true] rfl rfl (one_of HT_.out (by kernel_rfl)) (by decide) (fun K hK => ?_)
  obtain ⟨x0, x1, x2, x3⟩ := thCells (HS.out.pick 4 rfl) j hj
  have q5 := (St.row_frozen flatT (HS.out.pick 4 rfl) (by omega) (j * 4 + 3))
  refine skip_ (w1 := ?_) (by rfl) rfl ?_ ?_
  rotate_left
  · go_simp
    rfl
  clear x0 x1 x2 x3 q5
  have h9 := stat_end (HS.out.pick 4 rfl) HB.out j 3 hj
  have n0_ := Aside0.mk (((((h9.1.pick 4 rfl).pick 4 rfl).pick 4 rfl).pick 4 rfl)); have n1_ := Aside0.mk (h9.2); clear HS HB; have HS := n0_; have HB := n1_; clear n0_ n1_; (try simp only [List.eraseIdx_cons_succ, List.eraseIdx_cons_zero] at HS)
  clear h9
  refine hK.out _ _ ?_
  clear hK K
  refine done_ (done_of HT_.out (by kernel_rfl)) ?_
  clear HT_ HW_
  try clear hHeld
  go_wp2
  go_end0
  have h := HS.out.drop
  rw [← hst.out] at h
  exact ⟨rfl, ⟨_, _, h⟩, HB.out⟩

end Go.Proofs.YtcjfgejiknlpfaaGreat.PI
