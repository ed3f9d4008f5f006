/- What accepted events do. -/
import Derived.Test.YtcjfgejiknlpfaaGreatSq10
namespace Go.Proofs.YtcjfgejiknlpfaaGreat.PI
open Go.RowKit Go.Proofs.YtcjfgejiknlpfaaGreatW.PrintWords Go.Proofs.YtcjfgejiknlpfaaGreatW.PrintLast Go.Proofs.YtcjfgejiknlpfaaGreatW.PrintMore Go.Proofs.YtcjfgejiknlpfaaGreat.Sep
set_option linter.unusedVariables false
set_option linter.unusedSimpArgs false
set_option maxHeartbeats 8000000
set_option maxRecDepth 100000

/-- A state, its address in a box. -/
def EffPost (B p : Nat) (s : PS) (N : Nat) (L : List Res) (w : World) : Prop := ∃ v5 v6, St N w (Blk B #[.pointer (some ⟨p, 0, none⟩)] 110 :: Blk p #[.int .i64 s.st, .string s.ti, .int .i64 s.op, .int .i64 s.en, .string s.ca.f0, .int .i64 s.ca.f1, v5, v6, .int .i64 s.no] 37 :: Row k69 69 v5 (s.pe) :: Row k71 71 v6 (s.th) :: L)
/-- What an effect leaves, where it takes the state to s'. -/
def EffOk (f : Nat) (B p : Nat) (s s' : PS) (e : S50) : Prop := ∀ {N : Nat} {w : World} {L : List Res}, EffPost B p s N L w →
  Calls Tryz.prog f #[.agg #[.string e.f0.f0, .int .i64 e.f0.f1, .int .i64 e.f1, .int .i64 e.f2, .string e.f3.f0, .int .i64 e.f3.f1, .string e.f4, .int .i64 e.f5, .string e.f6], .pointer (some ⟨B, 0, none⟩)] w fun r w' => r = .returned (.tuple #[]) ∧ EffPost B p s' N L w' ∧ Below N w w'

theorem eff_note (B p : Nat) (s : PS) (h0 : 0 ≤ s.no) (h1 : s.no ≤ 1000000) (e : S50) : EffOk 98 B p s { s with no := s.no + 1 } e := by
  intro N w L HP
  obtain ⟨v5, v6, HS0⟩ := HP
  obtain ⟨A5, k5, e5, _, _⟩ := (HS0.pick 2 rfl).reads
  subst e5
  obtain ⟨A6, k6, e6, _, _⟩ := (HS0.pick 3 rfl).reads
  subst e6
  go_enter Tryz.func98, Tryz.ntmps98
  go_upto_region 1 with (fail)
  have hbx := HS0.box (g := w.heap.size) (cs := #[.string e.f0.f0, .int .i64 e.f0.f1, .int .i64 e.f1, .int .i64 e.f2, .string e.f3.f0, .int .i64 e.f3.f1, .string e.f4, .int .i64 e.f5, .string e.f6]) (t := 50) rfl (new_cells w _ _) ((Below.refl _ _).alloc (Nat.le_refl _) _)
  have hbb : Below N w (w.alloc (.cells #[.string e.f0.f0, .int .i64 e.f0.f1, .int .i64 e.f1, .int .i64 e.f2, .string e.f3.f0, .int .i64 e.f3.f1, .string e.f4, .int .i64 e.f5, .string e.f6] 50)) := (Below.refl _ _).alloc HS0.size _
  generalize w.heap.size = g at hbx ⊢
  generalize w.alloc (.cells #[.string e.f0.f0, .int .i64 e.f0.f1, .int .i64 e.f1, .int .i64 e.f2, .string e.f3.f0, .int .i64 e.f3.f1, .string e.f4, .int .i64 e.f5, .string e.f6] 50) = w1 at hbx hbb ⊢
  have HS := Aside0.mk hbx
  have HB := Aside0.mk hbb
  clear hbx hbb HS0
  have b0 : w1.cell? ⟨B, 0, none⟩ = some (.pointer (some ⟨p, 0, none⟩)) := ((HS.out.pick 1 rfl).cell 0).trans rfl
  have p8 : w1.cell? ⟨p, 8, none⟩ = some (.int .i64 s.no) := ((HS.out.pick 2 rfl).cell 8).trans rfl
  have f8 := (HS.out.pick 2 rfl).frozen 8
  have hw : IntKind.i64.wrap (s.no + 1) = s.no + 1 := by rw [IntKind.wrap_i64]; omega
  go_wp2
  go_end0
  exact ⟨rfl, ⟨_, _, ((((HS.out.pick 2 rfl).set 8 (.int .i64 (s.no + 1)) _ rfl).pick 2 rfl).pick 2 rfl).drop⟩, (HS.out.pick 2 rfl).below_set (i := 8) (u := .int .i64 (s.no + 1)) HB.out⟩

theorem eff_mitigate (B p : Nat) (s : PS) (e : S50) : EffOk 103 B p s { s with st := 2 } e := by
  intro N w L HP
  obtain ⟨v5, v6, HS0⟩ := HP
  obtain ⟨A5, k5, e5, _, _⟩ := (HS0.pick 2 rfl).reads
  subst e5
  obtain ⟨A6, k6, e6, _, _⟩ := (HS0.pick 3 rfl).reads
  subst e6
  go_enter Tryz.func103, Tryz.ntmps103
  go_upto_region 1 with (fail)
  have hbx := HS0.box (g := w.heap.size) (cs := #[.string e.f0.f0, .int .i64 e.f0.f1, .int .i64 e.f1, .int .i64 e.f2, .string e.f3.f0, .int .i64 e.f3.f1, .string e.f4, .int .i64 e.f5, .string e.f6]) (t := 50) rfl (new_cells w _ _) ((Below.refl _ _).alloc (Nat.le_refl _) _)
  have hbb : Below N w (w.alloc (.cells #[.string e.f0.f0, .int .i64 e.f0.f1, .int .i64 e.f1, .int .i64 e.f2, .string e.f3.f0, .int .i64 e.f3.f1, .string e.f4, .int .i64 e.f5, .string e.f6] 50)) := (Below.refl _ _).alloc HS0.size _
  generalize w.heap.size = g at hbx ⊢
  generalize w.alloc (.cells #[.string e.f0.f0, .int .i64 e.f0.f1, .int .i64 e.f1, .int .i64 e.f2, .string e.f3.f0, .int .i64 e.f3.f1, .string e.f4, .int .i64 e.f5, .string e.f6] 50) = w1 at hbx hbb ⊢
  have HS := Aside0.mk hbx
  have HB := Aside0.mk hbb
  clear hbx hbb HS0
  have b0 : w1.cell? ⟨B, 0, none⟩ = some (.pointer (some ⟨p, 0, none⟩)) := ((HS.out.pick 1 rfl).cell 0).trans rfl
  have p0 : w1.cell? ⟨p, 0, none⟩ = some (.int .i64 s.st) := ((HS.out.pick 2 rfl).cell 0).trans rfl
  have f0 := (HS.out.pick 2 rfl).frozen 0
  go_wp2
  go_end0
  exact ⟨rfl, ⟨_, _, ((((HS.out.pick 2 rfl).set 0 (.int .i64 2) _ rfl).pick 2 rfl).pick 2 rfl).drop⟩, (HS.out.pick 2 rfl).below_set (i := 0) (u := .int .i64 2) HB.out⟩

theorem eff_assign (B p : Nat) (s : PS) (hl : s.pe.length ≤ 999999) (hI : IncP s.pe) (e : S50) : EffOk 106 B p s { s with pe := assignP e.f4 e.f5 s.pe } e := by
  intro N w L HP
  obtain ⟨v5, v6, HS0⟩ := HP
  obtain ⟨A5, k5, e5, _, _⟩ := (HS0.pick 2 rfl).reads
  subst e5
  obtain ⟨A6, k6, e6, _, _⟩ := (HS0.pick 3 rfl).reads
  subst e6
  go_enter Tryz.func106, Tryz.ntmps106
  go_upto_region 1 with (fail)
  have hbx := HS0.box (g := w.heap.size) (cs := #[.string e.f0.f0, .int .i64 e.f0.f1, .int .i64 e.f1, .int .i64 e.f2, .string e.f3.f0, .int .i64 e.f3.f1, .string e.f4, .int .i64 e.f5, .string e.f6]) (t := 50) rfl (new_cells w _ _) ((Below.refl _ _).alloc (Nat.le_refl _) _)
  have hbb : Below N w (w.alloc (.cells #[.string e.f0.f0, .int .i64 e.f0.f1, .int .i64 e.f1, .int .i64 e.f2, .string e.f3.f0, .int .i64 e.f3.f1, .string e.f4, .int .i64 e.f5, .string e.f6] 50)) := (Below.refl _ _).alloc HS0.size _
  generalize w.heap.size = g at hbx ⊢
  generalize w.alloc (.cells #[.string e.f0.f0, .int .i64 e.f0.f1, .int .i64 e.f1, .int .i64 e.f2, .string e.f3.f0, .int .i64 e.f3.f1, .string e.f4, .int .i64 e.f5, .string e.f6] 50) = w1 at hbx hbb ⊢
  have HS := Aside0.mk hbx
  have HB := Aside0.mk hbb
  clear hbx hbb HS0
  have b0 : w1.cell? ⟨B, 0, none⟩ = some (.pointer (some ⟨p, 0, none⟩)) := ((HS.out.pick 1 rfl).cell 0).trans rfl
  have y6 : w1.cell? ⟨g, 6, none⟩ = some (.string e.f4) := ((HS.out.pick 0 rfl).cell 6).trans rfl
  have y7 : w1.cell? ⟨g, 7, none⟩ = some (.int .i64 e.f5) := ((HS.out.pick 0 rfl).cell 7).trans rfl
  go_wp2_with (first | (go_at_call 97; (with_reducible refine (assign_ok p s hl e.f4 e.f5 hI _ _ (((HS.out.drop.pick 3 rfl).pick 3 rfl).pick 3 rfl)).mono ?_); rintro r_ w2 ⟨rfl, ⟨v5', hs⟩, hb⟩; have n0_ := Aside0.mk (hs.pick 3 rfl); have n1_ := Aside0.mk (HB.out.trans hb); clear HS HB; have HS := n0_; have HB := n1_; clear n0_ n1_; (try simp only [List.eraseIdx_cons_succ, List.eraseIdx_cons_zero] at HS); clear hs hb))
  go_end0
  exact ⟨rfl, ⟨_, _, HS.out⟩, HB.out⟩

def eop.T1 : Bool × List (List Nat × List Nat) := (true, [([], []), ([], []), ([], []), ([], []), ([3], [3]), ([], []), ([5], [5]), ([0, 0], [0]), ([7, 0], [7]), ([8, 0], [8]), ([1, 0, 1, 3, 4, 7, 8, 9], [1]), ([10, 0, 1, 3, 4, 7, 8, 9], [10]), ([11, 4, 9, 0, 1, 3, 4, 7, 8, 9], [4, 11]), ([2, 0, 1, 2, 3, 4, 5, 6, 7, 8, 9, 10, 11, 12], [2]), ([13, 0, 1, 2, 3, 4, 5, 6, 7, 8, 9, 10, 11, 12], [13]), ([14, 6, 12, 0, 1, 2, 3, 4, 5, 6, 7, 8, 9, 10, 11, 12], [6, 14])])
def eop.B1 : List Nat := [0, 0, 0, 0, 8, 0, 32, 1, 129, 385, 923, 1947, 3995, 8191, 16383, 32767]
theorem eop.tab1 : rtab .any (opsOf Tryz.f96 1) = eop.T1 := by kernel_rfl
theorem eop.bits1 : waitsOk eop.T1.2 eop.B1 = true := by kernel_rfl
theorem eff_open (B p : Nat) (s : PS) (hl : s.pe.length ≤ 999999) (hI : IncP s.pe) (e : S50) : EffOk 96 B p s { s with st := 1, ti := e.f6, op := e.f1, pe := assignP e.f0.f0 3 s.pe } e := by
  intro N w L HP
  obtain ⟨v5, v6, HS0⟩ := HP
  obtain ⟨A5, k5, e5, _, _⟩ := (HS0.pick 2 rfl).reads
  subst e5
  obtain ⟨A6, k6, e6, _, _⟩ := (HS0.pick 3 rfl).reads
  subst e6
  go_enter Tryz.func96, Tryz.ntmps96
  go_upto_region 1 with (fail)
  have hbx := HS0.box (g := w.heap.size) (cs := #[.string e.f0.f0, .int .i64 e.f0.f1, .int .i64 e.f1, .int .i64 e.f2, .string e.f3.f0, .int .i64 e.f3.f1, .string e.f4, .int .i64 e.f5, .string e.f6]) (t := 50) rfl (new_cells w _ _) ((Below.refl _ _).alloc (Nat.le_refl _) _)
  have hbb : Below N w (w.alloc (.cells #[.string e.f0.f0, .int .i64 e.f0.f1, .int .i64 e.f1, .int .i64 e.f2, .string e.f3.f0, .int .i64 e.f3.f1, .string e.f4, .int .i64 e.f5, .string e.f6] 50)) := (Below.refl _ _).alloc HS0.size _
  generalize w.heap.size = g at hbx ⊢
  generalize w.alloc (.cells #[.string e.f0.f0, .int .i64 e.f0.f1, .int .i64 e.f1, .int .i64 e.f2, .string e.f3.f0, .int .i64 e.f3.f1, .string e.f4, .int .i64 e.f5, .string e.f6] 50) = w1 at hbx hbb ⊢
  have HS := Aside0.mk hbx
  have HB := Aside0.mk hbb
  clear hbx hbb HS0
  have n0_ := Aside0.mk (HS.out.drew); have n1_ := Aside0.mk (HB.out.drew); clear HS HB; have HS := n0_; have HB := n1_; clear n0_ n1_
  refine start_ (n := 16) (S := fun w' => w'.cell? ⟨B, 0, none⟩ = some (.pointer (some ⟨p, 0, none⟩)) ∧ w'.cell? ⟨g, 8, none⟩ = some (.string e.f6) ∧ w'.cell? ⟨g, 2, none⟩ = some (.int .i64 e.f1)) (ds := []) (tfs true [0, 16]).toArray (by kernel_rfl) rfl rfl ⟨((HS.out.pick 1 rfl).cell 0).trans rfl, ((HS.out.pick 0 rfl).cell 8).trans rfl, ((HS.out.pick 0 rfl).cell 2).trans rfl⟩ (fun hHeld => ?_); refine with_tabW eop.tab1 eop.bits1 (fun HT_ HW_ => ?_)
  generalize w1.drew = w2 at HS HB hHeld ⊢
  refine pU 3 6 (tfs true [0, 3, 1, 12]).toArray rfl rfl HT_ ?_
  refine pU 5 8 (tfs true [0, 3, 1, 1, 1, 10]).toArray rfl rfl HT_ ?_
  refine tK 0 3 (tfs true [1, 2, 1, 1, 1, 10]).toArray rfl rfl HT_ HW_ hHeld ?_ (by rintro w' ⟨s0, s1, s2⟩; go_simp; with_reducible rfl)
  refine pU 7 10 (tfs true [1, 2, 1, 1, 1, 1, 1, 8]).toArray rfl rfl HT_ ?_
  refine pU 8 11 (tfs true [1, 2, 1, 1, 1, 1, 2, 7]).toArray rfl rfl HT_ ?_
  refine tK 1 4 (tfs true [2, 1, 1, 1, 1, 1, 2, 7]).toArray rfl rfl HT_ HW_ hHeld ?_ (by rintro w' ⟨s0, s1, s2⟩; go_simp; with_reducible rfl)
  refine tK 2 5 (tfs true [4, 1, 1, 1, 2, 7]).toArray rfl rfl HT_ HW_ hHeld ?_ (by rintro w' ⟨s0, s1, s2⟩; go_simp; with_reducible rfl)
  refine tK 4 7 (tfs true [6, 1, 2, 7]).toArray rfl rfl HT_ HW_ hHeld ?_ (by rintro w' ⟨s0, s1, s2⟩; go_simp; with_reducible rfl)
  refine tK 6 9 (tfs true [9, 7]).toArray rfl rfl HT_ HW_ hHeld ?_ (by rintro w' ⟨s0, s1, s2⟩; go_simp; with_reducible rfl)
  refine one_ (i := 9) (N := none) (tfs true [10, 6]).toArray rfl rfl (one_of HT_.out (by kernel_rfl)) (by decide) (fun K hK => ?_)
  have q2 := ((HS.out.pick 2 rfl).cell 0).trans (show _ = some (.int .i64 s.st) from rfl); have q3 := (HS.out.pick 2 rfl).frozen 0
  refine skip_ (w1 := ?_) (by rfl) rfl ?_ ?_
  rotate_left
  · go_simp
    rfl
  clear q2 q3
  have n0_ := Aside0.mk ((((HS.out.pick 2 rfl).set 0 (.int .i64 1) #[.int .i64 1, .string s.ti, .int .i64 s.op, .int .i64 s.en, .string s.ca.f0, .int .i64 s.ca.f1, .slice A5 s.pe.length k5, .slice A6 s.th.length k6, .int .i64 s.no] rfl).pick 2 rfl).pick 2 rfl); have n1_ := Aside0.mk ((HS.out.pick 2 rfl).below_set (i := 0) (u := .int .i64 1) HB.out); clear HS HB; have HS := n0_; have HB := n1_; clear n0_ n1_; (try simp only [List.eraseIdx_cons_succ, List.eraseIdx_cons_zero] at HS)
  refine hK.out _ _ ⟨((HS.out.pick 1 rfl).cell 0).trans rfl, ((HS.out.pick 0 rfl).cell 8).trans rfl, ((HS.out.pick 0 rfl).cell 2).trans rfl⟩ (fun hHeld => ?_)
  clear hK K
  refine pU 10 12 (tfs true [11, 5]).toArray rfl rfl HT_ ?_
  refine pU 11 13 (tfs true [12, 4]).toArray rfl rfl HT_ ?_
  refine one_ (i := 12) (N := none) (tfs true [13, 3]).toArray rfl rfl (one_of HT_.out (by kernel_rfl)) (by decide) (fun K hK => ?_)
  have q2 := ((HS.out.pick 2 rfl).cell 1).trans (show _ = some (.string s.ti) from rfl); have q3 := (HS.out.pick 2 rfl).frozen 1
  refine skip_ (w1 := ?_) (by rfl) rfl ?_ ?_
  rotate_left
  · go_simp
    rfl
  clear q2 q3
  have n0_ := Aside0.mk ((((HS.out.pick 2 rfl).set 1 (.string e.f6) #[.int .i64 1, .string e.f6, .int .i64 s.op, .int .i64 s.en, .string s.ca.f0, .int .i64 s.ca.f1, .slice A5 s.pe.length k5, .slice A6 s.th.length k6, .int .i64 s.no] rfl).pick 2 rfl).pick 2 rfl); have n1_ := Aside0.mk ((HS.out.pick 2 rfl).below_set (i := 1) (u := .string e.f6) HB.out); clear HS HB; have HS := n0_; have HB := n1_; clear n0_ n1_; (try simp only [List.eraseIdx_cons_succ, List.eraseIdx_cons_zero] at HS)
  refine hK.out _ _ ⟨((HS.out.pick 1 rfl).cell 0).trans rfl, ((HS.out.pick 0 rfl).cell 8).trans rfl, ((HS.out.pick 0 rfl).cell 2).trans rfl⟩ (fun hHeld => ?_)
  clear hK K
  refine pU 13 14 (tfs true [14, 2]).toArray rfl rfl HT_ ?_
  refine pU 14 15 (tfs true [15, 1]).toArray rfl rfl HT_ ?_
  refine one_ (i := 15) (N := none) (tfs true [16]).toArray rfl rfl (one_of HT_.out (by kernel_rfl)) (by decide) (fun K hK => ?_)
  have q2 := ((HS.out.pick 2 rfl).cell 2).trans (show _ = some (.int .i64 s.op) from rfl); have q3 := (HS.out.pick 2 rfl).frozen 2
  refine skip_ (w1 := ?_) (by rfl) rfl ?_ ?_
  rotate_left
  · go_simp
    rfl
  clear q2 q3
  have n0_ := Aside0.mk ((((HS.out.pick 2 rfl).set 2 (.int .i64 e.f1) #[.int .i64 1, .string e.f6, .int .i64 e.f1, .int .i64 s.en, .string s.ca.f0, .int .i64 s.ca.f1, .slice A5 s.pe.length k5, .slice A6 s.th.length k6, .int .i64 s.no] rfl).pick 2 rfl).pick 2 rfl); have n1_ := Aside0.mk ((HS.out.pick 2 rfl).below_set (i := 2) (u := .int .i64 e.f1) HB.out); clear HS HB; have HS := n0_; have HB := n1_; clear n0_ n1_; (try simp only [List.eraseIdx_cons_succ, List.eraseIdx_cons_zero] at HS)
  refine hK.out _ _ ⟨((HS.out.pick 1 rfl).cell 0).trans rfl, ((HS.out.pick 0 rfl).cell 8).trans rfl, ((HS.out.pick 0 rfl).cell 2).trans rfl⟩ (fun hHeld => ?_)
  clear hK K
  refine done_ (done_of HT_.out (by kernel_rfl)) ?_
  clear HT_ HW_
  try clear hHeld
  generalize World.setCell _ _ _ = w3 at HS HB ⊢
  have b0 : w3.cell? ⟨B, 0, none⟩ = some (.pointer (some ⟨p, 0, none⟩)) := ((HS.out.pick 1 rfl).cell 0).trans rfl
  have y0 : w3.cell? ⟨g, 0, none⟩ = some (.string e.f0.f0) := ((HS.out.pick 0 rfl).cell 0).trans rfl
  go_wp2_with (first | (go_at_call 97; (with_reducible refine (assign_ok p ({ s with st := 1, ti := e.f6, op := e.f1 }) hl e.f0.f0 3 hI _ _ (((HS.out.drop.pick 3 rfl).pick 3 rfl).pick 3 rfl)).mono ?_); rintro r_ w4 ⟨rfl, ⟨v5', hs⟩, hb⟩; have n0_ := Aside0.mk (hs.pick 3 rfl); have n1_ := Aside0.mk (HB.out.trans hb); clear HS HB; have HS := n0_; have HB := n1_; clear n0_ n1_; (try simp only [List.eraseIdx_cons_succ, List.eraseIdx_cons_zero] at HS); clear hs hb))
  go_end0
  exact ⟨rfl, ⟨_, _, HS.out⟩, HB.out⟩

def ers.T1 : Bool × List (List Nat × List Nat) := (true, [([], []), ([], []), ([], []), ([], []), ([3], [3]), ([], []), ([5], [5]), ([0, 0], [0]), ([7, 0], [7]), ([8, 0], [8]), ([1, 0, 1, 3, 4, 7, 8, 9], [1]), ([10, 0, 1, 3, 4, 7, 8, 9], [10]), ([11, 4, 9, 0, 1, 3, 4, 7, 8, 9], [4, 11]), ([2, 0, 1, 2, 3, 4, 5, 6, 7, 8, 9, 10, 11, 12], [2]), ([13, 0, 1, 2, 3, 4, 5, 6, 7, 8, 9, 10, 11, 12], [13]), ([14, 6, 12, 0, 1, 2, 3, 4, 5, 6, 7, 8, 9, 10, 11, 12], [6, 14])])
def ers.B1 : List Nat := [0, 0, 0, 0, 8, 0, 32, 1, 129, 385, 923, 1947, 3995, 8191, 16383, 32767]
theorem ers.tab1 : rtab .any (opsOf Tryz.f104 1) = ers.T1 := by kernel_rfl
theorem ers.bits1 : waitsOk ers.T1.2 ers.B1 = true := by kernel_rfl
theorem eff_resolve (B p : Nat) (s : PS) (e : S50) : EffOk 104 B p s { s with st := 3, en := e.f1, ca := e.f3 } e := by
  intro N w L HP
  obtain ⟨v5, v6, HS0⟩ := HP
  obtain ⟨A5, k5, e5, _, _⟩ := (HS0.pick 2 rfl).reads
  subst e5
  obtain ⟨A6, k6, e6, _, _⟩ := (HS0.pick 3 rfl).reads
  subst e6
  go_enter Tryz.func104, Tryz.ntmps104
  go_upto_region 1 with (fail)
  have hbx := HS0.box (g := w.heap.size) (cs := #[.string e.f0.f0, .int .i64 e.f0.f1, .int .i64 e.f1, .int .i64 e.f2, .string e.f3.f0, .int .i64 e.f3.f1, .string e.f4, .int .i64 e.f5, .string e.f6]) (t := 50) rfl (new_cells w _ _) ((Below.refl _ _).alloc (Nat.le_refl _) _)
  have hbb : Below N w (w.alloc (.cells #[.string e.f0.f0, .int .i64 e.f0.f1, .int .i64 e.f1, .int .i64 e.f2, .string e.f3.f0, .int .i64 e.f3.f1, .string e.f4, .int .i64 e.f5, .string e.f6] 50)) := (Below.refl _ _).alloc HS0.size _
  generalize w.heap.size = g at hbx ⊢
  generalize w.alloc (.cells #[.string e.f0.f0, .int .i64 e.f0.f1, .int .i64 e.f1, .int .i64 e.f2, .string e.f3.f0, .int .i64 e.f3.f1, .string e.f4, .int .i64 e.f5, .string e.f6] 50) = w1 at hbx hbb ⊢
  have HS := Aside0.mk hbx
  have HB := Aside0.mk hbb
  clear hbx hbb HS0
  have n0_ := Aside0.mk (HS.out.drew); have n1_ := Aside0.mk (HB.out.drew); clear HS HB; have HS := n0_; have HB := n1_; clear n0_ n1_
  refine start_ (n := 16) (S := fun w' => w'.cell? ⟨B, 0, none⟩ = some (.pointer (some ⟨p, 0, none⟩)) ∧ w'.cell? ⟨g, 2, none⟩ = some (.int .i64 e.f1) ∧ w'.cell? ⟨g, 4, none⟩ = some (.string e.f3.f0) ∧ w'.cell? ⟨g, 5, none⟩ = some (.int .i64 e.f3.f1)) (ds := []) (tfs true [0, 16]).toArray (by kernel_rfl) rfl rfl ⟨((HS.out.pick 1 rfl).cell 0).trans rfl, ((HS.out.pick 0 rfl).cell 2).trans rfl, ((HS.out.pick 0 rfl).cell 4).trans rfl, ((HS.out.pick 0 rfl).cell 5).trans rfl⟩ (fun hHeld => ?_); refine with_tabW ers.tab1 ers.bits1 (fun HT_ HW_ => ?_)
  generalize w1.drew = w2 at HS HB hHeld ⊢
  refine pU 3 6 (tfs true [0, 3, 1, 12]).toArray rfl rfl HT_ ?_
  refine pU 5 8 (tfs true [0, 3, 1, 1, 1, 10]).toArray rfl rfl HT_ ?_
  refine tK 0 3 (tfs true [1, 2, 1, 1, 1, 10]).toArray rfl rfl HT_ HW_ hHeld ?_ (by rintro w' ⟨s0, s1, s2, s3⟩; go_simp; with_reducible rfl)
  refine pU 7 10 (tfs true [1, 2, 1, 1, 1, 1, 1, 8]).toArray rfl rfl HT_ ?_
  refine pU 8 11 (tfs true [1, 2, 1, 1, 1, 1, 2, 7]).toArray rfl rfl HT_ ?_
  refine tK 1 4 (tfs true [2, 1, 1, 1, 1, 1, 2, 7]).toArray rfl rfl HT_ HW_ hHeld ?_ (by rintro w' ⟨s0, s1, s2, s3⟩; go_simp; with_reducible rfl)
  refine tK 2 5 (tfs true [4, 1, 1, 1, 2, 7]).toArray rfl rfl HT_ HW_ hHeld ?_ (by rintro w' ⟨s0, s1, s2, s3⟩; go_simp; with_reducible rfl)
  refine tK 4 7 (tfs true [6, 1, 2, 7]).toArray rfl rfl HT_ HW_ hHeld ?_ (by rintro w' ⟨s0, s1, s2, s3⟩; go_simp; with_reducible rfl)
  refine tK 6 9 (tfs true [9, 7]).toArray rfl rfl HT_ HW_ hHeld ?_ (by rintro w' ⟨s0, s1, s2, s3⟩; go_simp; with_reducible rfl)
  refine one_ (i := 9) (N := none) (tfs true [10, 6]).toArray rfl rfl (one_of HT_.out (by kernel_rfl)) (by decide) (fun K hK => ?_)
  have q2 := ((HS.out.pick 2 rfl).cell 0).trans (show _ = some (.int .i64 s.st) from rfl); have q3 := (HS.out.pick 2 rfl).frozen 0
  refine skip_ (w1 := ?_) (by rfl) rfl ?_ ?_
  rotate_left
  · go_simp
    rfl
  clear q2 q3
  have n0_ := Aside0.mk ((((HS.out.pick 2 rfl).set 0 (.int .i64 3) #[.int .i64 3, .string s.ti, .int .i64 s.op, .int .i64 s.en, .string s.ca.f0, .int .i64 s.ca.f1, .slice A5 s.pe.length k5, .slice A6 s.th.length k6, .int .i64 s.no] rfl).pick 2 rfl).pick 2 rfl); have n1_ := Aside0.mk ((HS.out.pick 2 rfl).below_set (i := 0) (u := .int .i64 3) HB.out); clear HS HB; have HS := n0_; have HB := n1_; clear n0_ n1_; (try simp only [List.eraseIdx_cons_succ, List.eraseIdx_cons_zero] at HS)
  refine hK.out _ _ ⟨((HS.out.pick 1 rfl).cell 0).trans rfl, ((HS.out.pick 0 rfl).cell 2).trans rfl, ((HS.out.pick 0 rfl).cell 4).trans rfl, ((HS.out.pick 0 rfl).cell 5).trans rfl⟩ (fun hHeld => ?_)
  clear hK K
  refine pU 10 12 (tfs true [11, 5]).toArray rfl rfl HT_ ?_
  refine pU 11 13 (tfs true [12, 4]).toArray rfl rfl HT_ ?_
  refine one_ (i := 12) (N := none) (tfs true [13, 3]).toArray rfl rfl (one_of HT_.out (by kernel_rfl)) (by decide) (fun K hK => ?_)
  have q2 := ((HS.out.pick 2 rfl).cell 3).trans (show _ = some (.int .i64 s.en) from rfl); have q3 := (HS.out.pick 2 rfl).frozen 3
  refine skip_ (w1 := ?_) (by rfl) rfl ?_ ?_
  rotate_left
  · go_simp
    rfl
  clear q2 q3
  have n0_ := Aside0.mk ((((HS.out.pick 2 rfl).set 3 (.int .i64 e.f1) #[.int .i64 3, .string s.ti, .int .i64 s.op, .int .i64 e.f1, .string s.ca.f0, .int .i64 s.ca.f1, .slice A5 s.pe.length k5, .slice A6 s.th.length k6, .int .i64 s.no] rfl).pick 2 rfl).pick 2 rfl); have n1_ := Aside0.mk ((HS.out.pick 2 rfl).below_set (i := 3) (u := .int .i64 e.f1) HB.out); clear HS HB; have HS := n0_; have HB := n1_; clear n0_ n1_; (try simp only [List.eraseIdx_cons_succ, List.eraseIdx_cons_zero] at HS)
  refine hK.out _ _ ⟨((HS.out.pick 1 rfl).cell 0).trans rfl, ((HS.out.pick 0 rfl).cell 2).trans rfl, ((HS.out.pick 0 rfl).cell 4).trans rfl, ((HS.out.pick 0 rfl).cell 5).trans rfl⟩ (fun hHeld => ?_)
  clear hK K
  refine pU 13 14 (tfs true [14, 2]).toArray rfl rfl HT_ ?_
  refine pU 14 15 (tfs true [15, 1]).toArray rfl rfl HT_ ?_
  refine one_ (i := 15) (N := none) (tfs true [16]).toArray rfl rfl (one_of HT_.out (by kernel_rfl)) (by decide) (fun K hK => ?_)
  have q2 := ((HS.out.pick 2 rfl).cell 4).trans (show _ = some (.string s.ca.f0) from rfl); have q3 := (HS.out.pick 2 rfl).frozen 4; have q4 := ((HS.out.pick 2 rfl).cell 5).trans (show _ = some (.int .i64 s.ca.f1) from rfl); have q5 := (HS.out.pick 2 rfl).frozen 5
  refine skip_ (w1 := ?_) (by rfl) rfl ?_ ?_
  rotate_left
  · go_simp
    rfl
  clear q2 q3 q4 q5
  have n0_ := Aside0.mk (((((HS.out.pick 2 rfl).set 4 (.string e.f3.f0) #[.int .i64 3, .string s.ti, .int .i64 s.op, .int .i64 e.f1, .string e.f3.f0, .int .i64 s.ca.f1, .slice A5 s.pe.length k5, .slice A6 s.th.length k6, .int .i64 s.no] rfl).set 5 (.int .i64 e.f3.f1) #[.int .i64 3, .string s.ti, .int .i64 s.op, .int .i64 e.f1, .string e.f3.f0, .int .i64 e.f3.f1, .slice A5 s.pe.length k5, .slice A6 s.th.length k6, .int .i64 s.no] rfl).pick 2 rfl).pick 2 rfl); have n1_ := Aside0.mk (((HS.out.pick 2 rfl).set 4 (.string e.f3.f0) #[.int .i64 3, .string s.ti, .int .i64 s.op, .int .i64 e.f1, .string e.f3.f0, .int .i64 s.ca.f1, .slice A5 s.pe.length k5, .slice A6 s.th.length k6, .int .i64 s.no] rfl).below_set (i := 5) (u := .int .i64 e.f3.f1) ((HS.out.pick 2 rfl).below_set (i := 4) (u := .string e.f3.f0) HB.out)); clear HS HB; have HS := n0_; have HB := n1_; clear n0_ n1_; (try simp only [List.eraseIdx_cons_succ, List.eraseIdx_cons_zero] at HS)
  refine hK.out _ _ ⟨((HS.out.pick 1 rfl).cell 0).trans rfl, ((HS.out.pick 0 rfl).cell 2).trans rfl, ((HS.out.pick 0 rfl).cell 4).trans rfl, ((HS.out.pick 0 rfl).cell 5).trans rfl⟩ (fun hHeld => ?_)
  clear hK K
  refine done_ (done_of HT_.out (by kernel_rfl)) ?_
  clear HT_ HW_
  try clear hHeld
  go_wp2
  go_end0
  exact ⟨rfl, ⟨_, _, HS.out.drop⟩, HB.out⟩

def ero.T1 : Bool × List (List Nat × List Nat) := (true, [([], []), ([], []), ([], []), ([], []), ([0, 0], [0]), ([4, 0], [4]), ([5, 0], [5]), ([1, 0, 1, 4, 5, 6], [1]), ([7, 0, 1, 4, 5, 6], [7]), ([8, 6, 0, 1, 4, 5, 6], [8]), ([2, 0, 1, 2, 3, 4, 5, 6, 7, 8, 9], [2]), ([10, 0, 1, 2, 3, 4, 5, 6, 7, 8, 9], [10]), ([11, 3, 9, 0, 1, 2, 3, 4, 5, 6, 7, 8, 9], [3, 11])])
def ero.B1 : List Nat := [0, 0, 0, 0, 1, 17, 49, 115, 243, 499, 1023, 2047, 4095]
theorem ero.tab1 : rtab .any (opsOf Tryz.f105 1) = ero.T1 := by kernel_rfl
theorem ero.bits1 : waitsOk ero.T1.2 ero.B1 = true := by kernel_rfl
theorem eff_reopen (B p : Nat) (s : PS) (e : S50) : EffOk 105 B p s { s with st := 1, en := 0, ca := z33 } e := by
  intro N w L HP
  obtain ⟨v5, v6, HS0⟩ := HP
  obtain ⟨A5, k5, e5, _, _⟩ := (HS0.pick 2 rfl).reads
  subst e5
  obtain ⟨A6, k6, e6, _, _⟩ := (HS0.pick 3 rfl).reads
  subst e6
  go_enter Tryz.func105, Tryz.ntmps105
  go_upto_region 1 with (fail)
  have hbx := HS0.box (g := w.heap.size) (cs := #[.string e.f0.f0, .int .i64 e.f0.f1, .int .i64 e.f1, .int .i64 e.f2, .string e.f3.f0, .int .i64 e.f3.f1, .string e.f4, .int .i64 e.f5, .string e.f6]) (t := 50) rfl (new_cells w _ _) ((Below.refl _ _).alloc (Nat.le_refl _) _)
  have hbb : Below N w (w.alloc (.cells #[.string e.f0.f0, .int .i64 e.f0.f1, .int .i64 e.f1, .int .i64 e.f2, .string e.f3.f0, .int .i64 e.f3.f1, .string e.f4, .int .i64 e.f5, .string e.f6] 50)) := (Below.refl _ _).alloc HS0.size _
  generalize w.heap.size = g at hbx ⊢
  generalize w.alloc (.cells #[.string e.f0.f0, .int .i64 e.f0.f1, .int .i64 e.f1, .int .i64 e.f2, .string e.f3.f0, .int .i64 e.f3.f1, .string e.f4, .int .i64 e.f5, .string e.f6] 50) = w1 at hbx hbb ⊢
  have HS := Aside0.mk hbx
  have HB := Aside0.mk hbb
  clear hbx hbb HS0
  have n0_ := Aside0.mk (HS.out.drew); have n1_ := Aside0.mk (HB.out.drew); clear HS HB; have HS := n0_; have HB := n1_; clear n0_ n1_
  refine start_ (n := 13) (S := fun w' => w'.cell? ⟨B, 0, none⟩ = some (.pointer (some ⟨p, 0, none⟩))) (ds := []) (tfs true [0, 13]).toArray (by kernel_rfl) rfl rfl (((HS.out.pick 1 rfl).cell 0).trans rfl) (fun hHeld => ?_); refine with_tabW ero.tab1 ero.bits1 (fun HT_ HW_ => ?_)
  generalize w1.drew = w2 at HS HB hHeld ⊢
  refine pU 3 6 (tfs true [0, 3, 1, 9]).toArray rfl rfl HT_ ?_
  refine tK 0 3 (tfs true [1, 2, 1, 9]).toArray rfl rfl HT_ HW_ hHeld ?_ (by rintro w' s0; go_simp; with_reducible rfl)
  refine pU 4 7 (tfs true [1, 2, 2, 8]).toArray rfl rfl HT_ ?_
  refine pU 5 8 (tfs true [1, 2, 3, 7]).toArray rfl rfl HT_ ?_
  refine tK 1 4 (tfs true [2, 1, 3, 7]).toArray rfl rfl HT_ HW_ hHeld ?_ (by rintro w' s0; go_simp; with_reducible rfl)
  refine tK 2 5 (tfs true [6, 7]).toArray rfl rfl HT_ HW_ hHeld ?_ (by rintro w' s0; go_simp; with_reducible rfl)
  refine one_ (i := 6) (N := none) (tfs true [7, 6]).toArray rfl rfl (one_of HT_.out (by kernel_rfl)) (by decide) (fun K hK => ?_)
  have q2 := ((HS.out.pick 2 rfl).cell 0).trans (show _ = some (.int .i64 s.st) from rfl); have q3 := (HS.out.pick 2 rfl).frozen 0
  refine skip_ (w1 := ?_) (by rfl) rfl ?_ ?_
  rotate_left
  · go_simp
    rfl
  clear q2 q3
  have n0_ := Aside0.mk ((((HS.out.pick 2 rfl).set 0 (.int .i64 1) #[.int .i64 1, .string s.ti, .int .i64 s.op, .int .i64 s.en, .string s.ca.f0, .int .i64 s.ca.f1, .slice A5 s.pe.length k5, .slice A6 s.th.length k6, .int .i64 s.no] rfl).pick 2 rfl).pick 2 rfl); have n1_ := Aside0.mk ((HS.out.pick 2 rfl).below_set (i := 0) (u := .int .i64 1) HB.out); clear HS HB; have HS := n0_; have HB := n1_; clear n0_ n1_; (try simp only [List.eraseIdx_cons_succ, List.eraseIdx_cons_zero] at HS)
  refine hK.out _ _ (((HS.out.pick 1 rfl).cell 0).trans rfl) (fun hHeld => ?_)
  clear hK K
  refine pU 7 9 (tfs true [8, 5]).toArray rfl rfl HT_ ?_
  refine pU 8 10 (tfs true [9, 4]).toArray rfl rfl HT_ ?_
  refine one_ (i := 9) (N := none) (tfs true [10, 3]).toArray rfl rfl (one_of HT_.out (by kernel_rfl)) (by decide) (fun K hK => ?_)
  have q2 := ((HS.out.pick 2 rfl).cell 3).trans (show _ = some (.int .i64 s.en) from rfl); have q3 := (HS.out.pick 2 rfl).frozen 3
  refine skip_ (w1 := ?_) (by rfl) rfl ?_ ?_
  rotate_left
  · go_simp
    rfl
  clear q2 q3
  have n0_ := Aside0.mk ((((HS.out.pick 2 rfl).set 3 (.int .i64 0) #[.int .i64 1, .string s.ti, .int .i64 s.op, .int .i64 0, .string s.ca.f0, .int .i64 s.ca.f1, .slice A5 s.pe.length k5, .slice A6 s.th.length k6, .int .i64 s.no] rfl).pick 2 rfl).pick 2 rfl); have n1_ := Aside0.mk ((HS.out.pick 2 rfl).below_set (i := 3) (u := .int .i64 0) HB.out); clear HS HB; have HS := n0_; have HB := n1_; clear n0_ n1_; (try simp only [List.eraseIdx_cons_succ, List.eraseIdx_cons_zero] at HS)
  refine hK.out _ _ (((HS.out.pick 1 rfl).cell 0).trans rfl) (fun hHeld => ?_)
  clear hK K
  refine pU 10 11 (tfs true [11, 2]).toArray rfl rfl HT_ ?_
  refine pU 11 12 (tfs true [12, 1]).toArray rfl rfl HT_ ?_
  refine one_ (i := 12) (N := none) (tfs true [13]).toArray rfl rfl (one_of HT_.out (by kernel_rfl)) (by decide) (fun K hK => ?_)
  have q2 := ((HS.out.pick 2 rfl).cell 4).trans (show _ = some (.string s.ca.f0) from rfl); have q3 := (HS.out.pick 2 rfl).frozen 4; have q4 := ((HS.out.pick 2 rfl).cell 5).trans (show _ = some (.int .i64 s.ca.f1) from rfl); have q5 := (HS.out.pick 2 rfl).frozen 5
  refine skip_ (w1 := ?_) (by rfl) rfl ?_ ?_
  rotate_left
  · go_simp
    rfl
  clear q2 q3 q4 q5
  have n0_ := Aside0.mk (((((HS.out.pick 2 rfl).set 4 (.string z33.f0) #[.int .i64 1, .string s.ti, .int .i64 s.op, .int .i64 0, .string z33.f0, .int .i64 s.ca.f1, .slice A5 s.pe.length k5, .slice A6 s.th.length k6, .int .i64 s.no] rfl).set 5 (.int .i64 z33.f1) #[.int .i64 1, .string s.ti, .int .i64 s.op, .int .i64 0, .string z33.f0, .int .i64 z33.f1, .slice A5 s.pe.length k5, .slice A6 s.th.length k6, .int .i64 s.no] rfl).pick 2 rfl).pick 2 rfl); have n1_ := Aside0.mk (((HS.out.pick 2 rfl).set 4 (.string z33.f0) #[.int .i64 1, .string s.ti, .int .i64 s.op, .int .i64 0, .string z33.f0, .int .i64 s.ca.f1, .slice A5 s.pe.length k5, .slice A6 s.th.length k6, .int .i64 s.no] rfl).below_set (i := 5) (u := .int .i64 z33.f1) ((HS.out.pick 2 rfl).below_set (i := 4) (u := .string z33.f0) HB.out)); clear HS HB; have HS := n0_; have HB := n1_; clear n0_ n1_; (try simp only [List.eraseIdx_cons_succ, List.eraseIdx_cons_zero] at HS)
  refine hK.out _ _ (((HS.out.pick 1 rfl).cell 0).trans rfl) (fun hHeld => ?_)
  clear hK K
  refine done_ (done_of HT_.out (by kernel_rfl)) ?_
  clear HT_ HW_
  try clear hHeld
  go_wp2
  go_end0
  exact ⟨rfl, ⟨_, _, HS.out.drop⟩, HB.out⟩

def enc71 (x : S71) : List Value := [.string x.f0.f0, .int .i64 x.f0.f1, .string x.f1, .int .i64 x.f2]
theorem flatT : Flat k71 enc71 where
  K := k71_open
  M := fun w base ok x => k71_mkM w base ok x
  sz := fun _ => rfl
  one := fun x v h => by simp [enc71] at h; rcases h with rfl | rfl | rfl | rfl <;> rfl
theorem flat71 (W : World) (N : Nat) : ∀ (x : S71) (cs : List Value), k71.K W x cs → k71.M W N (fun _ => False) x cs := fun x cs h => by
  rw [k71_open h]; exact k71_mkM _ _ _ _

def ehy.T1 : Bool × List (List Nat × List Nat) := (true, [([], []), ([], []), ([1], [1]), ([2], [2]), ([3], [3]), ([], []), ([5], [5]), ([], []), ([7], [7]), ([6, 8], [6, 8]), ([9], [9]), ([4, 10], [4, 10]), ([0, 0, 1, 2, 3, 4, 5, 6, 7, 8, 9, 10, 11], [0]), ([12, 0, 1, 2, 3, 4, 5, 6, 7, 8, 9, 10, 11], [12]), ([13, 11, 11, 0, 1, 2, 3, 4, 5, 6, 7, 8, 9, 10, 11], [11, 13])])
def ehy.B1 : List Nat := [0, 0, 2, 6, 14, 0, 32, 0, 128, 480, 992, 2046, 4095, 8191, 16383]
theorem ehy.tab1 : rtab .any (opsOf Tryz.f99 1) = ehy.T1 := by kernel_rfl
theorem ehy.bits1 : waitsOk ehy.T1.2 ehy.B1 = true := by kernel_rfl
theorem eff_hypothesis (B p : Nat) (s : PS) (hl2 : s.th.length ≤ 999999) (e : S50) : EffOk 99 B p s { s with th := s.th ++ [(⟨e.f0, e.f6, 1⟩ : S71)] } e := by
  intro N w L HP
  obtain ⟨v5, v6, HS0⟩ := HP
  obtain ⟨A5, k5, e5, _, _⟩ := (HS0.pick 2 rfl).reads
  subst e5
  obtain ⟨A6, k6, e6, _, _⟩ := (HS0.pick 3 rfl).reads
  subst e6
  go_enter Tryz.func99, Tryz.ntmps99
  go_upto_region 1 with (fail)
  have hbx := HS0.box (g := w.heap.size) (cs := #[.string e.f0.f0, .int .i64 e.f0.f1, .int .i64 e.f1, .int .i64 e.f2, .string e.f3.f0, .int .i64 e.f3.f1, .string e.f4, .int .i64 e.f5, .string e.f6]) (t := 50) rfl (new_cells w _ _) ((Below.refl _ _).alloc (Nat.le_refl _) _)
  have hbb : Below N w (w.alloc (.cells #[.string e.f0.f0, .int .i64 e.f0.f1, .int .i64 e.f1, .int .i64 e.f2, .string e.f3.f0, .int .i64 e.f3.f1, .string e.f4, .int .i64 e.f5, .string e.f6] 50)) := (Below.refl _ _).alloc HS0.size _
  generalize w.heap.size = g at hbx ⊢
  generalize w.alloc (.cells #[.string e.f0.f0, .int .i64 e.f0.f1, .int .i64 e.f1, .int .i64 e.f2, .string e.f3.f0, .int .i64 e.f3.f1, .string e.f4, .int .i64 e.f5, .string e.f6] 50) = w1 at hbx hbb ⊢
  have HS := Aside0.mk hbx
  have HB := Aside0.mk hbb
  clear hbx hbb HS0
  have n0_ := Aside0.mk (HS.out.drew); have n1_ := Aside0.mk (HB.out.drew); clear HS HB; have HS := n0_; have HB := n1_; clear n0_ n1_
  refine start_ (n := 15) (S := fun w' => w'.cell? ⟨B, 0, none⟩ = some (.pointer (some ⟨p, 0, none⟩)) ∧ w'.cell? ⟨p, 7, none⟩ = some (.slice A6 s.th.length k6) ∧ w'.cell? ⟨g, 0, none⟩ = some (.string e.f0.f0) ∧ w'.cell? ⟨g, 1, none⟩ = some (.int .i64 e.f0.f1) ∧ w'.cell? ⟨g, 8, none⟩ = some (.string e.f6)) (ds := [14]) (tfs true [0, 15]).toArray (by kernel_rfl) rfl rfl ⟨((HS.out.pick 1 rfl).cell 0).trans rfl, ((HS.out.pick 2 rfl).cell 7).trans rfl, ((HS.out.pick 0 rfl).cell 0).trans rfl, ((HS.out.pick 0 rfl).cell 1).trans rfl, ((HS.out.pick 0 rfl).cell 8).trans rfl⟩ (fun hHeld => ?_); refine with_tabW ehy.tab1 ehy.bits1 (fun HT_ HW_ => ?_)
  generalize w1.drew = w2 at HS HB hHeld ⊢
  refine pU 5 8 (tfs true [0, 5, 1, 9]).toArray rfl rfl HT_ ?_
  refine pU 7 10 (tfs true [0, 5, 1, 1, 1, 7]).toArray rfl rfl HT_ ?_
  refine tK 0 3 (tfs true [1, 4, 1, 1, 1, 7]).toArray rfl rfl HT_ HW_ hHeld ?_ (by rintro w' ⟨s0, s1, s2, s3, s4⟩; go_simp; with_reducible rfl)
  refine tK 1 4 (tfs true [2, 3, 1, 1, 1, 7]).toArray rfl rfl HT_ HW_ hHeld ?_ (by rintro w' ⟨s0, s1, s2, s3, s4⟩; go_simp; with_reducible rfl)
  refine pU 2 5 (tfs true [3, 2, 1, 1, 1, 7]).toArray rfl rfl HT_ ?_
  refine pU 3 6 (tfs true [4, 1, 1, 1, 1, 7]).toArray rfl rfl HT_ ?_
  refine tK 4 7 (tfs true [6, 1, 1, 7]).toArray rfl rfl HT_ HW_ hHeld ?_ (by rintro w' ⟨s0, s1, s2, s3, s4⟩; go_simp; with_reducible rfl)
  refine tK 6 9 (tfs true [8, 7]).toArray rfl rfl HT_ HW_ hHeld ?_ (by rintro w' ⟨s0, s1, s2, s3, s4⟩; go_simp; with_reducible rfl)
  refine tK 8 11 (tfs true [9, 6]).toArray rfl rfl HT_ HW_ hHeld ?_ (by rintro w' ⟨s0, s1, s2, s3, s4⟩; go_simp; with_reducible rfl)
  refine pU 9 12 (tfs true [10, 5]).toArray rfl rfl HT_ ?_
  refine one_ (i := 10) (N := some 13) (tfs true [11, 4]).toArray rfl rfl (one_of HT_.out (by kernel_rfl)) (by decide) (fun K hK => ?_)
  refine S_lit_step k71 71 (by rfl) (Nt := 13) rfl (xs := [(⟨e.f0, e.f6, 1⟩ : S71)]) (inner := [.string e.f0.f0, .int .i64 e.f0.f1, .string e.f6, .int .i64 1]) ?hr ?hp HS.out (by simp) ?_
  (case hr => first | (go_simp; done) | (go_simp; rfl))
  (case hp => exact reps_encs flatT (fun y => flatT.M _ _ _ y) [(⟨e.f0, e.f6, 1⟩ : S71)])
  intro vl wl hs hb
  have n0_ := Aside0.mk ((((((hs.pick 5 rfl).pick 5 rfl).pick 5 rfl).pick 5 rfl).pick 5 rfl)); have n1_ := Aside0.mk (below_step' HB.out HS.out.size hb); clear HS HB; have HS := n0_; have HB := n1_; clear n0_ n1_; (try simp only [List.eraseIdx_cons_succ, List.eraseIdx_cons_zero] at HS)
  clear hs hb
  obtain ⟨Al, cl, el⟩ : ∃ (A : Option Addr) (c : Nat), vl = .slice A 1 c := (by obtain ⟨A, c, e, _, _⟩ := (HS.out.pick 5 rfl).reads; exact ⟨A, c, e⟩)
  subst el
  refine hK.out _ _ ⟨((HS.out.pick 1 rfl).cell 0).trans rfl, ((HS.out.pick 2 rfl).cell 7).trans rfl, ((HS.out.pick 0 rfl).cell 0).trans rfl, ((HS.out.pick 0 rfl).cell 1).trans rfl, ((HS.out.pick 0 rfl).cell 8).trans rfl⟩ (fun hHeld => ?_)
  clear hK K
  refine norm_ (a' := ?_) ?_ ?_
  rotate_left
  · show Act.put _ (some 13) _ = _
    simp only [Act.put, List.setIfInBounds_toArray, List.set_cons_zero, List.set_cons_succ, i64_w, i32_w]
    rfl
  refine one_ (i := 11) (N := some 14) (tfs true [12, 3]).toArray rfl rfl (one_of HT_.out (by kernel_rfl)) (by decide) (fun K hK => ?_)
  refine S_append_rows_step k71 (by rfl) (.tmp 7) (.tmp 13) 35 71 (.agg #[(.string ⟨#[]⟩), (.int .i64 0), (.string ⟨#[]⟩), (.int .i64 0)]) 48 rfl Tryz.underlying35 info71 rfl (by decide) (by omega) (.slice A6 s.th.length k6) s.th [(⟨e.f0, e.f6, 1⟩ : S71)] Al 1 cl rfl rfl (flat71 _ _) (HS.out.pick 4 rfl) (HS.out.pick 5 rfl).rowC.2.2 HB.out (by omega) ?_
  intro va wa hs hb
  have n0_ := Aside0.mk (((((hs.pick 4 rfl).pick 4 rfl).pick 4 rfl).pick 4 rfl)); have n1_ := Aside0.mk (hb); clear HS HB; have HS := n0_; have HB := n1_; clear n0_ n1_; (try simp only [List.eraseIdx_cons_succ, List.eraseIdx_cons_zero] at HS)
  clear hs hb
  obtain ⟨Aa, ca, ea⟩ : ∃ (A : Option Addr) (c : Nat), va = .slice A (s.th.length + 1) c := (by obtain ⟨A, c, e, _, _⟩ := (HS.out.pick 4 rfl).reads; exact ⟨A, c, by rw [e, List.length_append]; rfl⟩)
  subst ea
  refine hK.out _ _ ⟨((HS.out.pick 1 rfl).cell 0).trans rfl, ((HS.out.pick 2 rfl).cell 7).trans rfl, ((HS.out.pick 0 rfl).cell 0).trans rfl, ((HS.out.pick 0 rfl).cell 1).trans rfl, ((HS.out.pick 0 rfl).cell 8).trans rfl⟩ (fun hHeld => ?_)
  clear hK K
  refine norm_ (a' := ?_) ?_ ?_
  rotate_left
  · show Act.put _ (some 14) _ = _
    simp only [Act.put, List.setIfInBounds_toArray, List.set_cons_zero, List.set_cons_succ, i64_w, i32_w]
    rfl
  refine pU 12 15 (tfs true [13, 2]).toArray rfl rfl HT_ ?_
  refine pU 13 16 (tfs true [14, 1]).toArray rfl rfl HT_ ?_
  refine last_ (i := 14) (N := none) (tfs true [15]).toArray rfl rfl (one_of HT_.out (by kernel_rfl)) (by decide) (fun K hK => ?_)
  have q2 := ((HS.out.pick 2 rfl).cell 7).trans (show _ = some (.slice A6 s.th.length k6) from rfl); have q3 := (HS.out.pick 2 rfl).frozen 7
  refine skip_ (w1 := ?_) (by rfl) rfl ?_ ?_
  rotate_left
  · go_simp
    rfl
  clear q2 q3
  have n0_ := Aside0.mk ((((HS.out.pick 2 rfl).set 7 (.slice Aa (s.th.length + 1) ca) #[.int .i64 s.st, .string s.ti, .int .i64 s.op, .int .i64 s.en, .string s.ca.f0, .int .i64 s.ca.f1, .slice A5 s.pe.length k5, .slice Aa (s.th.length + 1) ca, .int .i64 s.no] rfl).pick 2 rfl).pick 2 rfl); have n1_ := Aside0.mk ((HS.out.pick 2 rfl).below_set (i := 7) (u := .slice Aa (s.th.length + 1) ca) HB.out); clear HS HB; have HS := n0_; have HB := n1_; clear n0_ n1_; (try simp only [List.eraseIdx_cons_succ, List.eraseIdx_cons_zero] at HS)
  refine hK.out _ _ ?_
  clear hK K
  refine done_ (done_of HT_.out (by kernel_rfl)) ?_
  clear HT_ HW_
  try clear hHeld
  go_wp2
  go_end0
  exact ⟨rfl, ⟨_, _, (HS.out.drop.pick 4 rfl).drop⟩, HB.out⟩

end Go.Proofs.YtcjfgejiknlpfaaGreat.PI
