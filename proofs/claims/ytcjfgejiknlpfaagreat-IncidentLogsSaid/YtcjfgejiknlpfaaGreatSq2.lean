/- Compare, told as the library's sort wants it: draws, and blocks laid behind the world. -/
import Derived.Test.YtcjfgejiknlpfaaGreatJ1
import Derived.Test.YtcjfgejiknlpfaaGreatJ0
namespace Go.Proofs.YtcjfgejiknlpfaaGreat.PI
open Go.RowKit Go.Sort Go.Proofs.YtcjfgejiknlpfaaGreatW.PrintWords Go.Proofs.YtcjfgejiknlpfaaGreatW.PrintLast Go.Proofs.YtcjfgejiknlpfaaGreatW.PrintMore Go.Proofs.YtcjfgejiknlpfaaGreat.Sep
set_option linter.unusedVariables false
set_option linter.unusedSimpArgs false
set_option maxHeartbeats 8000000
set_option maxRecDepth 100000
/-- Runs of 'true' and 'false' in turn. -/
@[reducible] def tfs : Bool → List Nat → List Bool
  | _, [] => []
  | b, n :: l => List.replicate n b ++ tfs (!b) l

theorem heap_new (w : World) (o : Obj) : (w.alloc o).heap[w.heap.size]? = some o := Array.getElem?_push_size
theorem size_new (w : World) (o : Obj) : (w.alloc o).heap.size = w.heap.size + 1 := Array.size_push _
theorem two_boxes (W : World) (cs ds : Array Value) (t u : TypeId) : St W.heap.size ((W.alloc (.cells cs t)).alloc (.cells ds u)) (Blk (W.heap.size + 1) ds u :: Blk W.heap.size cs t :: []) ∧ Below W.heap.size W ((W.alloc (.cells cs t)).alloc (.cells ds u)) ∧ GD W ((W.alloc (.cells cs t)).alloc (.cells ds u)) := by
  have h1 := (St.none_ (N := W.heap.size) (w := W) (Nat.le_refl _)).box (g := W.heap.size) (cs := cs) (t := t) (w1 := W.alloc (.cells cs t)) rfl (heap_new W _) ((Below.refl _ _).alloc (Nat.le_refl _) _)
  have b1 : Below W.heap.size W (W.alloc (.cells cs t)) := (Below.refl _ _).alloc (Nat.le_refl _) _
  have b2 : Below (W.alloc (.cells cs t)).heap.size (W.alloc (.cells cs t)) ((W.alloc (.cells cs t)).alloc (.cells ds u)) := (Below.refl _ _).alloc (Nat.le_refl _) _
  refine ⟨h1.box (size_new W _).symm ?_ b2, below_step' b1 h1.size b2, ((GD.refl W).alloc _).alloc _⟩
  rw [← size_new W (.cells cs t)]
  exact heap_new _ _
theorem kcmp_is (x y : S33) : fnz [bcmp x.f0 y.f0, icmp x.f1 y.f1] = kcmp x y := by simp only [fnz, thn_zero]; rfl
theorem ecmp_is (x y : S50) : fnz [icmp x.f1 y.f1, kcmp x.f0 y.f0, icmp x.f2 y.f2, kcmp x.f3 y.f3, bcmp x.f4 y.f4, icmp x.f5 y.f5, bcmp x.f6 y.f6] = ecmp x y := by simp only [fnz, thn_zero]; rfl
theorem or_calls (l : List Int) (hl : l.length ≤ 100) (A : Option Addr) (n c : Nat) (hn : l.length = n) (w : World) (h : Kd.C (Kd.int .i64) w A l.length l) (hc : l.length ≤ c) (r : Int) (hr : fnz l = r) : Calls Tryz.prog 63 #[.slice A n c] w fun e w' => e = .returned (.int .i64 r) ∧ Drawn0 w w' := by
  subst hn hr
  exact cmp_Or_int.calls (l.length + 1) A c l _ w h hc (or_ok _ _ (by omega) (by omega))

theorem gd_below {W w : World} (h : GD W w) : Below W.heap.size W w := by
  obtain ⟨q, os, rfl⟩ := h.out
  refine ⟨rfl, rfl, rfl, ?_, fun k hk => ?_⟩
  · show W.heap.size ≤ (W.heap ++ os).size
    simp
  · show (W.heap ++ os)[k]? = _
    rw [Array.getElem?_append_left hk]

def ckg.T1 : Bool × List (List Nat × List Nat) := (true, [([], []), ([0], [0]), ([], []), ([2], [2]), ([1, 3], [1, 3]), ([], []), ([5], [5]), ([], []), ([7], [7]), ([6, 8, 4], [6, 8]), ([4, 9], [4, 9]), ([10, 9], [10]), ([11, 11, 0, 1, 2, 3, 4, 5, 6, 7, 8, 9, 10, 11], [11])])
def ckg.B1 : List Nat := [0, 1, 0, 4, 15, 0, 32, 0, 128, 511, 1023, 2047, 4095]
theorem ckg.tab1 : rtab .any (opsOf Tryz.f35 1) = ckg.T1 := by kernel_rfl
theorem ckg.bits1 : waitsOk ckg.T1.2 ckg.B1 = true := by kernel_rfl
theorem keys_grown (x y : S33) (W : World) : Calls Tryz.prog 35 #[.agg #[.string x.f0, .int .i64 x.f1], .agg #[.string y.f0, .int .i64 y.f1]] W fun e w' => e = .returned (.int .i64 (kcmp x y)) ∧ GD W w' := by
  go_enter Tryz.func35, Tryz.ntmps35
  go_upto_region 1 with (fail)
  obtain ⟨HS, HB, HD⟩ := two_boxes W #[.string x.f0, .int .i64 x.f1] #[.string y.f0, .int .i64 y.f1] 33 33
  replace HS := Aside0.mk HS
  replace HB := Aside0.mk HB
  replace HD := Aside0.mk HD
  generalize (W.alloc (.cells #[.string x.f0, .int .i64 x.f1] 33)).alloc (.cells #[.string y.f0, .int .i64 y.f1] 33) = w at HS HB HD ⊢
  obtain ⟨g1, hg1⟩ : ∃ g, g = W.heap.size := ⟨_, rfl⟩
  obtain ⟨g2, hg2⟩ : ∃ g, g = W.heap.size + 1 := ⟨_, rfl⟩
  rw [← hg2] at HS ⊢
  have HS' : Aside0 (St W.heap.size w (Blk g2 #[.string y.f0, .int .i64 y.f1] 33 :: Blk g1 #[.string x.f0, .int .i64 x.f1] 33 :: [])) := ⟨by rw [hg1]; exact HS.out⟩
  rw [← hg1] at ⊢
  clear HS
  have HS := HS'
  clear HS' hg1 hg2
  have n2_ := Aside0.mk (HD.out.drew); clear HD; have HD := n2_; clear n2_
  have n0_ := Aside0.mk (HS.out.drew); have n1_ := Aside0.mk (HB.out.drew); clear HS HB; have HS := n0_; have HB := n1_; clear n0_ n1_
  refine start_ (n := 13) (S := fun w' => w'.cell? ⟨g2, 0, none⟩ = some (.string y.f0) ∧ w'.cell? ⟨g2, 1, none⟩ = some (.int .i64 y.f1) ∧ w'.cell? ⟨g1, 0, none⟩ = some (.string x.f0) ∧ w'.cell? ⟨g1, 1, none⟩ = some (.int .i64 x.f1)) (ds := []) (tfs true [0, 13]).toArray (by kernel_rfl) rfl rfl ⟨((HS.out.pick 0 rfl).cell 0).trans rfl, ((HS.out.pick 0 rfl).cell 1).trans rfl, ((HS.out.pick 1 rfl).cell 0).trans rfl, ((HS.out.pick 1 rfl).cell 1).trans rfl⟩ (fun hHeld => ?_); refine with_tabW ckg.tab1 ckg.bits1 (fun HT_ HW_ => ?_)
  generalize w.drew = w1 at HS HB HD hHeld ⊢
  refine pU 0 5 (tfs true [1, 12]).toArray rfl rfl HT_ ?_
  refine pU 2 7 (tfs true [1, 1, 1, 10]).toArray rfl rfl HT_ ?_
  refine pU 5 10 (tfs true [1, 1, 1, 2, 1, 7]).toArray rfl rfl HT_ ?_
  refine pU 7 12 (tfs true [1, 1, 1, 2, 1, 1, 1, 5]).toArray rfl rfl HT_ ?_
  refine tK 1 6 (tfs true [3, 2, 1, 1, 1, 5]).toArray rfl rfl HT_ HW_ hHeld ?_ (by rintro w' ⟨s0, s1, s2, s3⟩; go_simp; with_reducible rfl)
  refine tK 3 8 (tfs true [4, 1, 1, 1, 1, 5]).toArray rfl rfl HT_ HW_ hHeld ?_ (by rintro w' ⟨s0, s1, s2, s3⟩; go_simp; with_reducible rfl)
  refine tK 6 11 (tfs true [4, 1, 3, 5]).toArray rfl rfl HT_ HW_ hHeld ?_ (by rintro w' ⟨s0, s1, s2, s3⟩; go_simp; with_reducible rfl)
  refine tK 8 13 (tfs true [4, 1, 4, 4]).toArray rfl rfl HT_ HW_ hHeld ?_ (by rintro w' ⟨s0, s1, s2, s3⟩; go_simp; with_reducible rfl)
  refine one_ (i := 4) (N := some 9) (tfs true [9, 4]).toArray rfl rfl (one_of HT_.out (by kernel_rfl)) (by decide) (fun K hK => ?_)
  refine goes_ Tryz.func64 (by kernel_rfl) rfl #[.string x.f0, .string y.f0] (by rfl) rfl rfl (by (try simp only [List.map_toArray, List.map_cons, List.map_nil]); first | done | rfl | (simp only [List.length_drop, List.length_take]; rfl)) ?_
  with_reducible refine (cmp_Compare_string.calls _ _ _ _ (cs_ok x.f0 y.f0)).mono ?_
  rintro e wa ⟨rfl, hb0⟩; have hb := hb0.below
  refine ⟨_, rfl, ?_⟩
  have n0_ := Aside0.mk (HS.out.step hb); have n1_ := Aside0.mk (below_step' HB.out HS.out.size hb); clear HS HB; have HS := n0_; have HB := n1_; clear n0_ n1_; (try simp only [List.eraseIdx_cons_succ, List.eraseIdx_cons_zero] at HS)
  have n2_ := Aside0.mk (HD.out.drawn hb0); clear HD; have HD := n2_; clear n2_ hb0 hb
  refine hK.out _ _ ⟨((HS.out.pick 0 rfl).cell 0).trans rfl, ((HS.out.pick 0 rfl).cell 1).trans rfl, ((HS.out.pick 1 rfl).cell 0).trans rfl, ((HS.out.pick 1 rfl).cell 1).trans rfl⟩ (fun hHeld => ?_)
  clear hK K
  refine norm_ (a' := ?_) ?_ ?_
  rotate_left
  · show Act.put _ (some 9) _ = _
    simp only [Act.put, List.setIfInBounds_toArray, List.set_cons_zero, List.set_cons_succ, i64_w, i32_w]
    rfl
  refine one_ (i := 9) (N := some 14) (tfs true [10, 3]).toArray rfl rfl (one_of HT_.out (by kernel_rfl)) (by decide) (fun K hK => ?_)
  refine goes_ Tryz.func65 (by kernel_rfl) rfl #[.int .i64 x.f1, .int .i64 y.f1] (by rfl) rfl rfl (by (try simp only [List.map_toArray, List.map_cons, List.map_nil]); first | done | rfl | (simp only [List.length_drop, List.length_take]; rfl)) ?_
  with_reducible refine (cmp_Compare_int.calls _ _ _ _ (ci_ok x.f1 y.f1)).mono ?_
  rintro e wb ⟨rfl, hb0⟩; have hb := hb0.below
  refine ⟨_, rfl, ?_⟩
  have n0_ := Aside0.mk (HS.out.step hb); have n1_ := Aside0.mk (below_step' HB.out HS.out.size hb); clear HS HB; have HS := n0_; have HB := n1_; clear n0_ n1_; (try simp only [List.eraseIdx_cons_succ, List.eraseIdx_cons_zero] at HS)
  have n2_ := Aside0.mk (HD.out.drawn hb0); clear HD; have HD := n2_; clear n2_ hb0 hb
  refine hK.out _ _ ⟨((HS.out.pick 0 rfl).cell 0).trans rfl, ((HS.out.pick 0 rfl).cell 1).trans rfl, ((HS.out.pick 1 rfl).cell 0).trans rfl, ((HS.out.pick 1 rfl).cell 1).trans rfl⟩ (fun hHeld => ?_)
  clear hK K
  refine norm_ (a' := ?_) ?_ ?_
  rotate_left
  · show Act.put _ (some 14) _ = _
    simp only [Act.put, List.setIfInBounds_toArray, List.set_cons_zero, List.set_cons_succ, i64_w, i32_w]
    rfl
  refine one_ (i := 10) (N := some 15) (tfs true [11, 2]).toArray rfl rfl (one_of HT_.out (by kernel_rfl)) (by decide) (fun K hK => ?_)
  refine S_litD_step (Kd.int .i64) 3 (by rfl) (Nt := 15) rfl (xs := [bcmp x.f0 y.f0, icmp x.f1 y.f1]) (inner := [.int .i64 (bcmp x.f0 y.f0), .int .i64 (icmp x.f1 y.f1)]) ?hr ?hp HS.out (by simp) ?_
  (case hr => first | (go_simp; done) | (go_simp; rfl))
  (case hp => exact Reps.one (show Kd.M (Kd.int .i64) _ _ _ _ [.int .i64 _] from rfl) (Reps.one (show Kd.M (Kd.int .i64) _ _ _ _ [.int .i64 _] from rfl) (Reps.none _ _)))
  intro vl wl hs hb he
  have n2_ := Aside0.mk (he ▸ HD.out.alloc _ : GD W wl); clear HD; have HD := n2_; clear n2_ he
  have n0_ := Aside0.mk ((hs.pick 2 rfl).pick 2 rfl); have n1_ := Aside0.mk (below_step' HB.out HS.out.size hb); clear HS HB; have HS := n0_; have HB := n1_; clear n0_ n1_; (try simp only [List.eraseIdx_cons_succ, List.eraseIdx_cons_zero] at HS)
  clear hs hb
  obtain ⟨A15, c15, e15⟩ : ∃ (A : Option Addr) (c : Nat), vl = .slice A 2 c := (by obtain ⟨A, c, e, _, _⟩ := (HS.out.pick 2 rfl).reads; exact ⟨A, c, e⟩)
  subst e15
  refine hK.out _ _ ⟨((HS.out.pick 0 rfl).cell 0).trans rfl, ((HS.out.pick 0 rfl).cell 1).trans rfl, ((HS.out.pick 1 rfl).cell 0).trans rfl, ((HS.out.pick 1 rfl).cell 1).trans rfl⟩ (fun hHeld => ?_)
  clear hK K
  refine norm_ (a' := ?_) ?_ ?_
  rotate_left
  · show Act.put _ (some 15) _ = _
    simp only [Act.put, List.setIfInBounds_toArray, List.set_cons_zero, List.set_cons_succ, i64_w, i32_w]
    rfl
  refine one_ (i := 11) (N := some 16) (tfs true [12, 1]).toArray rfl rfl (one_of HT_.out (by kernel_rfl)) (by decide) (fun K hK => ?_)
  refine goes_ Tryz.func63 (by kernel_rfl) rfl #[.slice A15 2 c15] (by rfl) rfl rfl (by (try simp only [List.map_toArray, List.map_cons, List.map_nil]); first | done | rfl | (simp only [List.length_drop, List.length_take]; rfl)) ?_
  with_reducible refine (or_calls [bcmp x.f0 y.f0, icmp x.f1 y.f1] (by simp) A15 2 c15 rfl _ (HS.out.pick 2 rfl).rowC.2.2 (HS.out.pick 2 rfl).rowC.2.1 (kcmp x y) (kcmp_is x y)).mono ?_
  rintro e wz ⟨rfl, hb0⟩; have hb := hb0.below
  refine ⟨_, rfl, ?_⟩
  have n0_ := Aside0.mk (HS.out.step hb); have n1_ := Aside0.mk (below_step' HB.out HS.out.size hb); clear HS HB; have HS := n0_; have HB := n1_; clear n0_ n1_; (try simp only [List.eraseIdx_cons_succ, List.eraseIdx_cons_zero] at HS)
  have n2_ := Aside0.mk (HD.out.drawn hb0); clear HD; have HD := n2_; clear n2_ hb0 hb
  refine hK.out _ _ ⟨((HS.out.pick 0 rfl).cell 0).trans rfl, ((HS.out.pick 0 rfl).cell 1).trans rfl, ((HS.out.pick 1 rfl).cell 0).trans rfl, ((HS.out.pick 1 rfl).cell 1).trans rfl⟩ (fun hHeld => ?_)
  clear hK K
  refine norm_ (a' := ?_) ?_ ?_
  rotate_left
  · show Act.put _ (some 16) _ = _
    simp only [Act.put, List.setIfInBounds_toArray, List.set_cons_zero, List.set_cons_succ, i64_w, i32_w]
    rfl
  refine pU 12 4 (tfs true [13]).toArray rfl rfl HT_ ?_
  refine done_ (done_of HT_.out (by kernel_rfl)) ?_
  clear HT_ HW_
  try clear hHeld
  go_wp2
  go_ret
  exact ⟨rfl, HD.out⟩

def ceg.T1 : Bool × List (List Nat × List Nat) := (true, [([], []), ([0], [0]), ([], []), ([2], [2]), ([1, 3], [1, 3]), ([], []), ([5], [5]), ([], []), ([7], [7]), ([6, 8, 4], [6, 8]), ([], []), ([10], [10]), ([], []), ([12], [12]), ([11, 13, 9], [11, 13]), ([], []), ([15], [15]), ([], []), ([17], [17]), ([16, 18, 14], [16, 18]), ([], []), ([20], [20]), ([], []), ([22], [22]), ([21, 23, 19], [21, 23]), ([], []), ([25], [25]), ([], []), ([27], [27]), ([26, 28, 24], [26, 28]), ([], []), ([30], [30]), ([], []), ([32], [32]), ([31, 33, 29], [31, 33]), ([4, 9, 14, 19, 24, 29, 34], [4, 9, 14, 19, 24, 29, 34]), ([35, 34], [35]), ([36, 36, 0, 1, 2, 3, 4, 5, 6, 7, 8, 9, 10, 11, 12, 13, 14, 15, 16, 17, 18, 19, 20, 21, 22, 23, 24, 25, 26, 27, 28, 29, 30, 31, 32, 33, 34, 35, 36], [36])])
def ceg.B1 : List Nat := [0, 1, 0, 4, 15, 0, 32, 0, 128, 511, 0, 1024, 0, 4096, 16383, 0, 32768, 0, 131072, 524287, 0, 1048576, 0, 4194304, 16777215, 0, 33554432, 0, 134217728, 536870911, 0, 1073741824, 0, 4294967296, 17179869183, 34359738367, 68719476735, 137438953471]
theorem ceg.tab1 : rtab .any (opsOf Tryz.f51 1) = ceg.T1 := by kernel_rfl
theorem ceg.bits1 : waitsOk ceg.T1.2 ceg.B1 = true := by kernel_rfl
theorem compare_grown (x y : S50) (W : World) : Calls Tryz.prog 51 #[.agg #[.string x.f0.f0, .int .i64 x.f0.f1, .int .i64 x.f1, .int .i64 x.f2, .string x.f3.f0, .int .i64 x.f3.f1, .string x.f4, .int .i64 x.f5, .string x.f6], .agg #[.string y.f0.f0, .int .i64 y.f0.f1, .int .i64 y.f1, .int .i64 y.f2, .string y.f3.f0, .int .i64 y.f3.f1, .string y.f4, .int .i64 y.f5, .string y.f6]] W fun e w' => e = .returned (.int .i64 (ecmp x y)) ∧ GD W w' := by
  go_enter Tryz.func51, Tryz.ntmps51
  go_upto_region 1 with (fail)
  obtain ⟨HS, HB, HD⟩ := two_boxes W #[.string x.f0.f0, .int .i64 x.f0.f1, .int .i64 x.f1, .int .i64 x.f2, .string x.f3.f0, .int .i64 x.f3.f1, .string x.f4, .int .i64 x.f5, .string x.f6] #[.string y.f0.f0, .int .i64 y.f0.f1, .int .i64 y.f1, .int .i64 y.f2, .string y.f3.f0, .int .i64 y.f3.f1, .string y.f4, .int .i64 y.f5, .string y.f6] 50 50
  replace HS := Aside0.mk HS
  replace HB := Aside0.mk HB
  replace HD := Aside0.mk HD
  generalize (W.alloc (.cells #[.string x.f0.f0, .int .i64 x.f0.f1, .int .i64 x.f1, .int .i64 x.f2, .string x.f3.f0, .int .i64 x.f3.f1, .string x.f4, .int .i64 x.f5, .string x.f6] 50)).alloc (.cells #[.string y.f0.f0, .int .i64 y.f0.f1, .int .i64 y.f1, .int .i64 y.f2, .string y.f3.f0, .int .i64 y.f3.f1, .string y.f4, .int .i64 y.f5, .string y.f6] 50) = w at HS HB HD ⊢
  obtain ⟨g1, hg1⟩ : ∃ g, g = W.heap.size := ⟨_, rfl⟩
  obtain ⟨g2, hg2⟩ : ∃ g, g = W.heap.size + 1 := ⟨_, rfl⟩
  rw [← hg2] at HS ⊢
  have HS' : Aside0 (St W.heap.size w (Blk g2 #[.string y.f0.f0, .int .i64 y.f0.f1, .int .i64 y.f1, .int .i64 y.f2, .string y.f3.f0, .int .i64 y.f3.f1, .string y.f4, .int .i64 y.f5, .string y.f6] 50 :: Blk g1 #[.string x.f0.f0, .int .i64 x.f0.f1, .int .i64 x.f1, .int .i64 x.f2, .string x.f3.f0, .int .i64 x.f3.f1, .string x.f4, .int .i64 x.f5, .string x.f6] 50 :: [])) := ⟨by rw [hg1]; exact HS.out⟩
  rw [← hg1] at ⊢
  clear HS
  have HS := HS'
  clear HS' hg1 hg2
  have n2_ := Aside0.mk (HD.out.drew); clear HD; have HD := n2_; clear n2_
  have n0_ := Aside0.mk (HS.out.drew); have n1_ := Aside0.mk (HB.out.drew); clear HS HB; have HS := n0_; have HB := n1_; clear n0_ n1_
  refine start_ (n := 38) (S := fun w' => w'.cell? ⟨g2, 0, none⟩ = some (.string y.f0.f0) ∧ w'.cell? ⟨g2, 1, none⟩ = some (.int .i64 y.f0.f1) ∧ w'.cell? ⟨g2, 2, none⟩ = some (.int .i64 y.f1) ∧ w'.cell? ⟨g2, 3, none⟩ = some (.int .i64 y.f2) ∧ w'.cell? ⟨g2, 4, none⟩ = some (.string y.f3.f0) ∧ w'.cell? ⟨g2, 5, none⟩ = some (.int .i64 y.f3.f1) ∧ w'.cell? ⟨g2, 6, none⟩ = some (.string y.f4) ∧ w'.cell? ⟨g2, 7, none⟩ = some (.int .i64 y.f5) ∧ w'.cell? ⟨g2, 8, none⟩ = some (.string y.f6) ∧ w'.cell? ⟨g1, 0, none⟩ = some (.string x.f0.f0) ∧ w'.cell? ⟨g1, 1, none⟩ = some (.int .i64 x.f0.f1) ∧ w'.cell? ⟨g1, 2, none⟩ = some (.int .i64 x.f1) ∧ w'.cell? ⟨g1, 3, none⟩ = some (.int .i64 x.f2) ∧ w'.cell? ⟨g1, 4, none⟩ = some (.string x.f3.f0) ∧ w'.cell? ⟨g1, 5, none⟩ = some (.int .i64 x.f3.f1) ∧ w'.cell? ⟨g1, 6, none⟩ = some (.string x.f4) ∧ w'.cell? ⟨g1, 7, none⟩ = some (.int .i64 x.f5) ∧ w'.cell? ⟨g1, 8, none⟩ = some (.string x.f6)) (ds := []) (tfs true [0, 38]).toArray (by kernel_rfl) rfl rfl ⟨((HS.out.pick 0 rfl).cell 0).trans rfl, ((HS.out.pick 0 rfl).cell 1).trans rfl, ((HS.out.pick 0 rfl).cell 2).trans rfl, ((HS.out.pick 0 rfl).cell 3).trans rfl, ((HS.out.pick 0 rfl).cell 4).trans rfl, ((HS.out.pick 0 rfl).cell 5).trans rfl, ((HS.out.pick 0 rfl).cell 6).trans rfl, ((HS.out.pick 0 rfl).cell 7).trans rfl, ((HS.out.pick 0 rfl).cell 8).trans rfl, ((HS.out.pick 1 rfl).cell 0).trans rfl, ((HS.out.pick 1 rfl).cell 1).trans rfl, ((HS.out.pick 1 rfl).cell 2).trans rfl, ((HS.out.pick 1 rfl).cell 3).trans rfl, ((HS.out.pick 1 rfl).cell 4).trans rfl, ((HS.out.pick 1 rfl).cell 5).trans rfl, ((HS.out.pick 1 rfl).cell 6).trans rfl, ((HS.out.pick 1 rfl).cell 7).trans rfl, ((HS.out.pick 1 rfl).cell 8).trans rfl⟩ (fun hHeld => ?_); refine with_tabW ceg.tab1 ceg.bits1 (fun HT_ HW_ => ?_)
  generalize w.drew = w1 at HS HB HD hHeld ⊢
  refine pU 0 5 (tfs true [1, 37]).toArray rfl rfl HT_ ?_
  refine pU 2 7 (tfs true [1, 1, 1, 35]).toArray rfl rfl HT_ ?_
  refine pU 5 10 (tfs true [1, 1, 1, 2, 1, 32]).toArray rfl rfl HT_ ?_
  refine pU 7 12 (tfs true [1, 1, 1, 2, 1, 1, 1, 30]).toArray rfl rfl HT_ ?_
  refine pU 10 15 (tfs true [1, 1, 1, 2, 1, 1, 1, 2, 1, 27]).toArray rfl rfl HT_ ?_
  refine pU 12 17 (tfs true [1, 1, 1, 2, 1, 1, 1, 2, 1, 1, 1, 25]).toArray rfl rfl HT_ ?_
  refine pU 15 20 (tfs true [1, 1, 1, 2, 1, 1, 1, 2, 1, 1, 1, 2, 1, 22]).toArray rfl rfl HT_ ?_
  refine pU 17 22 (tfs true [1, 1, 1, 2, 1, 1, 1, 2, 1, 1, 1, 2, 1, 1, 1, 20]).toArray rfl rfl HT_ ?_
  refine pU 20 25 (tfs true [1, 1, 1, 2, 1, 1, 1, 2, 1, 1, 1, 2, 1, 1, 1, 2, 1, 17]).toArray rfl rfl HT_ ?_
  refine pU 22 27 (tfs true [1, 1, 1, 2, 1, 1, 1, 2, 1, 1, 1, 2, 1, 1, 1, 2, 1, 1, 1, 15]).toArray rfl rfl HT_ ?_
  refine pU 25 30 (tfs true [1, 1, 1, 2, 1, 1, 1, 2, 1, 1, 1, 2, 1, 1, 1, 2, 1, 1, 1, 2, 1, 12]).toArray rfl rfl HT_ ?_
  refine pU 27 32 (tfs true [1, 1, 1, 2, 1, 1, 1, 2, 1, 1, 1, 2, 1, 1, 1, 2, 1, 1, 1, 2, 1, 1, 1, 10]).toArray rfl rfl HT_ ?_
  refine pU 30 35 (tfs true [1, 1, 1, 2, 1, 1, 1, 2, 1, 1, 1, 2, 1, 1, 1, 2, 1, 1, 1, 2, 1, 1, 1, 2, 1, 7]).toArray rfl rfl HT_ ?_
  refine pU 32 37 (tfs true [1, 1, 1, 2, 1, 1, 1, 2, 1, 1, 1, 2, 1, 1, 1, 2, 1, 1, 1, 2, 1, 1, 1, 2, 1, 1, 1, 5]).toArray rfl rfl HT_ ?_
  refine tK 1 6 (tfs true [3, 2, 1, 1, 1, 2, 1, 1, 1, 2, 1, 1, 1, 2, 1, 1, 1, 2, 1, 1, 1, 2, 1, 1, 1, 5]).toArray rfl rfl HT_ HW_ hHeld ?_ (by rintro w' ⟨s0, s1, s2, s3, s4, s5, s6, s7, s8, s9, s10, s11, s12, s13, s14, s15, s16, s17⟩; go_simp; with_reducible rfl)
  refine tK 3 8 (tfs true [4, 1, 1, 1, 1, 2, 1, 1, 1, 2, 1, 1, 1, 2, 1, 1, 1, 2, 1, 1, 1, 2, 1, 1, 1, 5]).toArray rfl rfl HT_ HW_ hHeld ?_ (by rintro w' ⟨s0, s1, s2, s3, s4, s5, s6, s7, s8, s9, s10, s11, s12, s13, s14, s15, s16, s17⟩; go_simp; with_reducible rfl)
  refine tK 6 11 (tfs true [4, 1, 3, 2, 1, 1, 1, 2, 1, 1, 1, 2, 1, 1, 1, 2, 1, 1, 1, 2, 1, 1, 1, 5]).toArray rfl rfl HT_ HW_ hHeld ?_ (by rintro w' ⟨s0, s1, s2, s3, s4, s5, s6, s7, s8, s9, s10, s11, s12, s13, s14, s15, s16, s17⟩; go_simp; with_reducible rfl)
  refine tK 8 13 (tfs true [4, 1, 4, 1, 1, 1, 1, 2, 1, 1, 1, 2, 1, 1, 1, 2, 1, 1, 1, 2, 1, 1, 1, 5]).toArray rfl rfl HT_ HW_ hHeld ?_ (by rintro w' ⟨s0, s1, s2, s3, s4, s5, s6, s7, s8, s9, s10, s11, s12, s13, s14, s15, s16, s17⟩; go_simp; with_reducible rfl)
  refine tK 11 16 (tfs true [4, 1, 4, 1, 3, 2, 1, 1, 1, 2, 1, 1, 1, 2, 1, 1, 1, 2, 1, 1, 1, 5]).toArray rfl rfl HT_ HW_ hHeld ?_ (by rintro w' ⟨s0, s1, s2, s3, s4, s5, s6, s7, s8, s9, s10, s11, s12, s13, s14, s15, s16, s17⟩; go_simp; with_reducible rfl)
  refine tK 13 18 (tfs true [4, 1, 4, 1, 4, 1, 1, 1, 1, 2, 1, 1, 1, 2, 1, 1, 1, 2, 1, 1, 1, 5]).toArray rfl rfl HT_ HW_ hHeld ?_ (by rintro w' ⟨s0, s1, s2, s3, s4, s5, s6, s7, s8, s9, s10, s11, s12, s13, s14, s15, s16, s17⟩; go_simp; with_reducible rfl)
  refine tK 16 21 (tfs true [4, 1, 4, 1, 4, 1, 3, 2, 1, 1, 1, 2, 1, 1, 1, 2, 1, 1, 1, 5]).toArray rfl rfl HT_ HW_ hHeld ?_ (by rintro w' ⟨s0, s1, s2, s3, s4, s5, s6, s7, s8, s9, s10, s11, s12, s13, s14, s15, s16, s17⟩; go_simp; with_reducible rfl)
  refine tK 18 23 (tfs true [4, 1, 4, 1, 4, 1, 4, 1, 1, 1, 1, 2, 1, 1, 1, 2, 1, 1, 1, 5]).toArray rfl rfl HT_ HW_ hHeld ?_ (by rintro w' ⟨s0, s1, s2, s3, s4, s5, s6, s7, s8, s9, s10, s11, s12, s13, s14, s15, s16, s17⟩; go_simp; with_reducible rfl)
  refine tK 21 26 (tfs true [4, 1, 4, 1, 4, 1, 4, 1, 3, 2, 1, 1, 1, 2, 1, 1, 1, 5]).toArray rfl rfl HT_ HW_ hHeld ?_ (by rintro w' ⟨s0, s1, s2, s3, s4, s5, s6, s7, s8, s9, s10, s11, s12, s13, s14, s15, s16, s17⟩; go_simp; with_reducible rfl)
  refine tK 23 28 (tfs true [4, 1, 4, 1, 4, 1, 4, 1, 4, 1, 1, 1, 1, 2, 1, 1, 1, 5]).toArray rfl rfl HT_ HW_ hHeld ?_ (by rintro w' ⟨s0, s1, s2, s3, s4, s5, s6, s7, s8, s9, s10, s11, s12, s13, s14, s15, s16, s17⟩; go_simp; with_reducible rfl)
  refine tK 26 31 (tfs true [4, 1, 4, 1, 4, 1, 4, 1, 4, 1, 3, 2, 1, 1, 1, 5]).toArray rfl rfl HT_ HW_ hHeld ?_ (by rintro w' ⟨s0, s1, s2, s3, s4, s5, s6, s7, s8, s9, s10, s11, s12, s13, s14, s15, s16, s17⟩; go_simp; with_reducible rfl)
  refine tK 28 33 (tfs true [4, 1, 4, 1, 4, 1, 4, 1, 4, 1, 4, 1, 1, 1, 1, 5]).toArray rfl rfl HT_ HW_ hHeld ?_ (by rintro w' ⟨s0, s1, s2, s3, s4, s5, s6, s7, s8, s9, s10, s11, s12, s13, s14, s15, s16, s17⟩; go_simp; with_reducible rfl)
  refine tK 31 36 (tfs true [4, 1, 4, 1, 4, 1, 4, 1, 4, 1, 4, 1, 3, 5]).toArray rfl rfl HT_ HW_ hHeld ?_ (by rintro w' ⟨s0, s1, s2, s3, s4, s5, s6, s7, s8, s9, s10, s11, s12, s13, s14, s15, s16, s17⟩; go_simp; with_reducible rfl)
  refine tK 33 38 (tfs true [4, 1, 4, 1, 4, 1, 4, 1, 4, 1, 4, 1, 4, 4]).toArray rfl rfl HT_ HW_ hHeld ?_ (by rintro w' ⟨s0, s1, s2, s3, s4, s5, s6, s7, s8, s9, s10, s11, s12, s13, s14, s15, s16, s17⟩; go_simp; with_reducible rfl)
  refine one_ (i := 4) (N := some 9) (tfs true [9, 1, 4, 1, 4, 1, 4, 1, 4, 1, 4, 4]).toArray rfl rfl (one_of HT_.out (by kernel_rfl)) (by decide) (fun K hK => ?_)
  refine goes_ Tryz.func65 (by kernel_rfl) rfl #[.int .i64 x.f1, .int .i64 y.f1] (by rfl) rfl rfl (by (try simp only [List.map_toArray, List.map_cons, List.map_nil]); first | done | rfl | (simp only [List.length_drop, List.length_take]; rfl)) ?_
  with_reducible refine (cmp_Compare_int.calls _ _ _ _ (ci_ok x.f1 y.f1)).mono ?_
  rintro e wa ⟨rfl, hb0⟩; have hb := hb0.below
  refine ⟨_, rfl, ?_⟩
  have n0_ := Aside0.mk (HS.out.step hb); have n1_ := Aside0.mk (below_step' HB.out HS.out.size hb); clear HS HB; have HS := n0_; have HB := n1_; clear n0_ n1_; (try simp only [List.eraseIdx_cons_succ, List.eraseIdx_cons_zero] at HS)
  have n2_ := Aside0.mk (HD.out.drawn hb0); clear HD; have HD := n2_; clear n2_ hb0 hb
  refine hK.out _ _ ⟨((HS.out.pick 0 rfl).cell 0).trans rfl, ((HS.out.pick 0 rfl).cell 1).trans rfl, ((HS.out.pick 0 rfl).cell 2).trans rfl, ((HS.out.pick 0 rfl).cell 3).trans rfl, ((HS.out.pick 0 rfl).cell 4).trans rfl, ((HS.out.pick 0 rfl).cell 5).trans rfl, ((HS.out.pick 0 rfl).cell 6).trans rfl, ((HS.out.pick 0 rfl).cell 7).trans rfl, ((HS.out.pick 0 rfl).cell 8).trans rfl, ((HS.out.pick 1 rfl).cell 0).trans rfl, ((HS.out.pick 1 rfl).cell 1).trans rfl, ((HS.out.pick 1 rfl).cell 2).trans rfl, ((HS.out.pick 1 rfl).cell 3).trans rfl, ((HS.out.pick 1 rfl).cell 4).trans rfl, ((HS.out.pick 1 rfl).cell 5).trans rfl, ((HS.out.pick 1 rfl).cell 6).trans rfl, ((HS.out.pick 1 rfl).cell 7).trans rfl, ((HS.out.pick 1 rfl).cell 8).trans rfl⟩ (fun hHeld => ?_)
  clear hK K
  refine norm_ (a' := ?_) ?_ ?_
  rotate_left
  · show Act.put _ (some 9) _ = _
    simp only [Act.put, List.setIfInBounds_toArray, List.set_cons_zero, List.set_cons_succ, i64_w, i32_w]
    rfl
  refine one_ (i := 9) (N := some 14) (tfs true [14, 1, 4, 1, 4, 1, 4, 1, 4, 4]).toArray rfl rfl (one_of HT_.out (by kernel_rfl)) (by decide) (fun K hK => ?_)
  refine goes_ Tryz.func35 (by kernel_rfl) rfl #[.agg #[.string x.f0.f0, .int .i64 x.f0.f1], .agg #[.string y.f0.f0, .int .i64 y.f0.f1]] (by rfl) rfl rfl (by (try simp only [List.map_toArray, List.map_cons, List.map_nil]); first | done | rfl | (simp only [List.length_drop, List.length_take]; rfl)) ?_
  with_reducible refine (keys_grown x.f0 y.f0 _).mono ?_
  rintro e wb ⟨rfl, hg0⟩; have hb := gd_below hg0
  refine ⟨_, rfl, ?_⟩
  have n0_ := Aside0.mk (HS.out.step hb); have n1_ := Aside0.mk (below_step' HB.out HS.out.size hb); clear HS HB; have HS := n0_; have HB := n1_; clear n0_ n1_; (try simp only [List.eraseIdx_cons_succ, List.eraseIdx_cons_zero] at HS)
  have n2_ := Aside0.mk (HD.out.trans hg0); clear HD; have HD := n2_; clear n2_ hb hg0
  refine hK.out _ _ ⟨((HS.out.pick 0 rfl).cell 0).trans rfl, ((HS.out.pick 0 rfl).cell 1).trans rfl, ((HS.out.pick 0 rfl).cell 2).trans rfl, ((HS.out.pick 0 rfl).cell 3).trans rfl, ((HS.out.pick 0 rfl).cell 4).trans rfl, ((HS.out.pick 0 rfl).cell 5).trans rfl, ((HS.out.pick 0 rfl).cell 6).trans rfl, ((HS.out.pick 0 rfl).cell 7).trans rfl, ((HS.out.pick 0 rfl).cell 8).trans rfl, ((HS.out.pick 1 rfl).cell 0).trans rfl, ((HS.out.pick 1 rfl).cell 1).trans rfl, ((HS.out.pick 1 rfl).cell 2).trans rfl, ((HS.out.pick 1 rfl).cell 3).trans rfl, ((HS.out.pick 1 rfl).cell 4).trans rfl, ((HS.out.pick 1 rfl).cell 5).trans rfl, ((HS.out.pick 1 rfl).cell 6).trans rfl, ((HS.out.pick 1 rfl).cell 7).trans rfl, ((HS.out.pick 1 rfl).cell 8).trans rfl⟩ (fun hHeld => ?_)
  clear hK K
  refine norm_ (a' := ?_) ?_ ?_
  rotate_left
  · show Act.put _ (some 14) _ = _
    simp only [Act.put, List.setIfInBounds_toArray, List.set_cons_zero, List.set_cons_succ, i64_w, i32_w]
    rfl
  refine one_ (i := 14) (N := some 19) (tfs true [19, 1, 4, 1, 4, 1, 4, 4]).toArray rfl rfl (one_of HT_.out (by kernel_rfl)) (by decide) (fun K hK => ?_)
  refine goes_ Tryz.func65 (by kernel_rfl) rfl #[.int .i64 x.f2, .int .i64 y.f2] (by rfl) rfl rfl (by (try simp only [List.map_toArray, List.map_cons, List.map_nil]); first | done | rfl | (simp only [List.length_drop, List.length_take]; rfl)) ?_
  with_reducible refine (cmp_Compare_int.calls _ _ _ _ (ci_ok x.f2 y.f2)).mono ?_
  rintro e wc ⟨rfl, hb0⟩; have hb := hb0.below
  refine ⟨_, rfl, ?_⟩
  have n0_ := Aside0.mk (HS.out.step hb); have n1_ := Aside0.mk (below_step' HB.out HS.out.size hb); clear HS HB; have HS := n0_; have HB := n1_; clear n0_ n1_; (try simp only [List.eraseIdx_cons_succ, List.eraseIdx_cons_zero] at HS)
  have n2_ := Aside0.mk (HD.out.drawn hb0); clear HD; have HD := n2_; clear n2_ hb0 hb
  refine hK.out _ _ ⟨((HS.out.pick 0 rfl).cell 0).trans rfl, ((HS.out.pick 0 rfl).cell 1).trans rfl, ((HS.out.pick 0 rfl).cell 2).trans rfl, ((HS.out.pick 0 rfl).cell 3).trans rfl, ((HS.out.pick 0 rfl).cell 4).trans rfl, ((HS.out.pick 0 rfl).cell 5).trans rfl, ((HS.out.pick 0 rfl).cell 6).trans rfl, ((HS.out.pick 0 rfl).cell 7).trans rfl, ((HS.out.pick 0 rfl).cell 8).trans rfl, ((HS.out.pick 1 rfl).cell 0).trans rfl, ((HS.out.pick 1 rfl).cell 1).trans rfl, ((HS.out.pick 1 rfl).cell 2).trans rfl, ((HS.out.pick 1 rfl).cell 3).trans rfl, ((HS.out.pick 1 rfl).cell 4).trans rfl, ((HS.out.pick 1 rfl).cell 5).trans rfl, ((HS.out.pick 1 rfl).cell 6).trans rfl, ((HS.out.pick 1 rfl).cell 7).trans rfl, ((HS.out.pick 1 rfl).cell 8).trans rfl⟩ (fun hHeld => ?_)
  clear hK K
  refine norm_ (a' := ?_) ?_ ?_
  rotate_left
  · show Act.put _ (some 19) _ = _
    simp only [Act.put, List.setIfInBounds_toArray, List.set_cons_zero, List.set_cons_succ, i64_w, i32_w]
    rfl
  refine one_ (i := 19) (N := some 24) (tfs true [24, 1, 4, 1, 4, 4]).toArray rfl rfl (one_of HT_.out (by kernel_rfl)) (by decide) (fun K hK => ?_)
  refine goes_ Tryz.func35 (by kernel_rfl) rfl #[.agg #[.string x.f3.f0, .int .i64 x.f3.f1], .agg #[.string y.f3.f0, .int .i64 y.f3.f1]] (by rfl) rfl rfl (by (try simp only [List.map_toArray, List.map_cons, List.map_nil]); first | done | rfl | (simp only [List.length_drop, List.length_take]; rfl)) ?_
  with_reducible refine (keys_grown x.f3 y.f3 _).mono ?_
  rintro e wd ⟨rfl, hg0⟩; have hb := gd_below hg0
  refine ⟨_, rfl, ?_⟩
  have n0_ := Aside0.mk (HS.out.step hb); have n1_ := Aside0.mk (below_step' HB.out HS.out.size hb); clear HS HB; have HS := n0_; have HB := n1_; clear n0_ n1_; (try simp only [List.eraseIdx_cons_succ, List.eraseIdx_cons_zero] at HS)
  have n2_ := Aside0.mk (HD.out.trans hg0); clear HD; have HD := n2_; clear n2_ hb hg0
  refine hK.out _ _ ⟨((HS.out.pick 0 rfl).cell 0).trans rfl, ((HS.out.pick 0 rfl).cell 1).trans rfl, ((HS.out.pick 0 rfl).cell 2).trans rfl, ((HS.out.pick 0 rfl).cell 3).trans rfl, ((HS.out.pick 0 rfl).cell 4).trans rfl, ((HS.out.pick 0 rfl).cell 5).trans rfl, ((HS.out.pick 0 rfl).cell 6).trans rfl, ((HS.out.pick 0 rfl).cell 7).trans rfl, ((HS.out.pick 0 rfl).cell 8).trans rfl, ((HS.out.pick 1 rfl).cell 0).trans rfl, ((HS.out.pick 1 rfl).cell 1).trans rfl, ((HS.out.pick 1 rfl).cell 2).trans rfl, ((HS.out.pick 1 rfl).cell 3).trans rfl, ((HS.out.pick 1 rfl).cell 4).trans rfl, ((HS.out.pick 1 rfl).cell 5).trans rfl, ((HS.out.pick 1 rfl).cell 6).trans rfl, ((HS.out.pick 1 rfl).cell 7).trans rfl, ((HS.out.pick 1 rfl).cell 8).trans rfl⟩ (fun hHeld => ?_)
  clear hK K
  refine norm_ (a' := ?_) ?_ ?_
  rotate_left
  · show Act.put _ (some 24) _ = _
    simp only [Act.put, List.setIfInBounds_toArray, List.set_cons_zero, List.set_cons_succ, i64_w, i32_w]
    rfl
  refine one_ (i := 24) (N := some 29) (tfs true [29, 1, 4, 4]).toArray rfl rfl (one_of HT_.out (by kernel_rfl)) (by decide) (fun K hK => ?_)
  refine goes_ Tryz.func64 (by kernel_rfl) rfl #[.string x.f4, .string y.f4] (by rfl) rfl rfl (by (try simp only [List.map_toArray, List.map_cons, List.map_nil]); first | done | rfl | (simp only [List.length_drop, List.length_take]; rfl)) ?_
  with_reducible refine (cmp_Compare_string.calls _ _ _ _ (cs_ok x.f4 y.f4)).mono ?_
  rintro e we ⟨rfl, hb0⟩; have hb := hb0.below
  refine ⟨_, rfl, ?_⟩
  have n0_ := Aside0.mk (HS.out.step hb); have n1_ := Aside0.mk (below_step' HB.out HS.out.size hb); clear HS HB; have HS := n0_; have HB := n1_; clear n0_ n1_; (try simp only [List.eraseIdx_cons_succ, List.eraseIdx_cons_zero] at HS)
  have n2_ := Aside0.mk (HD.out.drawn hb0); clear HD; have HD := n2_; clear n2_ hb0 hb
  refine hK.out _ _ ⟨((HS.out.pick 0 rfl).cell 0).trans rfl, ((HS.out.pick 0 rfl).cell 1).trans rfl, ((HS.out.pick 0 rfl).cell 2).trans rfl, ((HS.out.pick 0 rfl).cell 3).trans rfl, ((HS.out.pick 0 rfl).cell 4).trans rfl, ((HS.out.pick 0 rfl).cell 5).trans rfl, ((HS.out.pick 0 rfl).cell 6).trans rfl, ((HS.out.pick 0 rfl).cell 7).trans rfl, ((HS.out.pick 0 rfl).cell 8).trans rfl, ((HS.out.pick 1 rfl).cell 0).trans rfl, ((HS.out.pick 1 rfl).cell 1).trans rfl, ((HS.out.pick 1 rfl).cell 2).trans rfl, ((HS.out.pick 1 rfl).cell 3).trans rfl, ((HS.out.pick 1 rfl).cell 4).trans rfl, ((HS.out.pick 1 rfl).cell 5).trans rfl, ((HS.out.pick 1 rfl).cell 6).trans rfl, ((HS.out.pick 1 rfl).cell 7).trans rfl, ((HS.out.pick 1 rfl).cell 8).trans rfl⟩ (fun hHeld => ?_)
  clear hK K
  refine norm_ (a' := ?_) ?_ ?_
  rotate_left
  · show Act.put _ (some 29) _ = _
    simp only [Act.put, List.setIfInBounds_toArray, List.set_cons_zero, List.set_cons_succ, i64_w, i32_w]
    rfl
  refine one_ (i := 29) (N := some 34) (tfs true [34, 4]).toArray rfl rfl (one_of HT_.out (by kernel_rfl)) (by decide) (fun K hK => ?_)
  refine goes_ Tryz.func65 (by kernel_rfl) rfl #[.int .i64 x.f5, .int .i64 y.f5] (by rfl) rfl rfl (by (try simp only [List.map_toArray, List.map_cons, List.map_nil]); first | done | rfl | (simp only [List.length_drop, List.length_take]; rfl)) ?_
  with_reducible refine (cmp_Compare_int.calls _ _ _ _ (ci_ok x.f5 y.f5)).mono ?_
  rintro e wf ⟨rfl, hb0⟩; have hb := hb0.below
  refine ⟨_, rfl, ?_⟩
  have n0_ := Aside0.mk (HS.out.step hb); have n1_ := Aside0.mk (below_step' HB.out HS.out.size hb); clear HS HB; have HS := n0_; have HB := n1_; clear n0_ n1_; (try simp only [List.eraseIdx_cons_succ, List.eraseIdx_cons_zero] at HS)
  have n2_ := Aside0.mk (HD.out.drawn hb0); clear HD; have HD := n2_; clear n2_ hb0 hb
  refine hK.out _ _ ⟨((HS.out.pick 0 rfl).cell 0).trans rfl, ((HS.out.pick 0 rfl).cell 1).trans rfl, ((HS.out.pick 0 rfl).cell 2).trans rfl, ((HS.out.pick 0 rfl).cell 3).trans rfl, ((HS.out.pick 0 rfl).cell 4).trans rfl, ((HS.out.pick 0 rfl).cell 5).trans rfl, ((HS.out.pick 0 rfl).cell 6).trans rfl, ((HS.out.pick 0 rfl).cell 7).trans rfl, ((HS.out.pick 0 rfl).cell 8).trans rfl, ((HS.out.pick 1 rfl).cell 0).trans rfl, ((HS.out.pick 1 rfl).cell 1).trans rfl, ((HS.out.pick 1 rfl).cell 2).trans rfl, ((HS.out.pick 1 rfl).cell 3).trans rfl, ((HS.out.pick 1 rfl).cell 4).trans rfl, ((HS.out.pick 1 rfl).cell 5).trans rfl, ((HS.out.pick 1 rfl).cell 6).trans rfl, ((HS.out.pick 1 rfl).cell 7).trans rfl, ((HS.out.pick 1 rfl).cell 8).trans rfl⟩ (fun hHeld => ?_)
  clear hK K
  refine norm_ (a' := ?_) ?_ ?_
  rotate_left
  · show Act.put _ (some 34) _ = _
    simp only [Act.put, List.setIfInBounds_toArray, List.set_cons_zero, List.set_cons_succ, i64_w, i32_w]
    rfl
  refine one_ (i := 34) (N := some 39) (tfs true [35, 3]).toArray rfl rfl (one_of HT_.out (by kernel_rfl)) (by decide) (fun K hK => ?_)
  refine goes_ Tryz.func64 (by kernel_rfl) rfl #[.string x.f6, .string y.f6] (by rfl) rfl rfl (by (try simp only [List.map_toArray, List.map_cons, List.map_nil]); first | done | rfl | (simp only [List.length_drop, List.length_take]; rfl)) ?_
  with_reducible refine (cmp_Compare_string.calls _ _ _ _ (cs_ok x.f6 y.f6)).mono ?_
  rintro e wg ⟨rfl, hb0⟩; have hb := hb0.below
  refine ⟨_, rfl, ?_⟩
  have n0_ := Aside0.mk (HS.out.step hb); have n1_ := Aside0.mk (below_step' HB.out HS.out.size hb); clear HS HB; have HS := n0_; have HB := n1_; clear n0_ n1_; (try simp only [List.eraseIdx_cons_succ, List.eraseIdx_cons_zero] at HS)
  have n2_ := Aside0.mk (HD.out.drawn hb0); clear HD; have HD := n2_; clear n2_ hb0 hb
  refine hK.out _ _ ⟨((HS.out.pick 0 rfl).cell 0).trans rfl, ((HS.out.pick 0 rfl).cell 1).trans rfl, ((HS.out.pick 0 rfl).cell 2).trans rfl, ((HS.out.pick 0 rfl).cell 3).trans rfl, ((HS.out.pick 0 rfl).cell 4).trans rfl, ((HS.out.pick 0 rfl).cell 5).trans rfl, ((HS.out.pick 0 rfl).cell 6).trans rfl, ((HS.out.pick 0 rfl).cell 7).trans rfl, ((HS.out.pick 0 rfl).cell 8).trans rfl, ((HS.out.pick 1 rfl).cell 0).trans rfl, ((HS.out.pick 1 rfl).cell 1).trans rfl, ((HS.out.pick 1 rfl).cell 2).trans rfl, ((HS.out.pick 1 rfl).cell 3).trans rfl, ((HS.out.pick 1 rfl).cell 4).trans rfl, ((HS.out.pick 1 rfl).cell 5).trans rfl, ((HS.out.pick 1 rfl).cell 6).trans rfl, ((HS.out.pick 1 rfl).cell 7).trans rfl, ((HS.out.pick 1 rfl).cell 8).trans rfl⟩ (fun hHeld => ?_)
  clear hK K
  refine norm_ (a' := ?_) ?_ ?_
  rotate_left
  · show Act.put _ (some 39) _ = _
    simp only [Act.put, List.setIfInBounds_toArray, List.set_cons_zero, List.set_cons_succ, i64_w, i32_w]
    rfl
  refine one_ (i := 35) (N := some 40) (tfs true [36, 2]).toArray rfl rfl (one_of HT_.out (by kernel_rfl)) (by decide) (fun K hK => ?_)
  refine S_litD_step (Kd.int .i64) 3 (by rfl) (Nt := 40) rfl (xs := [icmp x.f1 y.f1, kcmp x.f0 y.f0, icmp x.f2 y.f2, kcmp x.f3 y.f3, bcmp x.f4 y.f4, icmp x.f5 y.f5, bcmp x.f6 y.f6]) (inner := [.int .i64 (icmp x.f1 y.f1), .int .i64 (kcmp x.f0 y.f0), .int .i64 (icmp x.f2 y.f2), .int .i64 (kcmp x.f3 y.f3), .int .i64 (bcmp x.f4 y.f4), .int .i64 (icmp x.f5 y.f5), .int .i64 (bcmp x.f6 y.f6)]) ?hr ?hp HS.out (by simp) ?_
  (case hr => first | (go_simp; done) | (go_simp; rfl))
  (case hp => exact Reps.one (show Kd.M (Kd.int .i64) _ _ _ _ [.int .i64 _] from rfl) (Reps.one (show Kd.M (Kd.int .i64) _ _ _ _ [.int .i64 _] from rfl) (Reps.one (show Kd.M (Kd.int .i64) _ _ _ _ [.int .i64 _] from rfl) (Reps.one (show Kd.M (Kd.int .i64) _ _ _ _ [.int .i64 _] from rfl) (Reps.one (show Kd.M (Kd.int .i64) _ _ _ _ [.int .i64 _] from rfl) (Reps.one (show Kd.M (Kd.int .i64) _ _ _ _ [.int .i64 _] from rfl) (Reps.one (show Kd.M (Kd.int .i64) _ _ _ _ [.int .i64 _] from rfl) (Reps.none _ _))))))))
  intro vl wl hs hb he
  have n2_ := Aside0.mk (he ▸ HD.out.alloc _ : GD W wl); clear HD; have HD := n2_; clear n2_ he
  have n0_ := Aside0.mk ((hs.pick 2 rfl).pick 2 rfl); have n1_ := Aside0.mk (below_step' HB.out HS.out.size hb); clear HS HB; have HS := n0_; have HB := n1_; clear n0_ n1_; (try simp only [List.eraseIdx_cons_succ, List.eraseIdx_cons_zero] at HS)
  clear hs hb
  obtain ⟨A15, c15, e15⟩ : ∃ (A : Option Addr) (c : Nat), vl = .slice A 7 c := (by obtain ⟨A, c, e, _, _⟩ := (HS.out.pick 2 rfl).reads; exact ⟨A, c, e⟩)
  subst e15
  refine hK.out _ _ ⟨((HS.out.pick 0 rfl).cell 0).trans rfl, ((HS.out.pick 0 rfl).cell 1).trans rfl, ((HS.out.pick 0 rfl).cell 2).trans rfl, ((HS.out.pick 0 rfl).cell 3).trans rfl, ((HS.out.pick 0 rfl).cell 4).trans rfl, ((HS.out.pick 0 rfl).cell 5).trans rfl, ((HS.out.pick 0 rfl).cell 6).trans rfl, ((HS.out.pick 0 rfl).cell 7).trans rfl, ((HS.out.pick 0 rfl).cell 8).trans rfl, ((HS.out.pick 1 rfl).cell 0).trans rfl, ((HS.out.pick 1 rfl).cell 1).trans rfl, ((HS.out.pick 1 rfl).cell 2).trans rfl, ((HS.out.pick 1 rfl).cell 3).trans rfl, ((HS.out.pick 1 rfl).cell 4).trans rfl, ((HS.out.pick 1 rfl).cell 5).trans rfl, ((HS.out.pick 1 rfl).cell 6).trans rfl, ((HS.out.pick 1 rfl).cell 7).trans rfl, ((HS.out.pick 1 rfl).cell 8).trans rfl⟩ (fun hHeld => ?_)
  clear hK K
  refine norm_ (a' := ?_) ?_ ?_
  rotate_left
  · show Act.put _ (some 40) _ = _
    simp only [Act.put, List.setIfInBounds_toArray, List.set_cons_zero, List.set_cons_succ, i64_w, i32_w]
    rfl
  refine one_ (i := 36) (N := some 41) (tfs true [37, 1]).toArray rfl rfl (one_of HT_.out (by kernel_rfl)) (by decide) (fun K hK => ?_)
  refine goes_ Tryz.func63 (by kernel_rfl) rfl #[.slice A15 7 c15] (by rfl) rfl rfl (by (try simp only [List.map_toArray, List.map_cons, List.map_nil]); first | done | rfl | (simp only [List.length_drop, List.length_take]; rfl)) ?_
  with_reducible refine (or_calls [icmp x.f1 y.f1, kcmp x.f0 y.f0, icmp x.f2 y.f2, kcmp x.f3 y.f3, bcmp x.f4 y.f4, icmp x.f5 y.f5, bcmp x.f6 y.f6] (by simp) A15 7 c15 rfl _ (HS.out.pick 2 rfl).rowC.2.2 (HS.out.pick 2 rfl).rowC.2.1 (ecmp x y) (ecmp_is x y)).mono ?_
  rintro e wz ⟨rfl, hb0⟩; have hb := hb0.below
  refine ⟨_, rfl, ?_⟩
  have n0_ := Aside0.mk (HS.out.step hb); have n1_ := Aside0.mk (below_step' HB.out HS.out.size hb); clear HS HB; have HS := n0_; have HB := n1_; clear n0_ n1_; (try simp only [List.eraseIdx_cons_succ, List.eraseIdx_cons_zero] at HS)
  have n2_ := Aside0.mk (HD.out.drawn hb0); clear HD; have HD := n2_; clear n2_ hb0 hb
  refine hK.out _ _ ⟨((HS.out.pick 0 rfl).cell 0).trans rfl, ((HS.out.pick 0 rfl).cell 1).trans rfl, ((HS.out.pick 0 rfl).cell 2).trans rfl, ((HS.out.pick 0 rfl).cell 3).trans rfl, ((HS.out.pick 0 rfl).cell 4).trans rfl, ((HS.out.pick 0 rfl).cell 5).trans rfl, ((HS.out.pick 0 rfl).cell 6).trans rfl, ((HS.out.pick 0 rfl).cell 7).trans rfl, ((HS.out.pick 0 rfl).cell 8).trans rfl, ((HS.out.pick 1 rfl).cell 0).trans rfl, ((HS.out.pick 1 rfl).cell 1).trans rfl, ((HS.out.pick 1 rfl).cell 2).trans rfl, ((HS.out.pick 1 rfl).cell 3).trans rfl, ((HS.out.pick 1 rfl).cell 4).trans rfl, ((HS.out.pick 1 rfl).cell 5).trans rfl, ((HS.out.pick 1 rfl).cell 6).trans rfl, ((HS.out.pick 1 rfl).cell 7).trans rfl, ((HS.out.pick 1 rfl).cell 8).trans rfl⟩ (fun hHeld => ?_)
  clear hK K
  refine norm_ (a' := ?_) ?_ ?_
  rotate_left
  · show Act.put _ (some 41) _ = _
    simp only [Act.put, List.setIfInBounds_toArray, List.set_cons_zero, List.set_cons_succ, i64_w, i32_w]
    rfl
  refine pU 37 4 (tfs true [38]).toArray rfl rfl HT_ ?_
  refine done_ (done_of HT_.out (by kernel_rfl)) ?_
  clear HT_ HW_
  try clear hHeld
  go_wp2
  go_ret
  exact ⟨rfl, HD.out⟩

end Go.Proofs.YtcjfgejiknlpfaaGreat.PI
