/- compare, told as the library's sort wants it: draws, and blocks laid behind the world. -/
import Derived.Test.YtddhpkobingmhaaSk14
import Derived.Test.YtddhpkobingmhaaSep4

namespace Go.Proofs.Ytddhpkobingmhaa.PB
open Go.RowKit Go.Sort Go.Proofs.YtddhpkobingmhaaW.PrintWords Go.Proofs.YtddhpkobingmhaaW.PrintLast Go.Proofs.YtddhpkobingmhaaW.PrintMore Go.Proofs.Ytddhpkobingmhaa.Sep
set_option linter.unusedVariables false
set_option linter.unusedSimpArgs false
set_option maxHeartbeats 8000000
set_option maxRecDepth 100000

def cpg.T1 : Bool × List (List Nat × List Nat) := (true, [([], []), ([0], [0]), ([], []), ([2], [2]), ([1, 3], [1, 3]), ([], []), ([5], [5]), ([], []), ([7], [7]), ([6, 8, 4], [6, 8]), ([4, 9], [4, 9]), ([10, 9], [10]), ([11, 11, 0, 1, 2, 3, 4, 5, 6, 7, 8, 9, 10, 11], [11])])
def cpg.B1 : List Nat := [0, 1, 0, 4, 15, 0, 32, 0, 128, 511, 1023, 2047, 4095]
theorem cpg.tab1 : rtab .any (opsOf Try.f55 1) = cpg.T1 := by kernel_rfl
theorem cpg.bits1 : waitsOk cpg.T1.2 cpg.B1 = true := by kernel_rfl
theorem or2_calls (A : Option Addr) (c : Nat) (a b : Int) (w : World) (h : Kd.C (Kd.int .i64) w A [a, b].length [a, b]) (hc : [a, b].length ≤ c) : Calls Try.prog 76 #[.slice A 2 c] w fun e w' => e = .returned (.int .i64 (if a = 0 then b else a)) ∧ Drawn0 w w' :=
  cmp_Or_int.calls 3 A c [a, b] _ w h hc (or_two 0 a b)
theorem kcmp_is (x y : S52) : (if icmp x.f0 y.f0 = 0 then bcmp x.f1 y.f1 else icmp x.f0 y.f0) = kcmp x y := by
  unfold kcmp
  first | rfl | (split <;> rfl)
theorem or_kcmp (x y : S52) (A : Option Addr) (c : Nat) (w : World) (h : Kd.C (Kd.int .i64) w A [icmp x.f0 y.f0, bcmp x.f1 y.f1].length [icmp x.f0 y.f0, bcmp x.f1 y.f1]) (hc : [icmp x.f0 y.f0, bcmp x.f1 y.f1].length ≤ c) : Calls Try.prog 76 #[.slice A 2 c] w fun e w' => e = .returned (.int .i64 (kcmp x y)) ∧ Drawn0 w w' := by
  rw [← kcmp_is]
  exact or2_calls A c _ _ w h hc
theorem heap_new (w : World) (o : Obj) : (w.alloc o).heap[w.heap.size]? = some o := Array.getElem?_push_size
theorem size_new (w : World) (o : Obj) : (w.alloc o).heap.size = w.heap.size + 1 := Array.size_push _
theorem two_boxes (W : World) (cs ds : Array Value) (t u : TypeId) : St W.heap.size ((W.alloc (.cells cs t)).alloc (.cells ds u)) (Blk (W.heap.size + 1) ds u :: Blk W.heap.size cs t :: []) ∧ Below W.heap.size W ((W.alloc (.cells cs t)).alloc (.cells ds u)) ∧ GD W ((W.alloc (.cells cs t)).alloc (.cells ds u)) := by
  have h1 := (St.none_ (N := W.heap.size) (w := W) (Nat.le_refl _)).box (g := W.heap.size) (cs := cs) (t := t) (w1 := W.alloc (.cells cs t)) rfl (heap_new W _) ((Below.refl _ _).alloc (Nat.le_refl _) _)
  have b1 : Below W.heap.size W (W.alloc (.cells cs t)) := (Below.refl _ _).alloc (Nat.le_refl _) _
  have b2 : Below (W.alloc (.cells cs t)).heap.size (W.alloc (.cells cs t)) ((W.alloc (.cells cs t)).alloc (.cells ds u)) := (Below.refl _ _).alloc (Nat.le_refl _) _
  refine ⟨h1.box (size_new W _).symm ?_ b2, below_step' b1 h1.size b2, ((GD.refl W).alloc _).alloc _⟩
  rw [← size_new W (.cells cs t)]
  exact heap_new _ _
theorem compare_grown (x y : S52) (W : World) : Calls Try.prog 55 #[.agg #[.int .i64 x.f0, .string x.f1], .agg #[.int .i64 y.f0, .string y.f1]] W fun e w' => e = .returned (.int .i64 (kcmp x y)) ∧ ∃ q os', w' = grow (W.drewN q) os' := by
  go_enter Try.func55, Try.ntmps55
  go_upto_region 1 with (fail)
  obtain ⟨HS, HB, HD⟩ := two_boxes W #[.int .i64 x.f0, .string x.f1] #[.int .i64 y.f0, .string y.f1] 52 52
  replace HS := Aside0.mk HS
  replace HB := Aside0.mk HB
  replace HD := Aside0.mk HD
  generalize (W.alloc (.cells #[.int .i64 x.f0, .string x.f1] 52)).alloc (.cells #[.int .i64 y.f0, .string y.f1] 52) = w at HS HB HD ⊢
  obtain ⟨g1, hg1⟩ : ∃ g, g = W.heap.size := ⟨_, rfl⟩
  obtain ⟨g2, hg2⟩ : ∃ g, g = W.heap.size + 1 := ⟨_, rfl⟩
  rw [← hg2] at HS ⊢
  have HS' : Aside0 (St W.heap.size w (Blk g2 #[.int .i64 y.f0, .string y.f1] 52 :: Blk g1 #[.int .i64 x.f0, .string x.f1] 52 :: [])) := ⟨by rw [hg1]; exact HS.out⟩
  rw [← hg1] at ⊢
  clear HS
  have HS := HS'
  clear HS' hg1 hg2
  have n2_ := Aside0.mk (HD.out.drew); clear HD; have HD := n2_; clear n2_
  have n0_ := Aside0.mk (HS.out.drew); have n1_ := Aside0.mk (HB.out.drew); clear HS HB; have HS := n0_; have HB := n1_; clear n0_ n1_
  refine start_ (n := 13) (S := fun w' => w'.cell? ⟨g2, 0, none⟩ = some (.int .i64 y.f0) ∧ w'.cell? ⟨g2, 1, none⟩ = some (.string y.f1) ∧ w'.cell? ⟨g1, 0, none⟩ = some (.int .i64 x.f0) ∧ w'.cell? ⟨g1, 1, none⟩ = some (.string x.f1)) (ds := []) (tfs true [0, 13]).toArray (by kernel_rfl) rfl rfl ⟨((HS.out.pick 0 rfl).cell 0).trans rfl, ((HS.out.pick 0 rfl).cell 1).trans rfl, ((HS.out.pick 1 rfl).cell 0).trans rfl, ((HS.out.pick 1 rfl).cell 1).trans rfl⟩ (fun hHeld => ?_); refine with_tabW cpg.tab1 cpg.bits1 (fun HT_ HW_ => ?_)
  generalize w.drew = w1 at HS HB HD hHeld ⊢
  refine pure_ (i := 0) (N := some 5) (v := ?_) (a' := ?_) (tfs true [1, 12]).toArray rfl rfl (any_of HT_.out (by kernel_rfl)) (fun _ _ _ h => h) (Or.inl ⟨by rfl, ?_⟩) ?_ ?_
  rotate_left
  · intro w'
    go_simp
    with_reducible rfl
  rotate_left
  · simp only [Act.put, List.setIfInBounds_toArray, List.set_cons_zero, List.set_cons_succ, i64_w, i32_w]
    rfl
  refine pure_ (i := 2) (N := some 7) (v := ?_) (a' := ?_) (tfs true [1, 1, 1, 10]).toArray rfl rfl (any_of HT_.out (by kernel_rfl)) (fun _ _ _ h => h) (Or.inl ⟨by rfl, ?_⟩) ?_ ?_
  rotate_left
  · intro w'
    go_simp
    with_reducible rfl
  rotate_left
  · simp only [Act.put, List.setIfInBounds_toArray, List.set_cons_zero, List.set_cons_succ, i64_w, i32_w]
    rfl
  refine pure_ (i := 5) (N := some 10) (v := ?_) (a' := ?_) (tfs true [1, 1, 1, 2, 1, 7]).toArray rfl rfl (any_of HT_.out (by kernel_rfl)) (fun _ _ _ h => h) (Or.inl ⟨by rfl, ?_⟩) ?_ ?_
  rotate_left
  · intro w'
    go_simp
    with_reducible rfl
  rotate_left
  · simp only [Act.put, List.setIfInBounds_toArray, List.set_cons_zero, List.set_cons_succ, i64_w, i32_w]
    rfl
  refine pure_ (i := 7) (N := some 12) (v := ?_) (a' := ?_) (tfs true [1, 1, 1, 2, 1, 1, 1, 5]).toArray rfl rfl (any_of HT_.out (by kernel_rfl)) (fun _ _ _ h => h) (Or.inl ⟨by rfl, ?_⟩) ?_ ?_
  rotate_left
  · intro w'
    go_simp
    with_reducible rfl
  rotate_left
  · simp only [Act.put, List.setIfInBounds_toArray, List.set_cons_zero, List.set_cons_succ, i64_w, i32_w]
    rfl
  refine take_ (i := 1) (N := some 6) (v := ?_) (a' := ?_) (tfs true [3, 2, 1, 1, 1, 5]).toArray rfl rfl (take_ofW HT_.out HW_.out (by kernel_rfl)) (fun _ _ _ h => h) (Or.inl ⟨by rfl, ?_⟩) hHeld ?_ ?_
  rotate_left
  · rintro w' ⟨s0, s1, s2, s3⟩
    go_simp
    with_reducible rfl
  rotate_left
  · simp only [Act.put, List.setIfInBounds_toArray, List.set_cons_zero, List.set_cons_succ, i64_w, i32_w]
    rfl
  refine take_ (i := 3) (N := some 8) (v := ?_) (a' := ?_) (tfs true [4, 1, 1, 1, 1, 5]).toArray rfl rfl (take_ofW HT_.out HW_.out (by kernel_rfl)) (fun _ _ _ h => h) (Or.inl ⟨by rfl, ?_⟩) hHeld ?_ ?_
  rotate_left
  · rintro w' ⟨s0, s1, s2, s3⟩
    go_simp
    with_reducible rfl
  rotate_left
  · simp only [Act.put, List.setIfInBounds_toArray, List.set_cons_zero, List.set_cons_succ, i64_w, i32_w]
    rfl
  refine take_ (i := 6) (N := some 11) (v := ?_) (a' := ?_) (tfs true [4, 1, 3, 5]).toArray rfl rfl (take_ofW HT_.out HW_.out (by kernel_rfl)) (fun _ _ _ h => h) (Or.inl ⟨by rfl, ?_⟩) hHeld ?_ ?_
  rotate_left
  · rintro w' ⟨s0, s1, s2, s3⟩
    go_simp
    with_reducible rfl
  rotate_left
  · simp only [Act.put, List.setIfInBounds_toArray, List.set_cons_zero, List.set_cons_succ, i64_w, i32_w]
    rfl
  refine take_ (i := 8) (N := some 13) (v := ?_) (a' := ?_) (tfs true [4, 1, 4, 4]).toArray rfl rfl (take_ofW HT_.out HW_.out (by kernel_rfl)) (fun _ _ _ h => h) (Or.inl ⟨by rfl, ?_⟩) hHeld ?_ ?_
  rotate_left
  · rintro w' ⟨s0, s1, s2, s3⟩
    go_simp
    with_reducible rfl
  rotate_left
  · simp only [Act.put, List.setIfInBounds_toArray, List.set_cons_zero, List.set_cons_succ, i64_w, i32_w]
    rfl
  refine one_ (i := 4) (N := some 9) (tfs true [9, 4]).toArray rfl rfl (one_of HT_.out (by kernel_rfl)) (by decide) (fun K hK => ?_)
  refine goes_ Try.func77 (by kernel_rfl) rfl #[.int .i64 x.f0, .int .i64 y.f0] (by rfl) rfl rfl (by (try simp only [List.map_toArray, List.map_cons, List.map_nil]); first | done | rfl | (simp only [List.length_drop, List.length_take]; rfl)) ?_
  with_reducible refine (cmp_Compare_int.calls _ _ _ _ (ci_ok x.f0 y.f0)).mono ?_
  rintro e w2 ⟨rfl, hb0⟩; have hb := hb0.below
  refine ⟨_, rfl, ?_⟩
  have n0_ := Aside0.mk (HS.out.step hb); have n1_ := Aside0.mk (below_step' HB.out HS.out.size hb); clear HS HB; have HS := n0_; have HB := n1_; clear n0_ n1_; (try simp only [List.eraseIdx_cons_succ, List.eraseIdx_cons_zero] at HS)
  have n2_ := Aside0.mk (HD.out.drawn hb0); clear HD; have HD := n2_; clear n2_ hb0 hb
  refine hK.out _ _ ⟨((HS.out.pick 0 rfl).cell 0).trans rfl, ((HS.out.pick 0 rfl).cell 1).trans rfl, ((HS.out.pick 1 rfl).cell 0).trans rfl, ((HS.out.pick 1 rfl).cell 1).trans rfl⟩ (fun hHeld => ?_)
  clear hK K
  refine norm_ (a' := ?_) ?_ ?_
  rotate_left
  · show Act.put _ (some 9) _ = _
    simp only [Act.put, List.setIfInBounds_toArray, List.set_cons_zero, List.set_cons_succ, i64_w, i32_w]
    rfl
  refine one_ (i := 9) (N := some 14) (tfs true [10, 3]).toArray rfl rfl (one_of HT_.out (by kernel_rfl)) (by decide) (fun K hK => ?_)
  refine goes_ Try.func78 (by kernel_rfl) rfl #[.string x.f1, .string y.f1] (by rfl) rfl rfl (by (try simp only [List.map_toArray, List.map_cons, List.map_nil]); first | done | rfl | (simp only [List.length_drop, List.length_take]; rfl)) ?_
  with_reducible refine (cmp_Compare_string.calls _ _ _ _ (cs_ok x.f1 y.f1)).mono ?_
  rintro e w3 ⟨rfl, hb0⟩; have hb := hb0.below
  refine ⟨_, rfl, ?_⟩
  have n0_ := Aside0.mk (HS.out.step hb); have n1_ := Aside0.mk (below_step' HB.out HS.out.size hb); clear HS HB; have HS := n0_; have HB := n1_; clear n0_ n1_; (try simp only [List.eraseIdx_cons_succ, List.eraseIdx_cons_zero] at HS)
  have n2_ := Aside0.mk (HD.out.drawn hb0); clear HD; have HD := n2_; clear n2_ hb0 hb
  refine hK.out _ _ ⟨((HS.out.pick 0 rfl).cell 0).trans rfl, ((HS.out.pick 0 rfl).cell 1).trans rfl, ((HS.out.pick 1 rfl).cell 0).trans rfl, ((HS.out.pick 1 rfl).cell 1).trans rfl⟩ (fun hHeld => ?_)
  clear hK K
  refine norm_ (a' := ?_) ?_ ?_
  rotate_left
  · show Act.put _ (some 14) _ = _
    simp only [Act.put, List.setIfInBounds_toArray, List.set_cons_zero, List.set_cons_succ, i64_w, i32_w]
    rfl
  refine one_ (i := 10) (N := some 15) (tfs true [11, 2]).toArray rfl rfl (one_of HT_.out (by kernel_rfl)) (by decide) (fun K hK => ?_)
  refine S_litD_step (Kd.int .i64) 3 (by rfl) (Nt := 15) rfl (xs := [icmp x.f0 y.f0, bcmp x.f1 y.f1]) (inner := [.int .i64 (icmp x.f0 y.f0), .int .i64 (bcmp x.f1 y.f1)]) ?hr ?hp HS.out (by simp) ?_
  (case hr => first | (go_simp; done) | (go_simp; rfl))
  (case hp => exact Reps.one (show Kd.M (Kd.int .i64) _ _ _ _ [.int .i64 _] from rfl) (Reps.one (show Kd.M (Kd.int .i64) _ _ _ _ [.int .i64 _] from rfl) (Reps.none _ _)))
  intro v15 w4 hs hb he
  have n2_ := Aside0.mk (he ▸ HD.out.alloc _ : GD W w4); clear HD; have HD := n2_; clear n2_ he
  have n0_ := Aside0.mk ((hs.pick 2 rfl).pick 2 rfl); have n1_ := Aside0.mk (below_step' HB.out HS.out.size hb); clear HS HB; have HS := n0_; have HB := n1_; clear n0_ n1_; (try simp only [List.eraseIdx_cons_succ, List.eraseIdx_cons_zero] at HS)
  clear hs hb
  obtain ⟨A15, c15, e15⟩ : ∃ (A : Option Addr) (c : Nat), v15 = .slice A 2 c := (by obtain ⟨A, c, e, _, _⟩ := (HS.out.pick 2 rfl).reads; exact ⟨A, c, e⟩)
  subst e15
  refine hK.out _ _ ⟨((HS.out.pick 0 rfl).cell 0).trans rfl, ((HS.out.pick 0 rfl).cell 1).trans rfl, ((HS.out.pick 1 rfl).cell 0).trans rfl, ((HS.out.pick 1 rfl).cell 1).trans rfl⟩ (fun hHeld => ?_)
  clear hK K
  refine norm_ (a' := ?_) ?_ ?_
  rotate_left
  · show Act.put _ (some 15) _ = _
    simp only [Act.put, List.setIfInBounds_toArray, List.set_cons_zero, List.set_cons_succ, i64_w, i32_w]
    rfl
  refine one_ (i := 11) (N := some 16) (tfs true [12, 1]).toArray rfl rfl (one_of HT_.out (by kernel_rfl)) (by decide) (fun K hK => ?_)
  refine goes_ Try.func76 (by kernel_rfl) rfl #[.slice A15 2 c15] (by rfl) rfl rfl (by (try simp only [List.map_toArray, List.map_cons, List.map_nil]); first | done | rfl | (simp only [List.length_drop, List.length_take]; rfl)) ?_
  with_reducible refine (or_kcmp x y A15 c15 _ (HS.out.pick 2 rfl).rowC.2.2 (HS.out.pick 2 rfl).rowC.2.1).mono ?_
  rintro e w5 ⟨rfl, hb0⟩; have hb := hb0.below
  refine ⟨_, rfl, ?_⟩
  have n0_ := Aside0.mk (HS.out.step hb); have n1_ := Aside0.mk (below_step' HB.out HS.out.size hb); clear HS HB; have HS := n0_; have HB := n1_; clear n0_ n1_; (try simp only [List.eraseIdx_cons_succ, List.eraseIdx_cons_zero] at HS)
  have n2_ := Aside0.mk (HD.out.drawn hb0); clear HD; have HD := n2_; clear n2_ hb0 hb
  refine hK.out _ _ ⟨((HS.out.pick 0 rfl).cell 0).trans rfl, ((HS.out.pick 0 rfl).cell 1).trans rfl, ((HS.out.pick 1 rfl).cell 0).trans rfl, ((HS.out.pick 1 rfl).cell 1).trans rfl⟩ (fun hHeld => ?_)
  clear hK K
  refine norm_ (a' := ?_) ?_ ?_
  rotate_left
  · show Act.put _ (some 16) _ = _
    simp only [Act.put, List.setIfInBounds_toArray, List.set_cons_zero, List.set_cons_succ, i64_w, i32_w]
    rfl
  refine pure_ (i := 12) (N := some 4) (v := ?_) (a' := ?_) (tfs true [13]).toArray rfl rfl (any_of HT_.out (by kernel_rfl)) (fun _ _ _ h => h) (Or.inl ⟨by rfl, ?_⟩) ?_ ?_
  rotate_left
  · intro w'
    go_simp
    with_reducible rfl
  rotate_left
  · simp only [Act.put, List.setIfInBounds_toArray, List.set_cons_zero, List.set_cons_succ, i64_w, i32_w]
    rfl
  refine done_ (done_of HT_.out (by kernel_rfl)) ?_
  clear HT_ HW_
  try clear hHeld
  go_wp2
  go_ret
  exact ⟨rfl, HD.out.out⟩

end Go.Proofs.Ytddhpkobingmhaa.PB
