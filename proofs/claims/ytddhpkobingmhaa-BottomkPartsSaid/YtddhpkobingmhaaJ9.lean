/- Texts of this claim, taken together: Sk19, SortP, RowP, ClearP, Mrg, SortLay, SortOk, Sk20, Sk21, Sk22, Sk23. -/
import Derived.Test.YtddhpkobingmhaaJ6
import Derived.Test.YtddhpkobingmhaaJ3
import Derived.Shelf.GgSortFunc.InsertionK
import Derived.Laws.IdiomCopy
import Derived.Shelf.SlSortCmp.Insertion
import Derived.Shelf.SlSortCmp.WholeK
import Derived.Test.YtddhpkobingmhaaProg
import Derived.Shelf.SlSortCmp.NoneTotal
/-! # Sk19 -/
section
namespace Go.Proofs.Ytddhpkobingmhaa.PB
open Go.RowKit Go.Sort Go.Proofs.YtddhpkobingmhaaW.PrintWords Go.Proofs.YtddhpkobingmhaaW.PrintLast Go.Proofs.YtddhpkobingmhaaW.PrintMore Go.Proofs.Ytddhpkobingmhaa.Sep
set_option linter.unusedVariables false
set_option linter.unusedSimpArgs false
set_option maxHeartbeats 8000000
set_option maxRecDepth 100000

def cpg.T1 : Bool × List (List Nat × List Nat) := (true, [([], []), ([0], [0]), ([], []), ([2], [2]), ([1, 3], [1, 3]), ([], []), ([5], [5]), ([], []), ([7], [7]), ([6, 8, 4], [6, 8]), ([4, 9], [4, 9]), ([10, 9], [10]), ([11, 11, 0, 1, 2, 3, 4, 5, 6, 7, 8, 9, 10, 11], [11])])
def cpg.B1 : List Nat := [0, 1, 0, 4, 15, 0, 32, 0, 128, 511, 1023, 2047, 4095]
theorem cpg.tab1 : rtab .any (opsOf Try.f55 1) = cpg.T1 := by kernel_rfl
theorem cpg.bits1 : waitsOk cpg.T1.2 cpg.B1 = true := by kernel_rfl
theorem or2_calls (A : Option Addr) (c : Nat) (a b : Int) (w : World) (h : Kd.C (Kd.int .i64) w A [a, b].length [a, b]) (hc : [a, b].length ≤ c) : Calls Try.prog 76 #[.slice A 2 c] w fun e w' => e = .returned (.int .i64 (if a = 0 then b else a)) ∧ Drawn0 w w' :=
  cmp_Or_int.calls 3 A c [a, b] _ w h hc (or_two 0 a b)
theorem kcmp_is (x y : S52) : (if icmp x.f0 y.f0 = 0 then bcmp x.f1 y.f1 else icmp x.f0 y.f0) = kcmp x y := by
  unfold kcmp
  first | rfl | (split <;> rfl)
theorem or_kcmp (x y : S52) (A : Option Addr) (c : Nat) (w : World) (h : Kd.C (Kd.int .i64) w A [icmp x.f0 y.f0, bcmp x.f1 y.f1].length [icmp x.f0 y.f0, bcmp x.f1 y.f1]) (hc : [icmp x.f0 y.f0, bcmp x.f1 y.f1].length ≤ c) : Calls Try.prog 76 #[.slice A 2 c] w fun e w' => e = .returned (.int .i64 (kcmp x y)) ∧ Drawn0 w w' := by
  rw [← kcmp_is]
  exact or2_calls A c _ _ w h hc
theorem heap_new (w : World) (o : Obj) : (w.alloc o).heap[w.heap.size]? = some o := Array.getElem?_push_size
theorem size_new (w : World) (o : Obj) : (w.alloc o).heap.size = w.heap.size + 1 := Array.size_push _
theorem two_boxes (W : World) (cs ds : Array Value) (t u : TypeId) : St W.heap.size ((W.alloc (.cells cs t)).alloc (.cells ds u)) (Blk (W.heap.size + 1) ds u :: Blk W.heap.size cs t :: []) ∧ Below W.heap.size W ((W.alloc (.cells cs t)).alloc (.cells ds u)) ∧ GD W ((W.alloc (.cells cs t)).alloc (.cells ds u)) := by
  have h1 := (St.none_ (N := W.heap.size) (w := W) (Nat.le_refl _)).box (g := W.heap.size) (cs := cs) (t := t) (w1 := W.alloc (.cells cs t)) rfl (heap_new W _) ((Below.refl _ _).alloc (Nat.le_refl _) _)
  have b1 : Below W.heap.size W (W.alloc (.cells cs t)) := (Below.refl _ _).alloc (Nat.le_refl _) _
  have b2 : Below (W.alloc (.cells cs t)).heap.size (W.alloc (.cells cs t)) ((W.alloc (.cells cs t)).alloc (.cells ds u)) := (Below.refl _ _).alloc (Nat.le_refl _) _
  refine ⟨h1.box (size_new W _).symm ?_ b2, below_step' b1 h1.size b2, ((GD.refl W).alloc _).alloc _⟩
  rw [← size_new W (.cells cs t)]
  exact heap_new _ _
theorem compare_grown (x y : S52) (W : World) : Calls Try.prog 55 #[.agg #[.int .i64 x.f0, .string x.f1], .agg #[.int .i64 y.f0, .string y.f1]] W fun e w' => e = .returned (.int .i64 (kcmp x y)) ∧ ∃ q os', w' = grow (W.drewN q) os' := by
  go_enter Try.func55, Try.ntmps55
  go_upto_region 1 with (fail)
  obtain ⟨HS, HB, HD⟩ := two_boxes W #[.int .i64 x.f0, .string x.f1] #[.int .i64 y.f0, .string y.f1] 52 52
  replace HS := Aside0.mk HS
  replace HB := Aside0.mk HB
  replace HD := Aside0.mk HD
  generalize (W.alloc (.cells #[.int .i64 x.f0, .string x.f1] 52)).alloc (.cells #[.int .i64 y.f0, .string y.f1] 52) = w at HS HB HD ⊢
  obtain ⟨g1, hg1⟩ : ∃ g, g = W.heap.size := ⟨_, rfl⟩
  obtain ⟨g2, hg2⟩ : ∃ g, g = W.heap.size + 1 := ⟨_, rfl⟩
  rw [← hg2] at HS ⊢
  have HS' : Aside0 (St W.heap.size w (Blk g2 #[.int .i64 y.f0, .string y.f1] 52 :: Blk g1 #[.int .i64 x.f0, .string x.f1] 52 :: [])) := ⟨by rw [hg1]; exact HS.out⟩
  rw [← hg1] at ⊢
  clear HS
  have HS := HS'
  clear HS' hg1 hg2
  have n2_ := Aside0.mk (HD.out.drew); clear HD; have HD := n2_; clear n2_
  have n0_ := Aside0.mk (HS.out.drew); have n1_ := Aside0.mk (HB.out.drew); clear HS HB; have HS := n0_; have HB := n1_; clear n0_ n1_
  refine start_ (n := 13) (S := fun w' => w'.cell? ⟨g2, 0, none⟩ = some (.int .i64 y.f0) ∧ w'.cell? ⟨g2, 1, none⟩ = some (.string y.f1) ∧ w'.cell? ⟨g1, 0, none⟩ = some (.int .i64 x.f0) ∧ w'.cell? ⟨g1, 1, none⟩ = some (.string x.f1)) (ds := []) (tfs true [0, 13]).toArray (by kernel_rfl) rfl rfl ⟨((HS.out.pick 0 rfl).cell 0).trans rfl, ((HS.out.pick 0 rfl).cell 1).trans rfl, ((HS.out.pick 1 rfl).cell 0).trans rfl, ((HS.out.pick 1 rfl).cell 1).trans rfl⟩ (fun hHeld => ?_); refine with_tabW cpg.tab1 cpg.bits1 (fun HT_ HW_ => ?_)
  generalize w.drew = w1 at HS HB HD hHeld ⊢
  refine pU 0 5 (tfs true [1, 12]).toArray rfl rfl HT_ ?_
  refine pU 2 7 (tfs true [1, 1, 1, 10]).toArray rfl rfl HT_ ?_
  refine pU 5 10 (tfs true [1, 1, 1, 2, 1, 7]).toArray rfl rfl HT_ ?_
  refine pU 7 12 (tfs true [1, 1, 1, 2, 1, 1, 1, 5]).toArray rfl rfl HT_ ?_
  refine tK 1 6 (tfs true [3, 2, 1, 1, 1, 5]).toArray rfl rfl HT_ HW_ hHeld ?_ (by rintro w' ⟨s0, s1, s2, s3⟩; go_simp; with_reducible rfl)
  refine tK 3 8 (tfs true [4, 1, 1, 1, 1, 5]).toArray rfl rfl HT_ HW_ hHeld ?_ (by rintro w' ⟨s0, s1, s2, s3⟩; go_simp; with_reducible rfl)
  refine tK 6 11 (tfs true [4, 1, 3, 5]).toArray rfl rfl HT_ HW_ hHeld ?_ (by rintro w' ⟨s0, s1, s2, s3⟩; go_simp; with_reducible rfl)
  refine tK 8 13 (tfs true [4, 1, 4, 4]).toArray rfl rfl HT_ HW_ hHeld ?_ (by rintro w' ⟨s0, s1, s2, s3⟩; go_simp; with_reducible rfl)
  refine one_ (i := 4) (N := some 9) (tfs true [9, 4]).toArray rfl rfl (one_of HT_.out (by kernel_rfl)) (by decide) (fun K hK => ?_)
  refine goes_ Try.func77 (by kernel_rfl) rfl #[.int .i64 x.f0, .int .i64 y.f0] (by rfl) rfl rfl (by (try simp only [List.map_toArray, List.map_cons, List.map_nil]); first | done | rfl | (simp only [List.length_drop, List.length_take]; rfl)) ?_
  with_reducible refine (cmp_Compare_int.calls _ _ _ _ (ci_ok x.f0 y.f0)).mono ?_
  rintro e w2 ⟨rfl, hb0⟩; have hb := hb0.below
  refine ⟨_, rfl, ?_⟩
  have n0_ := Aside0.mk (HS.out.step hb); have n1_ := Aside0.mk (below_step' HB.out HS.out.size hb); clear HS HB; have HS := n0_; have HB := n1_; clear n0_ n1_; (try simp only [List.eraseIdx_cons_succ, List.eraseIdx_cons_zero] at HS)
  have n2_ := Aside0.mk (HD.out.drawn hb0); clear HD; have HD := n2_; clear n2_ hb0 hb
  refine hK.out _ _ ⟨((HS.out.pick 0 rfl).cell 0).trans rfl, ((HS.out.pick 0 rfl).cell 1).trans rfl, ((HS.out.pick 1 rfl).cell 0).trans rfl, ((HS.out.pick 1 rfl).cell 1).trans rfl⟩ (fun hHeld => ?_)
  clear hK K
  refine norm_ (a' := ?_) ?_ ?_
  rotate_left
  · show Act.put _ (some 9) _ = _
    simp only [Act.put, List.setIfInBounds_toArray, List.set_cons_zero, List.set_cons_succ, i64_w, i32_w]
    rfl
  refine one_ (i := 9) (N := some 14) (tfs true [10, 3]).toArray rfl rfl (one_of HT_.out (by kernel_rfl)) (by decide) (fun K hK => ?_)
  refine goes_ Try.func78 (by kernel_rfl) rfl #[.string x.f1, .string y.f1] (by rfl) rfl rfl (by (try simp only [List.map_toArray, List.map_cons, List.map_nil]); first | done | rfl | (simp only [List.length_drop, List.length_take]; rfl)) ?_
  with_reducible refine (cmp_Compare_string.calls _ _ _ _ (cs_ok x.f1 y.f1)).mono ?_
  rintro e w3 ⟨rfl, hb0⟩; have hb := hb0.below
  refine ⟨_, rfl, ?_⟩
  have n0_ := Aside0.mk (HS.out.step hb); have n1_ := Aside0.mk (below_step' HB.out HS.out.size hb); clear HS HB; have HS := n0_; have HB := n1_; clear n0_ n1_; (try simp only [List.eraseIdx_cons_succ, List.eraseIdx_cons_zero] at HS)
  have n2_ := Aside0.mk (HD.out.drawn hb0); clear HD; have HD := n2_; clear n2_ hb0 hb
  refine hK.out _ _ ⟨((HS.out.pick 0 rfl).cell 0).trans rfl, ((HS.out.pick 0 rfl).cell 1).trans rfl, ((HS.out.pick 1 rfl).cell 0).trans rfl, ((HS.out.pick 1 rfl).cell 1).trans rfl⟩ (fun hHeld => ?_)
  clear hK K
  refine norm_ (a' := ?_) ?_ ?_
  rotate_left
  · show Act.put _ (some 14) _ = _
    simp only [Act.put, List.setIfInBounds_toArray, List.set_cons_zero, List.set_cons_succ, i64_w, i32_w]
    rfl
  refine one_ (i := 10) (N := some 15) (tfs true [11, 2]).toArray rfl rfl (one_of HT_.out (by kernel_rfl)) (by decide) (fun K hK => ?_)
  refine S_litD_step (Kd.int .i64) 3 (by rfl) (Nt := 15) rfl (xs := [icmp x.f0 y.f0, bcmp x.f1 y.f1]) (inner := [.int .i64 (icmp x.f0 y.f0), .int .i64 (bcmp x.f1 y.f1)]) ?hr ?hp HS.out (by simp) ?_
  (case hr => first | (go_simp; done) | (go_simp; rfl))
  (case hp => exact Reps.one (show Kd.M (Kd.int .i64) _ _ _ _ [.int .i64 _] from rfl) (Reps.one (show Kd.M (Kd.int .i64) _ _ _ _ [.int .i64 _] from rfl) (Reps.none _ _)))
  intro v15 w4 hs hb he
  have n2_ := Aside0.mk (he ▸ HD.out.alloc _ : GD W w4); clear HD; have HD := n2_; clear n2_ he
  have n0_ := Aside0.mk ((hs.pick 2 rfl).pick 2 rfl); have n1_ := Aside0.mk (below_step' HB.out HS.out.size hb); clear HS HB; have HS := n0_; have HB := n1_; clear n0_ n1_; (try simp only [List.eraseIdx_cons_succ, List.eraseIdx_cons_zero] at HS)
  clear hs hb
  obtain ⟨A15, c15, e15⟩ : ∃ (A : Option Addr) (c : Nat), v15 = .slice A 2 c := (by obtain ⟨A, c, e, _, _⟩ := (HS.out.pick 2 rfl).reads; exact ⟨A, c, e⟩)
  subst e15
  refine hK.out _ _ ⟨((HS.out.pick 0 rfl).cell 0).trans rfl, ((HS.out.pick 0 rfl).cell 1).trans rfl, ((HS.out.pick 1 rfl).cell 0).trans rfl, ((HS.out.pick 1 rfl).cell 1).trans rfl⟩ (fun hHeld => ?_)
  clear hK K
  refine norm_ (a' := ?_) ?_ ?_
  rotate_left
  · show Act.put _ (some 15) _ = _
    simp only [Act.put, List.setIfInBounds_toArray, List.set_cons_zero, List.set_cons_succ, i64_w, i32_w]
    rfl
  refine one_ (i := 11) (N := some 16) (tfs true [12, 1]).toArray rfl rfl (one_of HT_.out (by kernel_rfl)) (by decide) (fun K hK => ?_)
  refine goes_ Try.func76 (by kernel_rfl) rfl #[.slice A15 2 c15] (by rfl) rfl rfl (by (try simp only [List.map_toArray, List.map_cons, List.map_nil]); first | done | rfl | (simp only [List.length_drop, List.length_take]; rfl)) ?_
  with_reducible refine (or_kcmp x y A15 c15 _ (HS.out.pick 2 rfl).rowC.2.2 (HS.out.pick 2 rfl).rowC.2.1).mono ?_
  rintro e w5 ⟨rfl, hb0⟩; have hb := hb0.below
  refine ⟨_, rfl, ?_⟩
  have n0_ := Aside0.mk (HS.out.step hb); have n1_ := Aside0.mk (below_step' HB.out HS.out.size hb); clear HS HB; have HS := n0_; have HB := n1_; clear n0_ n1_; (try simp only [List.eraseIdx_cons_succ, List.eraseIdx_cons_zero] at HS)
  have n2_ := Aside0.mk (HD.out.drawn hb0); clear HD; have HD := n2_; clear n2_ hb0 hb
  refine hK.out _ _ ⟨((HS.out.pick 0 rfl).cell 0).trans rfl, ((HS.out.pick 0 rfl).cell 1).trans rfl, ((HS.out.pick 1 rfl).cell 0).trans rfl, ((HS.out.pick 1 rfl).cell 1).trans rfl⟩ (fun hHeld => ?_)
  clear hK K
  refine norm_ (a' := ?_) ?_ ?_
  rotate_left
  · show Act.put _ (some 16) _ = _
    simp only [Act.put, List.setIfInBounds_toArray, List.set_cons_zero, List.set_cons_succ, i64_w, i32_w]
    rfl
  refine pU 12 4 (tfs true [13]).toArray rfl rfl HT_ ?_
  refine done_ (done_of HT_.out (by kernel_rfl)) ?_
  clear HT_ HW_
  try clear hHeld
  go_wp2
  go_ret
  exact ⟨rfl, HD.out.out⟩

end Go.Proofs.Ytddhpkobingmhaa.PB
end

/-! # SortP -/
section
namespace Go.Proofs.Ytddhpkobingmhaa.PB
open Go.RowKit Go.Proofs.YtddhpkobingmhaaW.PrintWords Go.Proofs.YtddhpkobingmhaaW.PrintLast Go.Proofs.YtddhpkobingmhaaW.PrintMore Go.Proofs.Ytddhpkobingmhaa.Sep
set_option linter.unusedVariables false
set_option maxRecDepth 100000

instance inhS52 : Inhabited S52 := ⟨z52⟩
theorem encs_at : ∀ (l : List S52) (t : Nat), t < l.length * 2 → (encs enc52 l)[t]? = some ((enc52 l[t / 2]!)[t % 2]!)
  | [], t, h => by simp at h
  | x :: xs, 0, h => rfl
  | x :: xs, 1, h => rfl
  | x :: xs, t + 2, h => by
    have e1 : (t + 2) / 2 = t / 2 + 1 := by omega
    have e2 : (t + 2) % 2 = t % 2 := by omega
    have ih := encs_at xs t (by simp at h; omega)
    rw [e1, e2]
    show (encs enc52 xs)[t]? = _
    rw [ih]
    rfl
theorem encs_len2 (l : List S52) : (encs enc52 l).length = l.length * 2 := encs_len flatK l
theorem flat_at (l : List S52) (t : Nat) (h : t < l.length * 2) : (Go.Sort.flatK enc52 2 l.toArray)[t]? = (encs enc52 l)[t]? := by
  rw [encs_at l t h]
  unfold Go.Sort.flatK
  rw [Array.getElem?_map, Array.getElem?_range]
  simp [h]
theorem flat_list (l : List S52) : (Go.Sort.flatK enc52 2 l.toArray).toList = encs enc52 l := by
  apply List.ext_getElem?
  intro t
  rw [Array.getElem?_toList]
  by_cases h : t < l.length * 2
  · exact flat_at l t h
  · rw [Array.getElem?_eq_none (by rw [Go.Sort.size_flatK]; simpa using h), List.getElem?_eq_none (by rw [encs_len2]; omega)]
theorem flat_size (l : List S52) : (Go.Sort.flatK enc52 2 l.toArray).size = l.length * 2 := by rw [Go.Sort.size_flatK]; simp
section
variable {N : Nat} {w : World} {L : List Res} {g cap : Nat} {cur : List Value} {l l' : List S52}
theorem holds_row (h : St N w (Blk g cur.toArray 52 :: L)) (ht : cur.take (l.length * 2) = encs enc52 l) : Go.Sort.HoldsK enc52 2 w g 0 l.toArray := by
  intro t ht2
  rw [flat_size] at ht2
  refine ⟨?_, by rw [Nat.zero_add]; exact h.frozen t⟩
  rw [Nat.zero_add, h.cell t]
  have e : cur[t]? = (encs enc52 l)[t]? := by rw [← ht, List.getElem?_take_of_lt ht2]
  rw [List.getElem?_toArray, e, ← flat_at l t ht2]
  rw [getElem!_pos _ t (by rw [flat_size]; exact ht2), Array.getElem?_eq_getElem (by rw [flat_size]; exact ht2)]
  rfl
theorem put_cells (hl : l.length * 2 ≤ cur.length) : Go.Sort.putCells id 0 (Go.Sort.flatK enc52 2 l.toArray) cur.toArray = (encs enc52 l ++ cur.drop (l.length * 2)).toArray := by
  apply Array.ext_getElem?
  intro t
  unfold Go.Sort.putCells
  rw [Array.getElem?_mapIdx, List.getElem?_toArray, List.getElem?_toArray, flat_size]
  by_cases h : t < l.length * 2
  · rw [List.getElem?_eq_getElem (by omega : t < cur.length), Option.map_some, if_pos ⟨Nat.zero_le _, by omega⟩, List.getElem?_append_left (by rw [encs_len2]; exact h), ← flat_at l t h, Nat.sub_zero]
    rw [getElem!_pos _ t (by rw [flat_size]; exact h), Array.getElem?_eq_getElem (by rw [flat_size]; exact h)]
    rfl
  · rw [List.getElem?_append_right (by rw [encs_len2]; omega), encs_len2, List.getElem?_drop, show l.length * 2 + (t - l.length * 2) = t by omega]
    cases cur[t]? with
    | none => rfl
    | some v => rw [Option.map_some, if_neg (by omega)]
/-- The row behind the sort. -/
theorem sorted_piece (h : St N w (Blk g cur.toArray 52 :: L)) (hl : l.length * 2 ≤ cur.length) (n : Nat) (os : Array Obj) :
    St N (sortWorldK enc52 2 w g 0 n l.toArray os) (Blk g (encs enc52 l ++ cur.drop (l.length * 2)).toArray 52 :: L) ∧ Below N w (sortWorldK enc52 2 w g 0 n l.toArray os) := by
  have hb := h.blk
  have hg := h.ge
  have hlt : g < w.heap.size := blk_lt hb
  have hsz : (sortWorldK enc52 2 w g 0 n l.toArray os).heap.size = w.heap.size + os.size := by
    show (w.heap.modify g _ ++ os).size = _
    rw [Array.size_append, Array.size_modify]
  have hold : ∀ k, k < w.heap.size → (sortWorldK enc52 2 w g 0 n l.toArray os).heap[k]? = (w.heap.modify g (Go.Sort.onCells (Go.Sort.putCells id 0 (Go.Sort.flatK enc52 2 l.toArray))))[k]? := by
    intro k hk
    show (w.heap.modify g _ ++ os)[k]? = _
    rw [Array.getElem?_append_left (by rw [Array.size_modify]; exact hk)]
  have hoth : ∀ k, k < w.heap.size → k ≠ g → (sortWorldK enc52 2 w g 0 n l.toArray os).heap[k]? = w.heap[k]? := by
    intro k hk hne
    rw [hold k hk, Array.getElem?_modify, if_neg (fun e => hne e.symm)]
  have hat : (sortWorldK enc52 2 w g 0 n l.toArray os).heap[g]? = some (.cells (encs enc52 l ++ cur.drop (l.length * 2)).toArray 52 (0, 0)) := by
    rw [hold g hlt, Array.getElem?_modify, if_pos rfl, hb, Option.map_some]
    show some (Obj.cells (Go.Sort.putCells id 0 (Go.Sort.flatK enc52 2 l.toArray) cur.toArray) 52 (0, 0)) = _
    rw [put_cells hl]
  refine ⟨h.upd (by rw [hsz]; omega) (fun G hG hr => ⟨fun k hk hnk => hoth k hk (fun e => hnk (e ▸ hr.1)), G, fun k hk => ⟨.inl hk, by rw [hsz]; have := (hG k hk).2; omega⟩, hr.1, hat⟩), rfl, rfl, rfl, by rw [hsz]; omega, fun k hk => hoth k (Nat.lt_of_lt_of_le hk h.size) (by omega)⟩
end
end Go.Proofs.Ytddhpkobingmhaa.PB
end

/-! # RowP -/
section
namespace Go.Proofs.Ytddhpkobingmhaa.PB
open Go.RowKit Go.Proofs.YtddhpkobingmhaaW.PrintWords Go.Proofs.YtddhpkobingmhaaW.PrintLast Go.Proofs.YtddhpkobingmhaaW.PrintMore Go.Proofs.Ytddhpkobingmhaa.Sep
set_option linter.unusedVariables false
set_option maxRecDepth 100000

theorem encs_set : ∀ (l : List S52) (i : Nat) (x : S52), i < l.length → encs enc52 (l.set i x) = ((encs enc52 l).set (i * 2) (.int .i64 x.f0)).set (i * 2 + 1) (.string x.f1)
  | [], i, x, h => by simp at h
  | y :: ys, 0, x, h => rfl
  | y :: ys, i + 1, x, h => by
    have ih := encs_set ys i x (by simpa using h)
    rw [List.set_cons_succ]
    show enc52 y ++ encs enc52 (ys.set i x) = _
    rw [ih, show (i + 1) * 2 = i * 2 + 2 by omega]
    rfl
section
variable {N : Nat} {w w0 w1 : World} {L : List Res} {g n cap : Nat} {l : List S52}
theorem St.rowBlk {n : Nat} (h : St N w (Row k52 52 (.slice (some ⟨g, 0, none⟩) n cap) l :: L)) : n = l.length ∧ ∃ cur : List Value, l.length ≤ cap ∧ cap ≤ maxLen ∧ cur.length = cap * 2 ∧ cur.take (l.length * 2) = encs enc52 l ∧ St N w (Blk g cur.toArray 52 :: L) := by
  rcases St.open_row flatK h with ⟨e, _⟩ | ⟨g', cap', cur, e, h1, h2, h3, h4, h5⟩
  · cases e
  · cases e
    exact ⟨rfl, cur, h1, h2, h3, h4, h5⟩
theorem St.setElem (h : St N w (Row k52 52 (.slice (some ⟨g, 0, none⟩) n cap) l :: L)) (i : Nat) (x : S52) (hi : i < l.length) (e : w1 = (w.setCell ⟨g, i * 2, none⟩ (.int .i64 x.f0)).setCell ⟨g, i * 2 + 1, none⟩ (.string x.f1)) : St N w1 (Row k52 52 (.slice (some ⟨g, 0, none⟩) n cap) (l.set i x) :: L) := by
  subst e
  obtain ⟨rfl, cur, h1, h2, h3, h4, h5⟩ := St.rowBlk h
  have h6 := (h5.set (i * 2) (.int .i64 x.f0) (cur.set (i * 2) (.int .i64 x.f0)).toArray (by simp)).set (i * 2 + 1) (.string x.f1) ((cur.set (i * 2) (.int .i64 x.f0)).set (i * 2 + 1) (.string x.f1)).toArray (by simp)
  have := St.shut_row flatK (xs := l.set i x) h6 (by simpa using h1) h2 (by rw [List.length_set, List.length_set]; exact h3) (by
    show (((cur.set (i * 2) _).set (i * 2 + 1) _).take ((l.set i x).length * 2)) = _
    rw [encs_set l i x hi, List.take_set, List.take_set, List.length_set, h4])
  rwa [List.length_set] at this
theorem St.below_elem (h : St N w (Row k52 52 (.slice (some ⟨g, 0, none⟩) n cap) l :: L)) (hb : Below N w0 w) {a b : Value} {i j : Nat} (e : w1 = (w.setCell ⟨g, i, none⟩ a).setCell ⟨g, j, none⟩ b) : Below N w0 w1 := by
  subst e
  obtain ⟨_, cur, _, _, _, _, h5⟩ := St.rowBlk h
  exact (hb.setCell h5.ge _).setCell h5.ge _
theorem setCells_piece : ∀ (vs : List Value) (o : Nat) (cs : List Value) (w : World), St N w (Blk g cs.toArray 52 :: L) → ∃ cs' : List Value, cs'.length = cs.length ∧ cs'.take o = cs.take o ∧ St N (w.setCells g o vs) (Blk g cs'.toArray 52 :: L)
  | [], o, cs, w, h => ⟨cs, rfl, rfl, h⟩
  | v :: vs, o, cs, w, h => by
    have h1 := h.set o v (cs.set o v).toArray (by simp)
    obtain ⟨cs', e1, e2, e3⟩ := setCells_piece vs (o + 1) (cs.set o v) _ h1
    refine ⟨cs', by rw [e1, List.length_set], ?_, e3⟩
    have := congrArg (List.take o) e2
    rw [List.take_take, List.take_take, Nat.min_eq_left (by omega)] at this
    rw [this, List.take_set, List.set_eq_of_length_le (by rw [List.length_take]; omega)]
theorem below_cells (hg : N ≤ g) : ∀ (vs : List Value) (o : Nat) (w : World), Below N w0 w → Below N w0 (w.setCells g o vs)
  | [], o, w, h => h
  | v :: vs, o, w, h => below_cells hg vs (o + 1) _ (h.setCell hg _)
theorem St.clearRow (h : St N w (Row k52 52 (.slice (some ⟨g, 0, none⟩) n cap) l :: L)) (m : Nat) (hm : m ≤ l.length) (vs : List Value) (hb : Below N w0 w) (e : w1 = w.setCells g (m * 2) vs) : St N w1 (Row k52 52 (.slice (some ⟨g, 0, none⟩) m cap) (l.take m) :: L) ∧ Below N w0 w1 := by
  subst e
  obtain ⟨rfl, cur, h1, h2, h3, h4, h5⟩ := St.rowBlk h
  obtain ⟨cs', e1, e2, e3⟩ := setCells_piece vs (m * 2) cur w h5
  refine ⟨?_, below_cells h5.ge vs _ w hb⟩
  have hl : (l.take m).length = m := by rw [List.length_take]; omega
  have := St.shut_row flatK (xs := l.take m) e3 (by rw [hl]; omega) h2 (by rw [e1]; exact h3) (by
    rw [hl]
    show cs'.take (m * 2) = _
    rw [e2, ← encs_take flatK l m hm, ← h4, List.take_take]
    show _ = cur.take (min (m * 2) (l.length * 2))
    rw [Nat.min_eq_left (by omega)])
  rwa [hl] at this
end
/-- Equal neighbours taken together: of the first i places. -/
def cp (l : List S52) : Nat → List S52
  | 0 => []
  | i + 1 => if 0 < i ∧ rd_T52 l (i : Int) = rd_T52 l ((i - 1 : Nat) : Int) then cp l i else cp l i ++ [rd_T52 l (i : Int)]
theorem cp_one (l : List S52) : cp l 1 = [rd_T52 l ((0 : Nat) : Int)] := by simp [cp]
theorem cp_len (l : List S52) : ∀ i, (cp l i).length ≤ i
  | 0 => Nat.le_refl _
  | i + 1 => by
    have := cp_len l i
    rw [cp]
    split
    · omega
    · rw [List.length_append]; simp; omega
theorem cp_hit (l : List S52) (i : Nat) (hi : 0 < i) (h : rd_T52 l (i : Int) = rd_T52 l ((i - 1 : Nat) : Int)) : cp l (i + 1) = cp l i := by rw [cp, if_pos ⟨hi, h⟩]
theorem cp_miss (l : List S52) (i : Nat) (h : ¬ rd_T52 l (i : Int) = rd_T52 l ((i - 1 : Nat) : Int)) : cp l (i + 1) = cp l i ++ [rd_T52 l (i : Int)] := by rw [cp, if_neg (fun g => h g.2)]
theorem take_rd (l : List S52) (i : Nat) (h : i < l.length) : l.take (i + 1) = l.take i ++ [rd_T52 l (i : Int)] := by
  rw [rd52 l i h, List.take_add_one, List.getElem?_eq_getElem h]; rfl
theorem rd_set (l : List S52) (i j : Nat) (x : S52) (hi : i < l.length) : rd_T52 (l.set i x) (j : Int) = if i = j then x else rd_T52 l (j : Int) := by
  unfold rd_T52
  rw [Int.toNat_natCast, List.getD_eq_getElem?_getD, List.getD_eq_getElem?_getD, List.getElem?_set]
  by_cases h : i = j
  · subst h; simp [hi]
  · simp [h]
end Go.Proofs.Ytddhpkobingmhaa.PB
end

/-! # ClearP -/
section
namespace Go.Proofs.Ytddhpkobingmhaa.PB
open Go.RowKit Go.Proofs.YtddhpkobingmhaaW.PrintWords Go.Proofs.YtddhpkobingmhaaW.PrintLast Go.Proofs.YtddhpkobingmhaaW.PrintMore Go.Proofs.Ytddhpkobingmhaa.Sep
set_option linter.unusedVariables false
set_option maxRecDepth 100000

def zs52 (n : Nat) : List Value := (Builtin.zeroCells #[.int .i64 0, .string ⟨#[]⟩] n).toList
theorem zs52_len (n : Nat) : (zs52 n).length = n * 2 := by unfold zs52 Builtin.zeroCells; simp
theorem zs52_one (n : Nat) : ∀ v ∈ zs52 n, v.oneCell' = true := by
  intro v hv
  unfold zs52 Builtin.zeroCells at hv
  simp only [Array.toList_map, List.mem_map] at hv
  obtain ⟨i, _, rfl⟩ := hv
  have h2 : i % 2 = 0 ∨ i % 2 = 1 := by omega
  show Value.oneCell' ((#[Value.int .i64 0, Value.string ⟨#[]⟩] : Array Value)[i % 2]!) = true
  rcases h2 with h2 | h2 <;> rw [h2] <;> rfl
theorem run_clear52 (w : World) (ty g o n c : Nat) (hn : 0 < n) (hc : ∀ j, j < n * 2 → (w.cell? ⟨g, o + j, none⟩).isSome = true) (hf : ∀ j, j < n * 2 → w.frozen? ⟨g, o + j, none⟩ = false) :
    (Builtin.clear_ #[26] ty #[.slice (some ⟨g, o, none⟩) n c]).run Try.prog w = .ok (.tuple #[]) (w.setCells g o (zs52 n)) := by
  have hst := run_storeCells_cells (P := Try.prog) g o (zs52 n) 0 w (by rw [zs52_len]; simpa using hc) (by rw [zs52_len]; simpa using hf) (zs52_one n)
  simp only [Nat.add_zero] at hst
  obtain ⟨m, rfl⟩ : ∃ m, n = m + 1 := ⟨n - 1, by omega⟩
  have hz : ((Value.agg #[Value.int IntKind.i64 0, Value.string ⟨#[]⟩]).cells) = #[.int .i64 0, .string ⟨#[]⟩] := rfl
  unfold zs52 at hst ⊢
  simp [Builtin.clear_, run_underlying Try.underlying26, Try.zeroValue52, hz, hst]
section
variable {ops : Array Oper} {rest : List Oper} {o : Oper} {a : Act} {Q : Exit → Act → World → Prop} {N : Nat} {L : List Res} {w0 : World}
theorem S_clear {W : World} (hgd : o.guard = none) (s : Operand) (ho : o.op = .call { callee := .builtin .clear, args := #[s], argTypes := #[26] }) (hd : o.dst = none)
    (g n cap m d c : Nat) (l : List S52) (A : Addr) (hA : A = ⟨g, m * 2, none⟩) (hs : a.eval s = .slice (some A) d c) (hm : m < l.length) (hdn : d = l.length - m)
    (HS : St N W (Row k52 52 (.slice (some ⟨g, 0, none⟩) n cap) l :: L)) (HB : Below N w0 W)
    (h : ∀ w1, St N w1 (Row k52 52 (.slice (some ⟨g, 0, none⟩) m cap) (l.take m) :: L) → Below N w0 w1 → wpList Try.prog ops Q rest a w1) : wpList Try.prog ops Q (o :: rest) a W := by
  subst hA hdn
  refine wpList_plain hgd fun K hK => ?_
  obtain ⟨e, cur, h1, h2, h3, h4, h5⟩ := St.rowBlk HS
  have hrun := run_clear52 W o.type g (m * 2) (l.length - m) c (by omega) (fun j hj => by
    rw [h5.cell (m * 2 + j), List.getElem?_toArray, List.getElem?_eq_getElem (by omega)]; rfl) (fun j hj => h5.frozen _)
  unfold Oper.wp
  simp [execOp, ho, resolve, invoke, builtin, hs, hrun, Result.andThen]
  obtain ⟨h6, h7⟩ := St.clearRow HS m (by omega) (zs52 (l.length - m)) HB rfl
  refine hK _ _ ?_
  have := h _ h6 h7
  simpa [Act.put, hd] using this
end
end Go.Proofs.Ytddhpkobingmhaa.PB
end

/-! # Mrg -/
section
namespace Go.Proofs.Ytddhpkobingmhaa.PB
open Go.RowKit Go.Proofs.YtddhpkobingmhaaW.PrintWords Go.Proofs.YtddhpkobingmhaaW.PrintLast
set_option linter.unusedVariables false

theorem inc_unique : ∀ (a b : List S52), Inc a → Inc b → (∀ x, x ∈ a ↔ x ∈ b) → a = b
  | [], [], _, _, _ => rfl
  | [], y :: b, _, _, h => absurd ((h y).mpr List.mem_cons_self) (by simp)
  | x :: a, [], _, _, h => absurd ((h x).mp List.mem_cons_self) (by simp)
  | x :: a, y :: b, ha, hb, h => by
    obtain ⟨ha1, ha2⟩ := List.pairwise_cons.mp ha
    obtain ⟨hb1, hb2⟩ := List.pairwise_cons.mp hb
    have e : x = y := by
      rcases List.mem_cons.mp ((h x).mp List.mem_cons_self) with e | hx
      · exact e
      · rcases List.mem_cons.mp ((h y).mpr List.mem_cons_self) with e | hy
        · exact e.symm
        · exact (bf_asymm (ha1 y hy) (hb1 x hx)).elim
    subst e
    rw [inc_unique a b ha2 hb2 (fun z => ?_)]
    constructor
    · intro hz
      rcases List.mem_cons.mp ((h z).mp (List.mem_cons_of_mem _ hz)) with e | hz2
      · exact (bf_irrefl _ (e ▸ ha1 z hz)).elim
      · exact hz2
    · intro hz
      rcases List.mem_cons.mp ((h z).mpr (List.mem_cons_of_mem _ hz)) with e | hz2
      · exact (bf_irrefl _ (e ▸ hb1 z hz)).elim
      · exact hz2
theorem sub_tail {a b : List S52} {x y : S52} (ha : Inc (x :: a)) (hb : Inc (y :: b)) (h : ∀ z ∈ x :: a, z ∈ y :: b) (e : x = y) : ∀ z ∈ a, z ∈ b := by
  intro z hz
  rcases List.mem_cons.mp (h z (List.mem_cons_of_mem _ hz)) with e2 | h2
  · exact (bf_irrefl _ (by have := (List.pairwise_cons.mp ha).1 z hz; rw [e, ← e2] at this; exact this)).elim
  · exact h2
theorem sub_skip {a b : List S52} {x y : S52} (ha : Inc (x :: a)) (hb : Inc (y :: b)) (h : ∀ z ∈ x :: a, z ∈ y :: b) (e : ¬ x = y) : ∀ z ∈ x :: a, z ∈ b := by
  have hx : x ∈ b := by
    rcases List.mem_cons.mp (h x List.mem_cons_self) with e2 | h2
    · exact absurd e2 e
    · exact h2
  intro z hz
  rcases List.mem_cons.mp (h z hz) with e2 | h2
  · subst e2
    rcases List.mem_cons.mp hz with e3 | h3
    · exact absurd e3.symm e
    · exact (bf_asymm ((List.pairwise_cons.mp ha).1 z h3) ((List.pairwise_cons.mp hb).1 x hx)).elim
  · exact h2
theorem len_sub : ∀ (a b : List S52), Inc a → Inc b → (∀ x ∈ a, x ∈ b) → a.length ≤ b.length
  | [], _, _, _, _ => Nat.zero_le _
  | x :: a, [], _, _, h => absurd (h x List.mem_cons_self) (by simp)
  | x :: a, y :: b, ha, hb, h => by
    have ha2 := (List.pairwise_cons.mp ha).2
    have hb2 := (List.pairwise_cons.mp hb).2
    by_cases e : x = y
    · have := len_sub a b ha2 hb2 (sub_tail ha hb h e)
      simpa using this
    · have := len_sub (x :: a) b ha hb2 (sub_skip ha hb h e)
      simp at this ⊢
      omega
theorem take_sub : ∀ (K : Nat) (a b : List S52), Inc a → Inc b → (∀ x ∈ a, x ∈ b) → ∀ x ∈ a, x ∈ b.take K → x ∈ a.take K
  | 0, _, _, _, _, _, x, _, h => by simp at h
  | K + 1, [], _, _, _, _, x, hx, _ => by simp at hx
  | K + 1, x :: a, [], _, _, h, z, hz, _ => absurd (h z hz) (by simp)
  | K + 1, x :: a, y :: b, ha, hb, h, z, hz, hk => by
    have ha2 := (List.pairwise_cons.mp ha).2
    have hb2 := (List.pairwise_cons.mp hb).2
    rw [List.take_succ_cons] at hk ⊢
    by_cases e : x = y
    · rcases List.mem_cons.mp hz with e2 | h2
      · exact List.mem_cons.mpr (.inl e2)
      · refine List.mem_cons_of_mem _ (take_sub K a b ha2 hb2 (sub_tail ha hb h e) z h2 ?_)
        rcases List.mem_cons.mp hk with e3 | h3
        · exact (bf_irrefl _ (by have := (List.pairwise_cons.mp ha).1 z h2; rw [e, ← e3] at this; exact this)).elim
        · exact h3
    · have hb3 := sub_skip ha hb h e
      have hk2 : z ∈ b.take K := by
        rcases List.mem_cons.mp hk with e3 | h3
        · have := hb3 z hz
          exact (bf_irrefl _ (by have := (List.pairwise_cons.mp hb).1 z this; rw [← e3] at this; exact this)).elim
        · exact h3
      have := take_sub K (x :: a) b ha hb2 hb3 z hz hk2
      have h5 : z ∈ (x :: a).take (K + 1) := (List.take_sublist_take_left (Nat.le_succ K)).subset this
      rwa [List.take_succ_cons] at h5
theorem take_eq : ∀ (K : Nat) (a b : List S52), Inc a → Inc b → (∀ x ∈ a, x ∈ b) → (∀ x ∈ b.take K, x ∈ a) → a.take K = b.take K
  | 0, _, _, _, _, _, _ => by simp
  | K + 1, [], [], _, _, _, _ => rfl
  | K + 1, [], y :: b, _, _, _, h2 => absurd (h2 y (by simp)) (by simp)
  | K + 1, x :: a, [], _, _, h, _ => absurd (h x List.mem_cons_self) (by simp)
  | K + 1, x :: a, y :: b, ha, hb, h, h2 => by
    have ha2 := (List.pairwise_cons.mp ha).2
    have hb2 := (List.pairwise_cons.mp hb).2
    by_cases e : x = y
    · subst e
      rw [List.take_succ_cons, List.take_succ_cons, take_eq K a b ha2 hb2 (sub_tail ha hb h rfl) (fun z hz => ?_)]
      rcases List.mem_cons.mp (h2 z (by rw [List.take_succ_cons]; exact List.mem_cons_of_mem _ hz)) with e3 | h3
      · exact (bf_irrefl _ (by have := (List.pairwise_cons.mp hb).1 z (List.mem_of_mem_take hz); rw [← e3] at this; exact this)).elim
      · exact h3
    · have hy := h2 y (by simp)
      have := sub_skip ha hb h e y hy
      exact (bf_irrefl _ ((List.pairwise_cons.mp hb).1 y this)).elim
/-- cp of a sorted row: in order, with the same keys. -/
theorem cp_sorted (l : List S52) (hs : ∀ i j, i < j → j < l.length → ¬ Bf (rd_T52 l (j : Int)) (rd_T52 l (i : Int))) : ∀ i, i ≤ l.length → Inc (cp l i) ∧ ∀ x, x ∈ cp l i ↔ ∃ k, k < i ∧ x = rd_T52 l (k : Int)
  | 0, _ => ⟨List.Pairwise.nil, fun x => ⟨fun h => by simp [cp] at h, fun ⟨k, h, _⟩ => absurd h (Nat.not_lt_zero k)⟩⟩
  | i + 1, hi => by
    obtain ⟨ih1, ih2⟩ := cp_sorted l hs i (by omega)
    by_cases h : 0 < i ∧ rd_T52 l (i : Int) = rd_T52 l ((i - 1 : Nat) : Int)
    · rw [cp, if_pos h]
      refine ⟨ih1, fun x => ?_⟩
      rw [ih2 x]
      constructor
      · rintro ⟨k, hk, e⟩; exact ⟨k, by omega, e⟩
      · rintro ⟨k, hk, e⟩
        by_cases hki : k = i
        · exact ⟨i - 1, by omega, by rw [e, hki, h.2]⟩
        · exact ⟨k, by omega, e⟩
    · rw [cp, if_neg h]
      constructor
      · refine List.pairwise_append.mpr ⟨ih1, List.pairwise_singleton _ _, ?_⟩
        intro y hy z hz
        rw [List.mem_singleton] at hz
        subst hz
        obtain ⟨k, hk, rfl⟩ := (ih2 y).mp hy
        by_cases hb : Bf (rd_T52 l (k : Int)) (rd_T52 l (i : Int))
        · exact hb
        · exfalso
          have h1 := hs k i hk (by omega)
          have e : rd_T52 l (k : Int) = rd_T52 l (i : Int) := by
            by_cases e : rd_T52 l (k : Int) = rd_T52 l (i : Int)
            · exact e
            · exact absurd (bf_tri hb e) h1
          apply h
          refine ⟨by omega, ?_⟩
          by_cases hk1 : k = i - 1
          · rw [← hk1]; exact e.symm
          · have h2 := hs k (i - 1) (by omega) (by omega)
            have h3 := hs (i - 1) i (by omega) (by omega)
            rw [e] at h2
            by_cases e2 : rd_T52 l (i : Int) = rd_T52 l ((i - 1 : Nat) : Int)
            · exact e2
            · exact absurd (bf_tri h3 e2) h2
      · intro x
        rw [List.mem_append, List.mem_singleton, ih2 x]
        constructor
        · rintro (⟨k, hk, e⟩ | e)
          · exact ⟨k, by omega, e⟩
          · exact ⟨i, by omega, e⟩
        · rintro ⟨k, hk, e⟩
          by_cases hki : k = i
          · exact .inr (hki ▸ e)
          · exact .inl ⟨k, by omega, e⟩
theorem mem_rd (l : List S52) (x : S52) : x ∈ l ↔ ∃ k, k < l.length ∧ x = rd_T52 l (k : Int) := by
  constructor
  · intro h
    obtain ⟨k, hk, e⟩ := List.mem_iff_getElem.mp h
    exact ⟨k, hk, by rw [rd52 l k hk, e]⟩
  · rintro ⟨k, hk, rfl⟩
    rw [rd52 l k hk]
    exact List.getElem_mem _
theorem cp_whole (l : List S52) (hs : ∀ i j, i < j → j < l.length → ¬ Bf (rd_T52 l (j : Int)) (rd_T52 l (i : Int))) : Inc (cp l l.length) ∧ ∀ x, x ∈ cp l l.length ↔ x ∈ l := by
  obtain ⟨h1, h2⟩ := cp_sorted l hs l.length (Nat.le_refl _)
  exact ⟨h1, fun x => by rw [h2 x, mem_rd l x]⟩
/-- What is kept of two sets, out of what is kept of each. -/
theorem merge_take (K : Nat) (l m W U : List S52) (hl : Inc l) (hm : Inc m) (hW : Inc W) (hU : Inc U) (hWm : ∀ x, x ∈ W ↔ x ∈ l ∨ x ∈ m) (hUm : ∀ x, x ∈ U ↔ x ∈ l.take K ∨ x ∈ m.take K) :
    U.take K = W.take K ∧ ((decide (K < l.length) || decide (K < m.length)) || decide (K < U.length)) = decide (K < W.length) := by
  have hUW : ∀ x ∈ U, x ∈ W := fun x hx => (hWm x).mpr (((hUm x).mp hx).imp List.mem_of_mem_take List.mem_of_mem_take)
  refine ⟨take_eq K U W hU hW hUW ?_, ?_⟩
  · intro x hx
    rcases (hWm x).mp (List.mem_of_mem_take hx) with h | h
    · exact (hUm x).mpr (.inl (take_sub K l W hl hW (fun y hy => (hWm y).mpr (.inl hy)) x h hx))
    · exact (hUm x).mpr (.inr (take_sub K m W hm hW (fun y hy => (hWm y).mpr (.inr hy)) x h hx))
  · have e1 := len_sub l W hl hW (fun y hy => (hWm y).mpr (.inl hy))
    have e2 := len_sub m W hm hW (fun y hy => (hWm y).mpr (.inr hy))
    have e3 := len_sub U W hU hW hUW
    by_cases h : K < W.length
    · rw [decide_eq_true h]
      by_cases h1 : K < l.length
      · simp [h1]
      · by_cases h2 : K < m.length
        · simp [h2]
        · have e : U = W := inc_unique U W hU hW (fun x => by rw [hUm x, hWm x, List.take_of_length_le (by omega), List.take_of_length_le (by omega)])
          simp [h1, h2, e, h]
    · rw [decide_eq_false h, decide_eq_false (by omega : ¬ K < l.length), decide_eq_false (by omega : ¬ K < m.length), decide_eq_false (by omega : ¬ K < U.length)]
      rfl
theorem mem_foldl (hs : ByteArray → Int) (x : S52) : ∀ (ts : List ByteArray) (l : List S52), x ∈ ts.foldl (fun l t => ins ⟨hs t, t⟩ l) l ↔ x ∈ l ∨ ∃ t ∈ ts, x = ⟨hs t, t⟩
  | [], l => by simp
  | t :: ts, l => by
    rw [List.foldl_cons, mem_foldl hs x ts, mem_ins]
    constructor
    · rintro ((e | h) | ⟨t', h, e⟩)
      · exact .inr ⟨t, List.mem_cons_self, e⟩
      · exact .inl h
      · exact .inr ⟨t', List.mem_cons_of_mem _ h, e⟩
    · rintro (h | ⟨t', h, e⟩)
      · exact .inl (.inr h)
      · rcases List.mem_cons.mp h with rfl | h
        · exact .inl (.inl e)
        · exact .inr ⟨t', h, e⟩
theorem mem_foldk (hs : ByteArray → Int) (ts : List ByteArray) (x : S52) : x ∈ foldk hs ts ↔ ∃ t ∈ ts, x = ⟨hs t, t⟩ := by
  unfold foldk
  rw [mem_foldl]
  simp
theorem mem_both (hs : ByteArray → Int) (ts us : List ByteArray) (x : S52) : x ∈ foldk hs (ts ++ us) ↔ x ∈ foldk hs ts ∨ x ∈ foldk hs us := by
  rw [mem_foldk, mem_foldk, mem_foldk]
  constructor
  · rintro ⟨t, h, e⟩
    rcases List.mem_append.mp h with h | h
    · exact .inl ⟨t, h, e⟩
    · exact .inr ⟨t, h, e⟩
  · rintro (⟨t, h, e⟩ | ⟨t, h, e⟩)
    · exact ⟨t, List.mem_append_left _ h, e⟩
    · exact ⟨t, List.mem_append_right _ h, e⟩
theorem swo_k : Go.Sort.SWO (ltOf kcmp) where
  irrefl x := by
    unfold ltOf
    rw [decide_eq_false]
    exact bf_irrefl x
  trans x y z h1 h2 := by
    unfold ltOf at *
    exact decide_eq_true (bf_trans (of_decide_eq_true h1) (of_decide_eq_true h2))
  ntrans x y z h1 h2 := by
    unfold ltOf at *
    have h1 := of_decide_eq_false h1
    have h2 := of_decide_eq_false h2
    refine decide_eq_false (fun h3 => ?_)
    by_cases e : x = y
    · subst e; exact h2 h3
    · by_cases e2 : y = z
      · subst e2; exact h1 h3
      · exact bf_irrefl x (bf_trans (bf_trans h3 (bf_tri h2 e2)) (bf_tri h1 e))
end Go.Proofs.Ytddhpkobingmhaa.PB
end

/-! # SortLay -/
section
-- Written by the kit's tools (lay-plain) for this program: the contract of slices.SortFunc laid at it.
namespace Go.Proofs
open Go.Shelf
def Try.sort81_ren : Go.Shelf.Ren := ⟨fun | 6 => 81 | 15 => 93 | 14 => 92 | 28 => 103 | 29 => 85 | 20 => 95 | 21 => 96 | 22 => 97 | 23 => 98 | 24 => 99 | 25 => 100 | 26 => 101 | 27 => 102 | 46 => 105 | 47 => 106 | 48 => 107 | 49 => 108 | 50 => 109 | 57 => 110 | n => n, fun | 22 => 26 | 24 => 52 | 25 => 74 | 3 => 3 | 39 => 86 | 0 => 0 | 53 => 129 | 55 => 60 | 4 => 4 | 46 => 123 | 45 => 122 | 50 => 93 | 5 => 5 | 9 => 9 | 66 => 131 | 70 => 135 | 76 => 137 | 77 => 138 | n => n, fun | n => n⟩
theorem Try.sort81 : Go.Proofs.SlLaysF0.n6 Try.prog Try.sort81_ren := {
  mixed := by kernel_rfl
  f6 := ⟨Try.f81.name, by decide, Try.func81.trans (congrArg some (by kernel_rfl))⟩
  f14 := ⟨Try.f92.name, by decide, Try.func92.trans (congrArg some (by kernel_rfl))⟩
  f15 := Try.func93.trans (congrArg some (by kernel_rfl))
  f20 := ⟨Try.f95.name, by decide, Try.func95.trans (congrArg some (by kernel_rfl))⟩
  f21 := ⟨Try.f96.name, by decide, Try.func96.trans (congrArg some (by kernel_rfl))⟩
  f22 := ⟨Try.f97.name, by decide, Try.func97.trans (congrArg some (by kernel_rfl))⟩
  f23 := ⟨Try.f98.name, by decide, Try.func98.trans (congrArg some (by kernel_rfl))⟩
  f24 := ⟨Try.f99.name, by decide, Try.func99.trans (congrArg some (by kernel_rfl))⟩
  f25 := ⟨Try.f100.name, by decide, Try.func100.trans (congrArg some (by kernel_rfl))⟩
  f26 := ⟨Try.f101.name, by decide, Try.func101.trans (congrArg some (by kernel_rfl))⟩
  f27 := ⟨Try.f102.name, by decide, Try.func102.trans (congrArg some (by kernel_rfl))⟩
  f28 := Try.func103.trans (congrArg some (by kernel_rfl))
  f29 := Try.func85.trans (congrArg some (by kernel_rfl))
  f46 := ⟨Try.f105.name, by decide, Try.func105.trans (congrArg some (by kernel_rfl))⟩
  f47 := Try.func106.trans (congrArg some (by kernel_rfl))
  f48 := Try.func107.trans (congrArg some (by kernel_rfl))
  f49 := ⟨Try.f108.name, by decide, Try.func108.trans (congrArg some (by kernel_rfl))⟩
  f50 := ⟨Try.f109.name, by decide, Try.func109.trans (congrArg some (by kernel_rfl))⟩
  f57 := ⟨Try.f110.name, by decide, Try.func110.trans (congrArg some (by kernel_rfl))⟩
  t0 := Try.underlying0
  a0 := Try.isAgg0
  z0 := Try.sizeOf0
  v0 := Try.zeroValue0
  t3 := Try.underlying3
  a3 := Try.isAgg3
  z3 := Try.sizeOf3
  v3 := Try.zeroValue3
  t4 := Try.underlying4
  a4 := Try.isAgg4
  z4 := Try.sizeOf4
  v4 := Try.zeroValue4
  t5 := Try.underlying5
  a5 := Try.isAgg5
  z5 := Try.sizeOf5
  v5 := Try.zeroValue5
  t9 := Try.underlying9
  a9 := Try.isAgg9
  z9 := Try.sizeOf9
  v9 := Try.zeroValue9
  t22 := Try.underlying26
  a22 := Try.isAgg26
  z22 := Try.sizeOf26
  v22 := Try.zeroValue26
  t25 := Try.underlying74
  a25 := Try.isAgg74
  z25 := Try.sizeOf74
  v25 := Try.zeroValue74
  t39 := Try.underlying86
  a39 := Try.isAgg86
  z39 := Try.sizeOf86
  v39 := Try.zeroValue86
  t45 := Try.underlying122
  a45 := Try.isAgg122
  z45 := Try.sizeOf122
  v45 := Try.zeroValue122
  t46 := Try.underlying123
  a46 := Try.isAgg123
  z46 := Try.sizeOf123
  v46 := Try.zeroValue123
  t50 := Try.underlying93
  a50 := Try.isAgg93
  z50 := Try.sizeOf93
  v50 := Try.zeroValue93
  t53 := Try.underlying129
  a53 := Try.isAgg129
  z53 := Try.sizeOf129
  v53 := Try.zeroValue129
  t55 := Try.underlying60
  a55 := Try.isAgg60
  z55 := Try.sizeOf60
  v55 := Try.zeroValue60
  t66 := Try.underlying131
  a66 := Try.isAgg131
  z66 := Try.sizeOf131
  v66 := Try.zeroValue131
  t70 := Try.underlying135
  a70 := Try.isAgg135
  z70 := Try.sizeOf135
  v70 := Try.zeroValue135
  t76 := Try.underlying137
  a76 := Try.isAgg137
  z76 := Try.sizeOf137
  v76 := Try.zeroValue137
  t77 := Try.underlying138
  a77 := Try.isAgg138
  z77 := Try.sizeOf138
  v77 := Try.zeroValue138 }
end Go.Proofs
end

/-! # SortOk -/
section
namespace Go.Proofs.Ytddhpkobingmhaa.PB
open Go.RowKit Go.Proofs.YtddhpkobingmhaaW.PrintWords Go.Proofs.YtddhpkobingmhaaW.PrintLast Go.Proofs.YtddhpkobingmhaaW.PrintMore Go.Proofs.Ytddhpkobingmhaa.Sep
set_option linter.unusedVariables false
set_option linter.unusedSimpArgs false
set_option maxRecDepth 100000

def Sorted (l : List S52) : Prop := ∀ i j, i < j → j < l.length → ¬ Bf (rd_T52 l (j : Int)) (rd_T52 l (i : Int))
theorem cmp_lays (blk off size : Nat) (w : World) : CmpLays Try.prog 55 #[] enc52 2 kcmp blk off size w := fun _ _ _ _ x y => compare_grown x y _
theorem get_rd (l : List S52) (i : Nat) : l.toArray[i]! = rd_T52 l (i : Int) := by
  unfold rd_T52
  rw [Int.toNat_natCast, List.getD_eq_getElem?_getD]
  by_cases h : i < l.length
  · rw [getElem!_pos _ i (by simpa using h), List.getElem?_eq_getElem h]; rfl
  · rw [getElem!_neg _ i (by simpa using h), List.getElem?_eq_none (by omega)]; rfl
theorem enc_one (x : S52) : ∀ v ∈ enc52 x, v.oneCell' = true := by
  intro v hv
  simp only [enc52, List.mem_cons, List.not_mem_nil, or_false] at hv
  rcases hv with rfl | rfl <;> rfl
theorem enters55 (args : Array Value) (w : World) : (callFunc 55 args).run Try.prog w = .ok (.enter 55 args) w := enters_of Try.func55 (by kernel_rfl) rfl args w
theorem sort_ok (l : List S52) (hl : l.length ≤ 1000000) (v : Value) {N : Nat} {w : World} {L : List Res} (HS : St N w (Row k52 52 v l :: L)) :
    Calls Try.prog 81 #[v, .func (.func 55) #[] #[]] w fun e w' => e = .returned (.tuple #[]) ∧ ∃ l' : List S52, l'.length = l.length ∧ (∀ x, x ∈ l' ↔ x ∈ l) ∧ Sorted l' ∧ St N w' (Row k52 52 v l' :: L) ∧ Below N w w' := by
  rcases St.open_row flatK HS with ⟨rfl, rfl⟩ | ⟨g, cap, cur, rfl, h1, h2, h3, h4, h5⟩
  · have := AnyF.slices_SortFunc_none Try.sort81 none 0 (.func (.func 55) #[] #[]) w
    refine Calls.mono (f := 81) this ?_
    rintro e w' ⟨rfl, rfl⟩
    exact ⟨rfl, [], rfl, fun x => Iff.rfl, fun i j _ h => absurd h (Nat.not_lt_zero j), HS, Below.refl _ _⟩
  · have hH := holds_row h5 h4
    have := AnyQ.slices_SortFunc Try.sort81 2 Try.isAgg52 Try.sizeOf52 enc52 (fun _ => rfl) enc_one kcmp swo_k 55 #[] g 0 cap l.toArray w enters55 (cmp_lays g 0 _ w) hH (blk_lt h5.blk) (by simp; omega)
    change Calls Try.prog 81 _ _ _ at this
    rw [List.size_toArray] at this
    refine this.mono ?_
    rintro e w' ⟨rfl, d', n, os, ⟨hp1, _, hp3⟩, hs, rfl⟩
    obtain ⟨l', rfl⟩ : ∃ l' : List S52, d' = l'.toArray := ⟨d'.toList, by simp⟩
    have e1 : l'.length = l.length := by simpa using hp1
    have hp : l'.Perm l := by
      have := hp3
      simp only [e1, List.size_toArray, List.extract_toArray] at this
      simpa [List.take_of_length_le (show l'.length ≤ l.length by omega)] using this
    have h3' : cur.length = cap * 2 := h3
    obtain ⟨hs1, hb1⟩ := sorted_piece (l := l') h5 (by omega) n os
    have h4' : (encs enc52 l' ++ cur.drop (l'.length * 2)).take (l'.length * 2) = encs enc52 l' := List.take_left' (encs_len2 l')
    refine ⟨rfl, l', e1, fun x => hp.mem_iff, fun i j hij hj => ?_, ?_, hb1⟩
    · have h9 := hs i j (Nat.zero_le _) hij (by simpa using e1 ▸ hj)
      rw [get_rd, get_rd] at h9
      unfold ltOf at h9
      exact of_decide_eq_false h9
    · have := St.shut_row flatK (xs := l') hs1 (by omega) h2 (by rw [List.length_append, List.length_drop, encs_len2]; show _ = cap * 2; have : cur.length = cap * 2 := h3; omega) h4'
      rwa [e1] at this
end Go.Proofs.Ytddhpkobingmhaa.PB
end

/-! # Sk20 -/
section
namespace Go.Proofs.Ytddhpkobingmhaa.PB
open Go.RowKit Go.Proofs.YtddhpkobingmhaaW.PrintWords Go.Proofs.YtddhpkobingmhaaW.PrintLast Go.Proofs.YtddhpkobingmhaaW.PrintMore Go.Proofs.Ytddhpkobingmhaa.Sep
set_option linter.unusedVariables false
set_option linter.unusedSimpArgs false
set_option maxHeartbeats 8000000
set_option maxRecDepth 100000

theorem eq83_ok (x y : S52) (b : Nat) {N : Nat} {w : World} {L : List Res} (HS0 : St N w (Blk b #[.func (.func 55) #[] #[]] 74 :: L)) :
    Calls Try.prog 83 #[.agg #[.int .i64 x.f0, .string x.f1], .agg #[.int .i64 y.f0, .string y.f1], .pointer (some ⟨b, 0, none⟩)] w fun e w' => e = .returned (.bool (kcmp x y == 0)) ∧ St N w' (Blk b #[.func (.func 55) #[] #[]] 74 :: L) ∧ Below N w w' := by
  have HS := Aside0.mk HS0
  have HB := Aside0.mk (Below.refl N w)
  clear HS0
  go_enter Try.func83, Try.ntmps83
  go_wp2_with (first | ((with_reducible refine gate_dst (N := 3) rfl ?_); refine box_event ?hg (N := 3) ?hd (cs := #[.int .i64 x.f0, .string x.f1]) (t := 52) ?hr ?_; (case hd => rfl); (case hg => rfl); (case hr => first | (go_simp; done) | (go_simp; rfl)); intro g1 hg w1 hbox hb; have n0_ := Aside0.mk (HS.out.box hg hbox hb); have n1_ := Aside0.mk (below_step' HB.out HS.out.size hb); clear HS HB; have HS := n0_; have HB := n1_; clear n0_ n1_; (try simp only [List.eraseIdx_cons_succ, List.eraseIdx_cons_zero] at HS); clear hb hbox hg) | ((with_reducible refine gate_dst (N := 4) rfl ?_); refine box_event ?hg (N := 4) ?hd (cs := #[.int .i64 y.f0, .string y.f1]) (t := 52) ?hr ?_; (case hd => rfl); (case hg => rfl); (case hr => first | (go_simp; done) | (go_simp; rfl)); intro g2 hg w2 hbox hb; have n0_ := Aside0.mk (HS.out.box hg hbox hb); have n1_ := Aside0.mk (below_step' HB.out HS.out.size hb); clear HS HB; have HS := n0_; have HB := n1_; clear n0_ n1_; (try simp only [List.eraseIdx_cons_succ, List.eraseIdx_cons_zero] at HS); clear hb hbox hg; have hc0_0 := ((HS.out.pick 0 rfl).cell 0).trans (show _ = some (.int .i64 y.f0) from rfl); have hc0_1 := ((HS.out.pick 0 rfl).cell 1).trans (show _ = some (.string y.f1) from rfl); have hc1_0 := ((HS.out.pick 1 rfl).cell 0).trans (show _ = some (.int .i64 x.f0) from rfl); have hc1_1 := ((HS.out.pick 1 rfl).cell 1).trans (show _ = some (.string x.f1) from rfl); have hc2_0 := ((HS.out.pick 2 rfl).cell 0).trans (show _ = some (.func (.func 55) #[] #[]) from rfl)) | ((with_reducible refine gate_dst (N := 9) rfl ?_); refine goesVL_ (some 9) rfl rfl #[] Try.func55 (by kernel_rfl) rfl #[.agg #[.int .i64 x.f0, .string x.f1], .agg #[.int .i64 y.f0, .string y.f1]] rfl rfl (by (try simp only [List.map_toArray, List.map_cons, List.map_nil]); first | done | rfl | (simp; done)) ?_; (with_reducible refine (bottomk_compare.calls 10 _ _ _ _ _ _ (compare_ok 10 (by omega) x y)).mono ?_); rintro e w3 ⟨rfl, hb⟩; refine ⟨_, rfl, ?_⟩; have n0_ := Aside0.mk (HS.out.step hb); have n1_ := Aside0.mk (below_step' HB.out HS.out.size hb); clear HS HB; have HS := n0_; have HB := n1_; clear n0_ n1_; (try simp only [List.eraseIdx_cons_succ, List.eraseIdx_cons_zero] at HS); clear hb hc0_0 hc0_1 hc1_0 hc1_1 hc2_0))
  go_ret
  exact ⟨rfl, (HS.out.pick 2 rfl).swap.drop.swap.drop, HB.out⟩

theorem add_add (a : Addr) (i j : Nat) : (a.add i).add j = a.add (i + j) := by
  unfold Addr.add
  by_cases h1 : i = 0 <;> by_cases h2 : j = 0 <;> simp [h1, h2, Nat.add_assoc]
theorem at_sub {w : World} {ad : Addr} {n : Nat} {xs : List S52} (h : Kd.C k52 w (some ad) n xs) (a2 : Addr) (k : Nat) (ha2 : a2 = ad.add (k * 2)) (q : Nat) (hlt : k + q < n) (x : S52) (hx : rd_T52 xs ((k + q : Nat) : Int) = x) :
    w.cell? (a2.add (q * 2)) = some (.int .i64 x.f0) ∧ w.cell? ⟨(a2.add (q * 2)).block, (a2.add (q * 2)).off + 1, none⟩ = some (.string x.f1) := by
  obtain ⟨ad2, e2, h0, h1⟩ := at_T52 h ((k + q : Nat) : Int) (by omega) (by omega)
  cases e2
  rw [Int.toNat_natCast, hx, show (k + q) * 2 = k * 2 + q * 2 by omega] at h0 h1
  rw [ha2, add_add]
  exact ⟨h0, h1⟩
theorem meas_q (j n : Nat) (h : j < n) : ((n : Int) - ((j : Int) + 1)).toNat < ((n : Int) - (j : Int)).toNat := by omega
theorem meas_i (j n : Nat) (h : j < n) : ((n : Int) - intOf (Value.int .i64 ((j : Int) + 1))).toNat < ((n : Int) - intOf (Value.int .i64 (j : Int))).toNat := meas_q j n h
theorem next_cell (w : World) (A : Addr) (v : Value) : (w.setCell A v).cell? ⟨A.block, A.off + 1, none⟩ = w.cell? ⟨A.block, A.off + 1, none⟩ :=
  World.cell?_setCell_other _ _ _ _ (by intro e; have := congrArg Addr.off e; simp at this)
section
variable {N : Nat} {w w0 w1 : World} {L : List Res} {g n cap : Nat} {l : List S52} {ad : Addr}
theorem frozen_row (had : ad = ⟨g, 0, none⟩) (h : St N w (Row k52 52 (.slice (some ad) n cap) l :: L)) (i : Nat) : w.frozen? (ad.add (i * 2)) = false ∧ w.frozen? ⟨(ad.add (i * 2)).block, (ad.add (i * 2)).off + 1, none⟩ = false := by
  subst had
  obtain ⟨_, cur, _, _, _, _, h5⟩ := St.rowBlk h
  rw [Addr.add_lit]
  exact ⟨h5.frozen _, h5.frozen _⟩
theorem elem_ad (had : ad = ⟨g, 0, none⟩) (h : St N w (Row k52 52 (.slice (some ad) n cap) l :: L)) (hb : Below N w0 w) (i : Nat) (x : S52) (hi : i < l.length) (e : w1 = (w.setCell (ad.add (i * 2)) (.int .i64 x.f0)).setCell ⟨(ad.add (i * 2)).block, (ad.add (i * 2)).off + 1, none⟩ (.string x.f1)) : St N w1 (Row k52 52 (.slice (some ad) n cap) (l.set i x) :: L) ∧ Below N w0 w1 := by
  subst had
  rw [Addr.add_lit, Nat.zero_add] at e
  exact ⟨St.setElem h i x hi e, St.below_elem h hb e⟩
end

def cpf.T6 : Bool × List (List Nat × List Nat) := (true, [([], []), ([], []), ([], []), ([1, 2], [1, 2]), ([3], [3]), ([], []), ([], []), ([6], [6]), ([5, 7], [5, 7]), ([8], [8]), ([0, 4, 9], [0, 4, 9])])
def cpf.B6 : List Nat := [0, 0, 0, 6, 14, 0, 0, 64, 224, 480, 1023]
theorem cpf.tab6 : rtab .any (opsOf Try.f82 6) = cpf.T6 := by kernel_rfl
theorem cpf.bits6 : waitsOk cpf.T6.2 cpf.B6 = true := by kernel_rfl
def cpf.T11 : Bool × List (List Nat × List Nat) := (true, [([], []), ([], []), ([], []), ([1, 2], [1, 2]), ([3], [3]), ([], []), ([], []), ([6], [6]), ([5, 7], [5, 7]), ([8], [8]), ([0, 4, 9], [0, 4, 9]), ([10], [10])])
def cpf.B11 : List Nat := [0, 0, 0, 6, 14, 0, 0, 64, 224, 480, 1023, 2047]
theorem cpf.tab11 : rtab .any (opsOf Try.f82 11) = cpf.T11 := by kernel_rfl
theorem cpf.bits11 : waitsOk cpf.T11.2 cpf.B11 = true := by kernel_rfl
theorem cpf_small (l : List S52) (hl : l.length < 2) (v : Value) (fv : Value) {N : Nat} {w : World} {L : List Res} (HS0 : St N w (Row k52 52 v l :: L)) :
    Calls Try.prog 82 #[v, fv] w fun e w' => e = .returned v ∧ w' = w := by
  obtain ⟨A, c, e, _, _⟩ := HS0.reads
  subst e
  have q1 : decide ((l.length : Int) < 2) = true := decide_eq_true (by omega)
  go_enter Try.func82, Try.ntmps82
  go_wp2
  go_ret
  exact ⟨rfl, rfl⟩
theorem cpf_great (l : List S52) (hl2 : 2 ≤ l.length) (hl : l.length ≤ 1000000) (ad : Addr) (g cap : Nat) (had : Aside0 (ad = ⟨g, 0, none⟩)) (b : Nat) {N : Nat} {w : World} {L : List Res} (HS0 : St N w (Row k52 52 (.slice (some ad) l.length cap) l :: Blk b #[.func (.func 55) #[] #[]] 74 :: L)) :
    Calls Try.prog 82 #[.slice (some ad) l.length cap, .func (.func 83) #[] #[.pointer (some ⟨b, 0, none⟩)]] w fun e w' => ∃ v', e = .returned v' ∧ St N w' (Row k52 52 v' (cp l l.length) :: Blk b #[.func (.func 55) #[] #[]] 74 :: L) ∧ Below N w w' := by
  have HS := Aside0.mk HS0
  have HB := Aside0.mk (Below.refl N w)
  clear HS0
  have q0 : decide ((l.length : Int) < 2) = false := decide_eq_false (by omega)
  go_enter Try.func82, Try.ntmps82
  go_upto_region 4 with (fail)
  go_wp2
  go_loopw [5] (fun v5 wc => ∃ k : Nat, 1 ≤ k ∧ k ≤ l.length ∧ cp l k = l.take k ∧ v5 = .int .i64 k ∧ Aside0 (St N wc (Row k52 52 (.slice (some ad) l.length cap) l :: Blk b #[.func (.func 55) #[] #[]] 74 :: L)) ∧ Aside0 (Below N w wc)) (fun v5 _ => (l.length - intOf v5).toNat)
  case atStart => exact ⟨1, Nat.le_refl _, by omega, by rw [cp_one, take_rd l 0 (by omega)]; rfl, rfl, HS, HB⟩
  case round =>
    clear HS HB
    obtain ⟨k, hk1, hkn, hcp, rfl, HS, HB⟩ := hrel
    by_cases hlt : k < l.length
    · obtain ⟨j, hj⟩ : ∃ j, k = j + 1 := ⟨k - 1, by omega⟩
      obtain ⟨ad2, e2, hx0, hx1⟩ := at_T52 (HS.out.pick 0 rfl).rowC.2.2 ((k : Nat) : Int) (by omega) (by omega)
      cases e2
      rw [Int.toNat_natCast] at hx0 hx1
      replace hx0 := Aside0.mk hx0
      replace hx1 := Aside0.mk hx1
      obtain ⟨ad2, e2, hy0, hy1⟩ := at_T52 (HS.out.pick 0 rfl).rowC.2.2 ((j : Nat) : Int) (by omega) (by omega)
      cases e2
      rw [Int.toNat_natCast] at hy0 hy1
      replace hy0 := Aside0.mk hy0
      replace hy1 := Aside0.mk hy1
      have hj' := Aside0.mk hj
      have hcp' := Aside0.mk hcp
      have p1 : (0 : Int) ≤ (k : Int) := by omega
      have p2 : (k : Int) < (l.length : Int) := by omega
      have p3 : decide ((k : Int) < (l.length : Int)) = true := decide_eq_true p2
      have p4 : wrap64 ((k : Int) - 1) = (j : Int) := by rw [wrap64_small _ (by omega) (by omega)]; omega
      have p5 : (0 : Int) ≤ (j : Int) := by omega
      have p6 : (j : Int) < (l.length : Int) := by omega
      clear hj hcp
      go_upto_region 6 with (fail)
      have n2_ := Aside0.mk (show wr.drew.cell? _ = _ from hx0.out); clear hx0; have hx0 := n2_; clear n2_
      have n2_ := Aside0.mk (show wr.drew.cell? _ = _ from hx1.out); clear hx1; have hx1 := n2_; clear n2_
      have n2_ := Aside0.mk (show wr.drew.cell? _ = _ from hy0.out); clear hy0; have hy0 := n2_; clear n2_
      have n2_ := Aside0.mk (show wr.drew.cell? _ = _ from hy1.out); clear hy1; have hy1 := n2_; clear n2_
      have n0_ := Aside0.mk (HS.out.drew); have n1_ := Aside0.mk (HB.out.drew); clear HS HB; have HS := n0_; have HB := n1_; clear n0_ n1_
      refine start_ (n := 11) (S := fun w' => w'.cell? (ad.add (k * 2)) = some (.int .i64 (rd_T52 l (k : Int)).f0) ∧ w'.cell? ⟨(ad.add (k * 2)).block, (ad.add (k * 2)).off + 1, none⟩ = some (.string (rd_T52 l (k : Int)).f1) ∧ w'.cell? (ad.add (j * 2)) = some (.int .i64 (rd_T52 l (j : Int)).f0) ∧ w'.cell? ⟨(ad.add (j * 2)).block, (ad.add (j * 2)).off + 1, none⟩ = some (.string (rd_T52 l (j : Int)).f1)) (ds := []) #[false, false, false, false, false, false, false, false, false, false, false] (by kernel_rfl) rfl rfl ⟨hx0.out, hx1.out, hy0.out, hy1.out⟩ (fun hHeld => ?_); refine with_tabW cpf.tab6 cpf.bits6 (fun HT_ HW_ => ?_)
      generalize wr.drew = w2 at HS HB hx0 hx1 hy0 hy1 hHeld ⊢
      refine pU 0 18 #[true, false, false, false, false, false, false, false, false, false, false] rfl rfl HT_ ?_
      refine pU 1 19 #[true, true, false, false, false, false, false, false, false, false, false] rfl rfl HT_ ?_
      refine pU 2 20 #[true, true, true, false, false, false, false, false, false, false, false] rfl rfl HT_ ?_
      refine pU 3 21 #[true, true, true, true, false, false, false, false, false, false, false] rfl rfl HT_ ?_
      refine pU 5 23 #[true, true, true, true, false, true, false, false, false, false, false] rfl rfl HT_ ?_
      refine pU 6 24 #[true, true, true, true, false, true, true, false, false, false, false] rfl rfl HT_ ?_
      refine pU 7 25 #[true, true, true, true, false, true, true, true, false, false, false] rfl rfl HT_ ?_
      refine pU 8 26 #[true, true, true, true, false, true, true, true, true, false, false] rfl rfl HT_ ?_
      refine tK 4 22 #[true, true, true, true, true, true, true, true, true, false, false] rfl rfl HT_ HW_ hHeld ?_ (by rintro w' ⟨s0, s1, s2, s3⟩; go_simp; with_reducible rfl)
      refine tK 9 27 #[true, true, true, true, true, true, true, true, true, true, false] rfl rfl HT_ HW_ hHeld ?_ (by rintro w' ⟨s0, s1, s2, s3⟩; go_simp; with_reducible rfl)
      refine one_ (i := 10) (N := some 28) #[true, true, true, true, true, true, true, true, true, true, true] rfl rfl (one_of HT_.out (by kernel_rfl)) (by decide) (fun K hK => ?_)
      refine goesV_ #[.pointer (some ⟨b, 0, none⟩)] Try.func83 (by kernel_rfl) rfl #[.agg #[.int .i64 (rd_T52 l (k : Int)).f0, .string (rd_T52 l (k : Int)).f1], .agg #[.int .i64 (rd_T52 l (j : Int)).f0, .string (rd_T52 l (j : Int)).f1], .pointer (some ⟨b, 0, none⟩)] (by rfl) rfl rfl (by rfl) (by (try simp only [List.map_toArray, List.map_cons, List.map_nil]); first | done | rfl | (simp; done)) ?_
      with_reducible refine (eq83_ok (rd_T52 l (k : Int)) (rd_T52 l (j : Int)) b (HS.out.pick 1 rfl)).mono ?_
      rintro e w3 ⟨rfl, hs1, hb⟩
      refine ⟨_, rfl, ?_⟩
      have n0_ := Aside0.mk (hs1.pick 1 rfl); have n1_ := Aside0.mk (HB.out.trans hb); clear HS HB; have HS := n0_; have HB := n1_; clear n0_ n1_; (try simp only [List.eraseIdx_cons_succ, List.eraseIdx_cons_zero] at HS)
      clear hs1 hx0 hx1 hy0 hy1; obtain ⟨ad2, e2, hx0, hx1⟩ := at_T52 (HS.out.pick 0 rfl).rowC.2.2 ((k : Nat) : Int) (by omega) (by omega); cases e2; rw [Int.toNat_natCast] at hx0 hx1; replace hx0 := Aside0.mk hx0; replace hx1 := Aside0.mk hx1; obtain ⟨ad2, e2, hy0, hy1⟩ := at_T52 (HS.out.pick 0 rfl).rowC.2.2 ((j : Nat) : Int) (by omega) (by omega); cases e2; rw [Int.toNat_natCast] at hy0 hy1; replace hy0 := Aside0.mk hy0; replace hy1 := Aside0.mk hy1; clear hb
      refine hK.out _ _ ⟨hx0.out, hx1.out, hy0.out, hy1.out⟩ (fun hHeld => ?_)
      clear hK K
      refine norm_ (a' := ?_) ?_ ?_
      rotate_left
      · show Act.put _ (some 28) _ = _
        simp only [Act.put, List.setIfInBounds_toArray, List.set_cons_zero, List.set_cons_succ, i64_w, i32_w]
        rfl
      refine done_ (done_of HT_.out (by kernel_rfl)) ?_
      clear HT_ HW_
      try clear hHeld
      by_cases hh : (kcmp (rd_T52 l (k : Int)) (rd_T52 l (j : Int)) == 0) = true
      · rw [hh]
        have hcc := (HS.out.pick 0 rfl).rowC.2.1
        have r1 : (k : Int) ≤ (cap : Int) := by omega
        have r2 : (k : Int) ≤ (l.length : Int) := by omega
        have r3 : ¬ cap = k := by omega
        clear hcc
        go_upto_region 9 with (fail)
        obtain ⟨d, hd⟩ : ∃ d, d = l.length - k := ⟨_, rfl⟩
        obtain ⟨a2, ha2⟩ : ∃ a, a = ad.add (k * 2) := ⟨_, rfl⟩
        obtain ⟨c2, hc2⟩ : ∃ c, c = cap - k := ⟨_, rfl⟩
        rw [← hd, ← ha2, ← hc2]
        replace hd := Aside0.mk hd
        replace ha2 := Aside0.mk ha2
        have hlt' := Aside0.mk hlt
        clear hx0 hx1 hy0 hy1 r1 r2 r3 p1 p2 p3 p4 p5 p6 hc2 hlt hk1 hkn
        go_loopw [5, 7] (fun v5 v7 wc => ∃ (m q : Nat) (xs : List S52), 1 ≤ q ∧ q ≤ d ∧ k ≤ m ∧ m + 1 ≤ k + q ∧ v5 = .int .i64 m ∧ v7 = .int .i64 q ∧ Aside0 (xs.length = l.length ∧ cp l (k + q) = xs.take m ∧ ∀ r, k + q ≤ r + 1 → r < l.length → rd_T52 xs (r : Int) = rd_T52 l (r : Int)) ∧ Aside0 (St N wc (Row k52 52 (.slice (some ad) l.length cap) xs :: Blk b #[.func (.func 55) #[] #[]] 74 :: L)) ∧ Aside0 (Below N w wc)) (fun _ v7 _ => (d - intOf v7).toNat)
        case atStart =>
          refine ⟨k, 1, l, Nat.le_refl _, by have := hd.out; have := hlt'.out; omega, Nat.le_refl _, Nat.le_refl _, rfl, rfl, ⟨rfl, ?_, fun _ _ _ => rfl⟩, HS, HB⟩
          have hk1 : 0 < k := by have := hj'.out; omega
          rw [cp_hit l k hk1 (by rw [show k - 1 = j by have := hj'.out; omega]; exact (kz_iff _ _).mp (by simpa using hh)), hcp'.out]
        case round =>
          clear HS HB
          obtain ⟨m, q, xs, hq1, hqd, hkm, hmq, rfl, rfl, HX, HS, HB⟩ := hrel
          by_cases hlt2 : q < d
          · obtain ⟨p, hp⟩ : ∃ p, q = p + 1 := ⟨q - 1, by omega⟩
            obtain ⟨x, hx⟩ : ∃ x, rd_T52 l ((k + q : Nat) : Int) = x := ⟨_, rfl⟩
            obtain ⟨y, hy⟩ : ∃ y, rd_T52 l ((k + p : Nat) : Int) = y := ⟨_, rfl⟩
            have hxv : Aside0 (rd_T52 xs ((k + q : Nat) : Int) = x) := ⟨(HX.out.2.2 (k + q) (by omega) (by have := hd.out; omega)).trans hx⟩
            have hyv : Aside0 (rd_T52 xs ((k + p : Nat) : Int) = y) := ⟨(HX.out.2.2 (k + p) (by omega) (by have := hd.out; omega)).trans hy⟩
            replace hx := Aside0.mk hx
            replace hy := Aside0.mk hy
            have p1 : (0 : Int) ≤ (q : Int) := by omega
            have p2 : (q : Int) < (d : Int) := by omega
            have p3 : decide ((q : Int) < (d : Int)) = true := decide_eq_true p2
            have p4 : wrap64 ((q : Int) - 1) = (p : Int) := by rw [wrap64_small _ (by omega) (by have := hd.out; omega)]; omega
            have p7 : wrap64 ((q : Int) + 1) = (q : Int) + 1 := wrap64_small _ (by omega) (by have := hd.out; omega)
            have p5 : (0 : Int) ≤ (p : Int) := by omega
            have p6 : (p : Int) < (d : Int) := by omega
            have hm : Aside0 (m < xs.length) := ⟨by have := HX.out.1; have := hd.out; omega⟩
            replace hp := Aside0.mk hp
            replace hmq := Aside0.mk hmq
            replace hq1 := Aside0.mk hq1
            replace hqd := Aside0.mk hqd
            replace hkm := Aside0.mk hkm
            obtain ⟨hx0, hx1⟩ := at_sub (HS.out.pick 0 rfl).rowC.2.2 a2 k ha2.out q (by have := HX.out.1; have := hd.out; omega) x hxv.out
            replace hx0 := Aside0.mk hx0
            replace hx1 := Aside0.mk hx1
            obtain ⟨hy0, hy1⟩ := at_sub (HS.out.pick 0 rfl).rowC.2.2 a2 k ha2.out p (by have := HX.out.1; have := hd.out; omega) y hyv.out
            replace hy0 := Aside0.mk hy0
            replace hy1 := Aside0.mk hy1
            go_upto_region 11 with (fail)
            have n2_ := Aside0.mk (show wr.drew.cell? _ = _ from hx0.out); clear hx0; have hx0 := n2_; clear n2_
            have n2_ := Aside0.mk (show wr.drew.cell? _ = _ from hx1.out); clear hx1; have hx1 := n2_; clear n2_
            have n2_ := Aside0.mk (show wr.drew.cell? _ = _ from hy0.out); clear hy0; have hy0 := n2_; clear n2_
            have n2_ := Aside0.mk (show wr.drew.cell? _ = _ from hy1.out); clear hy1; have hy1 := n2_; clear n2_
            have n0_ := Aside0.mk (HS.out.drew); have n1_ := Aside0.mk (HB.out.drew); clear HS HB; have HS := n0_; have HB := n1_; clear n0_ n1_
            refine start_ (n := 12) (S := fun w' => w'.cell? (a2.add (q * 2)) = some (.int .i64 x.f0) ∧ w'.cell? ⟨(a2.add (q * 2)).block, (a2.add (q * 2)).off + 1, none⟩ = some (.string x.f1) ∧ w'.cell? (a2.add (p * 2)) = some (.int .i64 y.f0) ∧ w'.cell? ⟨(a2.add (p * 2)).block, (a2.add (p * 2)).off + 1, none⟩ = some (.string y.f1)) (ds := []) (tfs true [0, 12]).toArray (by kernel_rfl) rfl rfl ⟨hx0.out, hx1.out, hy0.out, hy1.out⟩ (fun hHeld => ?_); refine with_tabW cpf.tab11 cpf.bits11 (fun HT_ HW_ => ?_)
            generalize wr.drew = w4 at HS HB hx0 hx1 hy0 hy1 hHeld ⊢
            refine pU 0 38 (tfs true [1, 11]).toArray rfl rfl HT_ ?_
            refine pU 1 39 (tfs true [2, 10]).toArray rfl rfl HT_ ?_
            refine pU 2 40 (tfs true [3, 9]).toArray rfl rfl HT_ ?_
            refine pU 3 41 (tfs true [4, 8]).toArray rfl rfl HT_ ?_
            refine pU 5 43 (tfs true [4, 1, 1, 6]).toArray rfl rfl HT_ ?_
            refine pU 6 44 (tfs true [4, 1, 2, 5]).toArray rfl rfl HT_ ?_
            refine pU 7 45 (tfs true [4, 1, 3, 4]).toArray rfl rfl HT_ ?_
            refine pU 8 46 (tfs true [4, 1, 4, 3]).toArray rfl rfl HT_ ?_
            refine tK 4 42 (tfs true [9, 3]).toArray rfl rfl HT_ HW_ hHeld ?_ (by rintro w' ⟨s0, s1, s2, s3⟩; go_simp; with_reducible rfl)
            refine tK 9 47 (tfs true [10, 2]).toArray rfl rfl HT_ HW_ hHeld ?_ (by rintro w' ⟨s0, s1, s2, s3⟩; go_simp; with_reducible rfl)
            refine one_ (i := 10) (N := some 48) (tfs true [11, 1]).toArray rfl rfl (one_of HT_.out (by kernel_rfl)) (by decide) (fun K hK => ?_)
            refine goesV_ #[.pointer (some ⟨b, 0, none⟩)] Try.func83 (by kernel_rfl) rfl #[.agg #[.int .i64 x.f0, .string x.f1], .agg #[.int .i64 y.f0, .string y.f1], .pointer (some ⟨b, 0, none⟩)] (by rfl) rfl rfl (by rfl) (by (try simp only [List.map_toArray, List.map_cons, List.map_nil]); first | done | rfl | (simp; done)) ?_
            with_reducible refine (eq83_ok x y b (HS.out.pick 1 rfl)).mono ?_
            rintro e w5 ⟨rfl, hs1, hb⟩
            refine ⟨_, rfl, ?_⟩
            have n0_ := Aside0.mk (hs1.pick 1 rfl); have n1_ := Aside0.mk (HB.out.trans hb); clear HS HB; have HS := n0_; have HB := n1_; clear n0_ n1_; (try simp only [List.eraseIdx_cons_succ, List.eraseIdx_cons_zero] at HS)
            clear hs1 hx0 hx1 hy0 hy1; obtain ⟨hx0, hx1⟩ := at_sub (HS.out.pick 0 rfl).rowC.2.2 a2 k ha2.out q (by have := HX.out.1; have := hd.out; omega) x hxv.out; replace hx0 := Aside0.mk hx0; replace hx1 := Aside0.mk hx1; obtain ⟨hy0, hy1⟩ := at_sub (HS.out.pick 0 rfl).rowC.2.2 a2 k ha2.out p (by have := HX.out.1; have := hd.out; omega) y hyv.out; replace hy0 := Aside0.mk hy0; replace hy1 := Aside0.mk hy1; clear hb
            refine hK.out _ _ ⟨hx0.out, hx1.out, hy0.out, hy1.out⟩ (fun hHeld => ?_)
            clear hK K
            refine norm_ (a' := ?_) ?_ ?_
            rotate_left
            · show Act.put _ (some 48) _ = _
              simp only [Act.put, List.setIfInBounds_toArray, List.set_cons_zero, List.set_cons_succ, i64_w, i32_w]
              rfl
            refine pU 11 49 (tfs true [12]).toArray rfl rfl HT_ ?_
            refine done_ (done_of HT_.out (by kernel_rfl)) ?_
            clear HT_ HW_
            try clear hHeld
            by_cases hh2 : (kcmp x y == 0) = true
            · rw [hh2]
              clear hx0 hx1 hy0 hy1
              go_wp2
              go_roundw
              case rel =>
                refine ⟨m, q + 1, xs, by omega, by omega, hkm.out, by have := hmq.out; omega, by go_num, by go_num, ⟨HX.out.1, ?_, fun r h1 h2 => HX.out.2.2 r (by omega) h2⟩, HS, HB⟩
                rw [show k + (q + 1) = k + q + 1 by omega, cp_hit l (k + q) (by have := hq1.out; omega) (by rw [show k + q - 1 = k + p by have := hp.out; omega, hx.out, hy.out]; exact (kz_iff _ _).mp (by simpa using hh2)), HX.out.2.1]
              case measure =>
                (try rw [p7])
                exact meas_i q d hlt2
            · rw [Bool.eq_false_iff.mpr hh2]
              replace hx0 := hx0.out
              replace hx1 := hx1.out
              clear hy0 hy1
              obtain ⟨ad2, e2, hz0, hz1⟩ := at_T52 (HS.out.pick 0 rfl).rowC.2.2 (m : Int) (by omega) (by have := hm.out; have := HX.out.1; omega)
              cases e2
              rw [Int.toNat_natCast] at hz0 hz1
              obtain ⟨hf0, hf1⟩ := frozen_row had.out HS.out m
              have hz2 := (next_cell w5 (ad.add (m * 2)) (.int .i64 x.f0)).trans hz1
              have s1 : (0 : Int) ≤ (m : Int) := by omega
              have s3 : wrap64 ((m : Int) + 1) = (m : Int) + 1 := wrap64_small _ (by omega) (by have := hm.out; have := HX.out.1; omega)
              have s2 : (m : Int) < (l.length : Int) := by have := hm.out; have := HX.out.1; omega
              go_wp2_with (first | ((with_reducible refine gate_store (t := 52) (p := 56) rfl ?_); refine store_event (t := 52) (p := 56) (v := .tmp 55) (w1 := ?_) rfl rfl rfl ?_ ?_; rotate_left; (focus (first | (go_simp; done) | (go_simp; rfl))); intro w6 hw; have n0_ := Aside0.mk ((elem_ad had.out HS.out HB.out m x hm.out hw).1); have n1_ := Aside0.mk ((elem_ad had.out HS.out HB.out m x hm.out hw).2); clear HS HB; have HS := n0_; have HB := n1_; clear n0_ n1_; (try simp only [List.eraseIdx_cons_succ, List.eraseIdx_cons_zero] at HS); clear hw; clear hz0 hz1 hz2 hf0 hf1 hx0 hx1))
              go_roundw
              case rel =>
                refine ⟨m + 1, q + 1, xs.set m x, by omega, by omega, by have := hkm.out; omega, by have := hmq.out; omega, by go_num, by go_num, ⟨by rw [List.length_set]; exact HX.out.1, ?_, fun r h1 h2 => ?_⟩, HS, HB⟩
                · rw [show k + (q + 1) = k + q + 1 by omega, cp_miss l (k + q) (by rw [show k + q - 1 = k + p by have := hp.out; omega, hx.out, hy.out]; exact fun e => hh2 (by rw [(kz_iff _ _).mpr e]; rfl)), HX.out.2.1, hx.out, take_rd _ _ (by rw [List.length_set]; exact hm.out), rd_set _ _ _ _ hm.out, if_pos rfl, List.take_set_of_le (Nat.le_refl _)]
                · rw [rd_set _ _ _ _ hm.out, if_neg (by have := hmq.out; omega)]
                  exact HX.out.2.2 r (by omega) h2
              case measure =>
                (try rw [p7])
                exact meas_i q d hlt2
          · have p3 : decide ((q : Int) < (d : Int)) = false := decide_eq_false (by omega)
            have e9 : k + q = l.length := by have := hd.out; have := hlt'.out; omega
            have hcc := (HS.out.pick 0 rfl).rowC.2.1
            have hxl := HX.out.1
            have r1 : (m : Int) ≤ (cap : Int) := by omega
            have r2 : (m : Int) ≤ (l.length : Int) := by omega
            have r3 : ¬ cap = m := by omega
            have r4 : (0 : Int) ≤ (m : Int) := by omega
            replace e9 := Aside0.mk e9
            replace hmq := Aside0.mk hmq
            clear hcc hxl hqd hq1
            go_wp2_with (first | (refine S_clear rfl (.tmp 61) rfl rfl g _ cap m (l.length - m) (cap - m) xs (ad.add (m * 2)) (by rw [had.out, Addr.add_lit]; simp) (by first | rfl | (go_simp; done)) (by have := HX.out.1; have := e9.out; have := hmq.out; omega) (by have := HX.out.1; omega) (by have := HS.out; have e_ := had.out; subst e_; exact this) HB.out ?_; intro w7 hs hb; have n0_ := Aside0.mk (hs); have n1_ := Aside0.mk (hb); clear HS HB; have HS := n0_; have HB := n1_; clear n0_ n1_; (try simp only [List.eraseIdx_cons_succ, List.eraseIdx_cons_zero] at HS); clear hs hb))
            go_ret
            refine ⟨_, rfl, ?_, HB.out⟩
            have h7 := HX.out.2.1
            rw [e9.out] at h7
            rw [h7]
            have e_ := had.out
            subst e_
            exact HS.out
      · rw [Bool.eq_false_iff.mpr hh]
        go_wp2
        go_roundw
        case rel =>
          refine ⟨k + 1, by omega, by omega, ?_, by go_num, HS, HB⟩
          have hne : ¬ rd_T52 l (k : Int) = rd_T52 l ((k - 1 : Nat) : Int) := by
            rw [show k - 1 = j by have := hj'.out; omega]
            intro h
            apply hh
            rw [h, (kz_iff _ _).mpr rfl]
            rfl
          rw [cp_miss l k hne, hcp'.out, take_rd l k hlt]
        case measure => simp [intOf]; omega
    · have p3 : decide ((k : Int) < (l.length : Int)) = false := decide_eq_false (by omega)
      obtain rfl : k = l.length := by omega
      go_wp2
      go_ret
      refine ⟨_, rfl, ?_, HB.out⟩
      rw [hcp, List.take_length]
      exact HS.out

end Go.Proofs.Ytddhpkobingmhaa.PB
end

/-! # Sk21 -/
section
namespace Go.Proofs.Ytddhpkobingmhaa.PB
open Go.RowKit Go.Proofs.YtddhpkobingmhaaW.PrintWords Go.Proofs.YtddhpkobingmhaaW.PrintLast Go.Proofs.YtddhpkobingmhaaW.PrintMore Go.Proofs.Ytddhpkobingmhaa.Sep
set_option linter.unusedVariables false
set_option linter.unusedSimpArgs false
set_option maxHeartbeats 8000000
set_option maxRecDepth 100000

theorem grow_zero (w : World) : Calls Try.prog 91 #[.slice none 0 0, .int .i64 0] w fun e w' => e = .returned (.slice none 0 0) ∧ w' = w := by
  go_enter Try.func91, Try.ntmps91
  go_wp2
  go_ret
  exact ⟨rfl, rfl⟩
theorem grow_some (n : Nat) (hn0 : 0 < n) (hn : n ≤ 2000000) {N : Nat} {w : World} {L : List Res} (HS0 : St N w L) :
    Calls Try.prog 91 #[.slice none 0 0, .int .i64 n] w fun e w' => ∃ v, e = .returned v ∧ St N w' (Row k52 52 v [] :: L) ∧ Below N w w' := by
  have HS := Aside0.mk (HS0.rowNil (d := k52) (e := 52))
  have HB := Aside0.mk (Below.refl N w)
  clear HS0
  have q0 : (0 : Int) ≤ (n : Int) := by omega
  have q1 : decide ((n : Int) < 0) = false := decide_eq_false (by omega)
  have q2 : wrap64 (n : Int) = (n : Int) := wrap64_small _ (by omega) (by omega)
  have q3 : decide ((n : Int) > 0) = true := decide_eq_true (by omega)
  have q4 : decide ((0 : Int) < (n : Int)) = true := decide_eq_true (by omega)
  go_enter Try.func91, Try.ntmps91
  go_wp2_with (first | ((with_reducible refine gate_builtin (b := .append) (xs := #[.tmp 20, .tmp 21]) rfl ?_); refine S_append_zs k52 rfl (.tmp 20) (.tmp 21) 26 3 52 (.agg #[(.int .i64 0), (.string ⟨#[]⟩)]) 24 rfl Try.underlying26 Try.underlying3 info52 rfl (by decide) (by omega) (.slice none 0 0) [] z52 (kx := .i64) (n : Int) rfl rfl (flatK.M _ _ _ z52) HS.out q0 HB.out (by simp; omega) ?_; intro v1 w1 hs hb; have n0_ := Aside0.mk (hs); have n1_ := Aside0.mk (hb); clear HS HB; have HS := n0_; have HB := n1_; clear n0_ n1_; (try simp only [List.eraseIdx_cons_succ, List.eraseIdx_cons_zero] at HS); clear hs hb; obtain ⟨A1, c1, e1⟩ : ∃ (A : Option Addr) (c : Nat), v1 = .slice A n c := (by obtain ⟨A, c, e, _, _⟩ := HS.out.reads; exact ⟨A, c, by simpa using e⟩); subst e1))
  go_ret
  refine ⟨_, rfl, ?_, HB.out⟩
  have := St.cutRow flatK HS.out 0 (Nat.zero_le _)
  simpa using this

theorem grow_ok (z : Int) (h0 : 0 ≤ z) (h1 : z ≤ 2000000) {N : Nat} {w : World} {L : List Res} (HS0 : St N w L) :
    Calls Try.prog 91 #[.slice none 0 0, .int .i64 z] w fun e w' => ∃ v, e = .returned v ∧ St N w' (Row k52 52 v [] :: L) ∧ Below N w w' := by
  by_cases hz : z = 0
  · subst hz
    refine (grow_zero w).mono ?_
    rintro e w' ⟨rfl, rfl⟩
    exact ⟨_, rfl, HS0.rowNil, Below.refl _ _⟩
  · obtain ⟨n, rfl⟩ := Int.eq_ofNat_of_zero_le h0
    exact grow_some n (by omega) (by omega) HS0

theorem concat_ok (l1 l2 : List S52) (b1 : l1.length ≤ 1000) (b2 : l2.length ≤ 1000) (A1 A2 : Option Addr) (c1 c2 o : Nat) {N : Nat} {L : List Res} (hC : ∀ w', St N w' L → (k52.C w' A1 l1.length l1 ∧ l1.length ≤ c1) ∧ (k52.C w' A2 l2.length l2 ∧ l2.length ≤ c2)) {w : World} (HS0 : St N w (Blk o #[.slice A1 l1.length c1, .slice A2 l2.length c2] 26 :: L)) :
    Calls Try.prog 80 #[.slice (some ⟨o, 0, none⟩) 2 2] w fun e w' => ∃ v, e = .returned v ∧ St N w' (Row k52 52 v (l1 ++ l2) :: Blk o #[.slice A1 l1.length c1, .slice A2 l2.length c2] 26 :: L) ∧ Below N w w' := by
  have HS := Aside0.mk HS0
  have HB := Aside0.mk (Below.refl N w)
  clear HS0
  have hc0_0 := ((HS.out.pick 0 rfl).cell 0).trans (show _ = some (.slice A1 l1.length c1) from rfl)
  have hc0_1 := ((HS.out.pick 0 rfl).cell 1).trans (show _ = some (.slice A2 l2.length c2) from rfl)
  have q1 : wrap64 (l1.length : Int) = (l1.length : Int) := wrap64_small _ (by omega) (by omega)
  have q2 : wrap64 ((l1.length : Int) + (l2.length : Int)) = (l1.length : Int) + (l2.length : Int) := wrap64_small _ (by omega) (by omega)
  have q3 : decide ((l1.length : Int) < 0) = false := decide_eq_false (by omega)
  have q4 : decide ((l1.length : Int) + (l2.length : Int) < 0) = false := decide_eq_false (by omega)
  have q5 : (0 : Int) ≤ (l1.length : Int) + (l2.length : Int) := by omega
  have q6 : (l1.length : Int) + (l2.length : Int) ≤ 2000000 := by omega
  go_enter Try.func80, Try.ntmps80
  go_wp2
  refine wp_loop_rounds 3 ?_
  rw [rounds_succ]
  go_wp2
  rw [rounds_succ]
  go_wp2
  rw [rounds_succ]
  go_wp2_with (first | ((with_reducible refine gate_callee (f := 91) rfl ?_); refine goesL_ (some 24) rfl rfl Try.func91 (by kernel_rfl) rfl #[.slice none 0 0, .int .i64 ((l1.length : Int) + (l2.length : Int))] rfl (by (try simp only [List.map_toArray, List.map_cons, List.map_nil]); first | done | rfl | (simp only [List.length_drop, List.length_take]; rfl)) ?_; (with_reducible refine (grow_ok _ q5 q6 HS.out).mono ?_); rintro e w1 ⟨vG, rfl, hs1, hb⟩; clear hc0_0 hc0_1; refine ⟨_, rfl, ?_⟩; have n0_ := Aside0.mk (hs1); have n1_ := Aside0.mk (HB.out.trans hb); clear HS HB; have HS := n0_; have HB := n1_; clear n0_ n1_; (try simp only [List.eraseIdx_cons_succ, List.eraseIdx_cons_zero] at HS); clear hs1 hb; have hc1_0 := ((HS.out.pick 1 rfl).cell 0).trans (show _ = some (.slice A1 l1.length c1) from rfl); have hc1_1 := ((HS.out.pick 1 rfl).cell 1).trans (show _ = some (.slice A2 l2.length c2) from rfl)))
  refine wp_loop_rounds 3 ?_
  rw [rounds_succ]
  go_wp2_with (first | ((with_reducible refine gate_builtin (b := .append) (xs := #[.tmp 31, .tmp 32]) rfl ?_); at_builtin; refine S_append_rows k52 rfl (.tmp 31) (.tmp 32) 26 52 (.agg #[(.int .i64 0), (.string ⟨#[]⟩)]) 24 rfl Try.underlying26 info52 rfl (by decide) (by omega) vG [] l1 A1 l1.length c1 rfl rfl (flat52 _ _) HS.out (hC _ HS.out.drop.drop).1.1 HB.out (by simp; omega) ?_; intro v1 w2 hs hb; have n0_ := Aside0.mk (hs); have n1_ := Aside0.mk (hb); clear HS HB; have HS := n0_; have HB := n1_; clear n0_ n1_; (try simp only [List.eraseIdx_cons_succ, List.eraseIdx_cons_zero] at HS); clear hs hb hc1_0 hc1_1; have hc1_0 := ((HS.out.pick 1 rfl).cell 0).trans (show _ = some (.slice A1 l1.length c1) from rfl); have hc1_1 := ((HS.out.pick 1 rfl).cell 1).trans (show _ = some (.slice A2 l2.length c2) from rfl)))
  rw [rounds_succ]
  go_wp2_with (first | ((with_reducible refine gate_builtin (b := .append) (xs := #[.tmp 31, .tmp 32]) rfl ?_); at_builtin; refine S_append_rows k52 rfl (.tmp 31) (.tmp 32) 26 52 (.agg #[(.int .i64 0), (.string ⟨#[]⟩)]) 24 rfl Try.underlying26 info52 rfl (by decide) (by omega) v1 ([] ++ l1) l2 A2 l2.length c2 rfl rfl (flat52 _ _) HS.out (hC _ HS.out.drop.drop).2.1 HB.out (by simp; omega) ?_; intro v2 w3 hs hb; have n0_ := Aside0.mk (hs); have n1_ := Aside0.mk (hb); clear HS HB; have HS := n0_; have HB := n1_; clear n0_ n1_; (try simp only [List.eraseIdx_cons_succ, List.eraseIdx_cons_zero] at HS); clear hs hb hc1_0 hc1_1; have hc1_0 := ((HS.out.pick 1 rfl).cell 0).trans (show _ = some (.slice A1 l1.length c1) from rfl); have hc1_1 := ((HS.out.pick 1 rfl).cell 1).trans (show _ = some (.slice A2 l2.length c2) from rfl)))
  rw [rounds_succ]
  go_wp2
  go_ret
  refine ⟨_, rfl, ?_, HB.out⟩
  simpa using HS.out

end Go.Proofs.Ytddhpkobingmhaa.PB
end

/-! # Sk22 -/
section
namespace Go.Proofs.Ytddhpkobingmhaa.PB
open Go.RowKit Go.Proofs.YtddhpkobingmhaaW.PrintWords Go.Proofs.YtddhpkobingmhaaW.PrintLast Go.Proofs.YtddhpkobingmhaaW.PrintMore Go.Proofs.Ytddhpkobingmhaa.Sep
set_option linter.unusedVariables false
set_option linter.unusedSimpArgs false
set_option maxHeartbeats 8000000
set_option maxRecDepth 100000

section
variable {N : Nat} {w w0 w1 : World} {L : List Res} {g : Nat} {t : TypeId} {x y z u a b c d : Value}
theorem St.set4 (h : St N w (Blk g #[x, y, z, u] t :: L)) (e : w1 = (((w.setCell ⟨g, 0, none⟩ a).setCell ⟨g, 1, none⟩ b).setCell ⟨g, 2, none⟩ c).setCell ⟨g, 3, none⟩ d) : St N w1 (Blk g #[a, b, c, d] t :: L) := by
  subst e; exact (((h.set 0 a #[a, y, z, u] rfl).set 1 b #[a, b, z, u] rfl).set 2 c #[a, b, c, u] rfl).set 3 d #[a, b, c, d] rfl
theorem St.below_set4 (h : St N w (Blk g #[x, y, z, u] t :: L)) (hb : Below N w0 w) (e : w1 = (((w.setCell ⟨g, 0, none⟩ a).setCell ⟨g, 1, none⟩ b).setCell ⟨g, 2, none⟩ c).setCell ⟨g, 3, none⟩ d) : Below N w0 w1 := by
  subst e; exact (((hb.setCell h.ge _).setCell h.ge _).setCell h.ge _).setCell h.ge _
theorem row_none {A : Option Addr} {n c : Nat} {l : List S52} (h : St N w (Row k52 52 (.slice A n c) l :: L)) : A = none → l = [] ∧ c = 0 := by
  rintro rfl
  rcases St.open_row flatK h with ⟨e1, h1⟩ | ⟨g, cap, cur, e1, _⟩
  · simp at e1; exact ⟨h1, e1.2⟩
  · cases e1
end

theorem Clone_sk (p Kn : Nat) (sd : Int) (l : List S52) (hK : Kn ≤ 1024) {N : Nat} {w : World} {L : List Res} (HS0 : St N w (Sk p Kn sd l :: L)) :
    Calls Try.prog 32 #[.pointer (some ⟨p, 0, none⟩)] w fun e w' => ∃ q : Nat, e = .returned (.pointer (some ⟨q, 0, none⟩)) ∧ St N w' (Sk q Kn sd l :: Sk p Kn sd l :: L) ∧ Below N w w' := by
  obtain ⟨v, hv⟩ := Sk_open HS0
  obtain ⟨A, c, e, _, _⟩ := hv.swap.reads
  subst e
  have hl : Aside0 ((l.take Kn).length ≤ 1000000) := ⟨by rw [List.length_take]; omega⟩
  generalize hlt : l.take Kn = lt at hv hl
  generalize hm : decide (Kn < l.length) = m at hv
  replace hlt := Aside0.mk hlt
  replace hm := Aside0.mk hm
  have HS := Aside0.mk hv
  have HB := Aside0.mk (Below.refl N w)
  clear HS0 hv hK
  have hc0_0 := ((HS.out.pick 0 rfl).cell 0).trans (show _ = some (.int .i64 Kn) from rfl)
  have hc0_1 := ((HS.out.pick 0 rfl).cell 1).trans (show _ = some (.int .i64 sd) from rfl)
  have hc0_2 := ((HS.out.pick 0 rfl).cell 2).trans (show _ = some (.slice A lt.length c) from rfl)
  have hc0_3 := ((HS.out.pick 0 rfl).cell 3).trans (show _ = some (.bool m) from rfl)
  go_enter Try.func32, Try.ntmps32
  go_wp2_with (first | ((with_reducible refine gate_dst (N := 3) rfl ?_); refine box_event ?hg (N := 3) ?hd (cs := #[.int .i64 0, .int .i64 0, .slice none 0 0, .bool false]) (t := 59) ?hr ?_; (case hd => rfl); (case hg => rfl); (case hr => first | (go_simp; done) | (go_simp; rfl)); intro q hg w1 hbox hb; have n0_ := Aside0.mk (HS.out.box hg hbox hb); have n1_ := Aside0.mk (below_step' HB.out HS.out.size hb); clear HS HB; have HS := n0_; have HB := n1_; clear n0_ n1_; (try simp only [List.eraseIdx_cons_succ, List.eraseIdx_cons_zero] at HS); clear hb hbox hg; have hc0_0 := ((HS.out.pick 0 rfl).cell 0).trans (show _ = some (.int .i64 0) from rfl); have hc0_1 := ((HS.out.pick 0 rfl).cell 1).trans (show _ = some (.int .i64 0) from rfl); have hc0_2 := ((HS.out.pick 0 rfl).cell 2).trans (show _ = some (.slice none 0 0) from rfl); have hc0_3 := ((HS.out.pick 0 rfl).cell 3).trans (show _ = some (.bool false) from rfl); have hc1_0 := ((HS.out.pick 1 rfl).cell 0).trans (show _ = some (.int .i64 Kn) from rfl); have hc1_1 := ((HS.out.pick 1 rfl).cell 1).trans (show _ = some (.int .i64 sd) from rfl); have hc1_2 := ((HS.out.pick 1 rfl).cell 2).trans (show _ = some (.slice A lt.length c) from rfl); have hc1_3 := ((HS.out.pick 1 rfl).cell 3).trans (show _ = some (.bool m) from rfl); have hf0_0 := (HS.out.pick 0 rfl).frozen 0; have hf0_1 := (HS.out.pick 0 rfl).frozen 1; have hf0_2 := (HS.out.pick 0 rfl).frozen 2; have hf0_3 := (HS.out.pick 0 rfl).frozen 3) | ((with_reducible refine gate_store (t := 59) (p := 3) rfl ?_); refine store_event (t := 59) (p := 3) (v := .tmp 8) (w1 := ?_) rfl rfl rfl ?_ ?_; rotate_left; (focus (first | (go_simp; done) | (go_simp; rfl))); intro w2 hw; have n0_ := Aside0.mk (St.set4 HS.out hw); have n1_ := Aside0.mk (St.below_set4 HS.out HB.out hw); clear HS HB; have HS := n0_; have HB := n1_; clear n0_ n1_; (try simp only [List.eraseIdx_cons_succ, List.eraseIdx_cons_zero] at HS); clear hw; clear hc0_0 hc0_1 hc0_2 hc0_3 hf0_0 hf0_1 hf0_2 hf0_3 hc1_0 hc1_1 hc1_2 hc1_3; have hc1_2 := ((HS.out.pick 1 rfl).cell 2).trans (show _ = some (.slice A lt.length c) from rfl)) | ((with_reducible refine gate_callee (f := 62) rfl ?_); refine goesL_ (some 13) rfl rfl Try.func62 (by kernel_rfl) rfl #[.slice A lt.length c] rfl (by (try simp only [List.map_toArray, List.map_cons, List.map_nil]); first | done | rfl | (simp only [List.length_drop, List.length_take]; rfl)) ?_; (with_reducible refine (slices_Clone.ok A c lt hl.out (row_none (HS.out.pick 2 rfl)) (HS.out.pick 2 rfl).rowC.2.2 HS.out).mono ?_); rintro e w3 ⟨v9, rfl, hs, hb⟩; clear hc1_2; refine ⟨_, rfl, ?_⟩; have n0_ := Aside0.mk (hs); have n1_ := Aside0.mk (HB.out.trans hb); clear HS HB; have HS := n0_; have HB := n1_; clear n0_ n1_; (try simp only [List.eraseIdx_cons_succ, List.eraseIdx_cons_zero] at HS); clear hs hb; obtain ⟨A9, n9, c9, e9⟩ : ∃ (A : Option Addr) (n c : Nat), v9 = .slice A n c := (by obtain ⟨A, c, e, _, _⟩ := HS.out.reads; exact ⟨A, _, c, e⟩); subst e9; have hc1_2 := ((HS.out.pick 1 rfl).cell 2).trans (show _ = some (.slice A lt.length c) from rfl); have hf1_2 := (HS.out.pick 1 rfl).frozen 2) | ((with_reducible refine gate_store (t := 26) (p := 14) rfl ?_); refine store_event (t := 26) (p := 14) (v := .tmp 13) (w1 := ?_) rfl rfl rfl ?_ ?_; rotate_left; (focus (first | (go_simp; done) | (go_simp; rfl))); intro w4 hw; have n0_ := Aside0.mk (hw ▸ (HS.out.pick 1 rfl).set 2 (.slice A9 n9 c9) #[.int .i64 Kn, .int .i64 sd, .slice A9 n9 c9, .bool m] rfl); have n1_ := Aside0.mk (hw ▸ (HS.out.pick 1 rfl).below_set (i := 2) (u := .slice A9 n9 c9) HB.out); clear HS HB; have HS := n0_; have HB := n1_; clear n0_ n1_; (try simp only [List.eraseIdx_cons_succ, List.eraseIdx_cons_zero] at HS); clear hw; clear hc1_2 hf1_2))
  go_ret
  refine ⟨q, rfl, ?_, HB.out⟩
  have h0 := HS.out
  rw [← hlt.out, ← hm.out] at h0
  have h1 := Sk_shut h0
  exact (Sk_shut ((h1.pick 2 rfl).pick 2 rfl)).swap
theorem Clone_nil (w : World) : Calls Try.prog 32 #[.pointer none] w fun e w' => e = .returned (.pointer none) ∧ w' = w := by
  go_enter Try.func32, Try.ntmps32
  go_wp2
  go_ret
  exact ⟨rfl, rfl⟩

end Go.Proofs.Ytddhpkobingmhaa.PB
end

/-! # Sk23 -/
section
namespace Go.Proofs.Ytddhpkobingmhaa.PB
open Go.RowKit Go.Proofs.YtddhpkobingmhaaW.PrintWords Go.Proofs.YtddhpkobingmhaaW.PrintLast Go.Proofs.YtddhpkobingmhaaW.PrintMore Go.Proofs.Ytddhpkobingmhaa.Sep
set_option linter.unusedVariables false
set_option linter.unusedSimpArgs false
set_option maxHeartbeats 8000000
set_option maxRecDepth 100000

theorem cf_ok (l : List S52) (hl : l.length ≤ 1000000) (v : Value) (b : Nat) {N : Nat} {w : World} {L : List Res} (HS0 : St N w (Row k52 52 v l :: Blk b #[.func (.func 55) #[] #[]] 74 :: L)) :
    Calls Try.prog 82 #[v, .func (.func 83) #[] #[.pointer (some ⟨b, 0, none⟩)]] w fun e w' => ∃ v', e = .returned v' ∧ St N w' (Row k52 52 v' (cp l l.length) :: Blk b #[.func (.func 55) #[] #[]] 74 :: L) ∧ Below N w w' := by
  by_cases h2 : l.length < 2
  · refine (cpf_small l h2 v _ HS0).mono ?_
    rintro e w' ⟨rfl, rfl⟩
    have e2 : cp l l.length = l := by
      match l, h2 with
      | [], _ => rfl
      | [x], _ => rfl
    exact ⟨v, rfl, by rw [e2]; exact HS0, Below.refl _ _⟩
  · rcases St.open_row flatK HS0 with ⟨_, e⟩ | ⟨g, cap, cur, rfl, _⟩
    · subst e; exact absurd (show ([] : List S52).length < 2 from by decide) h2
    · exact cpf_great l (by omega) hl ⟨g, 0, none⟩ g cap ⟨rfl⟩ b HS0

theorem merged_ok (l1 l2 : List S52) (b10 : l1.length ≤ 1000) (b20 : l2.length ≤ 1000) (A1 A2 : Option Addr) (c1 c2 : Nat) {N : Nat} {L : List Res} (hC0 : ∀ w', St N w' L → (k52.C w' A1 l1.length l1 ∧ l1.length ≤ c1) ∧ (k52.C w' A2 l2.length l2 ∧ l2.length ≤ c2)) {w : World} (HS0 : St N w L) :
    Calls Try.prog 64 #[.slice A1 l1.length c1, .slice A2 l2.length c2, .func (.func 55) #[] #[]] w fun e w' => ∃ v U, e = .returned v ∧ Inc U ∧ (∀ x, x ∈ U ↔ x ∈ l1 ∨ x ∈ l2) ∧ U.length ≤ 2000 ∧ St N w' (Row k52 52 v U :: L) ∧ Below N w w' := by
  have HS := Aside0.mk HS0
  have HB := Aside0.mk (Below.refl N w)
  have hC := Aside0.mk hC0
  have b1 := Aside0.mk b10
  have b2 := Aside0.mk b20
  have hln : Aside0 ((l1 ++ l2).length ≤ 1000000) := ⟨by rw [List.length_append]; omega⟩
  clear HS0 hC0 b10 b20
  go_enter Try.func64, Try.ntmps64
  go_wp2_with (first | ((with_reducible refine gate_dst (N := 5) rfl ?_); refine box_event ?hg (N := 5) ?hd (cs := #[.func (.func 55) #[] #[]]) (t := 74) ?hr ?_; (case hd => rfl); (case hg => rfl); (case hr => first | (go_simp; done) | (go_simp; rfl)); intro b hg w1 hbox hb; have n0_ := Aside0.mk (HS.out.box hg hbox hb); have n1_ := Aside0.mk (below_step' HB.out HS.out.size hb); clear HS HB; have HS := n0_; have HB := n1_; clear n0_ n1_; (try simp only [List.eraseIdx_cons_succ, List.eraseIdx_cons_zero] at HS); clear hb hbox hg) | ((with_reducible refine gate_dst (N := 10) rfl ?_); refine lit_event ?hg (Nt := 10) ?hd (cs := #[.slice A1 l1.length c1, .slice A2 l2.length c2]) (t := 26) (n := 2) ?hr ?_; (case hd => rfl); (case hg => rfl); (case hr => first | (go_simp; done) | (go_simp; rfl)); intro o hg w2 hbox hb; have n0_ := Aside0.mk (HS.out.box hg hbox hb); have n1_ := Aside0.mk (below_step' HB.out HS.out.size hb); clear HS HB; have HS := n0_; have HB := n1_; clear n0_ n1_; (try simp only [List.eraseIdx_cons_succ, List.eraseIdx_cons_zero] at HS); clear hb hbox hg) | ((with_reducible refine gate_callee (f := 80) rfl ?_); refine goesL_ (some 11) rfl rfl Try.func80 (by kernel_rfl) rfl #[.slice (some ⟨o, 0, none⟩) 2 2] rfl (by (try simp only [List.map_toArray, List.map_cons, List.map_nil]); first | done | rfl | (simp only [List.length_drop, List.length_take]; rfl)) ?_; (with_reducible refine (concat_ok l1 l2 b1.out b2.out A1 A2 c1 c2 o (fun w' h => hC.out w' h.drop) HS.out).mono ?_); rintro e w3 ⟨v3, rfl, hs1, hb⟩; refine ⟨_, rfl, ?_⟩; have n0_ := Aside0.mk (hs1); have n1_ := Aside0.mk (HB.out.trans hb); clear HS HB; have HS := n0_; have HB := n1_; clear n0_ n1_; (try simp only [List.eraseIdx_cons_succ, List.eraseIdx_cons_zero] at HS); clear hs1 hb; have hc2_0 := ((HS.out.pick 2 rfl).cell 0).trans (show _ = some (.func (.func 55) #[] #[]) from rfl)) | ((with_reducible refine gate_callee (f := 81) rfl ?_); refine goesL_ (some 14) rfl rfl Try.func81 (by kernel_rfl) rfl #[v3, .func (.func 55) #[] #[]] rfl (by (try simp only [List.map_toArray, List.map_cons, List.map_nil]); first | done | rfl | (simp only [List.length_drop, List.length_take]; rfl)) ?_; (with_reducible refine (sort_ok (l1 ++ l2) hln.out v3 HS.out).mono ?_); rintro e w4 ⟨rfl, l', hl1, hl2, hl3, hs1, hb⟩; clear hc2_0; refine ⟨_, rfl, ?_⟩; have n0_ := Aside0.mk (hs1); have n1_ := Aside0.mk (HB.out.trans hb); clear HS HB; have HS := n0_; have HB := n1_; clear n0_ n1_; (try simp only [List.eraseIdx_cons_succ, List.eraseIdx_cons_zero] at HS); clear hs1 hb; replace hl1 := Aside0.mk hl1; replace hl2 := Aside0.mk hl2; replace hl3 := Aside0.mk hl3) | ((with_reducible refine gate_callee (f := 82) rfl ?_); refine goesL_ (some 17) rfl rfl Try.func82 (by kernel_rfl) rfl #[v3, .func (.func 83) #[] #[.pointer (some ⟨b, 0, none⟩)]] rfl (by (try simp only [List.map_toArray, List.map_cons, List.map_nil]); first | done | rfl | (simp only [List.length_drop, List.length_take]; rfl)) ?_; (with_reducible refine (cf_ok l' (hl1.out ▸ hln.out) v3 b ((HS.out.pick 2 rfl).pick 1 rfl)).mono ?_); rintro e w5 ⟨v5, rfl, hs1, hb⟩; refine ⟨_, rfl, ?_⟩; have n0_ := Aside0.mk (hs1); have n1_ := Aside0.mk (HB.out.trans hb); clear HS HB; have HS := n0_; have HB := n1_; clear n0_ n1_; (try simp only [List.eraseIdx_cons_succ, List.eraseIdx_cons_zero] at HS); clear hs1 hb))
  go_ret
  obtain ⟨u1, u2⟩ := cp_whole l' hl3.out
  refine ⟨v5, cp l' l'.length, rfl, u1, fun x => ?_, ?_, ?_, HB.out⟩
  · rw [u2 x, hl2.out x, List.mem_append]
  · have h1 := cp_len l' l'.length
    have h2 := hl1.out
    rw [List.length_append] at h2
    have h3 := b1.out
    have h4 := b2.out
    omega
  · exact HS.out.swap.drop.swap.drop

def fit.T3 : Bool × List (List Nat × List Nat) := (true, [([], []), ([0], [0]), ([1], [1]), ([2], [2]), ([], []), ([4], [4]), ([5], [5]), ([6], [6]), ([3, 7], [3, 7]), ([8], [8]), ([9], [9]), ([10, 9], [9, 10]), ([11, 9], [9, 11]), ([12, 9], [9, 12]), ([9], [9]), ([14, 9], [9, 14]), ([15, 9], [9, 15]), ([16, 9], [9, 16]), ([13, 17, 9], [9, 13, 17]), ([9, 18], [9, 18]), ([19, 9], [19])])
def fit.B3 : List Nat := [0, 1, 3, 7, 0, 16, 48, 112, 255, 511, 1023, 2047, 4095, 8191, 1023, 17407, 50175, 115711, 262143, 524287, 1048575]
theorem fit.tab3 : rtab .any (opsOf Try.f63 3) = fit.T3 := by kernel_rfl
theorem fit.bits3 : waitsOk fit.T3.2 fit.B3 = true := by kernel_rfl
theorem fits_size (pa pb : Nat) (va vb : Value) (ma mb : Bool) (Ka sa Kb sb : Int) (h1 : (Ka != Kb) = true) {N : Nat} {w : World} {L : List Res} (HS0 : St N w (Blk pa #[.int .i64 Ka, .int .i64 sa, va, .bool ma] 59 :: Blk pb #[.int .i64 Kb, .int .i64 sb, vb, .bool mb] 59 :: L)) :
    Calls Try.prog 63 #[.pointer (some ⟨pa, 0, none⟩), .pointer (some ⟨pb, 0, none⟩)] w fun e w' => e = .returned (.int .i64 17) ∧ St N w' (Blk pa #[.int .i64 Ka, .int .i64 sa, va, .bool ma] 59 :: Blk pb #[.int .i64 Kb, .int .i64 sb, vb, .bool mb] 59 :: L) ∧ Below N w w' := by
  have HS := Aside0.mk HS0
  have HB := Aside0.mk (Below.refl N w)
  clear HS0
  go_enter Try.func63, Try.ntmps63
  go_upto_region 3 with (fail)
  have n0_ := Aside0.mk (HS.out.drew); have n1_ := Aside0.mk (HB.out.drew); clear HS HB; have HS := n0_; have HB := n1_; clear n0_ n1_
  refine start_ (n := 21) (S := fun w' => w'.cell? ⟨pa, 0, none⟩ = some (.int .i64 Ka) ∧ w'.cell? ⟨pa, 1, none⟩ = some (.int .i64 sa) ∧ w'.cell? ⟨pb, 0, none⟩ = some (.int .i64 Kb) ∧ w'.cell? ⟨pb, 1, none⟩ = some (.int .i64 sb)) (ds := []) (tfs true [0, 21]).toArray (by kernel_rfl) rfl rfl ⟨((HS.out.pick 0 rfl).cell 0).trans rfl, ((HS.out.pick 0 rfl).cell 1).trans rfl, ((HS.out.pick 1 rfl).cell 0).trans rfl, ((HS.out.pick 1 rfl).cell 1).trans rfl⟩ (fun hHeld => ?_); refine with_tabW fit.tab3 fit.bits3 (fun HT_ HW_ => ?_)
  generalize w.drew = w1 at HS HB hHeld ⊢
  refine pU 0 13 (tfs true [1, 20]).toArray rfl rfl HT_ ?_
  refine pU 1 14 (tfs true [2, 19]).toArray rfl rfl HT_ ?_
  refine pU 2 15 (tfs true [3, 18]).toArray rfl rfl HT_ ?_
  refine pU 4 17 (tfs true [3, 1, 1, 16]).toArray rfl rfl HT_ ?_
  refine pU 5 18 (tfs true [3, 1, 2, 15]).toArray rfl rfl HT_ ?_
  refine pU 6 19 (tfs true [3, 1, 3, 14]).toArray rfl rfl HT_ ?_
  refine tK 3 16 (tfs true [7, 14]).toArray rfl rfl HT_ HW_ hHeld ?_ (by rintro w' ⟨s0, s1, s2, s3⟩; go_simp; with_reducible rfl)
  refine tK 7 20 (tfs true [8, 13]).toArray rfl rfl HT_ HW_ hHeld ?_ (by rintro w' ⟨s0, s1, s2, s3⟩; go_simp; with_reducible rfl)
  refine pU 8 21 (tfs true [9, 12]).toArray rfl rfl HT_ ?_
  refine pU 9 22 (tfs true [10, 11]).toArray rfl rfl HT_ ?_
  refine pO 10 (some 23) (tfs true [11, 10]).toArray rfl rfl HT_ ?_
  refine pO 11 (some 24) (tfs true [12, 9]).toArray rfl rfl HT_ ?_
  refine pO 12 (some 25) (tfs true [13, 8]).toArray rfl rfl HT_ ?_
  refine pO 13 (some 26) (tfs true [14, 7]).toArray rfl rfl HT_ ?_
  refine pO 14 (some 27) (tfs true [15, 6]).toArray rfl rfl HT_ ?_
  refine pO 15 (some 28) (tfs true [16, 5]).toArray rfl rfl HT_ ?_
  refine pO 16 (some 29) (tfs true [17, 4]).toArray rfl rfl HT_ ?_
  refine pO 17 (some 30) (tfs true [18, 3]).toArray rfl rfl HT_ ?_
  refine pO 18 (some 31) (tfs true [19, 2]).toArray rfl rfl HT_ ?_
  refine pU 19 32 (tfs true [20, 1]).toArray rfl rfl HT_ ?_
  refine pU 20 12 (tfs true [21]).toArray rfl rfl HT_ ?_
  refine done_ (done_of HT_.out (by kernel_rfl)) ?_
  clear HT_ HW_
  try clear hHeld
  go_wp2
  go_ret
  exact ⟨rfl, HS.out, HB.out⟩

theorem fits_seed (pa pb : Nat) (va vb : Value) (ma mb : Bool) (Ka sa Kb sb : Int) (h1 : (Ka != Ka) = false) (h2 : (sa != sb) = true) {N : Nat} {w : World} {L : List Res} (HS0 : St N w (Blk pa #[.int .i64 Ka, .int .i64 sa, va, .bool ma] 59 :: Blk pb #[.int .i64 Ka, .int .i64 sb, vb, .bool mb] 59 :: L)) :
    Calls Try.prog 63 #[.pointer (some ⟨pa, 0, none⟩), .pointer (some ⟨pb, 0, none⟩)] w fun e w' => e = .returned (.int .i64 17) ∧ St N w' (Blk pa #[.int .i64 Ka, .int .i64 sa, va, .bool ma] 59 :: Blk pb #[.int .i64 Ka, .int .i64 sb, vb, .bool mb] 59 :: L) ∧ Below N w w' := by
  have HS := Aside0.mk HS0
  have HB := Aside0.mk (Below.refl N w)
  clear HS0
  go_enter Try.func63, Try.ntmps63
  go_upto_region 3 with (fail)
  have n0_ := Aside0.mk (HS.out.drew); have n1_ := Aside0.mk (HB.out.drew); clear HS HB; have HS := n0_; have HB := n1_; clear n0_ n1_
  refine start_ (n := 21) (S := fun w' => w'.cell? ⟨pa, 0, none⟩ = some (.int .i64 Ka) ∧ w'.cell? ⟨pa, 1, none⟩ = some (.int .i64 sa) ∧ w'.cell? ⟨pb, 0, none⟩ = some (.int .i64 Ka) ∧ w'.cell? ⟨pb, 1, none⟩ = some (.int .i64 sb)) (ds := []) (tfs true [0, 21]).toArray (by kernel_rfl) rfl rfl ⟨((HS.out.pick 0 rfl).cell 0).trans rfl, ((HS.out.pick 0 rfl).cell 1).trans rfl, ((HS.out.pick 1 rfl).cell 0).trans rfl, ((HS.out.pick 1 rfl).cell 1).trans rfl⟩ (fun hHeld => ?_); refine with_tabW fit.tab3 fit.bits3 (fun HT_ HW_ => ?_)
  generalize w.drew = w1 at HS HB hHeld ⊢
  refine pU 0 13 (tfs true [1, 20]).toArray rfl rfl HT_ ?_
  refine pU 1 14 (tfs true [2, 19]).toArray rfl rfl HT_ ?_
  refine pU 2 15 (tfs true [3, 18]).toArray rfl rfl HT_ ?_
  refine pU 4 17 (tfs true [3, 1, 1, 16]).toArray rfl rfl HT_ ?_
  refine pU 5 18 (tfs true [3, 1, 2, 15]).toArray rfl rfl HT_ ?_
  refine pU 6 19 (tfs true [3, 1, 3, 14]).toArray rfl rfl HT_ ?_
  refine tK 3 16 (tfs true [7, 14]).toArray rfl rfl HT_ HW_ hHeld ?_ (by rintro w' ⟨s0, s1, s2, s3⟩; go_simp; with_reducible rfl)
  refine tK 7 20 (tfs true [8, 13]).toArray rfl rfl HT_ HW_ hHeld ?_ (by rintro w' ⟨s0, s1, s2, s3⟩; go_simp; with_reducible rfl)
  refine pU 8 21 (tfs true [9, 12]).toArray rfl rfl HT_ ?_
  refine pU 9 22 (tfs true [10, 11]).toArray rfl rfl HT_ ?_
  refine pU 10 23 (tfs true [11, 10]).toArray rfl rfl HT_ ?_
  refine pU 11 24 (tfs true [12, 9]).toArray rfl rfl HT_ ?_
  refine pU 12 25 (tfs true [13, 8]).toArray rfl rfl HT_ ?_
  refine pU 14 27 (tfs true [13, 1, 1, 6]).toArray rfl rfl HT_ ?_
  refine pU 15 28 (tfs true [13, 1, 2, 5]).toArray rfl rfl HT_ ?_
  refine pU 16 29 (tfs true [13, 1, 3, 4]).toArray rfl rfl HT_ ?_
  refine tK 13 26 (tfs true [17, 4]).toArray rfl rfl HT_ HW_ hHeld ?_ (by rintro w' ⟨s0, s1, s2, s3⟩; go_simp; with_reducible rfl)
  refine tK 17 30 (tfs true [18, 3]).toArray rfl rfl HT_ HW_ hHeld ?_ (by rintro w' ⟨s0, s1, s2, s3⟩; go_simp; with_reducible rfl)
  refine pU 18 31 (tfs true [19, 2]).toArray rfl rfl HT_ ?_
  refine pU 19 32 (tfs true [20, 1]).toArray rfl rfl HT_ ?_
  refine pU 20 12 (tfs true [21]).toArray rfl rfl HT_ ?_
  refine done_ (done_of HT_.out (by kernel_rfl)) ?_
  clear HT_ HW_
  try clear hHeld
  go_wp2
  go_ret
  exact ⟨rfl, HS.out, HB.out⟩

theorem fits_same (pa pb : Nat) (va vb : Value) (ma mb : Bool) (Ka sa Kb sb : Int) (h1 : (Ka != Ka) = false) (h2 : (sa != sa) = false) {N : Nat} {w : World} {L : List Res} (HS0 : St N w (Blk pa #[.int .i64 Ka, .int .i64 sa, va, .bool ma] 59 :: Blk pb #[.int .i64 Ka, .int .i64 sa, vb, .bool mb] 59 :: L)) :
    Calls Try.prog 63 #[.pointer (some ⟨pa, 0, none⟩), .pointer (some ⟨pb, 0, none⟩)] w fun e w' => e = .returned (.int .i64 0) ∧ St N w' (Blk pa #[.int .i64 Ka, .int .i64 sa, va, .bool ma] 59 :: Blk pb #[.int .i64 Ka, .int .i64 sa, vb, .bool mb] 59 :: L) ∧ Below N w w' := by
  have HS := Aside0.mk HS0
  have HB := Aside0.mk (Below.refl N w)
  clear HS0
  go_enter Try.func63, Try.ntmps63
  go_upto_region 3 with (fail)
  have n0_ := Aside0.mk (HS.out.drew); have n1_ := Aside0.mk (HB.out.drew); clear HS HB; have HS := n0_; have HB := n1_; clear n0_ n1_
  refine start_ (n := 21) (S := fun w' => w'.cell? ⟨pa, 0, none⟩ = some (.int .i64 Ka) ∧ w'.cell? ⟨pa, 1, none⟩ = some (.int .i64 sa) ∧ w'.cell? ⟨pb, 0, none⟩ = some (.int .i64 Ka) ∧ w'.cell? ⟨pb, 1, none⟩ = some (.int .i64 sa)) (ds := []) (tfs true [0, 21]).toArray (by kernel_rfl) rfl rfl ⟨((HS.out.pick 0 rfl).cell 0).trans rfl, ((HS.out.pick 0 rfl).cell 1).trans rfl, ((HS.out.pick 1 rfl).cell 0).trans rfl, ((HS.out.pick 1 rfl).cell 1).trans rfl⟩ (fun hHeld => ?_); refine with_tabW fit.tab3 fit.bits3 (fun HT_ HW_ => ?_)
  generalize w.drew = w1 at HS HB hHeld ⊢
  refine pU 0 13 (tfs true [1, 20]).toArray rfl rfl HT_ ?_
  refine pU 1 14 (tfs true [2, 19]).toArray rfl rfl HT_ ?_
  refine pU 2 15 (tfs true [3, 18]).toArray rfl rfl HT_ ?_
  refine pU 4 17 (tfs true [3, 1, 1, 16]).toArray rfl rfl HT_ ?_
  refine pU 5 18 (tfs true [3, 1, 2, 15]).toArray rfl rfl HT_ ?_
  refine pU 6 19 (tfs true [3, 1, 3, 14]).toArray rfl rfl HT_ ?_
  refine tK 3 16 (tfs true [7, 14]).toArray rfl rfl HT_ HW_ hHeld ?_ (by rintro w' ⟨s0, s1, s2, s3⟩; go_simp; with_reducible rfl)
  refine tK 7 20 (tfs true [8, 13]).toArray rfl rfl HT_ HW_ hHeld ?_ (by rintro w' ⟨s0, s1, s2, s3⟩; go_simp; with_reducible rfl)
  refine pU 8 21 (tfs true [9, 12]).toArray rfl rfl HT_ ?_
  refine pU 9 22 (tfs true [10, 11]).toArray rfl rfl HT_ ?_
  refine pU 10 23 (tfs true [11, 10]).toArray rfl rfl HT_ ?_
  refine pU 11 24 (tfs true [12, 9]).toArray rfl rfl HT_ ?_
  refine pU 12 25 (tfs true [13, 8]).toArray rfl rfl HT_ ?_
  refine pU 14 27 (tfs true [13, 1, 1, 6]).toArray rfl rfl HT_ ?_
  refine pU 15 28 (tfs true [13, 1, 2, 5]).toArray rfl rfl HT_ ?_
  refine pU 16 29 (tfs true [13, 1, 3, 4]).toArray rfl rfl HT_ ?_
  refine tK 13 26 (tfs true [17, 4]).toArray rfl rfl HT_ HW_ hHeld ?_ (by rintro w' ⟨s0, s1, s2, s3⟩; go_simp; with_reducible rfl)
  refine tK 17 30 (tfs true [18, 3]).toArray rfl rfl HT_ HW_ hHeld ?_ (by rintro w' ⟨s0, s1, s2, s3⟩; go_simp; with_reducible rfl)
  refine pU 18 31 (tfs true [19, 2]).toArray rfl rfl HT_ ?_
  refine pU 19 32 (tfs true [20, 1]).toArray rfl rfl HT_ ?_
  refine pU 20 12 (tfs true [21]).toArray rfl rfl HT_ ?_
  refine done_ (done_of HT_.out (by kernel_rfl)) ?_
  clear HT_ HW_
  try clear hHeld
  go_wp2
  go_ret
  exact ⟨rfl, HS.out, HB.out⟩

theorem fits_self (pa pb : Nat) (va vb : Value) (ma mb : Bool) (Ka sa Kb sb : Int) (h1 : (Ka != Ka) = false) (h2 : (sa != sa) = false) {N : Nat} {w : World} {L : List Res} (HS0 : St N w (Blk pa #[.int .i64 Ka, .int .i64 sa, va, .bool ma] 59 :: L)) :
    Calls Try.prog 63 #[.pointer (some ⟨pa, 0, none⟩), .pointer (some ⟨pa, 0, none⟩)] w fun e w' => e = .returned (.int .i64 0) ∧ St N w' (Blk pa #[.int .i64 Ka, .int .i64 sa, va, .bool ma] 59 :: L) ∧ Below N w w' := by
  have HS := Aside0.mk HS0
  have HB := Aside0.mk (Below.refl N w)
  clear HS0
  go_enter Try.func63, Try.ntmps63
  go_upto_region 3 with (fail)
  have n0_ := Aside0.mk (HS.out.drew); have n1_ := Aside0.mk (HB.out.drew); clear HS HB; have HS := n0_; have HB := n1_; clear n0_ n1_
  refine start_ (n := 21) (S := fun w' => w'.cell? ⟨pa, 0, none⟩ = some (.int .i64 Ka) ∧ w'.cell? ⟨pa, 1, none⟩ = some (.int .i64 sa)) (ds := []) (tfs true [0, 21]).toArray (by kernel_rfl) rfl rfl ⟨((HS.out.pick 0 rfl).cell 0).trans rfl, ((HS.out.pick 0 rfl).cell 1).trans rfl⟩ (fun hHeld => ?_); refine with_tabW fit.tab3 fit.bits3 (fun HT_ HW_ => ?_)
  generalize w.drew = w1 at HS HB hHeld ⊢
  refine pU 0 13 (tfs true [1, 20]).toArray rfl rfl HT_ ?_
  refine pU 1 14 (tfs true [2, 19]).toArray rfl rfl HT_ ?_
  refine pU 2 15 (tfs true [3, 18]).toArray rfl rfl HT_ ?_
  refine pU 4 17 (tfs true [3, 1, 1, 16]).toArray rfl rfl HT_ ?_
  refine pU 5 18 (tfs true [3, 1, 2, 15]).toArray rfl rfl HT_ ?_
  refine pU 6 19 (tfs true [3, 1, 3, 14]).toArray rfl rfl HT_ ?_
  refine tK 3 16 (tfs true [7, 14]).toArray rfl rfl HT_ HW_ hHeld ?_ (by rintro w' ⟨s0, s1⟩; go_simp; with_reducible rfl)
  refine tK 7 20 (tfs true [8, 13]).toArray rfl rfl HT_ HW_ hHeld ?_ (by rintro w' ⟨s0, s1⟩; go_simp; with_reducible rfl)
  refine pU 8 21 (tfs true [9, 12]).toArray rfl rfl HT_ ?_
  refine pU 9 22 (tfs true [10, 11]).toArray rfl rfl HT_ ?_
  refine pU 10 23 (tfs true [11, 10]).toArray rfl rfl HT_ ?_
  refine pU 11 24 (tfs true [12, 9]).toArray rfl rfl HT_ ?_
  refine pU 12 25 (tfs true [13, 8]).toArray rfl rfl HT_ ?_
  refine pU 14 27 (tfs true [13, 1, 1, 6]).toArray rfl rfl HT_ ?_
  refine pU 15 28 (tfs true [13, 1, 2, 5]).toArray rfl rfl HT_ ?_
  refine pU 16 29 (tfs true [13, 1, 3, 4]).toArray rfl rfl HT_ ?_
  refine tK 13 26 (tfs true [17, 4]).toArray rfl rfl HT_ HW_ hHeld ?_ (by rintro w' ⟨s0, s1⟩; go_simp; with_reducible rfl)
  refine tK 17 30 (tfs true [18, 3]).toArray rfl rfl HT_ HW_ hHeld ?_ (by rintro w' ⟨s0, s1⟩; go_simp; with_reducible rfl)
  refine pU 18 31 (tfs true [19, 2]).toArray rfl rfl HT_ ?_
  refine pU 19 32 (tfs true [20, 1]).toArray rfl rfl HT_ ?_
  refine pU 20 12 (tfs true [21]).toArray rfl rfl HT_ ?_
  refine done_ (done_of HT_.out (by kernel_rfl)) ?_
  clear HT_ HW_
  try clear hHeld
  go_wp2
  go_ret
  exact ⟨rfl, HS.out, HB.out⟩

end Go.Proofs.Ytddhpkobingmhaa.PB
end
