/- Merge of two sketches, and of a sketch with itself. -/
import Derived.Test.YtddhpkobingmhaaSk23

namespace Go.Proofs.Ytddhpkobingmhaa.PB
open Go.RowKit Go.Proofs.YtddhpkobingmhaaW.PrintWords Go.Proofs.YtddhpkobingmhaaW.PrintLast Go.Proofs.YtddhpkobingmhaaW.PrintMore Go.Proofs.Ytddhpkobingmhaa.Sep
attribute [local go_sem] max2_int min2_int max_two min_two
set_option linter.unusedVariables false
set_option linter.unusedSimpArgs false
set_option maxHeartbeats 8000000
set_option maxRecDepth 100000

def mrg.T4 : Bool × List (List Nat × List Nat) := (true, [([], []), ([0], [0]), ([1], [1]), ([2], [2]), ([], []), ([4], [4]), ([5], [5]), ([6], [6]), ([3, 7], [3, 7]), ([8, 8, 0, 1, 2, 3, 4, 5, 6, 7, 8], [8])])
def mrg.B4 : List Nat := [0, 1, 3, 7, 0, 16, 48, 112, 255, 511]
theorem mrg.tab4 : rtab .any (opsOf Try.f33 4) = mrg.T4 := by kernel_rfl
theorem mrg.bits4 : waitsOk mrg.T4.2 mrg.B4 = true := by kernel_rfl
theorem mrg_tt (p q Kn : Nat) (sd : Int) (hK : Kn ≤ 1024) (l1 l2 : List S52) (z10 : l1.length ≤ 1000) (z20 : l2.length ≤ 1000) (A1 A2 : Option Addr) (c1 c2 : Nat) (b1 : ((Kn : Int) != (Kn : Int)) = false) (b2 : (sd != sd) = false) (m2 : Bool) {N : Nat} {w : World} {L : List Res} (HS0 : St N w (Blk p #[.int .i64 Kn, .int .i64 sd, .slice A1 l1.length c1, .bool true] 59 :: Row k52 52 (.slice A1 l1.length c1) l1 :: Blk q #[.int .i64 Kn, .int .i64 sd, .slice A2 l2.length c2, .bool m2] 59 :: Row k52 52 (.slice A2 l2.length c2) l2 :: L)) :
    Calls Try.prog 33 #[.pointer (some ⟨p, 0, none⟩), .pointer (some ⟨q, 0, none⟩)] w fun e w' => ∃ v' U, e = .returned (.int .i64 0) ∧ Inc U ∧ (∀ x, x ∈ U ↔ x ∈ l1 ∨ x ∈ l2) ∧ U.length ≤ 2000 ∧ St N w' (Blk p #[.int .i64 Kn, .int .i64 sd, v', .bool ((true || m2) || decide (Kn < U.length))] 59 :: Row k52 52 v' (U.take Kn) :: Blk q #[.int .i64 Kn, .int .i64 sd, .slice A2 l2.length c2, .bool m2] 59 :: Row k52 52 (.slice A2 l2.length c2) l2 :: L) ∧ Below N w w' := by
  have HS := Aside0.mk HS0
  have HB := Aside0.mk (Below.refl N w)
  have z1 := Aside0.mk z10
  have z2 := Aside0.mk z20
  clear HS0 z10 z20
  go_enter Try.func33, Try.ntmps33
  go_upto_region 4 with (first | ((with_reducible refine gate_callee (f := 63) rfl ?_); refine goesL_ (some 9) rfl rfl Try.func63 (by kernel_rfl) rfl #[.pointer (some ⟨p, 0, none⟩), .pointer (some ⟨q, 0, none⟩)] rfl (by (try simp only [List.map_toArray, List.map_cons, List.map_nil]); first | done | rfl | (simp only [List.length_drop, List.length_take]; rfl)) ?_; (with_reducible refine (fits_same p q _ _ true m2 (Kn : Int) sd (Kn : Int) sd b1 b2 ((HS.out.pick 2 rfl).pick 1 rfl)).mono ?_); rintro e w1 ⟨rfl, hs1, hb⟩; refine ⟨_, rfl, ?_⟩; have n0_ := Aside0.mk ((hs1.pick 2 rfl).pick 1 rfl); have n1_ := Aside0.mk (HB.out.trans hb); clear HS HB; have HS := n0_; have HB := n1_; clear n0_ n1_; (try simp only [List.eraseIdx_cons_succ, List.eraseIdx_cons_zero] at HS); clear hs1 hb))
  have n0_ := Aside0.mk (HS.out.drew); have n1_ := Aside0.mk (HB.out.drew); clear HS HB; have HS := n0_; have HB := n1_; clear n0_ n1_
  refine start_ (n := 10) (S := fun w' => w'.cell? ⟨p, 2, none⟩ = some (.slice A1 l1.length c1) ∧ w'.cell? ⟨q, 2, none⟩ = some (.slice A2 l2.length c2)) (ds := []) #[false, false, false, false, false, false, false, false, false, false] (by kernel_rfl) rfl rfl ⟨((HS.out.pick 0 rfl).cell 2).trans rfl, ((HS.out.pick 2 rfl).cell 2).trans rfl⟩ (fun hHeld => ?_); refine with_tabW mrg.tab4 mrg.bits4 (fun HT_ HW_ => ?_)
  generalize w1.drew = w2 at HS HB hHeld ⊢
  refine pure_ (i := 0) (N := some 13) (v := ?_) (a' := ?_) #[true, false, false, false, false, false, false, false, false, false] rfl rfl (any_of HT_.out (by kernel_rfl)) (fun _ _ _ h => h) (Or.inl ⟨by rfl, ?_⟩) ?_ ?_
  rotate_left
  · intro w'
    go_simp
    with_reducible rfl
  rotate_left
  · simp only [Act.put, List.setIfInBounds_toArray, List.set_cons_zero, List.set_cons_succ, i64_w, i32_w]
    rfl
  refine pure_ (i := 1) (N := some 14) (v := ?_) (a' := ?_) #[true, true, false, false, false, false, false, false, false, false] rfl rfl (any_of HT_.out (by kernel_rfl)) (fun _ _ _ h => h) (Or.inl ⟨by rfl, ?_⟩) ?_ ?_
  rotate_left
  · intro w'
    go_simp
    with_reducible rfl
  rotate_left
  · simp only [Act.put, List.setIfInBounds_toArray, List.set_cons_zero, List.set_cons_succ, i64_w, i32_w]
    rfl
  refine pure_ (i := 2) (N := some 15) (v := ?_) (a' := ?_) #[true, true, true, false, false, false, false, false, false, false] rfl rfl (any_of HT_.out (by kernel_rfl)) (fun _ _ _ h => h) (Or.inl ⟨by rfl, ?_⟩) ?_ ?_
  rotate_left
  · intro w'
    go_simp
    with_reducible rfl
  rotate_left
  · simp only [Act.put, List.setIfInBounds_toArray, List.set_cons_zero, List.set_cons_succ, i64_w, i32_w]
    rfl
  refine pure_ (i := 4) (N := some 17) (v := ?_) (a' := ?_) #[true, true, true, false, true, false, false, false, false, false] rfl rfl (any_of HT_.out (by kernel_rfl)) (fun _ _ _ h => h) (Or.inl ⟨by rfl, ?_⟩) ?_ ?_
  rotate_left
  · intro w'
    go_simp
    with_reducible rfl
  rotate_left
  · simp only [Act.put, List.setIfInBounds_toArray, List.set_cons_zero, List.set_cons_succ, i64_w, i32_w]
    rfl
  refine pure_ (i := 5) (N := some 18) (v := ?_) (a' := ?_) #[true, true, true, false, true, true, false, false, false, false] rfl rfl (any_of HT_.out (by kernel_rfl)) (fun _ _ _ h => h) (Or.inl ⟨by rfl, ?_⟩) ?_ ?_
  rotate_left
  · intro w'
    go_simp
    with_reducible rfl
  rotate_left
  · simp only [Act.put, List.setIfInBounds_toArray, List.set_cons_zero, List.set_cons_succ, i64_w, i32_w]
    rfl
  refine pure_ (i := 6) (N := some 19) (v := ?_) (a' := ?_) #[true, true, true, false, true, true, true, false, false, false] rfl rfl (any_of HT_.out (by kernel_rfl)) (fun _ _ _ h => h) (Or.inl ⟨by rfl, ?_⟩) ?_ ?_
  rotate_left
  · intro w'
    go_simp
    with_reducible rfl
  rotate_left
  · simp only [Act.put, List.setIfInBounds_toArray, List.set_cons_zero, List.set_cons_succ, i64_w, i32_w]
    rfl
  refine take_ (i := 3) (N := some 16) (v := ?_) (a' := ?_) #[true, true, true, true, true, true, true, false, false, false] rfl rfl (take_ofW HT_.out HW_.out (by kernel_rfl)) (fun _ _ _ h => h) (Or.inl ⟨by rfl, ?_⟩) hHeld ?_ ?_
  rotate_left
  · rintro w' ⟨s0, s1⟩
    go_simp
    with_reducible rfl
  rotate_left
  · simp only [Act.put, List.setIfInBounds_toArray, List.set_cons_zero, List.set_cons_succ, i64_w, i32_w]
    rfl
  refine take_ (i := 7) (N := some 20) (v := ?_) (a' := ?_) #[true, true, true, true, true, true, true, true, false, false] rfl rfl (take_ofW HT_.out HW_.out (by kernel_rfl)) (fun _ _ _ h => h) (Or.inl ⟨by rfl, ?_⟩) hHeld ?_ ?_
  rotate_left
  · rintro w' ⟨s0, s1⟩
    go_simp
    with_reducible rfl
  rotate_left
  · simp only [Act.put, List.setIfInBounds_toArray, List.set_cons_zero, List.set_cons_succ, i64_w, i32_w]
    rfl
  refine one_ (i := 8) (N := some 21) #[true, true, true, true, true, true, true, true, true, false] rfl rfl (one_of HT_.out (by kernel_rfl)) (by decide) (fun K hK => ?_)
  refine goes_ Try.func64 (by kernel_rfl) rfl #[.slice A1 l1.length c1, .slice A2 l2.length c2, .func (.func 55) #[] #[]] (by rfl) rfl rfl (by (try simp only [List.map_toArray, List.map_cons, List.map_nil]); first | done | rfl | (simp only [List.length_drop, List.length_take]; rfl)) ?_
  with_reducible refine (merged_ok l1 l2 z1.out z2.out A1 A2 c1 c2 (fun w' h => ⟨⟨(h.pick 1 rfl).rowC.2.2, (h.pick 1 rfl).rowC.2.1⟩, ⟨(h.pick 3 rfl).rowC.2.2, (h.pick 3 rfl).rowC.2.1⟩⟩) HS.out).mono ?_
  rintro e w4 ⟨v4, U, rfl, hu1, hu2, hu3, hs1, hb⟩
  refine ⟨_, rfl, ?_⟩
  have n0_ := Aside0.mk (((((hs1.pick 4 rfl).pick 4 rfl).pick 4 rfl).pick 4 rfl)); have n1_ := Aside0.mk (HB.out.trans hb); clear HS HB; have HS := n0_; have HB := n1_; clear n0_ n1_; (try simp only [List.eraseIdx_cons_succ, List.eraseIdx_cons_zero] at HS)
  clear hs1 hb; replace hu1 := Aside0.mk hu1; replace hu2 := Aside0.mk hu2; replace hu3 := Aside0.mk hu3; obtain ⟨AU, cU, eU⟩ : ∃ (A : Option Addr) (c : Nat), v4 = .slice A U.length c := (by obtain ⟨A, c, e, _, _⟩ := (HS.out.pick 4 rfl).reads; exact ⟨A, c, e⟩); subst eU
  refine hK.out _ _ ⟨((HS.out.pick 0 rfl).cell 2).trans rfl, ((HS.out.pick 2 rfl).cell 2).trans rfl⟩ (fun hHeld => ?_)
  clear hK K
  refine norm_ (a' := ?_) ?_ ?_
  rotate_left
  · show Act.put _ (some 21) _ = _
    simp only [Act.put, List.setIfInBounds_toArray, List.set_cons_zero, List.set_cons_succ, i64_w, i32_w]
    rfl
  refine pure_ (i := 9) (N := some 6) (v := ?_) (a' := ?_) #[true, true, true, true, true, true, true, true, true, true] rfl rfl (any_of HT_.out (by kernel_rfl)) (fun _ _ _ h => h) (Or.inl ⟨by rfl, ?_⟩) ?_ ?_
  rotate_left
  · intro w'
    go_simp
    with_reducible rfl
  rotate_left
  · simp only [Act.put, List.setIfInBounds_toArray, List.set_cons_zero, List.set_cons_succ, i64_w, i32_w]
    rfl
  refine done_ (done_of HT_.out (by kernel_rfl)) ?_
  clear HT_ HW_
  try clear hHeld
  by_cases hlt : Kn < U.length
  · have hn := Aside0.mk (HS.out.pick 4 rfl).rowC.2.1
    have g1 : ((Kn : Int) < (U.length : Int)) = True := eq_true (by omega)
    have g2 : decide ((U.length : Int) > (Kn : Int)) = true := decide_eq_true (by omega)
    have g3 : (0 : Int) ≤ (Kn : Int) := by omega
    have g4 : (Kn : Int) ≤ (cU : Int) := by have := hn.out; omega
    have g5 : (0 : Int) ≤ (U.length : Int) := by omega
    have hc0_0 := ((HS.out.pick 0 rfl).cell 0).trans (show _ = some (.int .i64 Kn) from rfl); have hc0_2 := ((HS.out.pick 0 rfl).cell 2).trans (show _ = some (.slice A1 l1.length c1) from rfl); have hc0_3 := ((HS.out.pick 0 rfl).cell 3).trans (show _ = some (.bool true) from rfl); have hc2_3 := ((HS.out.pick 2 rfl).cell 3).trans (show _ = some (.bool m2) from rfl); have hf0_2 := (HS.out.pick 0 rfl).frozen 2; have hf0_3 := (HS.out.pick 0 rfl).frozen 3
    go_wp2_with (first | ((with_reducible refine gate_store (t := 4) (p := 43) rfl ?_); refine store_event (t := 4) (p := 43) (v := .tmp 41) (w1 := ?_) rfl rfl rfl ?_ ?_; rotate_left; (focus (first | (go_simp; done) | (go_simp; rfl))); intro w5 hw; have n0_ := Aside0.mk (hw ▸ (HS.out.pick 0 rfl).set 3 (.bool true) #[.int .i64 Kn, .int .i64 sd, .slice A1 l1.length c1, .bool true] rfl); have n1_ := Aside0.mk (hw ▸ (HS.out.pick 0 rfl).below_set (i := 3) (u := .bool true) HB.out); clear HS HB; have HS := n0_; have HB := n1_; clear n0_ n1_; (try simp only [List.eraseIdx_cons_succ, List.eraseIdx_cons_zero] at HS); clear hw; clear hc0_0 hc0_2 hc0_3 hf0_2 hf0_3 hc2_3; have hc0_0 := ((HS.out.pick 0 rfl).cell 0).trans (show _ = some (.int .i64 Kn) from rfl); have hc0_2 := ((HS.out.pick 0 rfl).cell 2).trans (show _ = some (.slice A1 l1.length c1) from rfl); have hf0_2 := (HS.out.pick 0 rfl).frozen 2) | ((with_reducible refine gate_store (t := 26) (p := 55) rfl ?_); refine store_event (t := 26) (p := 55) (v := .tmp 53) (w1 := ?_) rfl rfl rfl ?_ ?_; rotate_left; (focus (first | (go_simp; done) | (go_simp; rfl))); intro w6 hw; have n0_ := Aside0.mk (hw ▸ (HS.out.pick 0 rfl).set 2 (.slice AU Kn cU) #[.int .i64 Kn, .int .i64 sd, .slice AU Kn cU, .bool true] rfl); have n1_ := Aside0.mk (hw ▸ (HS.out.pick 0 rfl).below_set (i := 2) (u := .slice AU Kn cU) HB.out); clear HS HB; have HS := n0_; have HB := n1_; clear n0_ n1_; (try simp only [List.eraseIdx_cons_succ, List.eraseIdx_cons_zero] at HS); clear hw))
    go_ret
    have h1 := HS.out.pick 4 rfl
    have h2 := St.cutRow flatK h1 Kn (by omega)
    refine ⟨.slice AU Kn cU, U, rfl, hu1.out, hu2.out, hu3.out, ?_, HB.out⟩
    have e1 : U.take Kn = U.take Kn := rfl
    have e2 : ((true || m2) || decide (Kn < U.length)) = true := by rw [decide_eq_true (by omega)]; rfl
    rw [e1, e2]
    exact ((h2.pick 2 rfl).drop).swap
  · have hn := Aside0.mk (HS.out.pick 4 rfl).rowC.2.1
    have g1 : ((Kn : Int) < (U.length : Int)) = False := eq_false (by omega)
    have g2 : decide ((U.length : Int) > (Kn : Int)) = false := decide_eq_false (by omega)
    have g3 : (0 : Int) ≤ (Kn : Int) := by omega
    have g4 : (U.length : Int) ≤ (cU : Int) := by have := hn.out; omega
    have g5 : (0 : Int) ≤ (U.length : Int) := by omega
    have hc0_0 := ((HS.out.pick 0 rfl).cell 0).trans (show _ = some (.int .i64 Kn) from rfl); have hc0_2 := ((HS.out.pick 0 rfl).cell 2).trans (show _ = some (.slice A1 l1.length c1) from rfl); have hc0_3 := ((HS.out.pick 0 rfl).cell 3).trans (show _ = some (.bool true) from rfl); have hc2_3 := ((HS.out.pick 2 rfl).cell 3).trans (show _ = some (.bool m2) from rfl); have hf0_2 := (HS.out.pick 0 rfl).frozen 2; have hf0_3 := (HS.out.pick 0 rfl).frozen 3
    go_wp2_with (first | ((with_reducible refine gate_store (t := 4) (p := 43) rfl ?_); refine store_event (t := 4) (p := 43) (v := .tmp 41) (w1 := ?_) rfl rfl rfl ?_ ?_; rotate_left; (focus (first | (go_simp; done) | (go_simp; rfl))); intro w5 hw; have n0_ := Aside0.mk (hw ▸ (HS.out.pick 0 rfl).set 3 (.bool true) #[.int .i64 Kn, .int .i64 sd, .slice A1 l1.length c1, .bool true] rfl); have n1_ := Aside0.mk (hw ▸ (HS.out.pick 0 rfl).below_set (i := 3) (u := .bool true) HB.out); clear HS HB; have HS := n0_; have HB := n1_; clear n0_ n1_; (try simp only [List.eraseIdx_cons_succ, List.eraseIdx_cons_zero] at HS); clear hw; clear hc0_0 hc0_2 hc0_3 hf0_2 hf0_3 hc2_3; have hc0_0 := ((HS.out.pick 0 rfl).cell 0).trans (show _ = some (.int .i64 Kn) from rfl); have hc0_2 := ((HS.out.pick 0 rfl).cell 2).trans (show _ = some (.slice A1 l1.length c1) from rfl); have hf0_2 := (HS.out.pick 0 rfl).frozen 2) | ((with_reducible refine gate_store (t := 26) (p := 55) rfl ?_); refine store_event (t := 26) (p := 55) (v := .tmp 53) (w1 := ?_) rfl rfl rfl ?_ ?_; rotate_left; (focus (first | (go_simp; done) | (go_simp; rfl))); intro w6 hw; have n0_ := Aside0.mk (hw ▸ (HS.out.pick 0 rfl).set 2 (.slice AU U.length cU) #[.int .i64 Kn, .int .i64 sd, .slice AU U.length cU, .bool true] rfl); have n1_ := Aside0.mk (hw ▸ (HS.out.pick 0 rfl).below_set (i := 2) (u := .slice AU U.length cU) HB.out); clear HS HB; have HS := n0_; have HB := n1_; clear n0_ n1_; (try simp only [List.eraseIdx_cons_succ, List.eraseIdx_cons_zero] at HS); clear hw))
    go_ret
    have h1 := HS.out.pick 4 rfl
    have h2 := St.cutRow flatK h1 U.length (Nat.le_refl _)
    refine ⟨.slice AU U.length cU, U, rfl, hu1.out, hu2.out, hu3.out, ?_, HB.out⟩
    have e1 : U.take Kn = U.take U.length := by rw [List.take_of_length_le (by omega), List.take_of_length_le (Nat.le_refl _)]
    have e2 : ((true || m2) || decide (Kn < U.length)) = true := by rw [decide_eq_false (by omega)]; rfl
    rw [e1, e2]
    exact ((h2.pick 2 rfl).drop).swap

theorem mrg_ft (p q Kn : Nat) (sd : Int) (hK : Kn ≤ 1024) (l1 l2 : List S52) (z10 : l1.length ≤ 1000) (z20 : l2.length ≤ 1000) (A1 A2 : Option Addr) (c1 c2 : Nat) (b1 : ((Kn : Int) != (Kn : Int)) = false) (b2 : (sd != sd) = false) {N : Nat} {w : World} {L : List Res} (HS0 : St N w (Blk p #[.int .i64 Kn, .int .i64 sd, .slice A1 l1.length c1, .bool false] 59 :: Row k52 52 (.slice A1 l1.length c1) l1 :: Blk q #[.int .i64 Kn, .int .i64 sd, .slice A2 l2.length c2, .bool true] 59 :: Row k52 52 (.slice A2 l2.length c2) l2 :: L)) :
    Calls Try.prog 33 #[.pointer (some ⟨p, 0, none⟩), .pointer (some ⟨q, 0, none⟩)] w fun e w' => ∃ v' U, e = .returned (.int .i64 0) ∧ Inc U ∧ (∀ x, x ∈ U ↔ x ∈ l1 ∨ x ∈ l2) ∧ U.length ≤ 2000 ∧ St N w' (Blk p #[.int .i64 Kn, .int .i64 sd, v', .bool ((false || true) || decide (Kn < U.length))] 59 :: Row k52 52 v' (U.take Kn) :: Blk q #[.int .i64 Kn, .int .i64 sd, .slice A2 l2.length c2, .bool true] 59 :: Row k52 52 (.slice A2 l2.length c2) l2 :: L) ∧ Below N w w' := by
  have HS := Aside0.mk HS0
  have HB := Aside0.mk (Below.refl N w)
  have z1 := Aside0.mk z10
  have z2 := Aside0.mk z20
  clear HS0 z10 z20
  go_enter Try.func33, Try.ntmps33
  go_upto_region 4 with (first | ((with_reducible refine gate_callee (f := 63) rfl ?_); refine goesL_ (some 9) rfl rfl Try.func63 (by kernel_rfl) rfl #[.pointer (some ⟨p, 0, none⟩), .pointer (some ⟨q, 0, none⟩)] rfl (by (try simp only [List.map_toArray, List.map_cons, List.map_nil]); first | done | rfl | (simp only [List.length_drop, List.length_take]; rfl)) ?_; (with_reducible refine (fits_same p q _ _ false true (Kn : Int) sd (Kn : Int) sd b1 b2 ((HS.out.pick 2 rfl).pick 1 rfl)).mono ?_); rintro e w1 ⟨rfl, hs1, hb⟩; refine ⟨_, rfl, ?_⟩; have n0_ := Aside0.mk ((hs1.pick 2 rfl).pick 1 rfl); have n1_ := Aside0.mk (HB.out.trans hb); clear HS HB; have HS := n0_; have HB := n1_; clear n0_ n1_; (try simp only [List.eraseIdx_cons_succ, List.eraseIdx_cons_zero] at HS); clear hs1 hb))
  have n0_ := Aside0.mk (HS.out.drew); have n1_ := Aside0.mk (HB.out.drew); clear HS HB; have HS := n0_; have HB := n1_; clear n0_ n1_
  refine start_ (n := 10) (S := fun w' => w'.cell? ⟨p, 2, none⟩ = some (.slice A1 l1.length c1) ∧ w'.cell? ⟨q, 2, none⟩ = some (.slice A2 l2.length c2)) (ds := []) #[false, false, false, false, false, false, false, false, false, false] (by kernel_rfl) rfl rfl ⟨((HS.out.pick 0 rfl).cell 2).trans rfl, ((HS.out.pick 2 rfl).cell 2).trans rfl⟩ (fun hHeld => ?_); refine with_tabW mrg.tab4 mrg.bits4 (fun HT_ HW_ => ?_)
  generalize w1.drew = w2 at HS HB hHeld ⊢
  refine pure_ (i := 0) (N := some 13) (v := ?_) (a' := ?_) #[true, false, false, false, false, false, false, false, false, false] rfl rfl (any_of HT_.out (by kernel_rfl)) (fun _ _ _ h => h) (Or.inl ⟨by rfl, ?_⟩) ?_ ?_
  rotate_left
  · intro w'
    go_simp
    with_reducible rfl
  rotate_left
  · simp only [Act.put, List.setIfInBounds_toArray, List.set_cons_zero, List.set_cons_succ, i64_w, i32_w]
    rfl
  refine pure_ (i := 1) (N := some 14) (v := ?_) (a' := ?_) #[true, true, false, false, false, false, false, false, false, false] rfl rfl (any_of HT_.out (by kernel_rfl)) (fun _ _ _ h => h) (Or.inl ⟨by rfl, ?_⟩) ?_ ?_
  rotate_left
  · intro w'
    go_simp
    with_reducible rfl
  rotate_left
  · simp only [Act.put, List.setIfInBounds_toArray, List.set_cons_zero, List.set_cons_succ, i64_w, i32_w]
    rfl
  refine pure_ (i := 2) (N := some 15) (v := ?_) (a' := ?_) #[true, true, true, false, false, false, false, false, false, false] rfl rfl (any_of HT_.out (by kernel_rfl)) (fun _ _ _ h => h) (Or.inl ⟨by rfl, ?_⟩) ?_ ?_
  rotate_left
  · intro w'
    go_simp
    with_reducible rfl
  rotate_left
  · simp only [Act.put, List.setIfInBounds_toArray, List.set_cons_zero, List.set_cons_succ, i64_w, i32_w]
    rfl
  refine pure_ (i := 4) (N := some 17) (v := ?_) (a' := ?_) #[true, true, true, false, true, false, false, false, false, false] rfl rfl (any_of HT_.out (by kernel_rfl)) (fun _ _ _ h => h) (Or.inl ⟨by rfl, ?_⟩) ?_ ?_
  rotate_left
  · intro w'
    go_simp
    with_reducible rfl
  rotate_left
  · simp only [Act.put, List.setIfInBounds_toArray, List.set_cons_zero, List.set_cons_succ, i64_w, i32_w]
    rfl
  refine pure_ (i := 5) (N := some 18) (v := ?_) (a' := ?_) #[true, true, true, false, true, true, false, false, false, false] rfl rfl (any_of HT_.out (by kernel_rfl)) (fun _ _ _ h => h) (Or.inl ⟨by rfl, ?_⟩) ?_ ?_
  rotate_left
  · intro w'
    go_simp
    with_reducible rfl
  rotate_left
  · simp only [Act.put, List.setIfInBounds_toArray, List.set_cons_zero, List.set_cons_succ, i64_w, i32_w]
    rfl
  refine pure_ (i := 6) (N := some 19) (v := ?_) (a' := ?_) #[true, true, true, false, true, true, true, false, false, false] rfl rfl (any_of HT_.out (by kernel_rfl)) (fun _ _ _ h => h) (Or.inl ⟨by rfl, ?_⟩) ?_ ?_
  rotate_left
  · intro w'
    go_simp
    with_reducible rfl
  rotate_left
  · simp only [Act.put, List.setIfInBounds_toArray, List.set_cons_zero, List.set_cons_succ, i64_w, i32_w]
    rfl
  refine take_ (i := 3) (N := some 16) (v := ?_) (a' := ?_) #[true, true, true, true, true, true, true, false, false, false] rfl rfl (take_ofW HT_.out HW_.out (by kernel_rfl)) (fun _ _ _ h => h) (Or.inl ⟨by rfl, ?_⟩) hHeld ?_ ?_
  rotate_left
  · rintro w' ⟨s0, s1⟩
    go_simp
    with_reducible rfl
  rotate_left
  · simp only [Act.put, List.setIfInBounds_toArray, List.set_cons_zero, List.set_cons_succ, i64_w, i32_w]
    rfl
  refine take_ (i := 7) (N := some 20) (v := ?_) (a' := ?_) #[true, true, true, true, true, true, true, true, false, false] rfl rfl (take_ofW HT_.out HW_.out (by kernel_rfl)) (fun _ _ _ h => h) (Or.inl ⟨by rfl, ?_⟩) hHeld ?_ ?_
  rotate_left
  · rintro w' ⟨s0, s1⟩
    go_simp
    with_reducible rfl
  rotate_left
  · simp only [Act.put, List.setIfInBounds_toArray, List.set_cons_zero, List.set_cons_succ, i64_w, i32_w]
    rfl
  refine one_ (i := 8) (N := some 21) #[true, true, true, true, true, true, true, true, true, false] rfl rfl (one_of HT_.out (by kernel_rfl)) (by decide) (fun K hK => ?_)
  refine goes_ Try.func64 (by kernel_rfl) rfl #[.slice A1 l1.length c1, .slice A2 l2.length c2, .func (.func 55) #[] #[]] (by rfl) rfl rfl (by (try simp only [List.map_toArray, List.map_cons, List.map_nil]); first | done | rfl | (simp only [List.length_drop, List.length_take]; rfl)) ?_
  with_reducible refine (merged_ok l1 l2 z1.out z2.out A1 A2 c1 c2 (fun w' h => ⟨⟨(h.pick 1 rfl).rowC.2.2, (h.pick 1 rfl).rowC.2.1⟩, ⟨(h.pick 3 rfl).rowC.2.2, (h.pick 3 rfl).rowC.2.1⟩⟩) HS.out).mono ?_
  rintro e w4 ⟨v4, U, rfl, hu1, hu2, hu3, hs1, hb⟩
  refine ⟨_, rfl, ?_⟩
  have n0_ := Aside0.mk (((((hs1.pick 4 rfl).pick 4 rfl).pick 4 rfl).pick 4 rfl)); have n1_ := Aside0.mk (HB.out.trans hb); clear HS HB; have HS := n0_; have HB := n1_; clear n0_ n1_; (try simp only [List.eraseIdx_cons_succ, List.eraseIdx_cons_zero] at HS)
  clear hs1 hb; replace hu1 := Aside0.mk hu1; replace hu2 := Aside0.mk hu2; replace hu3 := Aside0.mk hu3; obtain ⟨AU, cU, eU⟩ : ∃ (A : Option Addr) (c : Nat), v4 = .slice A U.length c := (by obtain ⟨A, c, e, _, _⟩ := (HS.out.pick 4 rfl).reads; exact ⟨A, c, e⟩); subst eU
  refine hK.out _ _ ⟨((HS.out.pick 0 rfl).cell 2).trans rfl, ((HS.out.pick 2 rfl).cell 2).trans rfl⟩ (fun hHeld => ?_)
  clear hK K
  refine norm_ (a' := ?_) ?_ ?_
  rotate_left
  · show Act.put _ (some 21) _ = _
    simp only [Act.put, List.setIfInBounds_toArray, List.set_cons_zero, List.set_cons_succ, i64_w, i32_w]
    rfl
  refine pure_ (i := 9) (N := some 6) (v := ?_) (a' := ?_) #[true, true, true, true, true, true, true, true, true, true] rfl rfl (any_of HT_.out (by kernel_rfl)) (fun _ _ _ h => h) (Or.inl ⟨by rfl, ?_⟩) ?_ ?_
  rotate_left
  · intro w'
    go_simp
    with_reducible rfl
  rotate_left
  · simp only [Act.put, List.setIfInBounds_toArray, List.set_cons_zero, List.set_cons_succ, i64_w, i32_w]
    rfl
  refine done_ (done_of HT_.out (by kernel_rfl)) ?_
  clear HT_ HW_
  try clear hHeld
  by_cases hlt : Kn < U.length
  · have hn := Aside0.mk (HS.out.pick 4 rfl).rowC.2.1
    have g1 : ((Kn : Int) < (U.length : Int)) = True := eq_true (by omega)
    have g2 : decide ((U.length : Int) > (Kn : Int)) = true := decide_eq_true (by omega)
    have g3 : (0 : Int) ≤ (Kn : Int) := by omega
    have g4 : (Kn : Int) ≤ (cU : Int) := by have := hn.out; omega
    have g5 : (0 : Int) ≤ (U.length : Int) := by omega
    have hc0_0 := ((HS.out.pick 0 rfl).cell 0).trans (show _ = some (.int .i64 Kn) from rfl); have hc0_2 := ((HS.out.pick 0 rfl).cell 2).trans (show _ = some (.slice A1 l1.length c1) from rfl); have hc0_3 := ((HS.out.pick 0 rfl).cell 3).trans (show _ = some (.bool false) from rfl); have hc2_3 := ((HS.out.pick 2 rfl).cell 3).trans (show _ = some (.bool true) from rfl); have hf0_2 := (HS.out.pick 0 rfl).frozen 2; have hf0_3 := (HS.out.pick 0 rfl).frozen 3
    go_wp2_with (first | ((with_reducible refine gate_store (t := 4) (p := 43) rfl ?_); refine store_event (t := 4) (p := 43) (v := .tmp 41) (w1 := ?_) rfl rfl rfl ?_ ?_; rotate_left; (focus (first | (go_simp; done) | (go_simp; rfl))); intro w5 hw; have n0_ := Aside0.mk (hw ▸ (HS.out.pick 0 rfl).set 3 (.bool true) #[.int .i64 Kn, .int .i64 sd, .slice A1 l1.length c1, .bool true] rfl); have n1_ := Aside0.mk (hw ▸ (HS.out.pick 0 rfl).below_set (i := 3) (u := .bool true) HB.out); clear HS HB; have HS := n0_; have HB := n1_; clear n0_ n1_; (try simp only [List.eraseIdx_cons_succ, List.eraseIdx_cons_zero] at HS); clear hw; clear hc0_0 hc0_2 hc0_3 hf0_2 hf0_3 hc2_3; have hc0_0 := ((HS.out.pick 0 rfl).cell 0).trans (show _ = some (.int .i64 Kn) from rfl); have hc0_2 := ((HS.out.pick 0 rfl).cell 2).trans (show _ = some (.slice A1 l1.length c1) from rfl); have hf0_2 := (HS.out.pick 0 rfl).frozen 2) | ((with_reducible refine gate_store (t := 26) (p := 55) rfl ?_); refine store_event (t := 26) (p := 55) (v := .tmp 53) (w1 := ?_) rfl rfl rfl ?_ ?_; rotate_left; (focus (first | (go_simp; done) | (go_simp; rfl))); intro w6 hw; have n0_ := Aside0.mk (hw ▸ (HS.out.pick 0 rfl).set 2 (.slice AU Kn cU) #[.int .i64 Kn, .int .i64 sd, .slice AU Kn cU, .bool true] rfl); have n1_ := Aside0.mk (hw ▸ (HS.out.pick 0 rfl).below_set (i := 2) (u := .slice AU Kn cU) HB.out); clear HS HB; have HS := n0_; have HB := n1_; clear n0_ n1_; (try simp only [List.eraseIdx_cons_succ, List.eraseIdx_cons_zero] at HS); clear hw))
    go_ret
    have h1 := HS.out.pick 4 rfl
    have h2 := St.cutRow flatK h1 Kn (by omega)
    refine ⟨.slice AU Kn cU, U, rfl, hu1.out, hu2.out, hu3.out, ?_, HB.out⟩
    have e1 : U.take Kn = U.take Kn := rfl
    have e2 : ((false || true) || decide (Kn < U.length)) = true := by rw [decide_eq_true (by omega)]; rfl
    rw [e1, e2]
    exact ((h2.pick 2 rfl).drop).swap
  · have hn := Aside0.mk (HS.out.pick 4 rfl).rowC.2.1
    have g1 : ((Kn : Int) < (U.length : Int)) = False := eq_false (by omega)
    have g2 : decide ((U.length : Int) > (Kn : Int)) = false := decide_eq_false (by omega)
    have g3 : (0 : Int) ≤ (Kn : Int) := by omega
    have g4 : (U.length : Int) ≤ (cU : Int) := by have := hn.out; omega
    have g5 : (0 : Int) ≤ (U.length : Int) := by omega
    have hc0_0 := ((HS.out.pick 0 rfl).cell 0).trans (show _ = some (.int .i64 Kn) from rfl); have hc0_2 := ((HS.out.pick 0 rfl).cell 2).trans (show _ = some (.slice A1 l1.length c1) from rfl); have hc0_3 := ((HS.out.pick 0 rfl).cell 3).trans (show _ = some (.bool false) from rfl); have hc2_3 := ((HS.out.pick 2 rfl).cell 3).trans (show _ = some (.bool true) from rfl); have hf0_2 := (HS.out.pick 0 rfl).frozen 2; have hf0_3 := (HS.out.pick 0 rfl).frozen 3
    go_wp2_with (first | ((with_reducible refine gate_store (t := 4) (p := 43) rfl ?_); refine store_event (t := 4) (p := 43) (v := .tmp 41) (w1 := ?_) rfl rfl rfl ?_ ?_; rotate_left; (focus (first | (go_simp; done) | (go_simp; rfl))); intro w5 hw; have n0_ := Aside0.mk (hw ▸ (HS.out.pick 0 rfl).set 3 (.bool true) #[.int .i64 Kn, .int .i64 sd, .slice A1 l1.length c1, .bool true] rfl); have n1_ := Aside0.mk (hw ▸ (HS.out.pick 0 rfl).below_set (i := 3) (u := .bool true) HB.out); clear HS HB; have HS := n0_; have HB := n1_; clear n0_ n1_; (try simp only [List.eraseIdx_cons_succ, List.eraseIdx_cons_zero] at HS); clear hw; clear hc0_0 hc0_2 hc0_3 hf0_2 hf0_3 hc2_3; have hc0_0 := ((HS.out.pick 0 rfl).cell 0).trans (show _ = some (.int .i64 Kn) from rfl); have hc0_2 := ((HS.out.pick 0 rfl).cell 2).trans (show _ = some (.slice A1 l1.length c1) from rfl); have hf0_2 := (HS.out.pick 0 rfl).frozen 2) | ((with_reducible refine gate_store (t := 26) (p := 55) rfl ?_); refine store_event (t := 26) (p := 55) (v := .tmp 53) (w1 := ?_) rfl rfl rfl ?_ ?_; rotate_left; (focus (first | (go_simp; done) | (go_simp; rfl))); intro w6 hw; have n0_ := Aside0.mk (hw ▸ (HS.out.pick 0 rfl).set 2 (.slice AU U.length cU) #[.int .i64 Kn, .int .i64 sd, .slice AU U.length cU, .bool true] rfl); have n1_ := Aside0.mk (hw ▸ (HS.out.pick 0 rfl).below_set (i := 2) (u := .slice AU U.length cU) HB.out); clear HS HB; have HS := n0_; have HB := n1_; clear n0_ n1_; (try simp only [List.eraseIdx_cons_succ, List.eraseIdx_cons_zero] at HS); clear hw))
    go_ret
    have h1 := HS.out.pick 4 rfl
    have h2 := St.cutRow flatK h1 U.length (Nat.le_refl _)
    refine ⟨.slice AU U.length cU, U, rfl, hu1.out, hu2.out, hu3.out, ?_, HB.out⟩
    have e1 : U.take Kn = U.take U.length := by rw [List.take_of_length_le (by omega), List.take_of_length_le (Nat.le_refl _)]
    have e2 : ((false || true) || decide (Kn < U.length)) = true := by rw [decide_eq_false (by omega)]; rfl
    rw [e1, e2]
    exact ((h2.pick 2 rfl).drop).swap

theorem mrg_ff (p q Kn : Nat) (sd : Int) (hK : Kn ≤ 1024) (l1 l2 : List S52) (z10 : l1.length ≤ 1000) (z20 : l2.length ≤ 1000) (A1 A2 : Option Addr) (c1 c2 : Nat) (b1 : ((Kn : Int) != (Kn : Int)) = false) (b2 : (sd != sd) = false) {N : Nat} {w : World} {L : List Res} (HS0 : St N w (Blk p #[.int .i64 Kn, .int .i64 sd, .slice A1 l1.length c1, .bool false] 59 :: Row k52 52 (.slice A1 l1.length c1) l1 :: Blk q #[.int .i64 Kn, .int .i64 sd, .slice A2 l2.length c2, .bool false] 59 :: Row k52 52 (.slice A2 l2.length c2) l2 :: L)) :
    Calls Try.prog 33 #[.pointer (some ⟨p, 0, none⟩), .pointer (some ⟨q, 0, none⟩)] w fun e w' => ∃ v' U, e = .returned (.int .i64 0) ∧ Inc U ∧ (∀ x, x ∈ U ↔ x ∈ l1 ∨ x ∈ l2) ∧ U.length ≤ 2000 ∧ St N w' (Blk p #[.int .i64 Kn, .int .i64 sd, v', .bool ((false || false) || decide (Kn < U.length))] 59 :: Row k52 52 v' (U.take Kn) :: Blk q #[.int .i64 Kn, .int .i64 sd, .slice A2 l2.length c2, .bool false] 59 :: Row k52 52 (.slice A2 l2.length c2) l2 :: L) ∧ Below N w w' := by
  have HS := Aside0.mk HS0
  have HB := Aside0.mk (Below.refl N w)
  have z1 := Aside0.mk z10
  have z2 := Aside0.mk z20
  clear HS0 z10 z20
  go_enter Try.func33, Try.ntmps33
  go_upto_region 4 with (first | ((with_reducible refine gate_callee (f := 63) rfl ?_); refine goesL_ (some 9) rfl rfl Try.func63 (by kernel_rfl) rfl #[.pointer (some ⟨p, 0, none⟩), .pointer (some ⟨q, 0, none⟩)] rfl (by (try simp only [List.map_toArray, List.map_cons, List.map_nil]); first | done | rfl | (simp only [List.length_drop, List.length_take]; rfl)) ?_; (with_reducible refine (fits_same p q _ _ false false (Kn : Int) sd (Kn : Int) sd b1 b2 ((HS.out.pick 2 rfl).pick 1 rfl)).mono ?_); rintro e w1 ⟨rfl, hs1, hb⟩; refine ⟨_, rfl, ?_⟩; have n0_ := Aside0.mk ((hs1.pick 2 rfl).pick 1 rfl); have n1_ := Aside0.mk (HB.out.trans hb); clear HS HB; have HS := n0_; have HB := n1_; clear n0_ n1_; (try simp only [List.eraseIdx_cons_succ, List.eraseIdx_cons_zero] at HS); clear hs1 hb))
  have n0_ := Aside0.mk (HS.out.drew); have n1_ := Aside0.mk (HB.out.drew); clear HS HB; have HS := n0_; have HB := n1_; clear n0_ n1_
  refine start_ (n := 10) (S := fun w' => w'.cell? ⟨p, 2, none⟩ = some (.slice A1 l1.length c1) ∧ w'.cell? ⟨q, 2, none⟩ = some (.slice A2 l2.length c2)) (ds := []) #[false, false, false, false, false, false, false, false, false, false] (by kernel_rfl) rfl rfl ⟨((HS.out.pick 0 rfl).cell 2).trans rfl, ((HS.out.pick 2 rfl).cell 2).trans rfl⟩ (fun hHeld => ?_); refine with_tabW mrg.tab4 mrg.bits4 (fun HT_ HW_ => ?_)
  generalize w1.drew = w2 at HS HB hHeld ⊢
  refine pure_ (i := 0) (N := some 13) (v := ?_) (a' := ?_) #[true, false, false, false, false, false, false, false, false, false] rfl rfl (any_of HT_.out (by kernel_rfl)) (fun _ _ _ h => h) (Or.inl ⟨by rfl, ?_⟩) ?_ ?_
  rotate_left
  · intro w'
    go_simp
    with_reducible rfl
  rotate_left
  · simp only [Act.put, List.setIfInBounds_toArray, List.set_cons_zero, List.set_cons_succ, i64_w, i32_w]
    rfl
  refine pure_ (i := 1) (N := some 14) (v := ?_) (a' := ?_) #[true, true, false, false, false, false, false, false, false, false] rfl rfl (any_of HT_.out (by kernel_rfl)) (fun _ _ _ h => h) (Or.inl ⟨by rfl, ?_⟩) ?_ ?_
  rotate_left
  · intro w'
    go_simp
    with_reducible rfl
  rotate_left
  · simp only [Act.put, List.setIfInBounds_toArray, List.set_cons_zero, List.set_cons_succ, i64_w, i32_w]
    rfl
  refine pure_ (i := 2) (N := some 15) (v := ?_) (a' := ?_) #[true, true, true, false, false, false, false, false, false, false] rfl rfl (any_of HT_.out (by kernel_rfl)) (fun _ _ _ h => h) (Or.inl ⟨by rfl, ?_⟩) ?_ ?_
  rotate_left
  · intro w'
    go_simp
    with_reducible rfl
  rotate_left
  · simp only [Act.put, List.setIfInBounds_toArray, List.set_cons_zero, List.set_cons_succ, i64_w, i32_w]
    rfl
  refine pure_ (i := 4) (N := some 17) (v := ?_) (a' := ?_) #[true, true, true, false, true, false, false, false, false, false] rfl rfl (any_of HT_.out (by kernel_rfl)) (fun _ _ _ h => h) (Or.inl ⟨by rfl, ?_⟩) ?_ ?_
  rotate_left
  · intro w'
    go_simp
    with_reducible rfl
  rotate_left
  · simp only [Act.put, List.setIfInBounds_toArray, List.set_cons_zero, List.set_cons_succ, i64_w, i32_w]
    rfl
  refine pure_ (i := 5) (N := some 18) (v := ?_) (a' := ?_) #[true, true, true, false, true, true, false, false, false, false] rfl rfl (any_of HT_.out (by kernel_rfl)) (fun _ _ _ h => h) (Or.inl ⟨by rfl, ?_⟩) ?_ ?_
  rotate_left
  · intro w'
    go_simp
    with_reducible rfl
  rotate_left
  · simp only [Act.put, List.setIfInBounds_toArray, List.set_cons_zero, List.set_cons_succ, i64_w, i32_w]
    rfl
  refine pure_ (i := 6) (N := some 19) (v := ?_) (a' := ?_) #[true, true, true, false, true, true, true, false, false, false] rfl rfl (any_of HT_.out (by kernel_rfl)) (fun _ _ _ h => h) (Or.inl ⟨by rfl, ?_⟩) ?_ ?_
  rotate_left
  · intro w'
    go_simp
    with_reducible rfl
  rotate_left
  · simp only [Act.put, List.setIfInBounds_toArray, List.set_cons_zero, List.set_cons_succ, i64_w, i32_w]
    rfl
  refine take_ (i := 3) (N := some 16) (v := ?_) (a' := ?_) #[true, true, true, true, true, true, true, false, false, false] rfl rfl (take_ofW HT_.out HW_.out (by kernel_rfl)) (fun _ _ _ h => h) (Or.inl ⟨by rfl, ?_⟩) hHeld ?_ ?_
  rotate_left
  · rintro w' ⟨s0, s1⟩
    go_simp
    with_reducible rfl
  rotate_left
  · simp only [Act.put, List.setIfInBounds_toArray, List.set_cons_zero, List.set_cons_succ, i64_w, i32_w]
    rfl
  refine take_ (i := 7) (N := some 20) (v := ?_) (a' := ?_) #[true, true, true, true, true, true, true, true, false, false] rfl rfl (take_ofW HT_.out HW_.out (by kernel_rfl)) (fun _ _ _ h => h) (Or.inl ⟨by rfl, ?_⟩) hHeld ?_ ?_
  rotate_left
  · rintro w' ⟨s0, s1⟩
    go_simp
    with_reducible rfl
  rotate_left
  · simp only [Act.put, List.setIfInBounds_toArray, List.set_cons_zero, List.set_cons_succ, i64_w, i32_w]
    rfl
  refine one_ (i := 8) (N := some 21) #[true, true, true, true, true, true, true, true, true, false] rfl rfl (one_of HT_.out (by kernel_rfl)) (by decide) (fun K hK => ?_)
  refine goes_ Try.func64 (by kernel_rfl) rfl #[.slice A1 l1.length c1, .slice A2 l2.length c2, .func (.func 55) #[] #[]] (by rfl) rfl rfl (by (try simp only [List.map_toArray, List.map_cons, List.map_nil]); first | done | rfl | (simp only [List.length_drop, List.length_take]; rfl)) ?_
  with_reducible refine (merged_ok l1 l2 z1.out z2.out A1 A2 c1 c2 (fun w' h => ⟨⟨(h.pick 1 rfl).rowC.2.2, (h.pick 1 rfl).rowC.2.1⟩, ⟨(h.pick 3 rfl).rowC.2.2, (h.pick 3 rfl).rowC.2.1⟩⟩) HS.out).mono ?_
  rintro e w4 ⟨v4, U, rfl, hu1, hu2, hu3, hs1, hb⟩
  refine ⟨_, rfl, ?_⟩
  have n0_ := Aside0.mk (((((hs1.pick 4 rfl).pick 4 rfl).pick 4 rfl).pick 4 rfl)); have n1_ := Aside0.mk (HB.out.trans hb); clear HS HB; have HS := n0_; have HB := n1_; clear n0_ n1_; (try simp only [List.eraseIdx_cons_succ, List.eraseIdx_cons_zero] at HS)
  clear hs1 hb; replace hu1 := Aside0.mk hu1; replace hu2 := Aside0.mk hu2; replace hu3 := Aside0.mk hu3; obtain ⟨AU, cU, eU⟩ : ∃ (A : Option Addr) (c : Nat), v4 = .slice A U.length c := (by obtain ⟨A, c, e, _, _⟩ := (HS.out.pick 4 rfl).reads; exact ⟨A, c, e⟩); subst eU
  refine hK.out _ _ ⟨((HS.out.pick 0 rfl).cell 2).trans rfl, ((HS.out.pick 2 rfl).cell 2).trans rfl⟩ (fun hHeld => ?_)
  clear hK K
  refine norm_ (a' := ?_) ?_ ?_
  rotate_left
  · show Act.put _ (some 21) _ = _
    simp only [Act.put, List.setIfInBounds_toArray, List.set_cons_zero, List.set_cons_succ, i64_w, i32_w]
    rfl
  refine pure_ (i := 9) (N := some 6) (v := ?_) (a' := ?_) #[true, true, true, true, true, true, true, true, true, true] rfl rfl (any_of HT_.out (by kernel_rfl)) (fun _ _ _ h => h) (Or.inl ⟨by rfl, ?_⟩) ?_ ?_
  rotate_left
  · intro w'
    go_simp
    with_reducible rfl
  rotate_left
  · simp only [Act.put, List.setIfInBounds_toArray, List.set_cons_zero, List.set_cons_succ, i64_w, i32_w]
    rfl
  refine done_ (done_of HT_.out (by kernel_rfl)) ?_
  clear HT_ HW_
  try clear hHeld
  by_cases hlt : Kn < U.length
  · have hn := Aside0.mk (HS.out.pick 4 rfl).rowC.2.1
    have g1 : ((Kn : Int) < (U.length : Int)) = True := eq_true (by omega)
    have g2 : decide ((U.length : Int) > (Kn : Int)) = true := decide_eq_true (by omega)
    have g3 : (0 : Int) ≤ (Kn : Int) := by omega
    have g4 : (Kn : Int) ≤ (cU : Int) := by have := hn.out; omega
    have g5 : (0 : Int) ≤ (U.length : Int) := by omega
    have hc0_0 := ((HS.out.pick 0 rfl).cell 0).trans (show _ = some (.int .i64 Kn) from rfl); have hc0_2 := ((HS.out.pick 0 rfl).cell 2).trans (show _ = some (.slice A1 l1.length c1) from rfl); have hc0_3 := ((HS.out.pick 0 rfl).cell 3).trans (show _ = some (.bool false) from rfl); have hc2_3 := ((HS.out.pick 2 rfl).cell 3).trans (show _ = some (.bool false) from rfl); have hf0_2 := (HS.out.pick 0 rfl).frozen 2; have hf0_3 := (HS.out.pick 0 rfl).frozen 3
    go_wp2_with (first | ((with_reducible refine gate_store (t := 4) (p := 43) rfl ?_); refine store_event (t := 4) (p := 43) (v := .tmp 41) (w1 := ?_) rfl rfl rfl ?_ ?_; rotate_left; (focus (first | (go_simp; done) | (go_simp; rfl))); intro w5 hw; have n0_ := Aside0.mk (hw ▸ (HS.out.pick 0 rfl).set 3 (.bool true) #[.int .i64 Kn, .int .i64 sd, .slice A1 l1.length c1, .bool true] rfl); have n1_ := Aside0.mk (hw ▸ (HS.out.pick 0 rfl).below_set (i := 3) (u := .bool true) HB.out); clear HS HB; have HS := n0_; have HB := n1_; clear n0_ n1_; (try simp only [List.eraseIdx_cons_succ, List.eraseIdx_cons_zero] at HS); clear hw; clear hc0_0 hc0_2 hc0_3 hf0_2 hf0_3 hc2_3; have hc0_0 := ((HS.out.pick 0 rfl).cell 0).trans (show _ = some (.int .i64 Kn) from rfl); have hc0_2 := ((HS.out.pick 0 rfl).cell 2).trans (show _ = some (.slice A1 l1.length c1) from rfl); have hf0_2 := (HS.out.pick 0 rfl).frozen 2) | ((with_reducible refine gate_store (t := 26) (p := 55) rfl ?_); refine store_event (t := 26) (p := 55) (v := .tmp 53) (w1 := ?_) rfl rfl rfl ?_ ?_; rotate_left; (focus (first | (go_simp; done) | (go_simp; rfl))); intro w6 hw; have n0_ := Aside0.mk (hw ▸ (HS.out.pick 0 rfl).set 2 (.slice AU Kn cU) #[.int .i64 Kn, .int .i64 sd, .slice AU Kn cU, .bool true] rfl); have n1_ := Aside0.mk (hw ▸ (HS.out.pick 0 rfl).below_set (i := 2) (u := .slice AU Kn cU) HB.out); clear HS HB; have HS := n0_; have HB := n1_; clear n0_ n1_; (try simp only [List.eraseIdx_cons_succ, List.eraseIdx_cons_zero] at HS); clear hw))
    go_ret
    have h1 := HS.out.pick 4 rfl
    have h2 := St.cutRow flatK h1 Kn (by omega)
    refine ⟨.slice AU Kn cU, U, rfl, hu1.out, hu2.out, hu3.out, ?_, HB.out⟩
    have e1 : U.take Kn = U.take Kn := rfl
    have e2 : ((false || false) || decide (Kn < U.length)) = true := by rw [decide_eq_true (by omega)]; rfl
    rw [e1, e2]
    exact ((h2.pick 2 rfl).drop).swap
  · have hn := Aside0.mk (HS.out.pick 4 rfl).rowC.2.1
    have g1 : ((Kn : Int) < (U.length : Int)) = False := eq_false (by omega)
    have g2 : decide ((U.length : Int) > (Kn : Int)) = false := decide_eq_false (by omega)
    have g3 : (0 : Int) ≤ (Kn : Int) := by omega
    have g4 : (U.length : Int) ≤ (cU : Int) := by have := hn.out; omega
    have g5 : (0 : Int) ≤ (U.length : Int) := by omega
    have hc0_0 := ((HS.out.pick 0 rfl).cell 0).trans (show _ = some (.int .i64 Kn) from rfl); have hc0_2 := ((HS.out.pick 0 rfl).cell 2).trans (show _ = some (.slice A1 l1.length c1) from rfl); have hc0_3 := ((HS.out.pick 0 rfl).cell 3).trans (show _ = some (.bool false) from rfl); have hc2_3 := ((HS.out.pick 2 rfl).cell 3).trans (show _ = some (.bool false) from rfl); have hf0_2 := (HS.out.pick 0 rfl).frozen 2; have hf0_3 := (HS.out.pick 0 rfl).frozen 3
    go_wp2_with (first | ((with_reducible refine gate_store (t := 4) (p := 43) rfl ?_); refine store_event (t := 4) (p := 43) (v := .tmp 41) (w1 := ?_) rfl rfl rfl ?_ ?_; rotate_left; (focus (first | (go_simp; done) | (go_simp; rfl))); intro w5 hw; have n0_ := Aside0.mk (hw ▸ (HS.out.pick 0 rfl).set 3 (.bool false) #[.int .i64 Kn, .int .i64 sd, .slice A1 l1.length c1, .bool false] rfl); have n1_ := Aside0.mk (hw ▸ (HS.out.pick 0 rfl).below_set (i := 3) (u := .bool false) HB.out); clear HS HB; have HS := n0_; have HB := n1_; clear n0_ n1_; (try simp only [List.eraseIdx_cons_succ, List.eraseIdx_cons_zero] at HS); clear hw; clear hc0_0 hc0_2 hc0_3 hf0_2 hf0_3 hc2_3; have hc0_0 := ((HS.out.pick 0 rfl).cell 0).trans (show _ = some (.int .i64 Kn) from rfl); have hc0_2 := ((HS.out.pick 0 rfl).cell 2).trans (show _ = some (.slice A1 l1.length c1) from rfl); have hf0_2 := (HS.out.pick 0 rfl).frozen 2) | ((with_reducible refine gate_store (t := 26) (p := 55) rfl ?_); refine store_event (t := 26) (p := 55) (v := .tmp 53) (w1 := ?_) rfl rfl rfl ?_ ?_; rotate_left; (focus (first | (go_simp; done) | (go_simp; rfl))); intro w6 hw; have n0_ := Aside0.mk (hw ▸ (HS.out.pick 0 rfl).set 2 (.slice AU U.length cU) #[.int .i64 Kn, .int .i64 sd, .slice AU U.length cU, .bool false] rfl); have n1_ := Aside0.mk (hw ▸ (HS.out.pick 0 rfl).below_set (i := 2) (u := .slice AU U.length cU) HB.out); clear HS HB; have HS := n0_; have HB := n1_; clear n0_ n1_; (try simp only [List.eraseIdx_cons_succ, List.eraseIdx_cons_zero] at HS); clear hw))
    go_ret
    have h1 := HS.out.pick 4 rfl
    have h2 := St.cutRow flatK h1 U.length (Nat.le_refl _)
    refine ⟨.slice AU U.length cU, U, rfl, hu1.out, hu2.out, hu3.out, ?_, HB.out⟩
    have e1 : U.take Kn = U.take U.length := by rw [List.take_of_length_le (by omega), List.take_of_length_le (Nat.le_refl _)]
    have e2 : ((false || false) || decide (Kn < U.length)) = false := by rw [decide_eq_false (by omega)]; rfl
    rw [e1, e2]
    exact ((h2.pick 2 rfl).drop).swap

theorem mrg_self_t (p q Kn : Nat) (sd : Int) (hK : Kn ≤ 1024) (l1 l2 : List S52) (z10 : l1.length ≤ 1000) (z20 : l2.length ≤ 1000) (A1 A2 : Option Addr) (c1 c2 : Nat) (b1 : ((Kn : Int) != (Kn : Int)) = false) (b2 : (sd != sd) = false) {N : Nat} {w : World} {L : List Res} (HS0 : St N w (Blk p #[.int .i64 Kn, .int .i64 sd, .slice A1 l1.length c1, .bool true] 59 :: Row k52 52 (.slice A1 l1.length c1) l1 :: L)) :
    Calls Try.prog 33 #[.pointer (some ⟨p, 0, none⟩), .pointer (some ⟨p, 0, none⟩)] w fun e w' => ∃ v' U, e = .returned (.int .i64 0) ∧ Inc U ∧ (∀ x, x ∈ U ↔ x ∈ l1 ∨ x ∈ l1) ∧ U.length ≤ 2000 ∧ St N w' (Blk p #[.int .i64 Kn, .int .i64 sd, v', .bool ((true || true) || decide (Kn < U.length))] 59 :: Row k52 52 v' (U.take Kn) :: L) ∧ Below N w w' := by
  have HS := Aside0.mk HS0
  have HB := Aside0.mk (Below.refl N w)
  have z1 := Aside0.mk z10
  have z2 := Aside0.mk z20
  clear HS0 z10 z20
  go_enter Try.func33, Try.ntmps33
  go_upto_region 4 with (first | ((with_reducible refine gate_callee (f := 63) rfl ?_); refine goesL_ (some 9) rfl rfl Try.func63 (by kernel_rfl) rfl #[.pointer (some ⟨p, 0, none⟩), .pointer (some ⟨p, 0, none⟩)] rfl (by (try simp only [List.map_toArray, List.map_cons, List.map_nil]); first | done | rfl | (simp only [List.length_drop, List.length_take]; rfl)) ?_; (with_reducible refine (fits_self p p _ (.slice none 0 0) true false (Kn : Int) sd (Kn : Int) sd b1 b2 HS.out).mono ?_); rintro e w1 ⟨rfl, hs1, hb⟩; refine ⟨_, rfl, ?_⟩; have n0_ := Aside0.mk (hs1); have n1_ := Aside0.mk (HB.out.trans hb); clear HS HB; have HS := n0_; have HB := n1_; clear n0_ n1_; (try simp only [List.eraseIdx_cons_succ, List.eraseIdx_cons_zero] at HS); clear hs1 hb))
  have n0_ := Aside0.mk (HS.out.drew); have n1_ := Aside0.mk (HB.out.drew); clear HS HB; have HS := n0_; have HB := n1_; clear n0_ n1_
  refine start_ (n := 10) (S := fun w' => w'.cell? ⟨p, 2, none⟩ = some (.slice A1 l1.length c1)) (ds := []) #[false, false, false, false, false, false, false, false, false, false] (by kernel_rfl) rfl rfl (((HS.out.pick 0 rfl).cell 2).trans rfl) (fun hHeld => ?_); refine with_tabW mrg.tab4 mrg.bits4 (fun HT_ HW_ => ?_)
  generalize w1.drew = w2 at HS HB hHeld ⊢
  refine pure_ (i := 0) (N := some 13) (v := ?_) (a' := ?_) #[true, false, false, false, false, false, false, false, false, false] rfl rfl (any_of HT_.out (by kernel_rfl)) (fun _ _ _ h => h) (Or.inl ⟨by rfl, ?_⟩) ?_ ?_
  rotate_left
  · intro w'
    go_simp
    with_reducible rfl
  rotate_left
  · simp only [Act.put, List.setIfInBounds_toArray, List.set_cons_zero, List.set_cons_succ, i64_w, i32_w]
    rfl
  refine pure_ (i := 1) (N := some 14) (v := ?_) (a' := ?_) #[true, true, false, false, false, false, false, false, false, false] rfl rfl (any_of HT_.out (by kernel_rfl)) (fun _ _ _ h => h) (Or.inl ⟨by rfl, ?_⟩) ?_ ?_
  rotate_left
  · intro w'
    go_simp
    with_reducible rfl
  rotate_left
  · simp only [Act.put, List.setIfInBounds_toArray, List.set_cons_zero, List.set_cons_succ, i64_w, i32_w]
    rfl
  refine pure_ (i := 2) (N := some 15) (v := ?_) (a' := ?_) #[true, true, true, false, false, false, false, false, false, false] rfl rfl (any_of HT_.out (by kernel_rfl)) (fun _ _ _ h => h) (Or.inl ⟨by rfl, ?_⟩) ?_ ?_
  rotate_left
  · intro w'
    go_simp
    with_reducible rfl
  rotate_left
  · simp only [Act.put, List.setIfInBounds_toArray, List.set_cons_zero, List.set_cons_succ, i64_w, i32_w]
    rfl
  refine pure_ (i := 4) (N := some 17) (v := ?_) (a' := ?_) #[true, true, true, false, true, false, false, false, false, false] rfl rfl (any_of HT_.out (by kernel_rfl)) (fun _ _ _ h => h) (Or.inl ⟨by rfl, ?_⟩) ?_ ?_
  rotate_left
  · intro w'
    go_simp
    with_reducible rfl
  rotate_left
  · simp only [Act.put, List.setIfInBounds_toArray, List.set_cons_zero, List.set_cons_succ, i64_w, i32_w]
    rfl
  refine pure_ (i := 5) (N := some 18) (v := ?_) (a' := ?_) #[true, true, true, false, true, true, false, false, false, false] rfl rfl (any_of HT_.out (by kernel_rfl)) (fun _ _ _ h => h) (Or.inl ⟨by rfl, ?_⟩) ?_ ?_
  rotate_left
  · intro w'
    go_simp
    with_reducible rfl
  rotate_left
  · simp only [Act.put, List.setIfInBounds_toArray, List.set_cons_zero, List.set_cons_succ, i64_w, i32_w]
    rfl
  refine pure_ (i := 6) (N := some 19) (v := ?_) (a' := ?_) #[true, true, true, false, true, true, true, false, false, false] rfl rfl (any_of HT_.out (by kernel_rfl)) (fun _ _ _ h => h) (Or.inl ⟨by rfl, ?_⟩) ?_ ?_
  rotate_left
  · intro w'
    go_simp
    with_reducible rfl
  rotate_left
  · simp only [Act.put, List.setIfInBounds_toArray, List.set_cons_zero, List.set_cons_succ, i64_w, i32_w]
    rfl
  refine take_ (i := 3) (N := some 16) (v := ?_) (a' := ?_) #[true, true, true, true, true, true, true, false, false, false] rfl rfl (take_ofW HT_.out HW_.out (by kernel_rfl)) (fun _ _ _ h => h) (Or.inl ⟨by rfl, ?_⟩) hHeld ?_ ?_
  rotate_left
  · rintro w' s0
    go_simp
    with_reducible rfl
  rotate_left
  · simp only [Act.put, List.setIfInBounds_toArray, List.set_cons_zero, List.set_cons_succ, i64_w, i32_w]
    rfl
  refine take_ (i := 7) (N := some 20) (v := ?_) (a' := ?_) #[true, true, true, true, true, true, true, true, false, false] rfl rfl (take_ofW HT_.out HW_.out (by kernel_rfl)) (fun _ _ _ h => h) (Or.inl ⟨by rfl, ?_⟩) hHeld ?_ ?_
  rotate_left
  · rintro w' s0
    go_simp
    with_reducible rfl
  rotate_left
  · simp only [Act.put, List.setIfInBounds_toArray, List.set_cons_zero, List.set_cons_succ, i64_w, i32_w]
    rfl
  refine one_ (i := 8) (N := some 21) #[true, true, true, true, true, true, true, true, true, false] rfl rfl (one_of HT_.out (by kernel_rfl)) (by decide) (fun K hK => ?_)
  refine goes_ Try.func64 (by kernel_rfl) rfl #[.slice A1 l1.length c1, .slice A1 l1.length c1, .func (.func 55) #[] #[]] (by rfl) rfl rfl (by (try simp only [List.map_toArray, List.map_cons, List.map_nil]); first | done | rfl | (simp only [List.length_drop, List.length_take]; rfl)) ?_
  with_reducible refine (merged_ok l1 l1 z1.out z1.out A1 A1 c1 c1 (fun w' h => ⟨⟨(h.pick 1 rfl).rowC.2.2, (h.pick 1 rfl).rowC.2.1⟩, ⟨(h.pick 1 rfl).rowC.2.2, (h.pick 1 rfl).rowC.2.1⟩⟩) HS.out).mono ?_
  rintro e w4 ⟨v4, U, rfl, hu1, hu2, hu3, hs1, hb⟩
  refine ⟨_, rfl, ?_⟩
  have n0_ := Aside0.mk (((hs1.pick 2 rfl).pick 2 rfl)); have n1_ := Aside0.mk (HB.out.trans hb); clear HS HB; have HS := n0_; have HB := n1_; clear n0_ n1_; (try simp only [List.eraseIdx_cons_succ, List.eraseIdx_cons_zero] at HS)
  clear hs1 hb; replace hu1 := Aside0.mk hu1; replace hu2 := Aside0.mk hu2; replace hu3 := Aside0.mk hu3; obtain ⟨AU, cU, eU⟩ : ∃ (A : Option Addr) (c : Nat), v4 = .slice A U.length c := (by obtain ⟨A, c, e, _, _⟩ := (HS.out.pick 2 rfl).reads; exact ⟨A, c, e⟩); subst eU
  refine hK.out _ _ (((HS.out.pick 0 rfl).cell 2).trans rfl) (fun hHeld => ?_)
  clear hK K
  refine norm_ (a' := ?_) ?_ ?_
  rotate_left
  · show Act.put _ (some 21) _ = _
    simp only [Act.put, List.setIfInBounds_toArray, List.set_cons_zero, List.set_cons_succ, i64_w, i32_w]
    rfl
  refine pure_ (i := 9) (N := some 6) (v := ?_) (a' := ?_) #[true, true, true, true, true, true, true, true, true, true] rfl rfl (any_of HT_.out (by kernel_rfl)) (fun _ _ _ h => h) (Or.inl ⟨by rfl, ?_⟩) ?_ ?_
  rotate_left
  · intro w'
    go_simp
    with_reducible rfl
  rotate_left
  · simp only [Act.put, List.setIfInBounds_toArray, List.set_cons_zero, List.set_cons_succ, i64_w, i32_w]
    rfl
  refine done_ (done_of HT_.out (by kernel_rfl)) ?_
  clear HT_ HW_
  try clear hHeld
  by_cases hlt : Kn < U.length
  · have hn := Aside0.mk (HS.out.pick 2 rfl).rowC.2.1
    have g1 : ((Kn : Int) < (U.length : Int)) = True := eq_true (by omega)
    have g2 : decide ((U.length : Int) > (Kn : Int)) = true := decide_eq_true (by omega)
    have g3 : (0 : Int) ≤ (Kn : Int) := by omega
    have g4 : (Kn : Int) ≤ (cU : Int) := by have := hn.out; omega
    have g5 : (0 : Int) ≤ (U.length : Int) := by omega
    have hc0_0 := ((HS.out.pick 0 rfl).cell 0).trans (show _ = some (.int .i64 Kn) from rfl); have hc0_2 := ((HS.out.pick 0 rfl).cell 2).trans (show _ = some (.slice A1 l1.length c1) from rfl); have hc0_3 := ((HS.out.pick 0 rfl).cell 3).trans (show _ = some (.bool true) from rfl); have hf0_2 := (HS.out.pick 0 rfl).frozen 2; have hf0_3 := (HS.out.pick 0 rfl).frozen 3
    go_wp2_with (first | ((with_reducible refine gate_store (t := 4) (p := 43) rfl ?_); refine store_event (t := 4) (p := 43) (v := .tmp 41) (w1 := ?_) rfl rfl rfl ?_ ?_; rotate_left; (focus (first | (go_simp; done) | (go_simp; rfl))); intro w5 hw; have n0_ := Aside0.mk (hw ▸ (HS.out.pick 0 rfl).set 3 (.bool true) #[.int .i64 Kn, .int .i64 sd, .slice A1 l1.length c1, .bool true] rfl); have n1_ := Aside0.mk (hw ▸ (HS.out.pick 0 rfl).below_set (i := 3) (u := .bool true) HB.out); clear HS HB; have HS := n0_; have HB := n1_; clear n0_ n1_; (try simp only [List.eraseIdx_cons_succ, List.eraseIdx_cons_zero] at HS); clear hw; clear hc0_0 hc0_2 hc0_3 hf0_2 hf0_3; have hc0_0 := ((HS.out.pick 0 rfl).cell 0).trans (show _ = some (.int .i64 Kn) from rfl); have hc0_2 := ((HS.out.pick 0 rfl).cell 2).trans (show _ = some (.slice A1 l1.length c1) from rfl); have hf0_2 := (HS.out.pick 0 rfl).frozen 2) | ((with_reducible refine gate_store (t := 26) (p := 55) rfl ?_); refine store_event (t := 26) (p := 55) (v := .tmp 53) (w1 := ?_) rfl rfl rfl ?_ ?_; rotate_left; (focus (first | (go_simp; done) | (go_simp; rfl))); intro w6 hw; have n0_ := Aside0.mk (hw ▸ (HS.out.pick 0 rfl).set 2 (.slice AU Kn cU) #[.int .i64 Kn, .int .i64 sd, .slice AU Kn cU, .bool true] rfl); have n1_ := Aside0.mk (hw ▸ (HS.out.pick 0 rfl).below_set (i := 2) (u := .slice AU Kn cU) HB.out); clear HS HB; have HS := n0_; have HB := n1_; clear n0_ n1_; (try simp only [List.eraseIdx_cons_succ, List.eraseIdx_cons_zero] at HS); clear hw))
    go_ret
    have h1 := HS.out.pick 2 rfl
    have h2 := St.cutRow flatK h1 Kn (by omega)
    refine ⟨.slice AU Kn cU, U, rfl, hu1.out, hu2.out, hu3.out, ?_, HB.out⟩
    have e1 : U.take Kn = U.take Kn := rfl
    have e2 : ((true || true) || decide (Kn < U.length)) = true := by rw [decide_eq_true (by omega)]; rfl
    rw [e1, e2]
    exact ((h2.pick 2 rfl).drop).swap
  · have hn := Aside0.mk (HS.out.pick 2 rfl).rowC.2.1
    have g1 : ((Kn : Int) < (U.length : Int)) = False := eq_false (by omega)
    have g2 : decide ((U.length : Int) > (Kn : Int)) = false := decide_eq_false (by omega)
    have g3 : (0 : Int) ≤ (Kn : Int) := by omega
    have g4 : (U.length : Int) ≤ (cU : Int) := by have := hn.out; omega
    have g5 : (0 : Int) ≤ (U.length : Int) := by omega
    have hc0_0 := ((HS.out.pick 0 rfl).cell 0).trans (show _ = some (.int .i64 Kn) from rfl); have hc0_2 := ((HS.out.pick 0 rfl).cell 2).trans (show _ = some (.slice A1 l1.length c1) from rfl); have hc0_3 := ((HS.out.pick 0 rfl).cell 3).trans (show _ = some (.bool true) from rfl); have hf0_2 := (HS.out.pick 0 rfl).frozen 2; have hf0_3 := (HS.out.pick 0 rfl).frozen 3
    go_wp2_with (first | ((with_reducible refine gate_store (t := 4) (p := 43) rfl ?_); refine store_event (t := 4) (p := 43) (v := .tmp 41) (w1 := ?_) rfl rfl rfl ?_ ?_; rotate_left; (focus (first | (go_simp; done) | (go_simp; rfl))); intro w5 hw; have n0_ := Aside0.mk (hw ▸ (HS.out.pick 0 rfl).set 3 (.bool true) #[.int .i64 Kn, .int .i64 sd, .slice A1 l1.length c1, .bool true] rfl); have n1_ := Aside0.mk (hw ▸ (HS.out.pick 0 rfl).below_set (i := 3) (u := .bool true) HB.out); clear HS HB; have HS := n0_; have HB := n1_; clear n0_ n1_; (try simp only [List.eraseIdx_cons_succ, List.eraseIdx_cons_zero] at HS); clear hw; clear hc0_0 hc0_2 hc0_3 hf0_2 hf0_3; have hc0_0 := ((HS.out.pick 0 rfl).cell 0).trans (show _ = some (.int .i64 Kn) from rfl); have hc0_2 := ((HS.out.pick 0 rfl).cell 2).trans (show _ = some (.slice A1 l1.length c1) from rfl); have hf0_2 := (HS.out.pick 0 rfl).frozen 2) | ((with_reducible refine gate_store (t := 26) (p := 55) rfl ?_); refine store_event (t := 26) (p := 55) (v := .tmp 53) (w1 := ?_) rfl rfl rfl ?_ ?_; rotate_left; (focus (first | (go_simp; done) | (go_simp; rfl))); intro w6 hw; have n0_ := Aside0.mk (hw ▸ (HS.out.pick 0 rfl).set 2 (.slice AU U.length cU) #[.int .i64 Kn, .int .i64 sd, .slice AU U.length cU, .bool true] rfl); have n1_ := Aside0.mk (hw ▸ (HS.out.pick 0 rfl).below_set (i := 2) (u := .slice AU U.length cU) HB.out); clear HS HB; have HS := n0_; have HB := n1_; clear n0_ n1_; (try simp only [List.eraseIdx_cons_succ, List.eraseIdx_cons_zero] at HS); clear hw))
    go_ret
    have h1 := HS.out.pick 2 rfl
    have h2 := St.cutRow flatK h1 U.length (Nat.le_refl _)
    refine ⟨.slice AU U.length cU, U, rfl, hu1.out, hu2.out, hu3.out, ?_, HB.out⟩
    have e1 : U.take Kn = U.take U.length := by rw [List.take_of_length_le (by omega), List.take_of_length_le (Nat.le_refl _)]
    have e2 : ((true || true) || decide (Kn < U.length)) = true := by rw [decide_eq_false (by omega)]; rfl
    rw [e1, e2]
    exact ((h2.pick 2 rfl).drop).swap

theorem mrg_self_f (p q Kn : Nat) (sd : Int) (hK : Kn ≤ 1024) (l1 l2 : List S52) (z10 : l1.length ≤ 1000) (z20 : l2.length ≤ 1000) (A1 A2 : Option Addr) (c1 c2 : Nat) (b1 : ((Kn : Int) != (Kn : Int)) = false) (b2 : (sd != sd) = false) {N : Nat} {w : World} {L : List Res} (HS0 : St N w (Blk p #[.int .i64 Kn, .int .i64 sd, .slice A1 l1.length c1, .bool false] 59 :: Row k52 52 (.slice A1 l1.length c1) l1 :: L)) :
    Calls Try.prog 33 #[.pointer (some ⟨p, 0, none⟩), .pointer (some ⟨p, 0, none⟩)] w fun e w' => ∃ v' U, e = .returned (.int .i64 0) ∧ Inc U ∧ (∀ x, x ∈ U ↔ x ∈ l1 ∨ x ∈ l1) ∧ U.length ≤ 2000 ∧ St N w' (Blk p #[.int .i64 Kn, .int .i64 sd, v', .bool ((false || false) || decide (Kn < U.length))] 59 :: Row k52 52 v' (U.take Kn) :: L) ∧ Below N w w' := by
  have HS := Aside0.mk HS0
  have HB := Aside0.mk (Below.refl N w)
  have z1 := Aside0.mk z10
  have z2 := Aside0.mk z20
  clear HS0 z10 z20
  go_enter Try.func33, Try.ntmps33
  go_upto_region 4 with (first | ((with_reducible refine gate_callee (f := 63) rfl ?_); refine goesL_ (some 9) rfl rfl Try.func63 (by kernel_rfl) rfl #[.pointer (some ⟨p, 0, none⟩), .pointer (some ⟨p, 0, none⟩)] rfl (by (try simp only [List.map_toArray, List.map_cons, List.map_nil]); first | done | rfl | (simp only [List.length_drop, List.length_take]; rfl)) ?_; (with_reducible refine (fits_self p p _ (.slice none 0 0) false false (Kn : Int) sd (Kn : Int) sd b1 b2 HS.out).mono ?_); rintro e w1 ⟨rfl, hs1, hb⟩; refine ⟨_, rfl, ?_⟩; have n0_ := Aside0.mk (hs1); have n1_ := Aside0.mk (HB.out.trans hb); clear HS HB; have HS := n0_; have HB := n1_; clear n0_ n1_; (try simp only [List.eraseIdx_cons_succ, List.eraseIdx_cons_zero] at HS); clear hs1 hb))
  have n0_ := Aside0.mk (HS.out.drew); have n1_ := Aside0.mk (HB.out.drew); clear HS HB; have HS := n0_; have HB := n1_; clear n0_ n1_
  refine start_ (n := 10) (S := fun w' => w'.cell? ⟨p, 2, none⟩ = some (.slice A1 l1.length c1)) (ds := []) #[false, false, false, false, false, false, false, false, false, false] (by kernel_rfl) rfl rfl (((HS.out.pick 0 rfl).cell 2).trans rfl) (fun hHeld => ?_); refine with_tabW mrg.tab4 mrg.bits4 (fun HT_ HW_ => ?_)
  generalize w1.drew = w2 at HS HB hHeld ⊢
  refine pure_ (i := 0) (N := some 13) (v := ?_) (a' := ?_) #[true, false, false, false, false, false, false, false, false, false] rfl rfl (any_of HT_.out (by kernel_rfl)) (fun _ _ _ h => h) (Or.inl ⟨by rfl, ?_⟩) ?_ ?_
  rotate_left
  · intro w'
    go_simp
    with_reducible rfl
  rotate_left
  · simp only [Act.put, List.setIfInBounds_toArray, List.set_cons_zero, List.set_cons_succ, i64_w, i32_w]
    rfl
  refine pure_ (i := 1) (N := some 14) (v := ?_) (a' := ?_) #[true, true, false, false, false, false, false, false, false, false] rfl rfl (any_of HT_.out (by kernel_rfl)) (fun _ _ _ h => h) (Or.inl ⟨by rfl, ?_⟩) ?_ ?_
  rotate_left
  · intro w'
    go_simp
    with_reducible rfl
  rotate_left
  · simp only [Act.put, List.setIfInBounds_toArray, List.set_cons_zero, List.set_cons_succ, i64_w, i32_w]
    rfl
  refine pure_ (i := 2) (N := some 15) (v := ?_) (a' := ?_) #[true, true, true, false, false, false, false, false, false, false] rfl rfl (any_of HT_.out (by kernel_rfl)) (fun _ _ _ h => h) (Or.inl ⟨by rfl, ?_⟩) ?_ ?_
  rotate_left
  · intro w'
    go_simp
    with_reducible rfl
  rotate_left
  · simp only [Act.put, List.setIfInBounds_toArray, List.set_cons_zero, List.set_cons_succ, i64_w, i32_w]
    rfl
  refine pure_ (i := 4) (N := some 17) (v := ?_) (a' := ?_) #[true, true, true, false, true, false, false, false, false, false] rfl rfl (any_of HT_.out (by kernel_rfl)) (fun _ _ _ h => h) (Or.inl ⟨by rfl, ?_⟩) ?_ ?_
  rotate_left
  · intro w'
    go_simp
    with_reducible rfl
  rotate_left
  · simp only [Act.put, List.setIfInBounds_toArray, List.set_cons_zero, List.set_cons_succ, i64_w, i32_w]
    rfl
  refine pure_ (i := 5) (N := some 18) (v := ?_) (a' := ?_) #[true, true, true, false, true, true, false, false, false, false] rfl rfl (any_of HT_.out (by kernel_rfl)) (fun _ _ _ h => h) (Or.inl ⟨by rfl, ?_⟩) ?_ ?_
  rotate_left
  · intro w'
    go_simp
    with_reducible rfl
  rotate_left
  · simp only [Act.put, List.setIfInBounds_toArray, List.set_cons_zero, List.set_cons_succ, i64_w, i32_w]
    rfl
  refine pure_ (i := 6) (N := some 19) (v := ?_) (a' := ?_) #[true, true, true, false, true, true, true, false, false, false] rfl rfl (any_of HT_.out (by kernel_rfl)) (fun _ _ _ h => h) (Or.inl ⟨by rfl, ?_⟩) ?_ ?_
  rotate_left
  · intro w'
    go_simp
    with_reducible rfl
  rotate_left
  · simp only [Act.put, List.setIfInBounds_toArray, List.set_cons_zero, List.set_cons_succ, i64_w, i32_w]
    rfl
  refine take_ (i := 3) (N := some 16) (v := ?_) (a' := ?_) #[true, true, true, true, true, true, true, false, false, false] rfl rfl (take_ofW HT_.out HW_.out (by kernel_rfl)) (fun _ _ _ h => h) (Or.inl ⟨by rfl, ?_⟩) hHeld ?_ ?_
  rotate_left
  · rintro w' s0
    go_simp
    with_reducible rfl
  rotate_left
  · simp only [Act.put, List.setIfInBounds_toArray, List.set_cons_zero, List.set_cons_succ, i64_w, i32_w]
    rfl
  refine take_ (i := 7) (N := some 20) (v := ?_) (a' := ?_) #[true, true, true, true, true, true, true, true, false, false] rfl rfl (take_ofW HT_.out HW_.out (by kernel_rfl)) (fun _ _ _ h => h) (Or.inl ⟨by rfl, ?_⟩) hHeld ?_ ?_
  rotate_left
  · rintro w' s0
    go_simp
    with_reducible rfl
  rotate_left
  · simp only [Act.put, List.setIfInBounds_toArray, List.set_cons_zero, List.set_cons_succ, i64_w, i32_w]
    rfl
  refine one_ (i := 8) (N := some 21) #[true, true, true, true, true, true, true, true, true, false] rfl rfl (one_of HT_.out (by kernel_rfl)) (by decide) (fun K hK => ?_)
  refine goes_ Try.func64 (by kernel_rfl) rfl #[.slice A1 l1.length c1, .slice A1 l1.length c1, .func (.func 55) #[] #[]] (by rfl) rfl rfl (by (try simp only [List.map_toArray, List.map_cons, List.map_nil]); first | done | rfl | (simp only [List.length_drop, List.length_take]; rfl)) ?_
  with_reducible refine (merged_ok l1 l1 z1.out z1.out A1 A1 c1 c1 (fun w' h => ⟨⟨(h.pick 1 rfl).rowC.2.2, (h.pick 1 rfl).rowC.2.1⟩, ⟨(h.pick 1 rfl).rowC.2.2, (h.pick 1 rfl).rowC.2.1⟩⟩) HS.out).mono ?_
  rintro e w4 ⟨v4, U, rfl, hu1, hu2, hu3, hs1, hb⟩
  refine ⟨_, rfl, ?_⟩
  have n0_ := Aside0.mk (((hs1.pick 2 rfl).pick 2 rfl)); have n1_ := Aside0.mk (HB.out.trans hb); clear HS HB; have HS := n0_; have HB := n1_; clear n0_ n1_; (try simp only [List.eraseIdx_cons_succ, List.eraseIdx_cons_zero] at HS)
  clear hs1 hb; replace hu1 := Aside0.mk hu1; replace hu2 := Aside0.mk hu2; replace hu3 := Aside0.mk hu3; obtain ⟨AU, cU, eU⟩ : ∃ (A : Option Addr) (c : Nat), v4 = .slice A U.length c := (by obtain ⟨A, c, e, _, _⟩ := (HS.out.pick 2 rfl).reads; exact ⟨A, c, e⟩); subst eU
  refine hK.out _ _ (((HS.out.pick 0 rfl).cell 2).trans rfl) (fun hHeld => ?_)
  clear hK K
  refine norm_ (a' := ?_) ?_ ?_
  rotate_left
  · show Act.put _ (some 21) _ = _
    simp only [Act.put, List.setIfInBounds_toArray, List.set_cons_zero, List.set_cons_succ, i64_w, i32_w]
    rfl
  refine pure_ (i := 9) (N := some 6) (v := ?_) (a' := ?_) #[true, true, true, true, true, true, true, true, true, true] rfl rfl (any_of HT_.out (by kernel_rfl)) (fun _ _ _ h => h) (Or.inl ⟨by rfl, ?_⟩) ?_ ?_
  rotate_left
  · intro w'
    go_simp
    with_reducible rfl
  rotate_left
  · simp only [Act.put, List.setIfInBounds_toArray, List.set_cons_zero, List.set_cons_succ, i64_w, i32_w]
    rfl
  refine done_ (done_of HT_.out (by kernel_rfl)) ?_
  clear HT_ HW_
  try clear hHeld
  by_cases hlt : Kn < U.length
  · have hn := Aside0.mk (HS.out.pick 2 rfl).rowC.2.1
    have g1 : ((Kn : Int) < (U.length : Int)) = True := eq_true (by omega)
    have g2 : decide ((U.length : Int) > (Kn : Int)) = true := decide_eq_true (by omega)
    have g3 : (0 : Int) ≤ (Kn : Int) := by omega
    have g4 : (Kn : Int) ≤ (cU : Int) := by have := hn.out; omega
    have g5 : (0 : Int) ≤ (U.length : Int) := by omega
    have hc0_0 := ((HS.out.pick 0 rfl).cell 0).trans (show _ = some (.int .i64 Kn) from rfl); have hc0_2 := ((HS.out.pick 0 rfl).cell 2).trans (show _ = some (.slice A1 l1.length c1) from rfl); have hc0_3 := ((HS.out.pick 0 rfl).cell 3).trans (show _ = some (.bool false) from rfl); have hf0_2 := (HS.out.pick 0 rfl).frozen 2; have hf0_3 := (HS.out.pick 0 rfl).frozen 3
    go_wp2_with (first | ((with_reducible refine gate_store (t := 4) (p := 43) rfl ?_); refine store_event (t := 4) (p := 43) (v := .tmp 41) (w1 := ?_) rfl rfl rfl ?_ ?_; rotate_left; (focus (first | (go_simp; done) | (go_simp; rfl))); intro w5 hw; have n0_ := Aside0.mk (hw ▸ (HS.out.pick 0 rfl).set 3 (.bool true) #[.int .i64 Kn, .int .i64 sd, .slice A1 l1.length c1, .bool true] rfl); have n1_ := Aside0.mk (hw ▸ (HS.out.pick 0 rfl).below_set (i := 3) (u := .bool true) HB.out); clear HS HB; have HS := n0_; have HB := n1_; clear n0_ n1_; (try simp only [List.eraseIdx_cons_succ, List.eraseIdx_cons_zero] at HS); clear hw; clear hc0_0 hc0_2 hc0_3 hf0_2 hf0_3; have hc0_0 := ((HS.out.pick 0 rfl).cell 0).trans (show _ = some (.int .i64 Kn) from rfl); have hc0_2 := ((HS.out.pick 0 rfl).cell 2).trans (show _ = some (.slice A1 l1.length c1) from rfl); have hf0_2 := (HS.out.pick 0 rfl).frozen 2) | ((with_reducible refine gate_store (t := 26) (p := 55) rfl ?_); refine store_event (t := 26) (p := 55) (v := .tmp 53) (w1 := ?_) rfl rfl rfl ?_ ?_; rotate_left; (focus (first | (go_simp; done) | (go_simp; rfl))); intro w6 hw; have n0_ := Aside0.mk (hw ▸ (HS.out.pick 0 rfl).set 2 (.slice AU Kn cU) #[.int .i64 Kn, .int .i64 sd, .slice AU Kn cU, .bool true] rfl); have n1_ := Aside0.mk (hw ▸ (HS.out.pick 0 rfl).below_set (i := 2) (u := .slice AU Kn cU) HB.out); clear HS HB; have HS := n0_; have HB := n1_; clear n0_ n1_; (try simp only [List.eraseIdx_cons_succ, List.eraseIdx_cons_zero] at HS); clear hw))
    go_ret
    have h1 := HS.out.pick 2 rfl
    have h2 := St.cutRow flatK h1 Kn (by omega)
    refine ⟨.slice AU Kn cU, U, rfl, hu1.out, hu2.out, hu3.out, ?_, HB.out⟩
    have e1 : U.take Kn = U.take Kn := rfl
    have e2 : ((false || false) || decide (Kn < U.length)) = true := by rw [decide_eq_true (by omega)]; rfl
    rw [e1, e2]
    exact ((h2.pick 2 rfl).drop).swap
  · have hn := Aside0.mk (HS.out.pick 2 rfl).rowC.2.1
    have g1 : ((Kn : Int) < (U.length : Int)) = False := eq_false (by omega)
    have g2 : decide ((U.length : Int) > (Kn : Int)) = false := decide_eq_false (by omega)
    have g3 : (0 : Int) ≤ (Kn : Int) := by omega
    have g4 : (U.length : Int) ≤ (cU : Int) := by have := hn.out; omega
    have g5 : (0 : Int) ≤ (U.length : Int) := by omega
    have hc0_0 := ((HS.out.pick 0 rfl).cell 0).trans (show _ = some (.int .i64 Kn) from rfl); have hc0_2 := ((HS.out.pick 0 rfl).cell 2).trans (show _ = some (.slice A1 l1.length c1) from rfl); have hc0_3 := ((HS.out.pick 0 rfl).cell 3).trans (show _ = some (.bool false) from rfl); have hf0_2 := (HS.out.pick 0 rfl).frozen 2; have hf0_3 := (HS.out.pick 0 rfl).frozen 3
    go_wp2_with (first | ((with_reducible refine gate_store (t := 4) (p := 43) rfl ?_); refine store_event (t := 4) (p := 43) (v := .tmp 41) (w1 := ?_) rfl rfl rfl ?_ ?_; rotate_left; (focus (first | (go_simp; done) | (go_simp; rfl))); intro w5 hw; have n0_ := Aside0.mk (hw ▸ (HS.out.pick 0 rfl).set 3 (.bool false) #[.int .i64 Kn, .int .i64 sd, .slice A1 l1.length c1, .bool false] rfl); have n1_ := Aside0.mk (hw ▸ (HS.out.pick 0 rfl).below_set (i := 3) (u := .bool false) HB.out); clear HS HB; have HS := n0_; have HB := n1_; clear n0_ n1_; (try simp only [List.eraseIdx_cons_succ, List.eraseIdx_cons_zero] at HS); clear hw; clear hc0_0 hc0_2 hc0_3 hf0_2 hf0_3; have hc0_0 := ((HS.out.pick 0 rfl).cell 0).trans (show _ = some (.int .i64 Kn) from rfl); have hc0_2 := ((HS.out.pick 0 rfl).cell 2).trans (show _ = some (.slice A1 l1.length c1) from rfl); have hf0_2 := (HS.out.pick 0 rfl).frozen 2) | ((with_reducible refine gate_store (t := 26) (p := 55) rfl ?_); refine store_event (t := 26) (p := 55) (v := .tmp 53) (w1 := ?_) rfl rfl rfl ?_ ?_; rotate_left; (focus (first | (go_simp; done) | (go_simp; rfl))); intro w6 hw; have n0_ := Aside0.mk (hw ▸ (HS.out.pick 0 rfl).set 2 (.slice AU U.length cU) #[.int .i64 Kn, .int .i64 sd, .slice AU U.length cU, .bool false] rfl); have n1_ := Aside0.mk (hw ▸ (HS.out.pick 0 rfl).below_set (i := 2) (u := .slice AU U.length cU) HB.out); clear HS HB; have HS := n0_; have HB := n1_; clear n0_ n1_; (try simp only [List.eraseIdx_cons_succ, List.eraseIdx_cons_zero] at HS); clear hw))
    go_ret
    have h1 := HS.out.pick 2 rfl
    have h2 := St.cutRow flatK h1 U.length (Nat.le_refl _)
    refine ⟨.slice AU U.length cU, U, rfl, hu1.out, hu2.out, hu3.out, ?_, HB.out⟩
    have e1 : U.take Kn = U.take U.length := by rw [List.take_of_length_le (by omega), List.take_of_length_le (Nat.le_refl _)]
    have e2 : ((false || false) || decide (Kn < U.length)) = false := by rw [decide_eq_false (by omega)]; rfl
    rw [e1, e2]
    exact ((h2.pick 2 rfl).drop).swap

theorem Merge_sk (p q Kn : Nat) (sd : Int) (hK : Kn ≤ 1000) (l m W : List S52) (hl : Inc l) (hm : Inc m) (hW : Inc W) (hWm : ∀ x, x ∈ W ↔ x ∈ l ∨ x ∈ m) {N : Nat} {w : World} {L : List Res} (HS0 : St N w (Sk p Kn sd l :: Sk q Kn sd m :: L)) :
    Calls Try.prog 33 #[.pointer (some ⟨p, 0, none⟩), .pointer (some ⟨q, 0, none⟩)] w fun e w' => e = .returned (.int .i64 0) ∧ St N w' (Sk p Kn sd W :: Sk q Kn sd m :: L) ∧ Below N w w' := by
  obtain ⟨v1, h1⟩ := Sk_open HS0
  obtain ⟨A1, c1, e1, _, _⟩ := h1.swap.reads
  subst e1
  have h2 := h1.pick 2 rfl
  simp only [List.eraseIdx_cons_succ, List.eraseIdx_cons_zero] at h2
  obtain ⟨v2, h3⟩ := Sk_open h2
  obtain ⟨A2, c2, e2, _, _⟩ := h3.swap.reads
  subst e2
  have h4 := (h3.pick 3 rfl).pick 3 rfl
  simp only [List.eraseIdx_cons_succ, List.eraseIdx_cons_zero] at h4
  have z1 : (l.take Kn).length ≤ 1000 := by rw [List.length_take]; omega
  have z2 : (m.take Kn).length ≤ 1000 := by rw [List.length_take]; omega
  have b1 : ((Kn : Int) != (Kn : Int)) = false := by simp
  have b2 : (sd != sd) = false := by simp
  have fin : ∀ (v' : Value) (U : List S52) (w' : World), Inc U → (∀ x, x ∈ U ↔ x ∈ l.take Kn ∨ x ∈ m.take Kn) → St N w' (Blk p #[.int .i64 Kn, .int .i64 sd, v', .bool ((decide (Kn < l.length) || decide (Kn < m.length)) || decide (Kn < U.length))] 59 :: Row k52 52 v' (U.take Kn) :: Blk q #[.int .i64 Kn, .int .i64 sd, .slice A2 (m.take Kn).length c2, .bool (decide (Kn < m.length))] 59 :: Row k52 52 (.slice A2 (m.take Kn).length c2) (m.take Kn) :: L) → St N w' (Sk p Kn sd W :: Sk q Kn sd m :: L) := by
    intro v' U w' hU hUm hs
    obtain ⟨t1, t2⟩ := merge_take Kn l m W U hl hm hW hU hWm hUm
    rw [t1, t2] at hs
    have h6 := (Sk_shut hs).pick 1 rfl
    simp only [List.eraseIdx_cons_succ, List.eraseIdx_cons_zero] at h6
    have h7 := h6.pick 2 rfl
    simp only [List.eraseIdx_cons_succ, List.eraseIdx_cons_zero] at h7
    exact (Sk_shut h7.swap).swap
  by_cases k1 : Kn < l.length
  · rw [decide_eq_true k1] at h4 fin
    refine (mrg_tt p q Kn sd (by omega) (l.take Kn) (m.take Kn) z1 z2 A1 A2 c1 c2 b1 b2 _ h4).mono ?_
    rintro e w' ⟨v', U, rfl, hU, hUm, _, hs, hb⟩
    exact ⟨rfl, fin v' U w' hU hUm hs, hb⟩
  · rw [decide_eq_false k1] at h4 fin
    by_cases k2 : Kn < m.length
    · rw [decide_eq_true k2] at h4 fin
      refine (mrg_ft p q Kn sd (by omega) (l.take Kn) (m.take Kn) z1 z2 A1 A2 c1 c2 b1 b2 h4).mono ?_
      rintro e w' ⟨v', U, rfl, hU, hUm, _, hs, hb⟩
      exact ⟨rfl, fin v' U w' hU hUm hs, hb⟩
    · rw [decide_eq_false k2] at h4 fin
      refine (mrg_ff p q Kn sd (by omega) (l.take Kn) (m.take Kn) z1 z2 A1 A2 c1 c2 b1 b2 h4).mono ?_
      rintro e w' ⟨v', U, rfl, hU, hUm, _, hs, hb⟩
      exact ⟨rfl, fin v' U w' hU hUm hs, hb⟩
theorem Merge_self (p Kn : Nat) (sd : Int) (hK : Kn ≤ 1000) (l : List S52) (hl : Inc l) {N : Nat} {w : World} {L : List Res} (HS0 : St N w (Sk p Kn sd l :: L)) :
    Calls Try.prog 33 #[.pointer (some ⟨p, 0, none⟩), .pointer (some ⟨p, 0, none⟩)] w fun e w' => e = .returned (.int .i64 0) ∧ St N w' (Sk p Kn sd l :: L) ∧ Below N w w' := by
  obtain ⟨v1, h1⟩ := Sk_open HS0
  obtain ⟨A1, c1, e1, _, _⟩ := h1.swap.reads
  subst e1
  have z1 : (l.take Kn).length ≤ 1000 := by rw [List.length_take]; omega
  have b1 : ((Kn : Int) != (Kn : Int)) = false := by simp
  have b2 : (sd != sd) = false := by simp
  have fin : ∀ (v' : Value) (U : List S52) (w' : World), Inc U → (∀ x, x ∈ U ↔ x ∈ l.take Kn ∨ x ∈ l.take Kn) → St N w' (Blk p #[.int .i64 Kn, .int .i64 sd, v', .bool ((decide (Kn < l.length) || decide (Kn < l.length)) || decide (Kn < U.length))] 59 :: Row k52 52 v' (U.take Kn) :: L) → St N w' (Sk p Kn sd l :: L) := by
    intro v' U w' hU hUm hs
    obtain ⟨t1, t2⟩ := merge_take Kn l l l U hl hl hl hU (fun x => by simp) hUm
    rw [t1, t2] at hs
    exact Sk_shut hs
  by_cases k1 : Kn < l.length
  · rw [decide_eq_true k1] at h1 fin
    refine (mrg_self_t p p Kn sd (by omega) (l.take Kn) (l.take Kn) z1 z1 A1 A1 c1 c1 b1 b2 h1).mono ?_
    rintro e w' ⟨v', U, rfl, hU, hUm, _, hs, hb⟩
    exact ⟨rfl, fin v' U w' hU hUm hs, hb⟩
  · rw [decide_eq_false k1] at h1 fin
    refine (mrg_self_f p p Kn sd (by omega) (l.take Kn) (l.take Kn) z1 z1 A1 A1 c1 c1 b1 b2 h1).mono ?_
    rintro e w' ⟨v', U, rfl, hU, hUm, _, hs, hb⟩
    exact ⟨rfl, fin v' U w' hU hUm hs, hb⟩

end Go.Proofs.Ytddhpkobingmhaa.PB
