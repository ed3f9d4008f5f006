/- Texts of this claim, taken together: Sk24, Sk26, ContM, Sk27. -/
import Derived.Test.YtddhpkobingmhaaJ9
import Derived.Test.YtddhpkobingmhaaJ7
import Derived.Test.YtddhpkobingmhaaJ6
import Derived.Test.YtddhpkobingmhaaJ8
/-! # Sk24 -/
section
namespace Go.Proofs.Ytddhpkobingmhaa.PB
open Go.RowKit Go.Proofs.YtddhpkobingmhaaW.PrintWords Go.Proofs.YtddhpkobingmhaaW.PrintLast Go.Proofs.YtddhpkobingmhaaW.PrintMore Go.Proofs.Ytddhpkobingmhaa.Sep
attribute [local go_sem] max2_int min2_int max_two min_two
set_option linter.unusedVariables false
set_option linter.unusedSimpArgs false
set_option maxHeartbeats 8000000
set_option maxRecDepth 100000

def mrg.T4 : Bool × List (List Nat × List Nat) := (true, [([], []), ([0], [0]), ([1], [1]), ([2], [2]), ([], []), ([4], [4]), ([5], [5]), ([6], [6]), ([3, 7], [3, 7]), ([8, 8, 0, 1, 2, 3, 4, 5, 6, 7, 8], [8])])
def mrg.B4 : List Nat := [0, 1, 3, 7, 0, 16, 48, 112, 255, 511]
theorem mrg.tab4 : rtab .any (opsOf Try.f33 4) = mrg.T4 := by kernel_rfl
theorem mrg.bits4 : waitsOk mrg.T4.2 mrg.B4 = true := by kernel_rfl
theorem mrg_tt (p q Kn : Nat) (sd : Int) (hK : Kn ≤ 1024) (l1 l2 : List S52) (z10 : l1.length ≤ 1000) (z20 : l2.length ≤ 1000) (A1 A2 : Option Addr) (c1 c2 : Nat) (b1 : ((Kn : Int) != (Kn : Int)) = false) (b2 : (sd != sd) = false) (m2 : Bool) {N : Nat} {w : World} {L : List Res} (HS0 : St N w (Blk p #[.int .i64 Kn, .int .i64 sd, .slice A1 l1.length c1, .bool true] 59 :: Row k52 52 (.slice A1 l1.length c1) l1 :: Blk q #[.int .i64 Kn, .int .i64 sd, .slice A2 l2.length c2, .bool m2] 59 :: Row k52 52 (.slice A2 l2.length c2) l2 :: L)) :
    Calls Try.prog 33 #[.pointer (some ⟨p, 0, none⟩), .pointer (some ⟨q, 0, none⟩)] w fun e w' => ∃ v' U, e = .returned (.int .i64 0) ∧ Inc U ∧ (∀ x, x ∈ U ↔ x ∈ l1 ∨ x ∈ l2) ∧ U.length ≤ 2000 ∧ St N w' (Blk p #[.int .i64 Kn, .int .i64 sd, v', .bool ((true || m2) || decide (Kn < U.length))] 59 :: Row k52 52 v' (U.take Kn) :: Blk q #[.int .i64 Kn, .int .i64 sd, .slice A2 l2.length c2, .bool m2] 59 :: Row k52 52 (.slice A2 l2.length c2) l2 :: L) ∧ Below N w w' := by
  have HS := Aside0.mk HS0
  have HB := Aside0.mk (Below.refl N w)
  have z1 := Aside0.mk z10
  have z2 := Aside0.mk z20
  clear HS0 z10 z20
  go_enter Try.func33, Try.ntmps33
  go_upto_region 4 with (first | ((with_reducible refine gate_callee (f := 63) rfl ?_); refine goesL_ (some 9) rfl rfl Try.func63 (by kernel_rfl) rfl #[.pointer (some ⟨p, 0, none⟩), .pointer (some ⟨q, 0, none⟩)] rfl (by (try simp only [List.map_toArray, List.map_cons, List.map_nil]); first | done | rfl | (simp only [List.length_drop, List.length_take]; rfl)) ?_; (with_reducible refine (fits_same p q _ _ true m2 (Kn : Int) sd (Kn : Int) sd b1 b2 ((HS.out.pick 2 rfl).pick 1 rfl)).mono ?_); rintro e w1 ⟨rfl, hs1, hb⟩; refine ⟨_, rfl, ?_⟩; have n0_ := Aside0.mk ((hs1.pick 2 rfl).pick 1 rfl); have n1_ := Aside0.mk (HB.out.trans hb); clear HS HB; have HS := n0_; have HB := n1_; clear n0_ n1_; (try simp only [List.eraseIdx_cons_succ, List.eraseIdx_cons_zero] at HS); clear hs1 hb))
  have n0_ := Aside0.mk (HS.out.drew); have n1_ := Aside0.mk (HB.out.drew); clear HS HB; have HS := n0_; have HB := n1_; clear n0_ n1_
  refine start_ (n := 10) (S := fun w' => w'.cell? ⟨p, 2, none⟩ = some (.slice A1 l1.length c1) ∧ w'.cell? ⟨q, 2, none⟩ = some (.slice A2 l2.length c2)) (ds := []) #[false, false, false, false, false, false, false, false, false, false] (by kernel_rfl) rfl rfl ⟨((HS.out.pick 0 rfl).cell 2).trans rfl, ((HS.out.pick 2 rfl).cell 2).trans rfl⟩ (fun hHeld => ?_); refine with_tabW mrg.tab4 mrg.bits4 (fun HT_ HW_ => ?_)
  generalize w1.drew = w2 at HS HB hHeld ⊢
  refine pU 0 13 #[true, false, false, false, false, false, false, false, false, false] rfl rfl HT_ ?_
  refine pU 1 14 #[true, true, false, false, false, false, false, false, false, false] rfl rfl HT_ ?_
  refine pU 2 15 #[true, true, true, false, false, false, false, false, false, false] rfl rfl HT_ ?_
  refine pU 4 17 #[true, true, true, false, true, false, false, false, false, false] rfl rfl HT_ ?_
  refine pU 5 18 #[true, true, true, false, true, true, false, false, false, false] rfl rfl HT_ ?_
  refine pU 6 19 #[true, true, true, false, true, true, true, false, false, false] rfl rfl HT_ ?_
  refine tK 3 16 #[true, true, true, true, true, true, true, false, false, false] rfl rfl HT_ HW_ hHeld ?_ (by rintro w' ⟨s0, s1⟩; go_simp; with_reducible rfl)
  refine tK 7 20 #[true, true, true, true, true, true, true, true, false, false] rfl rfl HT_ HW_ hHeld ?_ (by rintro w' ⟨s0, s1⟩; go_simp; with_reducible rfl)
  refine one_ (i := 8) (N := some 21) #[true, true, true, true, true, true, true, true, true, false] rfl rfl (one_of HT_.out (by kernel_rfl)) (by decide) (fun K hK => ?_)
  refine goes_ Try.func64 (by kernel_rfl) rfl #[.slice A1 l1.length c1, .slice A2 l2.length c2, .func (.func 55) #[] #[]] (by rfl) rfl rfl (by (try simp only [List.map_toArray, List.map_cons, List.map_nil]); first | done | rfl | (simp only [List.length_drop, List.length_take]; rfl)) ?_
  with_reducible refine (merged_ok l1 l2 z1.out z2.out A1 A2 c1 c2 (fun w' h => ⟨⟨(h.pick 1 rfl).rowC.2.2, (h.pick 1 rfl).rowC.2.1⟩, ⟨(h.pick 3 rfl).rowC.2.2, (h.pick 3 rfl).rowC.2.1⟩⟩) HS.out).mono ?_
  rintro e w4 ⟨v4, U, rfl, hu1, hu2, hu3, hs1, hb⟩
  refine ⟨_, rfl, ?_⟩
  have n0_ := Aside0.mk (((((hs1.pick 4 rfl).pick 4 rfl).pick 4 rfl).pick 4 rfl)); have n1_ := Aside0.mk (HB.out.trans hb); clear HS HB; have HS := n0_; have HB := n1_; clear n0_ n1_; (try simp only [List.eraseIdx_cons_succ, List.eraseIdx_cons_zero] at HS)
  clear hs1 hb; replace hu1 := Aside0.mk hu1; replace hu2 := Aside0.mk hu2; replace hu3 := Aside0.mk hu3; obtain ⟨AU, cU, eU⟩ : ∃ (A : Option Addr) (c : Nat), v4 = .slice A U.length c := (by obtain ⟨A, c, e, _, _⟩ := (HS.out.pick 4 rfl).reads; exact ⟨A, c, e⟩); subst eU
  refine hK.out _ _ ⟨((HS.out.pick 0 rfl).cell 2).trans rfl, ((HS.out.pick 2 rfl).cell 2).trans rfl⟩ (fun hHeld => ?_)
  clear hK K
  refine norm_ (a' := ?_) ?_ ?_
  rotate_left
  · show Act.put _ (some 21) _ = _
    simp only [Act.put, List.setIfInBounds_toArray, List.set_cons_zero, List.set_cons_succ, i64_w, i32_w]
    rfl
  refine pU 9 6 #[true, true, true, true, true, true, true, true, true, true] rfl rfl HT_ ?_
  refine done_ (done_of HT_.out (by kernel_rfl)) ?_
  clear HT_ HW_
  try clear hHeld
  by_cases hlt : Kn < U.length
  · have hn := Aside0.mk (HS.out.pick 4 rfl).rowC.2.1
    have g1 : ((Kn : Int) < (U.length : Int)) = True := eq_true (by omega)
    have g2 : decide ((U.length : Int) > (Kn : Int)) = true := decide_eq_true (by omega)
    have g3 : (0 : Int) ≤ (Kn : Int) := by omega
    have g4 : (Kn : Int) ≤ (cU : Int) := by have := hn.out; omega
    have g5 : (0 : Int) ≤ (U.length : Int) := by omega
    have hc0_0 := ((HS.out.pick 0 rfl).cell 0).trans (show _ = some (.int .i64 Kn) from rfl); have hc0_2 := ((HS.out.pick 0 rfl).cell 2).trans (show _ = some (.slice A1 l1.length c1) from rfl); have hc0_3 := ((HS.out.pick 0 rfl).cell 3).trans (show _ = some (.bool true) from rfl); have hc2_3 := ((HS.out.pick 2 rfl).cell 3).trans (show _ = some (.bool m2) from rfl); have hf0_2 := (HS.out.pick 0 rfl).frozen 2; have hf0_3 := (HS.out.pick 0 rfl).frozen 3
    go_wp2_with (first | ((with_reducible refine gate_store (t := 4) (p := 43) rfl ?_); refine store_event (t := 4) (p := 43) (v := .tmp 41) (w1 := ?_) rfl rfl rfl ?_ ?_; rotate_left; (focus (first | (go_simp; done) | (go_simp; rfl))); intro w5 hw; have n0_ := Aside0.mk (hw ▸ (HS.out.pick 0 rfl).set 3 (.bool true) #[.int .i64 Kn, .int .i64 sd, .slice A1 l1.length c1, .bool true] rfl); have n1_ := Aside0.mk (hw ▸ (HS.out.pick 0 rfl).below_set (i := 3) (u := .bool true) HB.out); clear HS HB; have HS := n0_; have HB := n1_; clear n0_ n1_; (try simp only [List.eraseIdx_cons_succ, List.eraseIdx_cons_zero] at HS); clear hw; clear hc0_0 hc0_2 hc0_3 hf0_2 hf0_3 hc2_3; have hc0_0 := ((HS.out.pick 0 rfl).cell 0).trans (show _ = some (.int .i64 Kn) from rfl); have hc0_2 := ((HS.out.pick 0 rfl).cell 2).trans (show _ = some (.slice A1 l1.length c1) from rfl); have hf0_2 := (HS.out.pick 0 rfl).frozen 2) | ((with_reducible refine gate_store (t := 26) (p := 55) rfl ?_); refine store_event (t := 26) (p := 55) (v := .tmp 53) (w1 := ?_) rfl rfl rfl ?_ ?_; rotate_left; (focus (first | (go_simp; done) | (go_simp; rfl))); intro w6 hw; have n0_ := Aside0.mk (hw ▸ (HS.out.pick 0 rfl).set 2 (.slice AU Kn cU) #[.int .i64 Kn, .int .i64 sd, .slice AU Kn cU, .bool true] rfl); have n1_ := Aside0.mk (hw ▸ (HS.out.pick 0 rfl).below_set (i := 2) (u := .slice AU Kn cU) HB.out); clear HS HB; have HS := n0_; have HB := n1_; clear n0_ n1_; (try simp only [List.eraseIdx_cons_succ, List.eraseIdx_cons_zero] at HS); clear hw))
    go_ret
    have h1 := HS.out.pick 4 rfl
    have h2 := St.cutRow flatK h1 Kn (by omega)
    refine ⟨.slice AU Kn cU, U, rfl, hu1.out, hu2.out, hu3.out, ?_, HB.out⟩
    have e1 : U.take Kn = U.take Kn := rfl
    have e2 : ((true || m2) || decide (Kn < U.length)) = true := by rw [decide_eq_true (by omega)]; rfl
    rw [e1, e2]
    exact ((h2.pick 2 rfl).drop).swap
  · have hn := Aside0.mk (HS.out.pick 4 rfl).rowC.2.1
    have g1 : ((Kn : Int) < (U.length : Int)) = False := eq_false (by omega)
    have g2 : decide ((U.length : Int) > (Kn : Int)) = false := decide_eq_false (by omega)
    have g3 : (0 : Int) ≤ (Kn : Int) := by omega
    have g4 : (U.length : Int) ≤ (cU : Int) := by have := hn.out; omega
    have g5 : (0 : Int) ≤ (U.length : Int) := by omega
    have hc0_0 := ((HS.out.pick 0 rfl).cell 0).trans (show _ = some (.int .i64 Kn) from rfl); have hc0_2 := ((HS.out.pick 0 rfl).cell 2).trans (show _ = some (.slice A1 l1.length c1) from rfl); have hc0_3 := ((HS.out.pick 0 rfl).cell 3).trans (show _ = some (.bool true) from rfl); have hc2_3 := ((HS.out.pick 2 rfl).cell 3).trans (show _ = some (.bool m2) from rfl); have hf0_2 := (HS.out.pick 0 rfl).frozen 2; have hf0_3 := (HS.out.pick 0 rfl).frozen 3
    go_wp2_with (first | ((with_reducible refine gate_store (t := 4) (p := 43) rfl ?_); refine store_event (t := 4) (p := 43) (v := .tmp 41) (w1 := ?_) rfl rfl rfl ?_ ?_; rotate_left; (focus (first | (go_simp; done) | (go_simp; rfl))); intro w5 hw; have n0_ := Aside0.mk (hw ▸ (HS.out.pick 0 rfl).set 3 (.bool true) #[.int .i64 Kn, .int .i64 sd, .slice A1 l1.length c1, .bool true] rfl); have n1_ := Aside0.mk (hw ▸ (HS.out.pick 0 rfl).below_set (i := 3) (u := .bool true) HB.out); clear HS HB; have HS := n0_; have HB := n1_; clear n0_ n1_; (try simp only [List.eraseIdx_cons_succ, List.eraseIdx_cons_zero] at HS); clear hw; clear hc0_0 hc0_2 hc0_3 hf0_2 hf0_3 hc2_3; have hc0_0 := ((HS.out.pick 0 rfl).cell 0).trans (show _ = some (.int .i64 Kn) from rfl); have hc0_2 := ((HS.out.pick 0 rfl).cell 2).trans (show _ = some (.slice A1 l1.length c1) from rfl); have hf0_2 := (HS.out.pick 0 rfl).frozen 2) | ((with_reducible refine gate_store (t := 26) (p := 55) rfl ?_); refine store_event (t := 26) (p := 55) (v := .tmp 53) (w1 := ?_) rfl rfl rfl ?_ ?_; rotate_left; (focus (first | (go_simp; done) | (go_simp; rfl))); intro w6 hw; have n0_ := Aside0.mk (hw ▸ (HS.out.pick 0 rfl).set 2 (.slice AU U.length cU) #[.int .i64 Kn, .int .i64 sd, .slice AU U.length cU, .bool true] rfl); have n1_ := Aside0.mk (hw ▸ (HS.out.pick 0 rfl).below_set (i := 2) (u := .slice AU U.length cU) HB.out); clear HS HB; have HS := n0_; have HB := n1_; clear n0_ n1_; (try simp only [List.eraseIdx_cons_succ, List.eraseIdx_cons_zero] at HS); clear hw))
    go_ret
    have h1 := HS.out.pick 4 rfl
    have h2 := St.cutRow flatK h1 U.length (Nat.le_refl _)
    refine ⟨.slice AU U.length cU, U, rfl, hu1.out, hu2.out, hu3.out, ?_, HB.out⟩
    have e1 : U.take Kn = U.take U.length := by rw [List.take_of_length_le (by omega), List.take_of_length_le (Nat.le_refl _)]
    have e2 : ((true || m2) || decide (Kn < U.length)) = true := by rw [decide_eq_false (by omega)]; rfl
    rw [e1, e2]
    exact ((h2.pick 2 rfl).drop).swap

theorem mrg_ft (p q Kn : Nat) (sd : Int) (hK : Kn ≤ 1024) (l1 l2 : List S52) (z10 : l1.length ≤ 1000) (z20 : l2.length ≤ 1000) (A1 A2 : Option Addr) (c1 c2 : Nat) (b1 : ((Kn : Int) != (Kn : Int)) = false) (b2 : (sd != sd) = false) {N : Nat} {w : World} {L : List Res} (HS0 : St N w (Blk p #[.int .i64 Kn, .int .i64 sd, .slice A1 l1.length c1, .bool false] 59 :: Row k52 52 (.slice A1 l1.length c1) l1 :: Blk q #[.int .i64 Kn, .int .i64 sd, .slice A2 l2.length c2, .bool true] 59 :: Row k52 52 (.slice A2 l2.length c2) l2 :: L)) :
    Calls Try.prog 33 #[.pointer (some ⟨p, 0, none⟩), .pointer (some ⟨q, 0, none⟩)] w fun e w' => ∃ v' U, e = .returned (.int .i64 0) ∧ Inc U ∧ (∀ x, x ∈ U ↔ x ∈ l1 ∨ x ∈ l2) ∧ U.length ≤ 2000 ∧ St N w' (Blk p #[.int .i64 Kn, .int .i64 sd, v', .bool ((false || true) || decide (Kn < U.length))] 59 :: Row k52 52 v' (U.take Kn) :: Blk q #[.int .i64 Kn, .int .i64 sd, .slice A2 l2.length c2, .bool true] 59 :: Row k52 52 (.slice A2 l2.length c2) l2 :: L) ∧ Below N w w' := by
  have HS := Aside0.mk HS0
  have HB := Aside0.mk (Below.refl N w)
  have z1 := Aside0.mk z10
  have z2 := Aside0.mk z20
  clear HS0 z10 z20
  go_enter Try.func33, Try.ntmps33
  go_upto_region 4 with (first | ((with_reducible refine gate_callee (f := 63) rfl ?_); refine goesL_ (some 9) rfl rfl Try.func63 (by kernel_rfl) rfl #[.pointer (some ⟨p, 0, none⟩), .pointer (some ⟨q, 0, none⟩)] rfl (by (try simp only [List.map_toArray, List.map_cons, List.map_nil]); first | done | rfl | (simp only [List.length_drop, List.length_take]; rfl)) ?_; (with_reducible refine (fits_same p q _ _ false true (Kn : Int) sd (Kn : Int) sd b1 b2 ((HS.out.pick 2 rfl).pick 1 rfl)).mono ?_); rintro e w1 ⟨rfl, hs1, hb⟩; refine ⟨_, rfl, ?_⟩; have n0_ := Aside0.mk ((hs1.pick 2 rfl).pick 1 rfl); have n1_ := Aside0.mk (HB.out.trans hb); clear HS HB; have HS := n0_; have HB := n1_; clear n0_ n1_; (try simp only [List.eraseIdx_cons_succ, List.eraseIdx_cons_zero] at HS); clear hs1 hb))
  have n0_ := Aside0.mk (HS.out.drew); have n1_ := Aside0.mk (HB.out.drew); clear HS HB; have HS := n0_; have HB := n1_; clear n0_ n1_
  refine start_ (n := 10) (S := fun w' => w'.cell? ⟨p, 2, none⟩ = some (.slice A1 l1.length c1) ∧ w'.cell? ⟨q, 2, none⟩ = some (.slice A2 l2.length c2)) (ds := []) #[false, false, false, false, false, false, false, false, false, false] (by kernel_rfl) rfl rfl ⟨((HS.out.pick 0 rfl).cell 2).trans rfl, ((HS.out.pick 2 rfl).cell 2).trans rfl⟩ (fun hHeld => ?_); refine with_tabW mrg.tab4 mrg.bits4 (fun HT_ HW_ => ?_)
  generalize w1.drew = w2 at HS HB hHeld ⊢
  refine pU 0 13 #[true, false, false, false, false, false, false, false, false, false] rfl rfl HT_ ?_
  refine pU 1 14 #[true, true, false, false, false, false, false, false, false, false] rfl rfl HT_ ?_
  refine pU 2 15 #[true, true, true, false, false, false, false, false, false, false] rfl rfl HT_ ?_
  refine pU 4 17 #[true, true, true, false, true, false, false, false, false, false] rfl rfl HT_ ?_
  refine pU 5 18 #[true, true, true, false, true, true, false, false, false, false] rfl rfl HT_ ?_
  refine pU 6 19 #[true, true, true, false, true, true, true, false, false, false] rfl rfl HT_ ?_
  refine tK 3 16 #[true, true, true, true, true, true, true, false, false, false] rfl rfl HT_ HW_ hHeld ?_ (by rintro w' ⟨s0, s1⟩; go_simp; with_reducible rfl)
  refine tK 7 20 #[true, true, true, true, true, true, true, true, false, false] rfl rfl HT_ HW_ hHeld ?_ (by rintro w' ⟨s0, s1⟩; go_simp; with_reducible rfl)
  refine one_ (i := 8) (N := some 21) #[true, true, true, true, true, true, true, true, true, false] rfl rfl (one_of HT_.out (by kernel_rfl)) (by decide) (fun K hK => ?_)
  refine goes_ Try.func64 (by kernel_rfl) rfl #[.slice A1 l1.length c1, .slice A2 l2.length c2, .func (.func 55) #[] #[]] (by rfl) rfl rfl (by (try simp only [List.map_toArray, List.map_cons, List.map_nil]); first | done | rfl | (simp only [List.length_drop, List.length_take]; rfl)) ?_
  with_reducible refine (merged_ok l1 l2 z1.out z2.out A1 A2 c1 c2 (fun w' h => ⟨⟨(h.pick 1 rfl).rowC.2.2, (h.pick 1 rfl).rowC.2.1⟩, ⟨(h.pick 3 rfl).rowC.2.2, (h.pick 3 rfl).rowC.2.1⟩⟩) HS.out).mono ?_
  rintro e w4 ⟨v4, U, rfl, hu1, hu2, hu3, hs1, hb⟩
  refine ⟨_, rfl, ?_⟩
  have n0_ := Aside0.mk (((((hs1.pick 4 rfl).pick 4 rfl).pick 4 rfl).pick 4 rfl)); have n1_ := Aside0.mk (HB.out.trans hb); clear HS HB; have HS := n0_; have HB := n1_; clear n0_ n1_; (try simp only [List.eraseIdx_cons_succ, List.eraseIdx_cons_zero] at HS)
  clear hs1 hb; replace hu1 := Aside0.mk hu1; replace hu2 := Aside0.mk hu2; replace hu3 := Aside0.mk hu3; obtain ⟨AU, cU, eU⟩ : ∃ (A : Option Addr) (c : Nat), v4 = .slice A U.length c := (by obtain ⟨A, c, e, _, _⟩ := (HS.out.pick 4 rfl).reads; exact ⟨A, c, e⟩); subst eU
  refine hK.out _ _ ⟨((HS.out.pick 0 rfl).cell 2).trans rfl, ((HS.out.pick 2 rfl).cell 2).trans rfl⟩ (fun hHeld => ?_)
  clear hK K
  refine norm_ (a' := ?_) ?_ ?_
  rotate_left
  · show Act.put _ (some 21) _ = _
    simp only [Act.put, List.setIfInBounds_toArray, List.set_cons_zero, List.set_cons_succ, i64_w, i32_w]
    rfl
  refine pU 9 6 #[true, true, true, true, true, true, true, true, true, true] rfl rfl HT_ ?_
  refine done_ (done_of HT_.out (by kernel_rfl)) ?_
  clear HT_ HW_
  try clear hHeld
  by_cases hlt : Kn < U.length
  · have hn := Aside0.mk (HS.out.pick 4 rfl).rowC.2.1
    have g1 : ((Kn : Int) < (U.length : Int)) = True := eq_true (by omega)
    have g2 : decide ((U.length : Int) > (Kn : Int)) = true := decide_eq_true (by omega)
    have g3 : (0 : Int) ≤ (Kn : Int) := by omega
    have g4 : (Kn : Int) ≤ (cU : Int) := by have := hn.out; omega
    have g5 : (0 : Int) ≤ (U.length : Int) := by omega
    have hc0_0 := ((HS.out.pick 0 rfl).cell 0).trans (show _ = some (.int .i64 Kn) from rfl); have hc0_2 := ((HS.out.pick 0 rfl).cell 2).trans (show _ = some (.slice A1 l1.length c1) from rfl); have hc0_3 := ((HS.out.pick 0 rfl).cell 3).trans (show _ = some (.bool false) from rfl); have hc2_3 := ((HS.out.pick 2 rfl).cell 3).trans (show _ = some (.bool true) from rfl); have hf0_2 := (HS.out.pick 0 rfl).frozen 2; have hf0_3 := (HS.out.pick 0 rfl).frozen 3
    go_wp2_with (first | ((with_reducible refine gate_store (t := 4) (p := 43) rfl ?_); refine store_event (t := 4) (p := 43) (v := .tmp 41) (w1 := ?_) rfl rfl rfl ?_ ?_; rotate_left; (focus (first | (go_simp; done) | (go_simp; rfl))); intro w5 hw; have n0_ := Aside0.mk (hw ▸ (HS.out.pick 0 rfl).set 3 (.bool true) #[.int .i64 Kn, .int .i64 sd, .slice A1 l1.length c1, .bool true] rfl); have n1_ := Aside0.mk (hw ▸ (HS.out.pick 0 rfl).below_set (i := 3) (u := .bool true) HB.out); clear HS HB; have HS := n0_; have HB := n1_; clear n0_ n1_; (try simp only [List.eraseIdx_cons_succ, List.eraseIdx_cons_zero] at HS); clear hw; clear hc0_0 hc0_2 hc0_3 hf0_2 hf0_3 hc2_3; have hc0_0 := ((HS.out.pick 0 rfl).cell 0).trans (show _ = some (.int .i64 Kn) from rfl); have hc0_2 := ((HS.out.pick 0 rfl).cell 2).trans (show _ = some (.slice A1 l1.length c1) from rfl); have hf0_2 := (HS.out.pick 0 rfl).frozen 2) | ((with_reducible refine gate_store (t := 26) (p := 55) rfl ?_); refine store_event (t := 26) (p := 55) (v := .tmp 53) (w1 := ?_) rfl rfl rfl ?_ ?_; rotate_left; (focus (first | (go_simp; done) | (go_simp; rfl))); intro w6 hw; have n0_ := Aside0.mk (hw ▸ (HS.out.pick 0 rfl).set 2 (.slice AU Kn cU) #[.int .i64 Kn, .int .i64 sd, .slice AU Kn cU, .bool true] rfl); have n1_ := Aside0.mk (hw ▸ (HS.out.pick 0 rfl).below_set (i := 2) (u := .slice AU Kn cU) HB.out); clear HS HB; have HS := n0_; have HB := n1_; clear n0_ n1_; (try simp only [List.eraseIdx_cons_succ, List.eraseIdx_cons_zero] at HS); clear hw))
    go_ret
    have h1 := HS.out.pick 4 rfl
    have h2 := St.cutRow flatK h1 Kn (by omega)
    refine ⟨.slice AU Kn cU, U, rfl, hu1.out, hu2.out, hu3.out, ?_, HB.out⟩
    have e1 : U.take Kn = U.take Kn := rfl
    have e2 : ((false || true) || decide (Kn < U.length)) = true := by rw [decide_eq_true (by omega)]; rfl
    rw [e1, e2]
    exact ((h2.pick 2 rfl).drop).swap
  · have hn := Aside0.mk (HS.out.pick 4 rfl).rowC.2.1
    have g1 : ((Kn : Int) < (U.length : Int)) = False := eq_false (by omega)
    have g2 : decide ((U.length : Int) > (Kn : Int)) = false := decide_eq_false (by omega)
    have g3 : (0 : Int) ≤ (Kn : Int) := by omega
    have g4 : (U.length : Int) ≤ (cU : Int) := by have := hn.out; omega
    have g5 : (0 : Int) ≤ (U.length : Int) := by omega
    have hc0_0 := ((HS.out.pick 0 rfl).cell 0).trans (show _ = some (.int .i64 Kn) from rfl); have hc0_2 := ((HS.out.pick 0 rfl).cell 2).trans (show _ = some (.slice A1 l1.length c1) from rfl); have hc0_3 := ((HS.out.pick 0 rfl).cell 3).trans (show _ = some (.bool false) from rfl); have hc2_3 := ((HS.out.pick 2 rfl).cell 3).trans (show _ = some (.bool true) from rfl); have hf0_2 := (HS.out.pick 0 rfl).frozen 2; have hf0_3 := (HS.out.pick 0 rfl).frozen 3
    go_wp2_with (first | ((with_reducible refine gate_store (t := 4) (p := 43) rfl ?_); refine store_event (t := 4) (p := 43) (v := .tmp 41) (w1 := ?_) rfl rfl rfl ?_ ?_; rotate_left; (focus (first | (go_simp; done) | (go_simp; rfl))); intro w5 hw; have n0_ := Aside0.mk (hw ▸ (HS.out.pick 0 rfl).set 3 (.bool true) #[.int .i64 Kn, .int .i64 sd, .slice A1 l1.length c1, .bool true] rfl); have n1_ := Aside0.mk (hw ▸ (HS.out.pick 0 rfl).below_set (i := 3) (u := .bool true) HB.out); clear HS HB; have HS := n0_; have HB := n1_; clear n0_ n1_; (try simp only [List.eraseIdx_cons_succ, List.eraseIdx_cons_zero] at HS); clear hw; clear hc0_0 hc0_2 hc0_3 hf0_2 hf0_3 hc2_3; have hc0_0 := ((HS.out.pick 0 rfl).cell 0).trans (show _ = some (.int .i64 Kn) from rfl); have hc0_2 := ((HS.out.pick 0 rfl).cell 2).trans (show _ = some (.slice A1 l1.length c1) from rfl); have hf0_2 := (HS.out.pick 0 rfl).frozen 2) | ((with_reducible refine gate_store (t := 26) (p := 55) rfl ?_); refine store_event (t := 26) (p := 55) (v := .tmp 53) (w1 := ?_) rfl rfl rfl ?_ ?_; rotate_left; (focus (first | (go_simp; done) | (go_simp; rfl))); intro w6 hw; have n0_ := Aside0.mk (hw ▸ (HS.out.pick 0 rfl).set 2 (.slice AU U.length cU) #[.int .i64 Kn, .int .i64 sd, .slice AU U.length cU, .bool true] rfl); have n1_ := Aside0.mk (hw ▸ (HS.out.pick 0 rfl).below_set (i := 2) (u := .slice AU U.length cU) HB.out); clear HS HB; have HS := n0_; have HB := n1_; clear n0_ n1_; (try simp only [List.eraseIdx_cons_succ, List.eraseIdx_cons_zero] at HS); clear hw))
    go_ret
    have h1 := HS.out.pick 4 rfl
    have h2 := St.cutRow flatK h1 U.length (Nat.le_refl _)
    refine ⟨.slice AU U.length cU, U, rfl, hu1.out, hu2.out, hu3.out, ?_, HB.out⟩
    have e1 : U.take Kn = U.take U.length := by rw [List.take_of_length_le (by omega), List.take_of_length_le (Nat.le_refl _)]
    have e2 : ((false || true) || decide (Kn < U.length)) = true := by rw [decide_eq_false (by omega)]; rfl
    rw [e1, e2]
    exact ((h2.pick 2 rfl).drop).swap

theorem mrg_ff (p q Kn : Nat) (sd : Int) (hK : Kn ≤ 1024) (l1 l2 : List S52) (z10 : l1.length ≤ 1000) (z20 : l2.length ≤ 1000) (A1 A2 : Option Addr) (c1 c2 : Nat) (b1 : ((Kn : Int) != (Kn : Int)) = false) (b2 : (sd != sd) = false) {N : Nat} {w : World} {L : List Res} (HS0 : St N w (Blk p #[.int .i64 Kn, .int .i64 sd, .slice A1 l1.length c1, .bool false] 59 :: Row k52 52 (.slice A1 l1.length c1) l1 :: Blk q #[.int .i64 Kn, .int .i64 sd, .slice A2 l2.length c2, .bool false] 59 :: Row k52 52 (.slice A2 l2.length c2) l2 :: L)) :
    Calls Try.prog 33 #[.pointer (some ⟨p, 0, none⟩), .pointer (some ⟨q, 0, none⟩)] w fun e w' => ∃ v' U, e = .returned (.int .i64 0) ∧ Inc U ∧ (∀ x, x ∈ U ↔ x ∈ l1 ∨ x ∈ l2) ∧ U.length ≤ 2000 ∧ St N w' (Blk p #[.int .i64 Kn, .int .i64 sd, v', .bool ((false || false) || decide (Kn < U.length))] 59 :: Row k52 52 v' (U.take Kn) :: Blk q #[.int .i64 Kn, .int .i64 sd, .slice A2 l2.length c2, .bool false] 59 :: Row k52 52 (.slice A2 l2.length c2) l2 :: L) ∧ Below N w w' := by
  have HS := Aside0.mk HS0
  have HB := Aside0.mk (Below.refl N w)
  have z1 := Aside0.mk z10
  have z2 := Aside0.mk z20
  clear HS0 z10 z20
  go_enter Try.func33, Try.ntmps33
  go_upto_region 4 with (first | ((with_reducible refine gate_callee (f := 63) rfl ?_); refine goesL_ (some 9) rfl rfl Try.func63 (by kernel_rfl) rfl #[.pointer (some ⟨p, 0, none⟩), .pointer (some ⟨q, 0, none⟩)] rfl (by (try simp only [List.map_toArray, List.map_cons, List.map_nil]); first | done | rfl | (simp only [List.length_drop, List.length_take]; rfl)) ?_; (with_reducible refine (fits_same p q _ _ false false (Kn : Int) sd (Kn : Int) sd b1 b2 ((HS.out.pick 2 rfl).pick 1 rfl)).mono ?_); rintro e w1 ⟨rfl, hs1, hb⟩; refine ⟨_, rfl, ?_⟩; have n0_ := Aside0.mk ((hs1.pick 2 rfl).pick 1 rfl); have n1_ := Aside0.mk (HB.out.trans hb); clear HS HB; have HS := n0_; have HB := n1_; clear n0_ n1_; (try simp only [List.eraseIdx_cons_succ, List.eraseIdx_cons_zero] at HS); clear hs1 hb))
  have n0_ := Aside0.mk (HS.out.drew); have n1_ := Aside0.mk (HB.out.drew); clear HS HB; have HS := n0_; have HB := n1_; clear n0_ n1_
  refine start_ (n := 10) (S := fun w' => w'.cell? ⟨p, 2, none⟩ = some (.slice A1 l1.length c1) ∧ w'.cell? ⟨q, 2, none⟩ = some (.slice A2 l2.length c2)) (ds := []) #[false, false, false, false, false, false, false, false, false, false] (by kernel_rfl) rfl rfl ⟨((HS.out.pick 0 rfl).cell 2).trans rfl, ((HS.out.pick 2 rfl).cell 2).trans rfl⟩ (fun hHeld => ?_); refine with_tabW mrg.tab4 mrg.bits4 (fun HT_ HW_ => ?_)
  generalize w1.drew = w2 at HS HB hHeld ⊢
  refine pU 0 13 #[true, false, false, false, false, false, false, false, false, false] rfl rfl HT_ ?_
  refine pU 1 14 #[true, true, false, false, false, false, false, false, false, false] rfl rfl HT_ ?_
  refine pU 2 15 #[true, true, true, false, false, false, false, false, false, false] rfl rfl HT_ ?_
  refine pU 4 17 #[true, true, true, false, true, false, false, false, false, false] rfl rfl HT_ ?_
  refine pU 5 18 #[true, true, true, false, true, true, false, false, false, false] rfl rfl HT_ ?_
  refine pU 6 19 #[true, true, true, false, true, true, true, false, false, false] rfl rfl HT_ ?_
  refine tK 3 16 #[true, true, true, true, true, true, true, false, false, false] rfl rfl HT_ HW_ hHeld ?_ (by rintro w' ⟨s0, s1⟩; go_simp; with_reducible rfl)
  refine tK 7 20 #[true, true, true, true, true, true, true, true, false, false] rfl rfl HT_ HW_ hHeld ?_ (by rintro w' ⟨s0, s1⟩; go_simp; with_reducible rfl)
  refine one_ (i := 8) (N := some 21) #[true, true, true, true, true, true, true, true, true, false] rfl rfl (one_of HT_.out (by kernel_rfl)) (by decide) (fun K hK => ?_)
  refine goes_ Try.func64 (by kernel_rfl) rfl #[.slice A1 l1.length c1, .slice A2 l2.length c2, .func (.func 55) #[] #[]] (by rfl) rfl rfl (by (try simp only [List.map_toArray, List.map_cons, List.map_nil]); first | done | rfl | (simp only [List.length_drop, List.length_take]; rfl)) ?_
  with_reducible refine (merged_ok l1 l2 z1.out z2.out A1 A2 c1 c2 (fun w' h => ⟨⟨(h.pick 1 rfl).rowC.2.2, (h.pick 1 rfl).rowC.2.1⟩, ⟨(h.pick 3 rfl).rowC.2.2, (h.pick 3 rfl).rowC.2.1⟩⟩) HS.out).mono ?_
  rintro e w4 ⟨v4, U, rfl, hu1, hu2, hu3, hs1, hb⟩
  refine ⟨_, rfl, ?_⟩
  have n0_ := Aside0.mk (((((hs1.pick 4 rfl).pick 4 rfl).pick 4 rfl).pick 4 rfl)); have n1_ := Aside0.mk (HB.out.trans hb); clear HS HB; have HS := n0_; have HB := n1_; clear n0_ n1_; (try simp only [List.eraseIdx_cons_succ, List.eraseIdx_cons_zero] at HS)
  clear hs1 hb; replace hu1 := Aside0.mk hu1; replace hu2 := Aside0.mk hu2; replace hu3 := Aside0.mk hu3; obtain ⟨AU, cU, eU⟩ : ∃ (A : Option Addr) (c : Nat), v4 = .slice A U.length c := (by obtain ⟨A, c, e, _, _⟩ := (HS.out.pick 4 rfl).reads; exact ⟨A, c, e⟩); subst eU
  refine hK.out _ _ ⟨((HS.out.pick 0 rfl).cell 2).trans rfl, ((HS.out.pick 2 rfl).cell 2).trans rfl⟩ (fun hHeld => ?_)
  clear hK K
  refine norm_ (a' := ?_) ?_ ?_
  rotate_left
  · show Act.put _ (some 21) _ = _
    simp only [Act.put, List.setIfInBounds_toArray, List.set_cons_zero, List.set_cons_succ, i64_w, i32_w]
    rfl
  refine pU 9 6 #[true, true, true, true, true, true, true, true, true, true] rfl rfl HT_ ?_
  refine done_ (done_of HT_.out (by kernel_rfl)) ?_
  clear HT_ HW_
  try clear hHeld
  by_cases hlt : Kn < U.length
  · have hn := Aside0.mk (HS.out.pick 4 rfl).rowC.2.1
    have g1 : ((Kn : Int) < (U.length : Int)) = True := eq_true (by omega)
    have g2 : decide ((U.length : Int) > (Kn : Int)) = true := decide_eq_true (by omega)
    have g3 : (0 : Int) ≤ (Kn : Int) := by omega
    have g4 : (Kn : Int) ≤ (cU : Int) := by have := hn.out; omega
    have g5 : (0 : Int) ≤ (U.length : Int) := by omega
    have hc0_0 := ((HS.out.pick 0 rfl).cell 0).trans (show _ = some (.int .i64 Kn) from rfl); have hc0_2 := ((HS.out.pick 0 rfl).cell 2).trans (show _ = some (.slice A1 l1.length c1) from rfl); have hc0_3 := ((HS.out.pick 0 rfl).cell 3).trans (show _ = some (.bool false) from rfl); have hc2_3 := ((HS.out.pick 2 rfl).cell 3).trans (show _ = some (.bool false) from rfl); have hf0_2 := (HS.out.pick 0 rfl).frozen 2; have hf0_3 := (HS.out.pick 0 rfl).frozen 3
    go_wp2_with (first | ((with_reducible refine gate_store (t := 4) (p := 43) rfl ?_); refine store_event (t := 4) (p := 43) (v := .tmp 41) (w1 := ?_) rfl rfl rfl ?_ ?_; rotate_left; (focus (first | (go_simp; done) | (go_simp; rfl))); intro w5 hw; have n0_ := Aside0.mk (hw ▸ (HS.out.pick 0 rfl).set 3 (.bool true) #[.int .i64 Kn, .int .i64 sd, .slice A1 l1.length c1, .bool true] rfl); have n1_ := Aside0.mk (hw ▸ (HS.out.pick 0 rfl).below_set (i := 3) (u := .bool true) HB.out); clear HS HB; have HS := n0_; have HB := n1_; clear n0_ n1_; (try simp only [List.eraseIdx_cons_succ, List.eraseIdx_cons_zero] at HS); clear hw; clear hc0_0 hc0_2 hc0_3 hf0_2 hf0_3 hc2_3; have hc0_0 := ((HS.out.pick 0 rfl).cell 0).trans (show _ = some (.int .i64 Kn) from rfl); have hc0_2 := ((HS.out.pick 0 rfl).cell 2).trans (show _ = some (.slice A1 l1.length c1) from rfl); have hf0_2 := (HS.out.pick 0 rfl).frozen 2) | ((with_reducible refine gate_store (t := 26) (p := 55) rfl ?_); refine store_event (t := 26) (p := 55) (v := .tmp 53) (w1 := ?_) rfl rfl rfl ?_ ?_; rotate_left; (focus (first | (go_simp; done) | (go_simp; rfl))); intro w6 hw; have n0_ := Aside0.mk (hw ▸ (HS.out.pick 0 rfl).set 2 (.slice AU Kn cU) #[.int .i64 Kn, .int .i64 sd, .slice AU Kn cU, .bool true] rfl); have n1_ := Aside0.mk (hw ▸ (HS.out.pick 0 rfl).below_set (i := 2) (u := .slice AU Kn cU) HB.out); clear HS HB; have HS := n0_; have HB := n1_; clear n0_ n1_; (try simp only [List.eraseIdx_cons_succ, List.eraseIdx_cons_zero] at HS); clear hw))
    go_ret
    have h1 := HS.out.pick 4 rfl
    have h2 := St.cutRow flatK h1 Kn (by omega)
    refine ⟨.slice AU Kn cU, U, rfl, hu1.out, hu2.out, hu3.out, ?_, HB.out⟩
    have e1 : U.take Kn = U.take Kn := rfl
    have e2 : ((false || false) || decide (Kn < U.length)) = true := by rw [decide_eq_true (by omega)]; rfl
    rw [e1, e2]
    exact ((h2.pick 2 rfl).drop).swap
  · have hn := Aside0.mk (HS.out.pick 4 rfl).rowC.2.1
    have g1 : ((Kn : Int) < (U.length : Int)) = False := eq_false (by omega)
    have g2 : decide ((U.length : Int) > (Kn : Int)) = false := decide_eq_false (by omega)
    have g3 : (0 : Int) ≤ (Kn : Int) := by omega
    have g4 : (U.length : Int) ≤ (cU : Int) := by have := hn.out; omega
    have g5 : (0 : Int) ≤ (U.length : Int) := by omega
    have hc0_0 := ((HS.out.pick 0 rfl).cell 0).trans (show _ = some (.int .i64 Kn) from rfl); have hc0_2 := ((HS.out.pick 0 rfl).cell 2).trans (show _ = some (.slice A1 l1.length c1) from rfl); have hc0_3 := ((HS.out.pick 0 rfl).cell 3).trans (show _ = some (.bool false) from rfl); have hc2_3 := ((HS.out.pick 2 rfl).cell 3).trans (show _ = some (.bool false) from rfl); have hf0_2 := (HS.out.pick 0 rfl).frozen 2; have hf0_3 := (HS.out.pick 0 rfl).frozen 3
    go_wp2_with (first | ((with_reducible refine gate_store (t := 4) (p := 43) rfl ?_); refine store_event (t := 4) (p := 43) (v := .tmp 41) (w1 := ?_) rfl rfl rfl ?_ ?_; rotate_left; (focus (first | (go_simp; done) | (go_simp; rfl))); intro w5 hw; have n0_ := Aside0.mk (hw ▸ (HS.out.pick 0 rfl).set 3 (.bool false) #[.int .i64 Kn, .int .i64 sd, .slice A1 l1.length c1, .bool false] rfl); have n1_ := Aside0.mk (hw ▸ (HS.out.pick 0 rfl).below_set (i := 3) (u := .bool false) HB.out); clear HS HB; have HS := n0_; have HB := n1_; clear n0_ n1_; (try simp only [List.eraseIdx_cons_succ, List.eraseIdx_cons_zero] at HS); clear hw; clear hc0_0 hc0_2 hc0_3 hf0_2 hf0_3 hc2_3; have hc0_0 := ((HS.out.pick 0 rfl).cell 0).trans (show _ = some (.int .i64 Kn) from rfl); have hc0_2 := ((HS.out.pick 0 rfl).cell 2).trans (show _ = some (.slice A1 l1.length c1) from rfl); have hf0_2 := (HS.out.pick 0 rfl).frozen 2) | ((with_reducible refine gate_store (t := 26) (p := 55) rfl ?_); refine store_event (t := 26) (p := 55) (v := .tmp 53) (w1 := ?_) rfl rfl rfl ?_ ?_; rotate_left; (focus (first | (go_simp; done) | (go_simp; rfl))); intro w6 hw; have n0_ := Aside0.mk (hw ▸ (HS.out.pick 0 rfl).set 2 (.slice AU U.length cU) #[.int .i64 Kn, .int .i64 sd, .slice AU U.length cU, .bool false] rfl); have n1_ := Aside0.mk (hw ▸ (HS.out.pick 0 rfl).below_set (i := 2) (u := .slice AU U.length cU) HB.out); clear HS HB; have HS := n0_; have HB := n1_; clear n0_ n1_; (try simp only [List.eraseIdx_cons_succ, List.eraseIdx_cons_zero] at HS); clear hw))
    go_ret
    have h1 := HS.out.pick 4 rfl
    have h2 := St.cutRow flatK h1 U.length (Nat.le_refl _)
    refine ⟨.slice AU U.length cU, U, rfl, hu1.out, hu2.out, hu3.out, ?_, HB.out⟩
    have e1 : U.take Kn = U.take U.length := by rw [List.take_of_length_le (by omega), List.take_of_length_le (Nat.le_refl _)]
    have e2 : ((false || false) || decide (Kn < U.length)) = false := by rw [decide_eq_false (by omega)]; rfl
    rw [e1, e2]
    exact ((h2.pick 2 rfl).drop).swap

theorem mrg_self_t (p q Kn : Nat) (sd : Int) (hK : Kn ≤ 1024) (l1 l2 : List S52) (z10 : l1.length ≤ 1000) (z20 : l2.length ≤ 1000) (A1 A2 : Option Addr) (c1 c2 : Nat) (b1 : ((Kn : Int) != (Kn : Int)) = false) (b2 : (sd != sd) = false) {N : Nat} {w : World} {L : List Res} (HS0 : St N w (Blk p #[.int .i64 Kn, .int .i64 sd, .slice A1 l1.length c1, .bool true] 59 :: Row k52 52 (.slice A1 l1.length c1) l1 :: L)) :
    Calls Try.prog 33 #[.pointer (some ⟨p, 0, none⟩), .pointer (some ⟨p, 0, none⟩)] w fun e w' => ∃ v' U, e = .returned (.int .i64 0) ∧ Inc U ∧ (∀ x, x ∈ U ↔ x ∈ l1 ∨ x ∈ l1) ∧ U.length ≤ 2000 ∧ St N w' (Blk p #[.int .i64 Kn, .int .i64 sd, v', .bool ((true || true) || decide (Kn < U.length))] 59 :: Row k52 52 v' (U.take Kn) :: L) ∧ Below N w w' := by
  have HS := Aside0.mk HS0
  have HB := Aside0.mk (Below.refl N w)
  have z1 := Aside0.mk z10
  have z2 := Aside0.mk z20
  clear HS0 z10 z20
  go_enter Try.func33, Try.ntmps33
  go_upto_region 4 with (first | ((with_reducible refine gate_callee (f := 63) rfl ?_); refine goesL_ (some 9) rfl rfl Try.func63 (by kernel_rfl) rfl #[.pointer (some ⟨p, 0, none⟩), .pointer (some ⟨p, 0, none⟩)] rfl (by (try simp only [List.map_toArray, List.map_cons, List.map_nil]); first | done | rfl | (simp only [List.length_drop, List.length_take]; rfl)) ?_; (with_reducible refine (fits_self p p _ (.slice none 0 0) true false (Kn : Int) sd (Kn : Int) sd b1 b2 HS.out).mono ?_); rintro e w1 ⟨rfl, hs1, hb⟩; refine ⟨_, rfl, ?_⟩; have n0_ := Aside0.mk (hs1); have n1_ := Aside0.mk (HB.out.trans hb); clear HS HB; have HS := n0_; have HB := n1_; clear n0_ n1_; (try simp only [List.eraseIdx_cons_succ, List.eraseIdx_cons_zero] at HS); clear hs1 hb))
  have n0_ := Aside0.mk (HS.out.drew); have n1_ := Aside0.mk (HB.out.drew); clear HS HB; have HS := n0_; have HB := n1_; clear n0_ n1_
  refine start_ (n := 10) (S := fun w' => w'.cell? ⟨p, 2, none⟩ = some (.slice A1 l1.length c1)) (ds := []) #[false, false, false, false, false, false, false, false, false, false] (by kernel_rfl) rfl rfl (((HS.out.pick 0 rfl).cell 2).trans rfl) (fun hHeld => ?_); refine with_tabW mrg.tab4 mrg.bits4 (fun HT_ HW_ => ?_)
  generalize w1.drew = w2 at HS HB hHeld ⊢
  refine pU 0 13 #[true, false, false, false, false, false, false, false, false, false] rfl rfl HT_ ?_
  refine pU 1 14 #[true, true, false, false, false, false, false, false, false, false] rfl rfl HT_ ?_
  refine pU 2 15 #[true, true, true, false, false, false, false, false, false, false] rfl rfl HT_ ?_
  refine pU 4 17 #[true, true, true, false, true, false, false, false, false, false] rfl rfl HT_ ?_
  refine pU 5 18 #[true, true, true, false, true, true, false, false, false, false] rfl rfl HT_ ?_
  refine pU 6 19 #[true, true, true, false, true, true, true, false, false, false] rfl rfl HT_ ?_
  refine tK 3 16 #[true, true, true, true, true, true, true, false, false, false] rfl rfl HT_ HW_ hHeld ?_ (by rintro w' s0; go_simp; with_reducible rfl)
  refine tK 7 20 #[true, true, true, true, true, true, true, true, false, false] rfl rfl HT_ HW_ hHeld ?_ (by rintro w' s0; go_simp; with_reducible rfl)
  refine one_ (i := 8) (N := some 21) #[true, true, true, true, true, true, true, true, true, false] rfl rfl (one_of HT_.out (by kernel_rfl)) (by decide) (fun K hK => ?_)
  refine goes_ Try.func64 (by kernel_rfl) rfl #[.slice A1 l1.length c1, .slice A1 l1.length c1, .func (.func 55) #[] #[]] (by rfl) rfl rfl (by (try simp only [List.map_toArray, List.map_cons, List.map_nil]); first | done | rfl | (simp only [List.length_drop, List.length_take]; rfl)) ?_
  with_reducible refine (merged_ok l1 l1 z1.out z1.out A1 A1 c1 c1 (fun w' h => ⟨⟨(h.pick 1 rfl).rowC.2.2, (h.pick 1 rfl).rowC.2.1⟩, ⟨(h.pick 1 rfl).rowC.2.2, (h.pick 1 rfl).rowC.2.1⟩⟩) HS.out).mono ?_
  rintro e w4 ⟨v4, U, rfl, hu1, hu2, hu3, hs1, hb⟩
  refine ⟨_, rfl, ?_⟩
  have n0_ := Aside0.mk (((hs1.pick 2 rfl).pick 2 rfl)); have n1_ := Aside0.mk (HB.out.trans hb); clear HS HB; have HS := n0_; have HB := n1_; clear n0_ n1_; (try simp only [List.eraseIdx_cons_succ, List.eraseIdx_cons_zero] at HS)
  clear hs1 hb; replace hu1 := Aside0.mk hu1; replace hu2 := Aside0.mk hu2; replace hu3 := Aside0.mk hu3; obtain ⟨AU, cU, eU⟩ : ∃ (A : Option Addr) (c : Nat), v4 = .slice A U.length c := (by obtain ⟨A, c, e, _, _⟩ := (HS.out.pick 2 rfl).reads; exact ⟨A, c, e⟩); subst eU
  refine hK.out _ _ (((HS.out.pick 0 rfl).cell 2).trans rfl) (fun hHeld => ?_)
  clear hK K
  refine norm_ (a' := ?_) ?_ ?_
  rotate_left
  · show Act.put _ (some 21) _ = _
    simp only [Act.put, List.setIfInBounds_toArray, List.set_cons_zero, List.set_cons_succ, i64_w, i32_w]
    rfl
  refine pU 9 6 #[true, true, true, true, true, true, true, true, true, true] rfl rfl HT_ ?_
  refine done_ (done_of HT_.out (by kernel_rfl)) ?_
  clear HT_ HW_
  try clear hHeld
  by_cases hlt : Kn < U.length
  · have hn := Aside0.mk (HS.out.pick 2 rfl).rowC.2.1
    have g1 : ((Kn : Int) < (U.length : Int)) = True := eq_true (by omega)
    have g2 : decide ((U.length : Int) > (Kn : Int)) = true := decide_eq_true (by omega)
    have g3 : (0 : Int) ≤ (Kn : Int) := by omega
    have g4 : (Kn : Int) ≤ (cU : Int) := by have := hn.out; omega
    have g5 : (0 : Int) ≤ (U.length : Int) := by omega
    have hc0_0 := ((HS.out.pick 0 rfl).cell 0).trans (show _ = some (.int .i64 Kn) from rfl); have hc0_2 := ((HS.out.pick 0 rfl).cell 2).trans (show _ = some (.slice A1 l1.length c1) from rfl); have hc0_3 := ((HS.out.pick 0 rfl).cell 3).trans (show _ = some (.bool true) from rfl); have hf0_2 := (HS.out.pick 0 rfl).frozen 2; have hf0_3 := (HS.out.pick 0 rfl).frozen 3
    go_wp2_with (first | ((with_reducible refine gate_store (t := 4) (p := 43) rfl ?_); refine store_event (t := 4) (p := 43) (v := .tmp 41) (w1 := ?_) rfl rfl rfl ?_ ?_; rotate_left; (focus (first | (go_simp; done) | (go_simp; rfl))); intro w5 hw; have n0_ := Aside0.mk (hw ▸ (HS.out.pick 0 rfl).set 3 (.bool true) #[.int .i64 Kn, .int .i64 sd, .slice A1 l1.length c1, .bool true] rfl); have n1_ := Aside0.mk (hw ▸ (HS.out.pick 0 rfl).below_set (i := 3) (u := .bool true) HB.out); clear HS HB; have HS := n0_; have HB := n1_; clear n0_ n1_; (try simp only [List.eraseIdx_cons_succ, List.eraseIdx_cons_zero] at HS); clear hw; clear hc0_0 hc0_2 hc0_3 hf0_2 hf0_3; have hc0_0 := ((HS.out.pick 0 rfl).cell 0).trans (show _ = some (.int .i64 Kn) from rfl); have hc0_2 := ((HS.out.pick 0 rfl).cell 2).trans (show _ = some (.slice A1 l1.length c1) from rfl); have hf0_2 := (HS.out.pick 0 rfl).frozen 2) | ((with_reducible refine gate_store (t := 26) (p := 55) rfl ?_); refine store_event (t := 26) (p := 55) (v := .tmp 53) (w1 := ?_) rfl rfl rfl ?_ ?_; rotate_left; (focus (first | (go_simp; done) | (go_simp; rfl))); intro w6 hw; have n0_ := Aside0.mk (hw ▸ (HS.out.pick 0 rfl).set 2 (.slice AU Kn cU) #[.int .i64 Kn, .int .i64 sd, .slice AU Kn cU, .bool true] rfl); have n1_ := Aside0.mk (hw ▸ (HS.out.pick 0 rfl).below_set (i := 2) (u := .slice AU Kn cU) HB.out); clear HS HB; have HS := n0_; have HB := n1_; clear n0_ n1_; (try simp only [List.eraseIdx_cons_succ, List.eraseIdx_cons_zero] at HS); clear hw))
    go_ret
    have h1 := HS.out.pick 2 rfl
    have h2 := St.cutRow flatK h1 Kn (by omega)
    refine ⟨.slice AU Kn cU, U, rfl, hu1.out, hu2.out, hu3.out, ?_, HB.out⟩
    have e1 : U.take Kn = U.take Kn := rfl
    have e2 : ((true || true) || decide (Kn < U.length)) = true := by rw [decide_eq_true (by omega)]; rfl
    rw [e1, e2]
    exact ((h2.pick 2 rfl).drop).swap
  · have hn := Aside0.mk (HS.out.pick 2 rfl).rowC.2.1
    have g1 : ((Kn : Int) < (U.length : Int)) = False := eq_false (by omega)
    have g2 : decide ((U.length : Int) > (Kn : Int)) = false := decide_eq_false (by omega)
    have g3 : (0 : Int) ≤ (Kn : Int) := by omega
    have g4 : (U.length : Int) ≤ (cU : Int) := by have := hn.out; omega
    have g5 : (0 : Int) ≤ (U.length : Int) := by omega
    have hc0_0 := ((HS.out.pick 0 rfl).cell 0).trans (show _ = some (.int .i64 Kn) from rfl); have hc0_2 := ((HS.out.pick 0 rfl).cell 2).trans (show _ = some (.slice A1 l1.length c1) from rfl); have hc0_3 := ((HS.out.pick 0 rfl).cell 3).trans (show _ = some (.bool true) from rfl); have hf0_2 := (HS.out.pick 0 rfl).frozen 2; have hf0_3 := (HS.out.pick 0 rfl).frozen 3
    go_wp2_with (first | ((with_reducible refine gate_store (t := 4) (p := 43) rfl ?_); refine store_event (t := 4) (p := 43) (v := .tmp 41) (w1 := ?_) rfl rfl rfl ?_ ?_; rotate_left; (focus (first | (go_simp; done) | (go_simp; rfl))); intro w5 hw; have n0_ := Aside0.mk (hw ▸ (HS.out.pick 0 rfl).set 3 (.bool true) #[.int .i64 Kn, .int .i64 sd, .slice A1 l1.length c1, .bool true] rfl); have n1_ := Aside0.mk (hw ▸ (HS.out.pick 0 rfl).below_set (i := 3) (u := .bool true) HB.out); clear HS HB; have HS := n0_; have HB := n1_; clear n0_ n1_; (try simp only [List.eraseIdx_cons_succ, List.eraseIdx_cons_zero] at HS); clear hw; clear hc0_0 hc0_2 hc0_3 hf0_2 hf0_3; have hc0_0 := ((HS.out.pick 0 rfl).cell 0).trans (show _ = some (.int .i64 Kn) from rfl); have hc0_2 := ((HS.out.pick 0 rfl).cell 2).trans (show _ = some (.slice A1 l1.length c1) from rfl); have hf0_2 := (HS.out.pick 0 rfl).frozen 2) | ((with_reducible refine gate_store (t := 26) (p := 55) rfl ?_); refine store_event (t := 26) (p := 55) (v := .tmp 53) (w1 := ?_) rfl rfl rfl ?_ ?_; rotate_left; (focus (first | (go_simp; done) | (go_simp; rfl))); intro w6 hw; have n0_ := Aside0.mk (hw ▸ (HS.out.pick 0 rfl).set 2 (.slice AU U.length cU) #[.int .i64 Kn, .int .i64 sd, .slice AU U.length cU, .bool true] rfl); have n1_ := Aside0.mk (hw ▸ (HS.out.pick 0 rfl).below_set (i := 2) (u := .slice AU U.length cU) HB.out); clear HS HB; have HS := n0_; have HB := n1_; clear n0_ n1_; (try simp only [List.eraseIdx_cons_succ, List.eraseIdx_cons_zero] at HS); clear hw))
    go_ret
    have h1 := HS.out.pick 2 rfl
    have h2 := St.cutRow flatK h1 U.length (Nat.le_refl _)
    refine ⟨.slice AU U.length cU, U, rfl, hu1.out, hu2.out, hu3.out, ?_, HB.out⟩
    have e1 : U.take Kn = U.take U.length := by rw [List.take_of_length_le (by omega), List.take_of_length_le (Nat.le_refl _)]
    have e2 : ((true || true) || decide (Kn < U.length)) = true := by rw [decide_eq_false (by omega)]; rfl
    rw [e1, e2]
    exact ((h2.pick 2 rfl).drop).swap

theorem mrg_self_f (p q Kn : Nat) (sd : Int) (hK : Kn ≤ 1024) (l1 l2 : List S52) (z10 : l1.length ≤ 1000) (z20 : l2.length ≤ 1000) (A1 A2 : Option Addr) (c1 c2 : Nat) (b1 : ((Kn : Int) != (Kn : Int)) = false) (b2 : (sd != sd) = false) {N : Nat} {w : World} {L : List Res} (HS0 : St N w (Blk p #[.int .i64 Kn, .int .i64 sd, .slice A1 l1.length c1, .bool false] 59 :: Row k52 52 (.slice A1 l1.length c1) l1 :: L)) :
    Calls Try.prog 33 #[.pointer (some ⟨p, 0, none⟩), .pointer (some ⟨p, 0, none⟩)] w fun e w' => ∃ v' U, e = .returned (.int .i64 0) ∧ Inc U ∧ (∀ x, x ∈ U ↔ x ∈ l1 ∨ x ∈ l1) ∧ U.length ≤ 2000 ∧ St N w' (Blk p #[.int .i64 Kn, .int .i64 sd, v', .bool ((false || false) || decide (Kn < U.length))] 59 :: Row k52 52 v' (U.take Kn) :: L) ∧ Below N w w' := by
  have HS := Aside0.mk HS0
  have HB := Aside0.mk (Below.refl N w)
  have z1 := Aside0.mk z10
  have z2 := Aside0.mk z20
  clear HS0 z10 z20
  go_enter Try.func33, Try.ntmps33
  go_upto_region 4 with (first | ((with_reducible refine gate_callee (f := 63) rfl ?_); refine goesL_ (some 9) rfl rfl Try.func63 (by kernel_rfl) rfl #[.pointer (some ⟨p, 0, none⟩), .pointer (some ⟨p, 0, none⟩)] rfl (by (try simp only [List.map_toArray, List.map_cons, List.map_nil]); first | done | rfl | (simp only [List.length_drop, List.length_take]; rfl)) ?_; (with_reducible refine (fits_self p p _ (.slice none 0 0) false false (Kn : Int) sd (Kn : Int) sd b1 b2 HS.out).mono ?_); rintro e w1 ⟨rfl, hs1, hb⟩; refine ⟨_, rfl, ?_⟩; have n0_ := Aside0.mk (hs1); have n1_ := Aside0.mk (HB.out.trans hb); clear HS HB; have HS := n0_; have HB := n1_; clear n0_ n1_; (try simp only [List.eraseIdx_cons_succ, List.eraseIdx_cons_zero] at HS); clear hs1 hb))
  have n0_ := Aside0.mk (HS.out.drew); have n1_ := Aside0.mk (HB.out.drew); clear HS HB; have HS := n0_; have HB := n1_; clear n0_ n1_
  refine start_ (n := 10) (S := fun w' => w'.cell? ⟨p, 2, none⟩ = some (.slice A1 l1.length c1)) (ds := []) #[false, false, false, false, false, false, false, false, false, false] (by kernel_rfl) rfl rfl (((HS.out.pick 0 rfl).cell 2).trans rfl) (fun hHeld => ?_); refine with_tabW mrg.tab4 mrg.bits4 (fun HT_ HW_ => ?_)
  generalize w1.drew = w2 at HS HB hHeld ⊢
  refine pU 0 13 #[true, false, false, false, false, false, false, false, false, false] rfl rfl HT_ ?_
  refine pU 1 14 #[true, true, false, false, false, false, false, false, false, false] rfl rfl HT_ ?_
  refine pU 2 15 #[true, true, true, false, false, false, false, false, false, false] rfl rfl HT_ ?_
  refine pU 4 17 #[true, true, true, false, true, false, false, false, false, false] rfl rfl HT_ ?_
  refine pU 5 18 #[true, true, true, false, true, true, false, false, false, false] rfl rfl HT_ ?_
  refine pU 6 19 #[true, true, true, false, true, true, true, false, false, false] rfl rfl HT_ ?_
  refine tK 3 16 #[true, true, true, true, true, true, true, false, false, false] rfl rfl HT_ HW_ hHeld ?_ (by rintro w' s0; go_simp; with_reducible rfl)
  refine tK 7 20 #[true, true, true, true, true, true, true, true, false, false] rfl rfl HT_ HW_ hHeld ?_ (by rintro w' s0; go_simp; with_reducible rfl)
  refine one_ (i := 8) (N := some 21) #[true, true, true, true, true, true, true, true, true, false] rfl rfl (one_of HT_.out (by kernel_rfl)) (by decide) (fun K hK => ?_)
  refine goes_ Try.func64 (by kernel_rfl) rfl #[.slice A1 l1.length c1, .slice A1 l1.length c1, .func (.func 55) #[] #[]] (by rfl) rfl rfl (by (try simp only [List.map_toArray, List.map_cons, List.map_nil]); first | done | rfl | (simp only [List.length_drop, List.length_take]; rfl)) ?_
  with_reducible refine (merged_ok l1 l1 z1.out z1.out A1 A1 c1 c1 (fun w' h => ⟨⟨(h.pick 1 rfl).rowC.2.2, (h.pick 1 rfl).rowC.2.1⟩, ⟨(h.pick 1 rfl).rowC.2.2, (h.pick 1 rfl).rowC.2.1⟩⟩) HS.out).mono ?_
  rintro e w4 ⟨v4, U, rfl, hu1, hu2, hu3, hs1, hb⟩
  refine ⟨_, rfl, ?_⟩
  have n0_ := Aside0.mk (((hs1.pick 2 rfl).pick 2 rfl)); have n1_ := Aside0.mk (HB.out.trans hb); clear HS HB; have HS := n0_; have HB := n1_; clear n0_ n1_; (try simp only [List.eraseIdx_cons_succ, List.eraseIdx_cons_zero] at HS)
  clear hs1 hb; replace hu1 := Aside0.mk hu1; replace hu2 := Aside0.mk hu2; replace hu3 := Aside0.mk hu3; obtain ⟨AU, cU, eU⟩ : ∃ (A : Option Addr) (c : Nat), v4 = .slice A U.length c := (by obtain ⟨A, c, e, _, _⟩ := (HS.out.pick 2 rfl).reads; exact ⟨A, c, e⟩); subst eU
  refine hK.out _ _ (((HS.out.pick 0 rfl).cell 2).trans rfl) (fun hHeld => ?_)
  clear hK K
  refine norm_ (a' := ?_) ?_ ?_
  rotate_left
  · show Act.put _ (some 21) _ = _
    simp only [Act.put, List.setIfInBounds_toArray, List.set_cons_zero, List.set_cons_succ, i64_w, i32_w]
    rfl
  refine pU 9 6 #[true, true, true, true, true, true, true, true, true, true] rfl rfl HT_ ?_
  refine done_ (done_of HT_.out (by kernel_rfl)) ?_
  clear HT_ HW_
  try clear hHeld
  by_cases hlt : Kn < U.length
  · have hn := Aside0.mk (HS.out.pick 2 rfl).rowC.2.1
    have g1 : ((Kn : Int) < (U.length : Int)) = True := eq_true (by omega)
    have g2 : decide ((U.length : Int) > (Kn : Int)) = true := decide_eq_true (by omega)
    have g3 : (0 : Int) ≤ (Kn : Int) := by omega
    have g4 : (Kn : Int) ≤ (cU : Int) := by have := hn.out; omega
    have g5 : (0 : Int) ≤ (U.length : Int) := by omega
    have hc0_0 := ((HS.out.pick 0 rfl).cell 0).trans (show _ = some (.int .i64 Kn) from rfl); have hc0_2 := ((HS.out.pick 0 rfl).cell 2).trans (show _ = some (.slice A1 l1.length c1) from rfl); have hc0_3 := ((HS.out.pick 0 rfl).cell 3).trans (show _ = some (.bool false) from rfl); have hf0_2 := (HS.out.pick 0 rfl).frozen 2; have hf0_3 := (HS.out.pick 0 rfl).frozen 3
    go_wp2_with (first | ((with_reducible refine gate_store (t := 4) (p := 43) rfl ?_); refine store_event (t := 4) (p := 43) (v := .tmp 41) (w1 := ?_) rfl rfl rfl ?_ ?_; rotate_left; (focus (first | (go_simp; done) | (go_simp; rfl))); intro w5 hw; have n0_ := Aside0.mk (hw ▸ (HS.out.pick 0 rfl).set 3 (.bool true) #[.int .i64 Kn, .int .i64 sd, .slice A1 l1.length c1, .bool true] rfl); have n1_ := Aside0.mk (hw ▸ (HS.out.pick 0 rfl).below_set (i := 3) (u := .bool true) HB.out); clear HS HB; have HS := n0_; have HB := n1_; clear n0_ n1_; (try simp only [List.eraseIdx_cons_succ, List.eraseIdx_cons_zero] at HS); clear hw; clear hc0_0 hc0_2 hc0_3 hf0_2 hf0_3; have hc0_0 := ((HS.out.pick 0 rfl).cell 0).trans (show _ = some (.int .i64 Kn) from rfl); have hc0_2 := ((HS.out.pick 0 rfl).cell 2).trans (show _ = some (.slice A1 l1.length c1) from rfl); have hf0_2 := (HS.out.pick 0 rfl).frozen 2) | ((with_reducible refine gate_store (t := 26) (p := 55) rfl ?_); refine store_event (t := 26) (p := 55) (v := .tmp 53) (w1 := ?_) rfl rfl rfl ?_ ?_; rotate_left; (focus (first | (go_simp; done) | (go_simp; rfl))); intro w6 hw; have n0_ := Aside0.mk (hw ▸ (HS.out.pick 0 rfl).set 2 (.slice AU Kn cU) #[.int .i64 Kn, .int .i64 sd, .slice AU Kn cU, .bool true] rfl); have n1_ := Aside0.mk (hw ▸ (HS.out.pick 0 rfl).below_set (i := 2) (u := .slice AU Kn cU) HB.out); clear HS HB; have HS := n0_; have HB := n1_; clear n0_ n1_; (try simp only [List.eraseIdx_cons_succ, List.eraseIdx_cons_zero] at HS); clear hw))
    go_ret
    have h1 := HS.out.pick 2 rfl
    have h2 := St.cutRow flatK h1 Kn (by omega)
    refine ⟨.slice AU Kn cU, U, rfl, hu1.out, hu2.out, hu3.out, ?_, HB.out⟩
    have e1 : U.take Kn = U.take Kn := rfl
    have e2 : ((false || false) || decide (Kn < U.length)) = true := by rw [decide_eq_true (by omega)]; rfl
    rw [e1, e2]
    exact ((h2.pick 2 rfl).drop).swap
  · have hn := Aside0.mk (HS.out.pick 2 rfl).rowC.2.1
    have g1 : ((Kn : Int) < (U.length : Int)) = False := eq_false (by omega)
    have g2 : decide ((U.length : Int) > (Kn : Int)) = false := decide_eq_false (by omega)
    have g3 : (0 : Int) ≤ (Kn : Int) := by omega
    have g4 : (U.length : Int) ≤ (cU : Int) := by have := hn.out; omega
    have g5 : (0 : Int) ≤ (U.length : Int) := by omega
    have hc0_0 := ((HS.out.pick 0 rfl).cell 0).trans (show _ = some (.int .i64 Kn) from rfl); have hc0_2 := ((HS.out.pick 0 rfl).cell 2).trans (show _ = some (.slice A1 l1.length c1) from rfl); have hc0_3 := ((HS.out.pick 0 rfl).cell 3).trans (show _ = some (.bool false) from rfl); have hf0_2 := (HS.out.pick 0 rfl).frozen 2; have hf0_3 := (HS.out.pick 0 rfl).frozen 3
    go_wp2_with (first | ((with_reducible refine gate_store (t := 4) (p := 43) rfl ?_); refine store_event (t := 4) (p := 43) (v := .tmp 41) (w1 := ?_) rfl rfl rfl ?_ ?_; rotate_left; (focus (first | (go_simp; done) | (go_simp; rfl))); intro w5 hw; have n0_ := Aside0.mk (hw ▸ (HS.out.pick 0 rfl).set 3 (.bool false) #[.int .i64 Kn, .int .i64 sd, .slice A1 l1.length c1, .bool false] rfl); have n1_ := Aside0.mk (hw ▸ (HS.out.pick 0 rfl).below_set (i := 3) (u := .bool false) HB.out); clear HS HB; have HS := n0_; have HB := n1_; clear n0_ n1_; (try simp only [List.eraseIdx_cons_succ, List.eraseIdx_cons_zero] at HS); clear hw; clear hc0_0 hc0_2 hc0_3 hf0_2 hf0_3; have hc0_0 := ((HS.out.pick 0 rfl).cell 0).trans (show _ = some (.int .i64 Kn) from rfl); have hc0_2 := ((HS.out.pick 0 rfl).cell 2).trans (show _ = some (.slice A1 l1.length c1) from rfl); have hf0_2 := (HS.out.pick 0 rfl).frozen 2) | ((with_reducible refine gate_store (t := 26) (p := 55) rfl ?_); refine store_event (t := 26) (p := 55) (v := .tmp 53) (w1 := ?_) rfl rfl rfl ?_ ?_; rotate_left; (focus (first | (go_simp; done) | (go_simp; rfl))); intro w6 hw; have n0_ := Aside0.mk (hw ▸ (HS.out.pick 0 rfl).set 2 (.slice AU U.length cU) #[.int .i64 Kn, .int .i64 sd, .slice AU U.length cU, .bool false] rfl); have n1_ := Aside0.mk (hw ▸ (HS.out.pick 0 rfl).below_set (i := 2) (u := .slice AU U.length cU) HB.out); clear HS HB; have HS := n0_; have HB := n1_; clear n0_ n1_; (try simp only [List.eraseIdx_cons_succ, List.eraseIdx_cons_zero] at HS); clear hw))
    go_ret
    have h1 := HS.out.pick 2 rfl
    have h2 := St.cutRow flatK h1 U.length (Nat.le_refl _)
    refine ⟨.slice AU U.length cU, U, rfl, hu1.out, hu2.out, hu3.out, ?_, HB.out⟩
    have e1 : U.take Kn = U.take U.length := by rw [List.take_of_length_le (by omega), List.take_of_length_le (Nat.le_refl _)]
    have e2 : ((false || false) || decide (Kn < U.length)) = false := by rw [decide_eq_false (by omega)]; rfl
    rw [e1, e2]
    exact ((h2.pick 2 rfl).drop).swap

theorem Merge_sk (p q Kn : Nat) (sd : Int) (hK : Kn ≤ 1000) (l m W : List S52) (hl : Inc l) (hm : Inc m) (hW : Inc W) (hWm : ∀ x, x ∈ W ↔ x ∈ l ∨ x ∈ m) {N : Nat} {w : World} {L : List Res} (HS0 : St N w (Sk p Kn sd l :: Sk q Kn sd m :: L)) :
    Calls Try.prog 33 #[.pointer (some ⟨p, 0, none⟩), .pointer (some ⟨q, 0, none⟩)] w fun e w' => e = .returned (.int .i64 0) ∧ St N w' (Sk p Kn sd W :: Sk q Kn sd m :: L) ∧ Below N w w' := by
  obtain ⟨v1, h1⟩ := Sk_open HS0
  obtain ⟨A1, c1, e1, _, _⟩ := h1.swap.reads
  subst e1
  have h2 := h1.pick 2 rfl
  simp only [List.eraseIdx_cons_succ, List.eraseIdx_cons_zero] at h2
  obtain ⟨v2, h3⟩ := Sk_open h2
  obtain ⟨A2, c2, e2, _, _⟩ := h3.swap.reads
  subst e2
  have h4 := (h3.pick 3 rfl).pick 3 rfl
  simp only [List.eraseIdx_cons_succ, List.eraseIdx_cons_zero] at h4
  have z1 : (l.take Kn).length ≤ 1000 := by rw [List.length_take]; omega
  have z2 : (m.take Kn).length ≤ 1000 := by rw [List.length_take]; omega
  have b1 : ((Kn : Int) != (Kn : Int)) = false := by simp
  have b2 : (sd != sd) = false := by simp
  have fin : ∀ (v' : Value) (U : List S52) (w' : World), Inc U → (∀ x, x ∈ U ↔ x ∈ l.take Kn ∨ x ∈ m.take Kn) → St N w' (Blk p #[.int .i64 Kn, .int .i64 sd, v', .bool ((decide (Kn < l.length) || decide (Kn < m.length)) || decide (Kn < U.length))] 59 :: Row k52 52 v' (U.take Kn) :: Blk q #[.int .i64 Kn, .int .i64 sd, .slice A2 (m.take Kn).length c2, .bool (decide (Kn < m.length))] 59 :: Row k52 52 (.slice A2 (m.take Kn).length c2) (m.take Kn) :: L) → St N w' (Sk p Kn sd W :: Sk q Kn sd m :: L) := by
    intro v' U w' hU hUm hs
    obtain ⟨t1, t2⟩ := merge_take Kn l m W U hl hm hW hU hWm hUm
    rw [t1, t2] at hs
    have h6 := (Sk_shut hs).pick 1 rfl
    simp only [List.eraseIdx_cons_succ, List.eraseIdx_cons_zero] at h6
    have h7 := h6.pick 2 rfl
    simp only [List.eraseIdx_cons_succ, List.eraseIdx_cons_zero] at h7
    exact (Sk_shut h7.swap).swap
  by_cases k1 : Kn < l.length
  · rw [decide_eq_true k1] at h4 fin
    refine (mrg_tt p q Kn sd (by omega) (l.take Kn) (m.take Kn) z1 z2 A1 A2 c1 c2 b1 b2 _ h4).mono ?_
    rintro e w' ⟨v', U, rfl, hU, hUm, _, hs, hb⟩
    exact ⟨rfl, fin v' U w' hU hUm hs, hb⟩
  · rw [decide_eq_false k1] at h4 fin
    by_cases k2 : Kn < m.length
    · rw [decide_eq_true k2] at h4 fin
      refine (mrg_ft p q Kn sd (by omega) (l.take Kn) (m.take Kn) z1 z2 A1 A2 c1 c2 b1 b2 h4).mono ?_
      rintro e w' ⟨v', U, rfl, hU, hUm, _, hs, hb⟩
      exact ⟨rfl, fin v' U w' hU hUm hs, hb⟩
    · rw [decide_eq_false k2] at h4 fin
      refine (mrg_ff p q Kn sd (by omega) (l.take Kn) (m.take Kn) z1 z2 A1 A2 c1 c2 b1 b2 h4).mono ?_
      rintro e w' ⟨v', U, rfl, hU, hUm, _, hs, hb⟩
      exact ⟨rfl, fin v' U w' hU hUm hs, hb⟩
theorem Merge_self (p Kn : Nat) (sd : Int) (hK : Kn ≤ 1000) (l : List S52) (hl : Inc l) {N : Nat} {w : World} {L : List Res} (HS0 : St N w (Sk p Kn sd l :: L)) :
    Calls Try.prog 33 #[.pointer (some ⟨p, 0, none⟩), .pointer (some ⟨p, 0, none⟩)] w fun e w' => e = .returned (.int .i64 0) ∧ St N w' (Sk p Kn sd l :: L) ∧ Below N w w' := by
  obtain ⟨v1, h1⟩ := Sk_open HS0
  obtain ⟨A1, c1, e1, _, _⟩ := h1.swap.reads
  subst e1
  have z1 : (l.take Kn).length ≤ 1000 := by rw [List.length_take]; omega
  have b1 : ((Kn : Int) != (Kn : Int)) = false := by simp
  have b2 : (sd != sd) = false := by simp
  have fin : ∀ (v' : Value) (U : List S52) (w' : World), Inc U → (∀ x, x ∈ U ↔ x ∈ l.take Kn ∨ x ∈ l.take Kn) → St N w' (Blk p #[.int .i64 Kn, .int .i64 sd, v', .bool ((decide (Kn < l.length) || decide (Kn < l.length)) || decide (Kn < U.length))] 59 :: Row k52 52 v' (U.take Kn) :: L) → St N w' (Sk p Kn sd l :: L) := by
    intro v' U w' hU hUm hs
    obtain ⟨t1, t2⟩ := merge_take Kn l l l U hl hl hl hU (fun x => by simp) hUm
    rw [t1, t2] at hs
    exact Sk_shut hs
  by_cases k1 : Kn < l.length
  · rw [decide_eq_true k1] at h1 fin
    refine (mrg_self_t p p Kn sd (by omega) (l.take Kn) (l.take Kn) z1 z1 A1 A1 c1 c1 b1 b2 h1).mono ?_
    rintro e w' ⟨v', U, rfl, hU, hUm, _, hs, hb⟩
    exact ⟨rfl, fin v' U w' hU hUm hs, hb⟩
  · rw [decide_eq_false k1] at h1 fin
    refine (mrg_self_f p p Kn sd (by omega) (l.take Kn) (l.take Kn) z1 z1 A1 A1 c1 c1 b1 b2 h1).mono ?_
    rintro e w' ⟨v', U, rfl, hU, hUm, _, hs, hb⟩
    exact ⟨rfl, fin v' U w' hU hUm hs, hb⟩

end Go.Proofs.Ytddhpkobingmhaa.PB
end

/-! # Sk26 -/
section
namespace Go.Proofs.Ytddhpkobingmhaa.PB
open Go.RowKit Go.Proofs.YtddhpkobingmhaaW.PrintWords Go.Proofs.YtddhpkobingmhaaW.PrintLast Go.Proofs.YtddhpkobingmhaaW.PrintMore Go.Proofs.Ytddhpkobingmhaa.Sep
set_option linter.unusedVariables false
set_option linter.unusedSimpArgs false
set_option maxHeartbeats 8000000
set_option maxRecDepth 100000

theorem fits_sk (pa pb Ka : Nat) (sa : Int) (l m : List S52) {N : Nat} {w : World} {L : List Res} (HS0 : St N w (Sk pa Ka sa l :: Sk pb Ka sa m :: L)) :
    Calls Try.prog 63 #[.pointer (some ⟨pa, 0, none⟩), .pointer (some ⟨pb, 0, none⟩)] w fun e w' => e = .returned (.int .i64 0) ∧ St N w' (Sk pa Ka sa l :: Sk pb Ka sa m :: L) ∧ Below N w w' := by
  obtain ⟨v1, h1⟩ := Sk_open HS0
  have h2 := h1.pick 2 rfl
  simp only [List.eraseIdx_cons_succ, List.eraseIdx_cons_zero] at h2
  obtain ⟨v2, h3⟩ := Sk_open h2
  have h4 := h3.pick 2 rfl
  simp only [List.eraseIdx_cons_succ, List.eraseIdx_cons_zero] at h4
  refine (fits_same pa pb v1 v2 _ _ (Ka : Int) sa (Ka : Int) sa (by simp) (by simp) h4).mono ?_
  rintro e w' ⟨rfl, hs, hb⟩
  refine ⟨rfl, ?_, hb⟩
  have h6 := hs.pick 3 rfl
  simp only [List.eraseIdx_cons_succ, List.eraseIdx_cons_zero] at h6
  have h7 := Sk_shut h6.swap
  have h8 := (h7.pick 2 rfl).pick 2 rfl
  simp only [List.eraseIdx_cons_succ, List.eraseIdx_cons_zero] at h8
  exact (Sk_shut h8).swap
theorem fits_sk_self (pa Ka : Nat) (sa : Int) (l : List S52) {N : Nat} {w : World} {L : List Res} (HS0 : St N w (Sk pa Ka sa l :: L)) :
    Calls Try.prog 63 #[.pointer (some ⟨pa, 0, none⟩), .pointer (some ⟨pa, 0, none⟩)] w fun e w' => e = .returned (.int .i64 0) ∧ St N w' (Sk pa Ka sa l :: L) ∧ Below N w w' := by
  obtain ⟨v1, h1⟩ := Sk_open HS0
  refine (fits_self pa pa v1 v1 _ false (Ka : Int) sa (Ka : Int) sa (by simp) (by simp) h1).mono ?_
  rintro e w' ⟨rfl, hs, hb⟩
  exact ⟨rfl, Sk_shut hs, hb⟩

theorem union_two (p q Kn : Nat) (sd : Int) (hK : Kn ≤ 1000) (l m W : List S52) (hi1 : Inc l) (hi2 : Inc m) (hi3 : Inc W) (hm0 : ∀ x, x ∈ W ↔ x ∈ l ∨ x ∈ m) {N : Nat} {w : World} {L : List Res} (HS0 : St N w (Sk p Kn sd l :: Sk q Kn sd m :: L)) :
    Calls Try.prog 65 #[.pointer (some ⟨p, 0, none⟩), .pointer (some ⟨q, 0, none⟩)] w fun e w' => ∃ c : Nat, e = .returned (.tuple #[.pointer (some ⟨c, 0, none⟩), .int .i64 0]) ∧ St N w' (Sk c Kn sd W :: Sk p Kn sd l :: Sk q Kn sd m :: L) ∧ Below N w w' := by
  have HS := Aside0.mk HS0
  have HB := Aside0.mk (Below.refl N w)
  have hm := Aside0.mk hm0
  have hK4 : Kn ≤ 1024 := by omega
  clear HS0 hm0
  go_enter Try.func65, Try.ntmps65
  go_wp2_with (first | ((with_reducible refine gate_callee (f := 63) rfl ?_); refine goesL_ (some 10) rfl rfl Try.func63 (by kernel_rfl) rfl #[.pointer (some ⟨p, 0, none⟩), .pointer (some ⟨q, 0, none⟩)] rfl (by (try simp only [List.map_toArray, List.map_cons, List.map_nil]); first | done | rfl | (simp only [List.length_drop, List.length_take]; rfl)) ?_; (with_reducible refine (fits_sk p q Kn sd l m HS.out).mono ?_); rintro e w1 ⟨rfl, hs1, hb⟩; refine ⟨_, rfl, ?_⟩; have n0_ := Aside0.mk (hs1); have n1_ := Aside0.mk (HB.out.trans hb); clear HS HB; have HS := n0_; have HB := n1_; clear n0_ n1_; (try simp only [List.eraseIdx_cons_succ, List.eraseIdx_cons_zero] at HS); clear hs1 hb) | ((with_reducible refine gate_callee (f := 32) rfl ?_); refine goesL_ (some 15) rfl rfl Try.func32 (by kernel_rfl) rfl #[.pointer (some ⟨p, 0, none⟩)] rfl (by (try simp only [List.map_toArray, List.map_cons, List.map_nil]); first | done | rfl | (simp only [List.length_drop, List.length_take]; rfl)) ?_; (with_reducible refine (Clone_sk p Kn sd l hK4 HS.out).mono ?_); rintro e w2 ⟨c, rfl, hs1, hb⟩; refine ⟨_, rfl, ?_⟩; have n0_ := Aside0.mk (hs1); have n1_ := Aside0.mk (HB.out.trans hb); clear HS HB; have HS := n0_; have HB := n1_; clear n0_ n1_; (try simp only [List.eraseIdx_cons_succ, List.eraseIdx_cons_zero] at HS); clear hs1 hb) | ((with_reducible refine gate_callee (f := 33) rfl ?_); refine goesL_ (some 19) rfl rfl Try.func33 (by kernel_rfl) rfl #[.pointer (some ⟨c, 0, none⟩), .pointer (some ⟨q, 0, none⟩)] rfl (by (try simp only [List.map_toArray, List.map_cons, List.map_nil]); first | done | rfl | (simp only [List.length_drop, List.length_take]; rfl)) ?_; (with_reducible refine (Merge_sk c q Kn sd hK l m W hi1 hi2 hi3 hm.out ((HS.out.pick 2 rfl).pick 1 rfl)).mono ?_); rintro e w3 ⟨rfl, hs1, hb⟩; refine ⟨_, rfl, ?_⟩; have n0_ := Aside0.mk ((hs1.pick 2 rfl).pick 1 rfl); have n1_ := Aside0.mk (HB.out.trans hb); clear HS HB; have HS := n0_; have HB := n1_; clear n0_ n1_; (try simp only [List.eraseIdx_cons_succ, List.eraseIdx_cons_zero] at HS); clear hs1 hb))
  go_ret2
  exact ⟨c, rfl, by simpa only [List.eraseIdx_cons_succ, List.eraseIdx_cons_zero] using HS.out, HB.out⟩
theorem Union_sk (p q Kn : Nat) (sd : Int) (hK1 : 1 ≤ Kn) (hK : Kn ≤ 1000) (l m W : List S52) (hi1 : Inc l) (hi2 : Inc m) (hi3 : Inc W) (hm0 : ∀ x, x ∈ W ↔ x ∈ l ∨ x ∈ m) (hin0 : Hin W) {N : Nat} {w : World} {L : List Res} (HS0 : St N w (Sk p Kn sd l :: Sk q Kn sd m :: L)) :
    Calls Try.prog 34 #[.pointer (some ⟨p, 0, none⟩), .pointer (some ⟨q, 0, none⟩)] w fun e w' => e = .returned (.tuple #[.int .i64 (dst Kn W), .int .i64 0]) ∧ St N w' (Sk p Kn sd l :: Sk q Kn sd m :: L) ∧ Below N w w' := by
  have HS := Aside0.mk HS0
  have HB := Aside0.mk (Below.refl N w)
  have hm := Aside0.mk hm0
  have hin := Aside0.mk hin0
  have hK4 : Kn ≤ 1024 := by omega
  clear HS0 hm0 hin0
  go_enter Try.func34, Try.ntmps34
  go_wp2_with (first | ((with_reducible refine gate_callee (f := 65) rfl ?_); refine goesL_ (some 11) rfl rfl Try.func65 (by kernel_rfl) rfl #[.pointer (some ⟨p, 0, none⟩), .pointer (some ⟨q, 0, none⟩)] rfl (by (try simp only [List.map_toArray, List.map_cons, List.map_nil]); first | done | rfl | (simp only [List.length_drop, List.length_take]; rfl)) ?_; (with_reducible refine (union_two p q Kn sd hK l m W hi1 hi2 hi3 hm.out HS.out).mono ?_); rintro e w1 ⟨c, rfl, hs1, hb⟩; refine ⟨_, rfl, ?_⟩; have n0_ := Aside0.mk (hs1); have n1_ := Aside0.mk (HB.out.trans hb); clear HS HB; have HS := n0_; have HB := n1_; clear n0_ n1_; (try simp only [List.eraseIdx_cons_succ, List.eraseIdx_cons_zero] at HS); clear hs1 hb) | ((with_reducible refine gate_callee (f := 16) rfl ?_); refine goesL_ (some 15) rfl rfl Try.func16 (by kernel_rfl) rfl #[.pointer (some ⟨c, 0, none⟩)] rfl (by (try simp only [List.map_toArray, List.map_cons, List.map_nil]); first | done | rfl | (simp only [List.length_drop, List.length_take]; rfl)) ?_; (with_reducible refine (Distinct_sk c Kn sd W hK1 hK4 hin.out HS.out).mono ?_); rintro e w2 ⟨rfl, hs1, hb⟩; refine ⟨_, rfl, ?_⟩; have n0_ := Aside0.mk (hs1); have n1_ := Aside0.mk (HB.out.trans hb); clear HS HB; have HS := n0_; have HB := n1_; clear n0_ n1_; (try simp only [List.eraseIdx_cons_succ, List.eraseIdx_cons_zero] at HS); clear hs1 hb))
  go_ret2
  exact ⟨rfl, HS.out.drop, HB.out⟩

theorem union_self (p Kn : Nat) (sd : Int) (hK : Kn ≤ 1000) (l W : List S52) (hi1 : Inc l) (hi3 : Inc W) (hm0 : ∀ x, x ∈ W ↔ x ∈ l ∨ x ∈ l) {N : Nat} {w : World} {L : List Res} (HS0 : St N w (Sk p Kn sd l :: L)) :
    Calls Try.prog 65 #[.pointer (some ⟨p, 0, none⟩), .pointer (some ⟨p, 0, none⟩)] w fun e w' => ∃ c : Nat, e = .returned (.tuple #[.pointer (some ⟨c, 0, none⟩), .int .i64 0]) ∧ St N w' (Sk c Kn sd W :: Sk p Kn sd l :: L) ∧ Below N w w' := by
  have HS := Aside0.mk HS0
  have HB := Aside0.mk (Below.refl N w)
  have hm := Aside0.mk hm0
  have hK4 : Kn ≤ 1024 := by omega
  clear HS0 hm0
  go_enter Try.func65, Try.ntmps65
  go_wp2_with (first | ((with_reducible refine gate_callee (f := 63) rfl ?_); refine goesL_ (some 10) rfl rfl Try.func63 (by kernel_rfl) rfl #[.pointer (some ⟨p, 0, none⟩), .pointer (some ⟨p, 0, none⟩)] rfl (by (try simp only [List.map_toArray, List.map_cons, List.map_nil]); first | done | rfl | (simp only [List.length_drop, List.length_take]; rfl)) ?_; (with_reducible refine (fits_sk_self p Kn sd l HS.out).mono ?_); rintro e w1 ⟨rfl, hs1, hb⟩; refine ⟨_, rfl, ?_⟩; have n0_ := Aside0.mk (hs1); have n1_ := Aside0.mk (HB.out.trans hb); clear HS HB; have HS := n0_; have HB := n1_; clear n0_ n1_; (try simp only [List.eraseIdx_cons_succ, List.eraseIdx_cons_zero] at HS); clear hs1 hb) | ((with_reducible refine gate_callee (f := 32) rfl ?_); refine goesL_ (some 15) rfl rfl Try.func32 (by kernel_rfl) rfl #[.pointer (some ⟨p, 0, none⟩)] rfl (by (try simp only [List.map_toArray, List.map_cons, List.map_nil]); first | done | rfl | (simp only [List.length_drop, List.length_take]; rfl)) ?_; (with_reducible refine (Clone_sk p Kn sd l hK4 HS.out).mono ?_); rintro e w2 ⟨c, rfl, hs1, hb⟩; refine ⟨_, rfl, ?_⟩; have n0_ := Aside0.mk (hs1); have n1_ := Aside0.mk (HB.out.trans hb); clear HS HB; have HS := n0_; have HB := n1_; clear n0_ n1_; (try simp only [List.eraseIdx_cons_succ, List.eraseIdx_cons_zero] at HS); clear hs1 hb) | ((with_reducible refine gate_callee (f := 33) rfl ?_); refine goesL_ (some 19) rfl rfl Try.func33 (by kernel_rfl) rfl #[.pointer (some ⟨c, 0, none⟩), .pointer (some ⟨p, 0, none⟩)] rfl (by (try simp only [List.map_toArray, List.map_cons, List.map_nil]); first | done | rfl | (simp only [List.length_drop, List.length_take]; rfl)) ?_; (with_reducible refine (Merge_sk c p Kn sd hK l l W hi1 hi1 hi3 hm.out HS.out).mono ?_); rintro e w3 ⟨rfl, hs1, hb⟩; refine ⟨_, rfl, ?_⟩; have n0_ := Aside0.mk (hs1); have n1_ := Aside0.mk (HB.out.trans hb); clear HS HB; have HS := n0_; have HB := n1_; clear n0_ n1_; (try simp only [List.eraseIdx_cons_succ, List.eraseIdx_cons_zero] at HS); clear hs1 hb))
  go_ret2
  exact ⟨c, rfl, by simpa only [List.eraseIdx_cons_succ, List.eraseIdx_cons_zero] using HS.out, HB.out⟩

end Go.Proofs.Ytddhpkobingmhaa.PB
end

/-! # ContM -/
section
namespace Go.Proofs.Ytddhpkobingmhaa.PB
open Go.RowKit Go.Proofs.YtddhpkobingmhaaW.PrintWords Go.Proofs.YtddhpkobingmhaaW.PrintLast
set_option linter.unusedVariables false
set_option maxRecDepth 100000

theorem idx_l0 (l : List S52) (x : S52) (hl : l.length ≤ 1000000) : ∀ (q j : Nat), j + q = l.length → (∀ i, i < j → ¬ rd_T52 l (i : Int) = x) → ∃ r : Int, bottomk_Key_84.l0 (q + 1) l (l.length : Int) (j : Int) x.f0 x.f1 = some r ∧ (0 ≤ r ↔ x ∈ l)
  | 0, j, hj, hn => by
    refine ⟨-1, by rw [bottomk_Key_84.l0, if_neg (by omega)], ?_⟩
    rw [mem_rd]
    constructor
    · intro h; omega
    · rintro ⟨k, hk, e⟩; exact absurd e.symm (hn k (by omega))
  | q + 1, j, hj, hn => by
    have h1 : j < l.length := by omega
    rw [bottomk_Key_84.l0, if_pos (by omega), if_pos (by omega), if_pos (by omega)]
    by_cases e : rd_T52 l (j : Int) = x
    · refine ⟨(j : Int), ?_, ?_⟩
      · first | rw [if_pos (by rw [e]; simp)] | rw [if_neg (by rw [e]; simp)] | (simp [e])
      · rw [mem_rd]
        exact ⟨fun _ => ⟨j, h1, e.symm⟩, fun _ => by omega⟩
    · obtain ⟨r, hr, hx⟩ := idx_l0 l x hl q (j + 1) (by omega) (fun i hi => by
        by_cases h : i = j
        · rw [h]; exact e
        · exact hn i (by omega))
      refine ⟨r, ?_, hx⟩
      have hne := (kne_iff x (rd_T52 l (j : Int))).mpr (fun h => e h.symm)
      have hneq : ¬ ((x.f0 == (rd_T52 l (j : Int)).f0 && x.f1.toList == (rd_T52 l (j : Int)).f1.toList) = true) := by
        intro h
        rw [Bool.and_eq_true] at h
        rw [h.1, h.2] at hne
        simp at hne
      rw [wrap64_small _ (by omega) (by omega)]
      rw [if_neg hneq]
      exact hr
theorem contains_ok (l : List S52) (x : S52) (hl : l.length ≤ 1000000) : bottomk_Key_66.f (l.length + 1) l x.f0 x.f1 = some (decide (x ∈ l)) := by
  obtain ⟨r, hr, hx⟩ := idx_l0 l x hl l.length 0 (by omega) (fun i hi => absurd hi (Nat.not_lt_zero i))
  unfold bottomk_Key_66.f bottomk_Key_84.f
  rw [show ((0 : Nat) : Int) = 0 from rfl] at hr
  rw [hr, Option.bind_some]
  congr 1
  by_cases h : x ∈ l
  · rw [decide_eq_true h, decide_eq_true (hx.mpr h)]
  · rw [decide_eq_false h, decide_eq_false (fun h2 => h (hx.mp h2))]
end Go.Proofs.Ytddhpkobingmhaa.PB
end

/-! # Sk27 -/
section
namespace Go.Proofs.Ytddhpkobingmhaa.PB
open Go.RowKit Go.Proofs.YtddhpkobingmhaaW.PrintWords Go.Proofs.YtddhpkobingmhaaW.PrintLast Go.Proofs.YtddhpkobingmhaaW.PrintMore Go.Proofs.Ytddhpkobingmhaa.Sep
set_option linter.unusedVariables false
set_option linter.unusedSimpArgs false
set_option maxHeartbeats 8000000
set_option maxRecDepth 100000

/-- How many of the first i keys of wt lie in lt and in mt. -/
def cnt (wt lt mt : List S52) : Nat → Nat
  | 0 => 0
  | i + 1 => if rd_T52 wt (i : Int) ∈ lt ∧ rd_T52 wt (i : Int) ∈ mt then cnt wt lt mt i + 1 else cnt wt lt mt i
theorem cnt_le (wt lt mt : List S52) : ∀ i, cnt wt lt mt i ≤ i
  | 0 => Nat.le_refl _
  | i + 1 => by
    have := cnt_le wt lt mt i
    rw [cnt]
    split <;> omega
/-- The share of the kept keys of the union that both have kept, in millionths. -/
def ovl (wt lt mt : List S52) : Int := if wt.length = 0 then 0 else ((cnt wt lt mt wt.length : Nat) : Int) * 1000000 / (wt.length : Int)
theorem Sk3_open {p q c Kn : Nat} {sd : Int} {l m W : List S52} {N : Nat} {w : World} {L : List Res} (h : St N w (Sk c Kn sd W :: Sk p Kn sd l :: Sk q Kn sd m :: L)) (wt lt mt : List S52) (hw : W.take Kn = wt) (hl : l.take Kn = lt) (hm : m.take Kn = mt) (mC mP mQ : Bool) (bC : decide (Kn < W.length) = mC) (bP : decide (Kn < l.length) = mP) (bQ : decide (Kn < m.length) = mQ) : ∃ (AC AP AQ : Option Addr) (cC cP cQ : Nat), St N w (Blk c #[.int .i64 Kn, .int .i64 sd, .slice AC wt.length cC, .bool mC] 59 :: Row k52 52 (.slice AC wt.length cC) wt :: Blk p #[.int .i64 Kn, .int .i64 sd, .slice AP lt.length cP, .bool mP] 59 :: Row k52 52 (.slice AP lt.length cP) lt :: Blk q #[.int .i64 Kn, .int .i64 sd, .slice AQ mt.length cQ, .bool mQ] 59 :: Row k52 52 (.slice AQ mt.length cQ) mt :: L) := by
  obtain ⟨v1, h1⟩ := Sk_open h
  obtain ⟨AC, cC, e1, _, _⟩ := h1.swap.reads
  subst e1
  have h2 := h1.pick 2 rfl
  simp only [List.eraseIdx_cons_succ, List.eraseIdx_cons_zero] at h2
  obtain ⟨v2, h3⟩ := Sk_open h2
  obtain ⟨AP, cP, e2, _, _⟩ := h3.swap.reads
  subst e2
  have h4 := h3.pick 4 rfl
  simp only [List.eraseIdx_cons_succ, List.eraseIdx_cons_zero] at h4
  obtain ⟨v3, h5⟩ := Sk_open h4
  obtain ⟨AQ, cQ, e3, _, _⟩ := h5.swap.reads
  subst e3
  subst hw hl hm bC bP bQ
  have h6 := (((h5.pick 3 rfl).pick 3 rfl).pick 5 rfl).pick 5 rfl
  simp only [List.eraseIdx_cons_succ, List.eraseIdx_cons_zero] at h6
  exact ⟨AC, AP, AQ, cC, cP, cQ, h6⟩
theorem Sk3_shut {p q c Kn : Nat} {sd : Int} {l m : List S52} {N : Nat} {w : World} {L : List Res} {wt lt mt : List S52} {mC mP mQ : Bool} {AC AP AQ : Option Addr} {cC cP cQ : Nat} (h : St N w (Blk c #[.int .i64 Kn, .int .i64 sd, .slice AC wt.length cC, .bool mC] 59 :: Row k52 52 (.slice AC wt.length cC) wt :: Blk p #[.int .i64 Kn, .int .i64 sd, .slice AP lt.length cP, .bool mP] 59 :: Row k52 52 (.slice AP lt.length cP) lt :: Blk q #[.int .i64 Kn, .int .i64 sd, .slice AQ mt.length cQ, .bool mQ] 59 :: Row k52 52 (.slice AQ mt.length cQ) mt :: L)) (hl : l.take Kn = lt) (hm : m.take Kn = mt) (bP : decide (Kn < l.length) = mP) (bQ : decide (Kn < m.length) = mQ) : St N w (Sk p Kn sd l :: Sk q Kn sd m :: L) := by
  subst hl hm bP bQ
  have h1 := Sk_shut h.drop.drop
  have h2 := (h1.pick 2 rfl).pick 2 rfl
  simp only [List.eraseIdx_cons_succ, List.eraseIdx_cons_zero] at h2
  exact (Sk_shut h2).swap
theorem mul_small (n : Nat) (h : n ≤ 2000) : wrap64 ((n : Int) * 1000000) = (n : Int) * 1000000 := wrap64_small _ (by omega) (by omega)
theorem tdiv_ovl (n d : Nat) (h : n ≤ 2000) (hd : 0 < d) : wrap64 (Int.tdiv ((n : Int) * 1000000) (d : Int)) = (n : Int) * 1000000 / (d : Int) := by
  rw [Int.tdiv_eq_ediv_of_nonneg (by omega)]
  have h1 : 0 ≤ (n : Int) * 1000000 / (d : Int) := Int.ediv_nonneg (by omega) (by omega)
  have h2 : (n : Int) * 1000000 / (d : Int) ≤ (n : Int) * 1000000 := Int.ediv_le_self _ (by omega)
  exact wrap64_small _ h1 (by omega)

def ovp.T8 : Bool × List (List Nat × List Nat) := (true, [([], []), ([0], [0]), ([1], [1]), ([2], [2]), ([], []), ([3, 4], [3, 4]), ([5, 5], [5]), ([6], [6]), ([7, 6], [6, 7]), ([8, 6], [6, 8]), ([9, 6], [6, 9]), ([6], [6]), ([10, 11, 6, 6], [6, 10, 11]), ([6, 12], [6, 12])])
def ovp.B8 : List Nat := [0, 1, 3, 7, 0, 31, 63, 127, 255, 511, 1023, 127, 4095, 8191]
theorem ovp.tab8 : rtab .any (opsOf Try.f35 8) = ovp.T8 := by kernel_rfl
theorem ovp.bits8 : waitsOk ovp.T8.2 ovp.B8 = true := by kernel_rfl
theorem Overlap_sk (p q Kn : Nat) (sd : Int) (hK : Kn ≤ 1000) (l m W : List S52) (hi1 : Inc l) (hi2 : Inc m) (hi3 : Inc W) (hm0 : ∀ x, x ∈ W ↔ x ∈ l ∨ x ∈ m) {N : Nat} {w : World} {L : List Res} (HS0 : St N w (Sk p Kn sd l :: Sk q Kn sd m :: L)) :
    Calls Try.prog 35 #[.pointer (some ⟨p, 0, none⟩), .pointer (some ⟨q, 0, none⟩)] w fun e w' => e = .returned (.tuple #[.int .i64 (ovl (W.take Kn) (l.take Kn) (m.take Kn)), .int .i64 0]) ∧ St N w' (Sk p Kn sd l :: Sk q Kn sd m :: L) ∧ Below N w w' := by
  have HS := Aside0.mk HS0
  have HB := Aside0.mk (Below.refl N w)
  have hm := Aside0.mk hm0
  have z1 : (W.take Kn).length ≤ 1000 := by rw [List.length_take]; omega
  have z2 : (l.take Kn).length ≤ 1000 := by rw [List.length_take]; omega
  have z3 : (m.take Kn).length ≤ 1000 := by rw [List.length_take]; omega
  generalize hwt : W.take Kn = wt at z1 ⊢
  generalize hlt : l.take Kn = lt at z2 ⊢
  generalize hmt : m.take Kn = mt at z3 ⊢
  obtain ⟨mC, bC⟩ : ∃ b, decide (Kn < W.length) = b := ⟨_, rfl⟩
  obtain ⟨mP, bP⟩ : ∃ b, decide (Kn < l.length) = b := ⟨_, rfl⟩
  obtain ⟨mQ, bQ⟩ : ∃ b, decide (Kn < m.length) = b := ⟨_, rfl⟩
  replace hwt := Aside0.mk hwt
  replace hlt := Aside0.mk hlt
  replace hmt := Aside0.mk hmt
  replace bC := Aside0.mk bC
  replace bP := Aside0.mk bP
  replace bQ := Aside0.mk bQ
  replace z1 := Aside0.mk z1
  replace z2 := Aside0.mk z2
  replace z3 := Aside0.mk z3
  clear HS0 hm0
  by_cases h0 : wt.length = 0
  · have q1 : ((wt.length : Int) == 0) = true := by simp [h0]
    rw [show ovl wt lt mt = 0 from if_pos h0]
    replace h0 := Aside0.mk h0
    go_enter Try.func35, Try.ntmps35
    go_wp2_with (first | ((with_reducible refine gate_callee (f := 65) rfl ?_); refine goesL_ (some 14) rfl rfl Try.func65 (by kernel_rfl) rfl #[.pointer (some ⟨p, 0, none⟩), .pointer (some ⟨q, 0, none⟩)] rfl (by (try simp only [List.map_toArray, List.map_cons, List.map_nil]); first | done | rfl | (simp only [List.length_drop, List.length_take]; rfl)) ?_; (with_reducible refine (union_two p q Kn sd hK l m W hi1 hi2 hi3 hm.out HS.out).mono ?_); rintro e w1 ⟨c, rfl, hs1, hb⟩; refine ⟨_, rfl, ?_⟩; have n0_ := Aside0.mk (hs1); have n1_ := Aside0.mk (HB.out.trans hb); clear HS HB; have HS := n0_; have HB := n1_; clear n0_ n1_; (try simp only [List.eraseIdx_cons_succ, List.eraseIdx_cons_zero] at HS); clear hs1 hb; obtain ⟨AC, AP, AQ, cC, cP, cQ, hs2⟩ := Sk3_open HS.out wt lt mt hwt.out hlt.out hmt.out mC mP mQ bC.out bP.out bQ.out; clear HS; have HS := Aside0.mk hs2; clear hs2; have hc0_2 := ((HS.out.pick 0 rfl).cell 2).trans (show _ = some (.slice AC wt.length cC) from rfl)))
    go_ret2
    exact ⟨rfl, Sk3_shut HS.out hlt.out hmt.out bP.out bQ.out, HB.out⟩
  · have q1 : ((wt.length : Int) == 0) = false := by simpa using h0
    rw [show ovl wt lt mt = ((cnt wt lt mt wt.length : Nat) : Int) * 1000000 / (wt.length : Int) from if_neg h0]
    have h0' := Aside0.mk h0
    clear h0
    go_enter Try.func35, Try.ntmps35
    go_upto_region 6 with (first | ((with_reducible refine gate_callee (f := 65) rfl ?_); refine goesL_ (some 14) rfl rfl Try.func65 (by kernel_rfl) rfl #[.pointer (some ⟨p, 0, none⟩), .pointer (some ⟨q, 0, none⟩)] rfl (by (try simp only [List.map_toArray, List.map_cons, List.map_nil]); first | done | rfl | (simp only [List.length_drop, List.length_take]; rfl)) ?_; (with_reducible refine (union_two p q Kn sd hK l m W hi1 hi2 hi3 hm.out HS.out).mono ?_); rintro e w1 ⟨c, rfl, hs1, hb⟩; refine ⟨_, rfl, ?_⟩; have n0_ := Aside0.mk (hs1); have n1_ := Aside0.mk (HB.out.trans hb); clear HS HB; have HS := n0_; have HB := n1_; clear n0_ n1_; (try simp only [List.eraseIdx_cons_succ, List.eraseIdx_cons_zero] at HS); clear hs1 hb; obtain ⟨AC, AP, AQ, cC, cP, cQ, hs2⟩ := Sk3_open HS.out wt lt mt hwt.out hlt.out hmt.out mC mP mQ bC.out bP.out bQ.out; clear HS; have HS := Aside0.mk hs2; clear hs2; have hc0_2 := ((HS.out.pick 0 rfl).cell 2).trans (show _ = some (.slice AC wt.length cC) from rfl)))
    have hc0_2' := Aside0.mk hc0_2
    clear hc0_2 q1
    go_wp2
    go_loopw [8, 33] (fun v8 v33 wc => ∃ i : Nat, i ≤ wt.length ∧ v8 = .int .i64 ((cnt wt lt mt i : Nat) : Int) ∧ v33 = .int .i64 i ∧ Aside0 (St N wc (Blk c #[.int .i64 Kn, .int .i64 sd, .slice AC wt.length cC, .bool mC] 59 :: Row k52 52 (.slice AC wt.length cC) wt :: Blk p #[.int .i64 Kn, .int .i64 sd, .slice AP lt.length cP, .bool mP] 59 :: Row k52 52 (.slice AP lt.length cP) lt :: Blk q #[.int .i64 Kn, .int .i64 sd, .slice AQ mt.length cQ, .bool mQ] 59 :: Row k52 52 (.slice AQ mt.length cQ) mt :: L)) ∧ Aside0 (Below N w wc)) (fun _ v33 _ => (wt.length - intOf v33).toNat)
    case atStart => exact ⟨0, Nat.zero_le _, rfl, rfl, HS, HB⟩
    case round =>
      clear HS HB hc0_2'
      obtain ⟨i, hi, rfl, rfl, HS, HB⟩ := hrel
      by_cases hlt2 : i < wt.length
      · obtain ⟨x, hx⟩ : ∃ x, rd_T52 wt (i : Int) = x := ⟨_, rfl⟩
        obtain ⟨n, hn⟩ : ∃ n, cnt wt lt mt i = n := ⟨_, rfl⟩
        have hni : n ≤ i := hn ▸ cnt_le wt lt mt i
        rw [hn]
        obtain ⟨ad, e, hx0, hx1⟩ := at_T52 (HS.out.pick 1 rfl).rowC.2.2 (i : Int) (by omega) (by omega)
        cases e
        rw [hx, Int.toNat_natCast] at hx0 hx1
        have p1 : (0 : Int) ≤ (i : Int) := by omega
        have p2 : (i : Int) < (wt.length : Int) := by omega
        have p3 : decide ((i : Int) < (wt.length : Int)) = true := decide_eq_true p2
        have p4 : wrap64 ((i : Int) + 1) = (i : Int) + 1 := wrap64_small _ (by omega) (by have := z1.out; omega)
        have p5 : wrap64 ((n : Int) + 1) = (n : Int) + 1 := wrap64_small _ (by omega) (by have := z1.out; omega)
        have hcl := Aside0.mk (contains_ok lt x (by have := z2.out; omega))
        have hcm := Aside0.mk (contains_ok mt x (by have := z3.out; omega))
        replace hx := Aside0.mk hx
        replace hn := Aside0.mk hn
        clear hni hi
        by_cases m1 : x ∈ lt
        · rw [decide_eq_true m1] at hcl
          by_cases m2 : x ∈ mt
          · rw [decide_eq_true m2] at hcm
            have m12 := Aside0.mk (And.intro m1 m2)
            clear m1 m2
            go_upto_region 8 with (first | ((with_reducible refine gate_dst (N := 10) rfl ?_); refine box_event ?hg (N := 10) ?hd (cs := #[.int .i64 0, .string ⟨#[]⟩]) (t := 52) ?hr ?_; (case hd => rfl); (case hg => rfl); (case hr => first | (go_simp; done) | (go_simp; rfl)); intro g hg w3 hbox hb; have n0_ := Aside0.mk (HS.out.box hg hbox hb); have n1_ := Aside0.mk (below_step' HB.out HS.out.size hb); clear HS HB; have HS := n0_; have HB := n1_; clear n0_ n1_; (try simp only [List.eraseIdx_cons_succ, List.eraseIdx_cons_zero] at HS); clear hb hbox hg; have hc0_0 := ((HS.out.pick 0 rfl).cell 0).trans (show _ = some (.int .i64 0) from rfl); have hc0_1 := ((HS.out.pick 0 rfl).cell 1).trans (show _ = some (.string ⟨#[]⟩) from rfl); have hf0_0 := (HS.out.pick 0 rfl).frozen 0; have hf0_1 := (HS.out.pick 0 rfl).frozen 1) | ((with_reducible refine gate_store (t := 52) (p := 10) rfl ?_); refine store_event (t := 52) (p := 10) (v := .tmp 36) (w1 := ?_) rfl rfl rfl ?_ ?_; rotate_left; (focus (first | (go_simp; done) | (go_simp; rfl))); intro w4 hw; have n0_ := Aside0.mk (HS.out.set2 hw); have n1_ := Aside0.mk (HS.out.below_set2 HB.out hw); clear HS HB; have HS := n0_; have HB := n1_; clear n0_ n1_; (try simp only [List.eraseIdx_cons_succ, List.eraseIdx_cons_zero] at HS); clear hw; clear hc0_0 hc0_1 hf0_0 hf0_1))
            clear hx0 hx1
            have n0_ := Aside0.mk (HS.out.drew); have n1_ := Aside0.mk (HB.out.drew); clear HS HB; have HS := n0_; have HB := n1_; clear n0_ n1_
            refine start_ (n := 14) (S := fun w' => w'.cell? ⟨p, 2, none⟩ = some (.slice AP lt.length cP) ∧ w'.cell? ⟨q, 2, none⟩ = some (.slice AQ mt.length cQ) ∧ w'.cell? ⟨g, 0, none⟩ = some (.int .i64 x.f0) ∧ w'.cell? ⟨g, 1, none⟩ = some (.string x.f1)) (ds := []) (tfs true [0, 14]).toArray (by kernel_rfl) rfl rfl ⟨((HS.out.pick 3 rfl).cell 2).trans rfl, ((HS.out.pick 5 rfl).cell 2).trans rfl, ((HS.out.pick 0 rfl).cell 0).trans rfl, ((HS.out.pick 0 rfl).cell 1).trans rfl⟩ (fun hHeld => ?_); refine with_tabW ovp.tab8 ovp.bits8 (fun HT_ HW_ => ?_)
            generalize w4.drew = w5 at HS HB hHeld ⊢
            refine pU 0 37 (tfs true [1, 13]).toArray rfl rfl HT_ ?_
            refine pU 1 38 (tfs true [2, 12]).toArray rfl rfl HT_ ?_
            refine pU 2 39 (tfs true [3, 11]).toArray rfl rfl HT_ ?_
            refine tK 3 40 (tfs true [4, 10]).toArray rfl rfl HT_ HW_ hHeld ?_ (by rintro w' ⟨s0, s1, s2, s3⟩; go_simp; with_reducible rfl)
            refine tK 4 41 (tfs true [5, 9]).toArray rfl rfl HT_ HW_ hHeld ?_ (by rintro w' ⟨s0, s1, s2, s3⟩; go_simp; with_reducible rfl)
            refine one_ (i := 5) (N := some 42) (tfs true [6, 8]).toArray rfl rfl (one_of HT_.out (by kernel_rfl)) (by decide) (fun K hK => ?_)
            refine goes_ Try.func66 (by kernel_rfl) rfl #[.slice AP lt.length cP, .agg #[.int .i64 x.f0, .string x.f1]] (by rfl) rfl rfl (by (try simp only [List.map_toArray, List.map_cons, List.map_nil]); first | done | rfl | (simp only [List.length_drop, List.length_take]; rfl)) ?_
            with_reducible refine (bottomk_Key_66.calls (lt.length + 1) AP cP lt x.f0 x.f1 _ _ (HS.out.pick 4 rfl).rowC.2.2 (HS.out.pick 4 rfl).rowC.2.1 hcl.out).mono ?_
            rintro e w6 ⟨rfl, hb⟩
            refine ⟨_, rfl, ?_⟩
            have n0_ := Aside0.mk (HS.out.step hb); have n1_ := Aside0.mk (below_step' HB.out HS.out.size hb); clear HS HB; have HS := n0_; have HB := n1_; clear n0_ n1_; (try simp only [List.eraseIdx_cons_succ, List.eraseIdx_cons_zero] at HS)
            clear hb
            refine hK.out _ _ ⟨((HS.out.pick 3 rfl).cell 2).trans rfl, ((HS.out.pick 5 rfl).cell 2).trans rfl, ((HS.out.pick 0 rfl).cell 0).trans rfl, ((HS.out.pick 0 rfl).cell 1).trans rfl⟩ (fun hHeld => ?_)
            clear hK K
            refine norm_ (a' := ?_) ?_ ?_
            rotate_left
            · show Act.put _ (some 42) _ = _
              simp only [Act.put, List.setIfInBounds_toArray, List.set_cons_zero, List.set_cons_succ, i64_w, i32_w]
              rfl
            refine pU 6 43 (tfs true [7, 7]).toArray rfl rfl HT_ ?_
            refine pU 7 44 (tfs true [8, 6]).toArray rfl rfl HT_ ?_
            refine pU 8 45 (tfs true [9, 5]).toArray rfl rfl HT_ ?_
            refine pU 9 46 (tfs true [10, 4]).toArray rfl rfl HT_ ?_
            refine tK 10 47 (tfs true [11, 3]).toArray rfl rfl HT_ HW_ hHeld ?_ (by rintro w' ⟨s0, s1, s2, s3⟩; go_simp; with_reducible rfl)
            refine tK 11 48 (tfs true [12, 2]).toArray rfl rfl HT_ HW_ hHeld ?_ (by rintro w' ⟨s0, s1, s2, s3⟩; go_simp; with_reducible rfl)
            refine one_ (i := 12) (N := some 49) (tfs true [13, 1]).toArray rfl rfl (one_of HT_.out (by kernel_rfl)) (by decide) (fun K hK => ?_)
            refine goes_ Try.func66 (by kernel_rfl) rfl #[.slice AQ mt.length cQ, .agg #[.int .i64 x.f0, .string x.f1]] (by rfl) rfl rfl (by (try simp only [List.map_toArray, List.map_cons, List.map_nil]); first | done | rfl | (simp only [List.length_drop, List.length_take]; rfl)) ?_
            with_reducible refine (bottomk_Key_66.calls (mt.length + 1) AQ cQ mt x.f0 x.f1 _ _ (HS.out.pick 6 rfl).rowC.2.2 (HS.out.pick 6 rfl).rowC.2.1 hcm.out).mono ?_
            rintro e w7 ⟨rfl, hb⟩
            refine ⟨_, rfl, ?_⟩
            have n0_ := Aside0.mk (HS.out.step hb); have n1_ := Aside0.mk (below_step' HB.out HS.out.size hb); clear HS HB; have HS := n0_; have HB := n1_; clear n0_ n1_; (try simp only [List.eraseIdx_cons_succ, List.eraseIdx_cons_zero] at HS)
            clear hb
            refine hK.out _ _ ⟨((HS.out.pick 3 rfl).cell 2).trans rfl, ((HS.out.pick 5 rfl).cell 2).trans rfl, ((HS.out.pick 0 rfl).cell 0).trans rfl, ((HS.out.pick 0 rfl).cell 1).trans rfl⟩ (fun hHeld => ?_)
            clear hK K
            refine norm_ (a' := ?_) ?_ ?_
            rotate_left
            · show Act.put _ (some 49) _ = _
              simp only [Act.put, List.setIfInBounds_toArray, List.set_cons_zero, List.set_cons_succ, i64_w, i32_w]
              rfl
            refine pU 13 50 (tfs true [14]).toArray rfl rfl HT_ ?_
            refine done_ (done_of HT_.out (by kernel_rfl)) ?_
            clear HT_ HW_
            try clear hHeld
            go_wp2
            go_roundw
            case rel =>
              refine ⟨i + 1, by omega, ?_, by go_num, ⟨HS.out.drop⟩, HB⟩
              rw [cnt, if_pos (by rw [hx.out]; exact m12.out), hn.out]
              try (first | rfl | go_num)
            case measure =>
              (try rw [p4])
              exact meas_i i wt.length hlt2
          · rw [decide_eq_false m2] at hcm
            have m12 := Aside0.mk m2
            clear m1 m2
            go_upto_region 8 with (first | ((with_reducible refine gate_dst (N := 10) rfl ?_); refine box_event ?hg (N := 10) ?hd (cs := #[.int .i64 0, .string ⟨#[]⟩]) (t := 52) ?hr ?_; (case hd => rfl); (case hg => rfl); (case hr => first | (go_simp; done) | (go_simp; rfl)); intro g hg w3 hbox hb; have n0_ := Aside0.mk (HS.out.box hg hbox hb); have n1_ := Aside0.mk (below_step' HB.out HS.out.size hb); clear HS HB; have HS := n0_; have HB := n1_; clear n0_ n1_; (try simp only [List.eraseIdx_cons_succ, List.eraseIdx_cons_zero] at HS); clear hb hbox hg; have hc0_0 := ((HS.out.pick 0 rfl).cell 0).trans (show _ = some (.int .i64 0) from rfl); have hc0_1 := ((HS.out.pick 0 rfl).cell 1).trans (show _ = some (.string ⟨#[]⟩) from rfl); have hf0_0 := (HS.out.pick 0 rfl).frozen 0; have hf0_1 := (HS.out.pick 0 rfl).frozen 1) | ((with_reducible refine gate_store (t := 52) (p := 10) rfl ?_); refine store_event (t := 52) (p := 10) (v := .tmp 36) (w1 := ?_) rfl rfl rfl ?_ ?_; rotate_left; (focus (first | (go_simp; done) | (go_simp; rfl))); intro w4 hw; have n0_ := Aside0.mk (HS.out.set2 hw); have n1_ := Aside0.mk (HS.out.below_set2 HB.out hw); clear HS HB; have HS := n0_; have HB := n1_; clear n0_ n1_; (try simp only [List.eraseIdx_cons_succ, List.eraseIdx_cons_zero] at HS); clear hw; clear hc0_0 hc0_1 hf0_0 hf0_1))
            clear hx0 hx1
            have n0_ := Aside0.mk (HS.out.drew); have n1_ := Aside0.mk (HB.out.drew); clear HS HB; have HS := n0_; have HB := n1_; clear n0_ n1_
            refine start_ (n := 14) (S := fun w' => w'.cell? ⟨p, 2, none⟩ = some (.slice AP lt.length cP) ∧ w'.cell? ⟨q, 2, none⟩ = some (.slice AQ mt.length cQ) ∧ w'.cell? ⟨g, 0, none⟩ = some (.int .i64 x.f0) ∧ w'.cell? ⟨g, 1, none⟩ = some (.string x.f1)) (ds := []) (tfs true [0, 14]).toArray (by kernel_rfl) rfl rfl ⟨((HS.out.pick 3 rfl).cell 2).trans rfl, ((HS.out.pick 5 rfl).cell 2).trans rfl, ((HS.out.pick 0 rfl).cell 0).trans rfl, ((HS.out.pick 0 rfl).cell 1).trans rfl⟩ (fun hHeld => ?_); refine with_tabW ovp.tab8 ovp.bits8 (fun HT_ HW_ => ?_)
            generalize w4.drew = w5 at HS HB hHeld ⊢
            refine pU 0 37 (tfs true [1, 13]).toArray rfl rfl HT_ ?_
            refine pU 1 38 (tfs true [2, 12]).toArray rfl rfl HT_ ?_
            refine pU 2 39 (tfs true [3, 11]).toArray rfl rfl HT_ ?_
            refine tK 3 40 (tfs true [4, 10]).toArray rfl rfl HT_ HW_ hHeld ?_ (by rintro w' ⟨s0, s1, s2, s3⟩; go_simp; with_reducible rfl)
            refine tK 4 41 (tfs true [5, 9]).toArray rfl rfl HT_ HW_ hHeld ?_ (by rintro w' ⟨s0, s1, s2, s3⟩; go_simp; with_reducible rfl)
            refine one_ (i := 5) (N := some 42) (tfs true [6, 8]).toArray rfl rfl (one_of HT_.out (by kernel_rfl)) (by decide) (fun K hK => ?_)
            refine goes_ Try.func66 (by kernel_rfl) rfl #[.slice AP lt.length cP, .agg #[.int .i64 x.f0, .string x.f1]] (by rfl) rfl rfl (by (try simp only [List.map_toArray, List.map_cons, List.map_nil]); first | done | rfl | (simp only [List.length_drop, List.length_take]; rfl)) ?_
            with_reducible refine (bottomk_Key_66.calls (lt.length + 1) AP cP lt x.f0 x.f1 _ _ (HS.out.pick 4 rfl).rowC.2.2 (HS.out.pick 4 rfl).rowC.2.1 hcl.out).mono ?_
            rintro e w6 ⟨rfl, hb⟩
            refine ⟨_, rfl, ?_⟩
            have n0_ := Aside0.mk (HS.out.step hb); have n1_ := Aside0.mk (below_step' HB.out HS.out.size hb); clear HS HB; have HS := n0_; have HB := n1_; clear n0_ n1_; (try simp only [List.eraseIdx_cons_succ, List.eraseIdx_cons_zero] at HS)
            clear hb
            refine hK.out _ _ ⟨((HS.out.pick 3 rfl).cell 2).trans rfl, ((HS.out.pick 5 rfl).cell 2).trans rfl, ((HS.out.pick 0 rfl).cell 0).trans rfl, ((HS.out.pick 0 rfl).cell 1).trans rfl⟩ (fun hHeld => ?_)
            clear hK K
            refine norm_ (a' := ?_) ?_ ?_
            rotate_left
            · show Act.put _ (some 42) _ = _
              simp only [Act.put, List.setIfInBounds_toArray, List.set_cons_zero, List.set_cons_succ, i64_w, i32_w]
              rfl
            refine pU 6 43 (tfs true [7, 7]).toArray rfl rfl HT_ ?_
            refine pU 7 44 (tfs true [8, 6]).toArray rfl rfl HT_ ?_
            refine pU 8 45 (tfs true [9, 5]).toArray rfl rfl HT_ ?_
            refine pU 9 46 (tfs true [10, 4]).toArray rfl rfl HT_ ?_
            refine tK 10 47 (tfs true [11, 3]).toArray rfl rfl HT_ HW_ hHeld ?_ (by rintro w' ⟨s0, s1, s2, s3⟩; go_simp; with_reducible rfl)
            refine tK 11 48 (tfs true [12, 2]).toArray rfl rfl HT_ HW_ hHeld ?_ (by rintro w' ⟨s0, s1, s2, s3⟩; go_simp; with_reducible rfl)
            refine one_ (i := 12) (N := some 49) (tfs true [13, 1]).toArray rfl rfl (one_of HT_.out (by kernel_rfl)) (by decide) (fun K hK => ?_)
            refine goes_ Try.func66 (by kernel_rfl) rfl #[.slice AQ mt.length cQ, .agg #[.int .i64 x.f0, .string x.f1]] (by rfl) rfl rfl (by (try simp only [List.map_toArray, List.map_cons, List.map_nil]); first | done | rfl | (simp only [List.length_drop, List.length_take]; rfl)) ?_
            with_reducible refine (bottomk_Key_66.calls (mt.length + 1) AQ cQ mt x.f0 x.f1 _ _ (HS.out.pick 6 rfl).rowC.2.2 (HS.out.pick 6 rfl).rowC.2.1 hcm.out).mono ?_
            rintro e w7 ⟨rfl, hb⟩
            refine ⟨_, rfl, ?_⟩
            have n0_ := Aside0.mk (HS.out.step hb); have n1_ := Aside0.mk (below_step' HB.out HS.out.size hb); clear HS HB; have HS := n0_; have HB := n1_; clear n0_ n1_; (try simp only [List.eraseIdx_cons_succ, List.eraseIdx_cons_zero] at HS)
            clear hb
            refine hK.out _ _ ⟨((HS.out.pick 3 rfl).cell 2).trans rfl, ((HS.out.pick 5 rfl).cell 2).trans rfl, ((HS.out.pick 0 rfl).cell 0).trans rfl, ((HS.out.pick 0 rfl).cell 1).trans rfl⟩ (fun hHeld => ?_)
            clear hK K
            refine norm_ (a' := ?_) ?_ ?_
            rotate_left
            · show Act.put _ (some 49) _ = _
              simp only [Act.put, List.setIfInBounds_toArray, List.set_cons_zero, List.set_cons_succ, i64_w, i32_w]
              rfl
            refine pU 13 50 (tfs true [14]).toArray rfl rfl HT_ ?_
            refine done_ (done_of HT_.out (by kernel_rfl)) ?_
            clear HT_ HW_
            try clear hHeld
            go_wp2
            go_roundw
            case rel =>
              refine ⟨i + 1, by omega, ?_, by go_num, ⟨HS.out.drop⟩, HB⟩
              rw [cnt, if_neg (by rw [hx.out]; exact fun h => m12.out h.2), hn.out]
              try (first | rfl | go_num)
            case measure =>
              (try rw [p4])
              exact meas_i i wt.length hlt2
        · rw [decide_eq_false m1] at hcl
          have m12 := Aside0.mk m1
          clear m1
          go_upto_region 8 with (first | ((with_reducible refine gate_dst (N := 10) rfl ?_); refine box_event ?hg (N := 10) ?hd (cs := #[.int .i64 0, .string ⟨#[]⟩]) (t := 52) ?hr ?_; (case hd => rfl); (case hg => rfl); (case hr => first | (go_simp; done) | (go_simp; rfl)); intro g hg w3 hbox hb; have n0_ := Aside0.mk (HS.out.box hg hbox hb); have n1_ := Aside0.mk (below_step' HB.out HS.out.size hb); clear HS HB; have HS := n0_; have HB := n1_; clear n0_ n1_; (try simp only [List.eraseIdx_cons_succ, List.eraseIdx_cons_zero] at HS); clear hb hbox hg; have hc0_0 := ((HS.out.pick 0 rfl).cell 0).trans (show _ = some (.int .i64 0) from rfl); have hc0_1 := ((HS.out.pick 0 rfl).cell 1).trans (show _ = some (.string ⟨#[]⟩) from rfl); have hf0_0 := (HS.out.pick 0 rfl).frozen 0; have hf0_1 := (HS.out.pick 0 rfl).frozen 1) | ((with_reducible refine gate_store (t := 52) (p := 10) rfl ?_); refine store_event (t := 52) (p := 10) (v := .tmp 36) (w1 := ?_) rfl rfl rfl ?_ ?_; rotate_left; (focus (first | (go_simp; done) | (go_simp; rfl))); intro w4 hw; have n0_ := Aside0.mk (HS.out.set2 hw); have n1_ := Aside0.mk (HS.out.below_set2 HB.out hw); clear HS HB; have HS := n0_; have HB := n1_; clear n0_ n1_; (try simp only [List.eraseIdx_cons_succ, List.eraseIdx_cons_zero] at HS); clear hw; clear hc0_0 hc0_1 hf0_0 hf0_1))
          clear hx0 hx1
          have n0_ := Aside0.mk (HS.out.drew); have n1_ := Aside0.mk (HB.out.drew); clear HS HB; have HS := n0_; have HB := n1_; clear n0_ n1_
          refine start_ (n := 14) (S := fun w' => w'.cell? ⟨p, 2, none⟩ = some (.slice AP lt.length cP) ∧ w'.cell? ⟨q, 2, none⟩ = some (.slice AQ mt.length cQ) ∧ w'.cell? ⟨g, 0, none⟩ = some (.int .i64 x.f0) ∧ w'.cell? ⟨g, 1, none⟩ = some (.string x.f1)) (ds := []) (tfs true [0, 14]).toArray (by kernel_rfl) rfl rfl ⟨((HS.out.pick 3 rfl).cell 2).trans rfl, ((HS.out.pick 5 rfl).cell 2).trans rfl, ((HS.out.pick 0 rfl).cell 0).trans rfl, ((HS.out.pick 0 rfl).cell 1).trans rfl⟩ (fun hHeld => ?_); refine with_tabW ovp.tab8 ovp.bits8 (fun HT_ HW_ => ?_)
          generalize w4.drew = w5 at HS HB hHeld ⊢
          refine pU 0 37 (tfs true [1, 13]).toArray rfl rfl HT_ ?_
          refine pU 1 38 (tfs true [2, 12]).toArray rfl rfl HT_ ?_
          refine pU 2 39 (tfs true [3, 11]).toArray rfl rfl HT_ ?_
          refine tK 3 40 (tfs true [4, 10]).toArray rfl rfl HT_ HW_ hHeld ?_ (by rintro w' ⟨s0, s1, s2, s3⟩; go_simp; with_reducible rfl)
          refine tK 4 41 (tfs true [5, 9]).toArray rfl rfl HT_ HW_ hHeld ?_ (by rintro w' ⟨s0, s1, s2, s3⟩; go_simp; with_reducible rfl)
          refine one_ (i := 5) (N := some 42) (tfs true [6, 8]).toArray rfl rfl (one_of HT_.out (by kernel_rfl)) (by decide) (fun K hK => ?_)
          refine goes_ Try.func66 (by kernel_rfl) rfl #[.slice AP lt.length cP, .agg #[.int .i64 x.f0, .string x.f1]] (by rfl) rfl rfl (by (try simp only [List.map_toArray, List.map_cons, List.map_nil]); first | done | rfl | (simp only [List.length_drop, List.length_take]; rfl)) ?_
          with_reducible refine (bottomk_Key_66.calls (lt.length + 1) AP cP lt x.f0 x.f1 _ _ (HS.out.pick 4 rfl).rowC.2.2 (HS.out.pick 4 rfl).rowC.2.1 hcl.out).mono ?_
          rintro e w6 ⟨rfl, hb⟩
          refine ⟨_, rfl, ?_⟩
          have n0_ := Aside0.mk (HS.out.step hb); have n1_ := Aside0.mk (below_step' HB.out HS.out.size hb); clear HS HB; have HS := n0_; have HB := n1_; clear n0_ n1_; (try simp only [List.eraseIdx_cons_succ, List.eraseIdx_cons_zero] at HS)
          clear hb
          refine hK.out _ _ ⟨((HS.out.pick 3 rfl).cell 2).trans rfl, ((HS.out.pick 5 rfl).cell 2).trans rfl, ((HS.out.pick 0 rfl).cell 0).trans rfl, ((HS.out.pick 0 rfl).cell 1).trans rfl⟩ (fun hHeld => ?_)
          clear hK K
          refine norm_ (a' := ?_) ?_ ?_
          rotate_left
          · show Act.put _ (some 42) _ = _
            simp only [Act.put, List.setIfInBounds_toArray, List.set_cons_zero, List.set_cons_succ, i64_w, i32_w]
            rfl
          refine pU 6 43 (tfs true [7, 7]).toArray rfl rfl HT_ ?_
          refine pO 7 (some 44) (tfs true [8, 6]).toArray rfl rfl HT_ ?_
          refine pO 8 (some 45) (tfs true [9, 5]).toArray rfl rfl HT_ ?_
          refine pO 9 (some 46) (tfs true [10, 4]).toArray rfl rfl HT_ ?_
          refine pO 10 (some 47) (tfs true [11, 3]).toArray rfl rfl HT_ ?_
          refine pO 11 (some 48) (tfs true [12, 2]).toArray rfl rfl HT_ ?_
          refine pO 12 (some 49) (tfs true [13, 1]).toArray rfl rfl HT_ ?_
          refine pU 13 50 (tfs true [14]).toArray rfl rfl HT_ ?_
          refine done_ (done_of HT_.out (by kernel_rfl)) ?_
          clear HT_ HW_
          try clear hHeld
          go_wp2
          go_roundw
          case rel =>
            refine ⟨i + 1, by omega, ?_, by go_num, ⟨HS.out.drop⟩, HB⟩
            rw [cnt, if_neg (by rw [hx.out]; exact fun h => m12.out h.1), hn.out]
            try (first | rfl | go_num)
          case measure =>
            (try rw [p4])
            exact meas_i i wt.length hlt2
      · obtain rfl : i = wt.length := by omega
        have p3 : decide ((wt.length : Int) < (wt.length : Int)) = false := decide_eq_false (by omega)
        have t1 := mul_small (cnt wt lt mt wt.length) (by have := cnt_le wt lt mt wt.length; have := z1.out; omega)
        have t2 := tdiv_ovl (cnt wt lt mt wt.length) wt.length (by have := cnt_le wt lt mt wt.length; have := z1.out; omega) (by have := h0'.out; omega)
        have t3 : ¬ (wt.length : Int) = 0 := by have := h0'.out; omega
        have hc0_2 := ((HS.out.pick 0 rfl).cell 2).trans (show _ = some (.slice AC wt.length cC) from rfl)
        go_wp2
        rw [t2]
        go_ret2
        exact ⟨rfl, Sk3_shut HS.out hlt.out hmt.out bP.out bQ.out, HB.out⟩

theorem Sk2_open {p c Kn : Nat} {sd : Int} {l : List S52} {N : Nat} {w : World} {L : List Res} (h : St N w (Sk c Kn sd l :: Sk p Kn sd l :: L)) (wt : List S52) (hw : l.take Kn = wt) (mC : Bool) (bC : decide (Kn < l.length) = mC) : ∃ (AC AP : Option Addr) (cC cP : Nat), St N w (Blk c #[.int .i64 Kn, .int .i64 sd, .slice AC wt.length cC, .bool mC] 59 :: Row k52 52 (.slice AC wt.length cC) wt :: Blk p #[.int .i64 Kn, .int .i64 sd, .slice AP wt.length cP, .bool mC] 59 :: Row k52 52 (.slice AP wt.length cP) wt :: L) := by
  obtain ⟨v1, h1⟩ := Sk_open h
  obtain ⟨AC, cC, e1, _, _⟩ := h1.swap.reads
  subst e1
  have h2 := h1.pick 2 rfl
  simp only [List.eraseIdx_cons_succ, List.eraseIdx_cons_zero] at h2
  obtain ⟨v2, h3⟩ := Sk_open h2
  obtain ⟨AP, cP, e2, _, _⟩ := h3.swap.reads
  subst e2
  subst hw bC
  have h6 := (h3.pick 3 rfl).pick 3 rfl
  simp only [List.eraseIdx_cons_succ, List.eraseIdx_cons_zero] at h6
  exact ⟨AC, AP, cC, cP, h6⟩
theorem Sk2_shut {p c Kn : Nat} {sd : Int} {l : List S52} {N : Nat} {w : World} {L : List Res} {wt : List S52} {mC : Bool} {AC AP : Option Addr} {cC cP : Nat} (h : St N w (Blk c #[.int .i64 Kn, .int .i64 sd, .slice AC wt.length cC, .bool mC] 59 :: Row k52 52 (.slice AC wt.length cC) wt :: Blk p #[.int .i64 Kn, .int .i64 sd, .slice AP wt.length cP, .bool mC] 59 :: Row k52 52 (.slice AP wt.length cP) wt :: L)) (hl : l.take Kn = wt) (bP : decide (Kn < l.length) = mC) : St N w (Sk p Kn sd l :: L) := by
  subst hl bP
  exact Sk_shut h.drop.drop
theorem cnt_all (wt : List S52) : ∀ i, i ≤ wt.length → cnt wt wt wt i = i
  | 0, _ => rfl
  | i + 1, h => by
    have hm : rd_T52 wt (i : Int) ∈ wt := (mem_rd wt _).mpr ⟨i, by omega, rfl⟩
    rw [cnt, if_pos ⟨hm, hm⟩, cnt_all wt i (by omega)]
theorem ovl_self (wt : List S52) : ovl wt wt wt = if wt.length = 0 then 0 else 1000000 := by
  unfold ovl
  by_cases h : wt.length = 0
  · rw [if_pos h, if_pos h]
  · rw [if_neg h, if_neg h, cnt_all wt wt.length (Nat.le_refl _), Int.mul_comm]
    exact Int.mul_ediv_cancel _ (by omega)

theorem Overlap_self (p Kn : Nat) (sd : Int) (hK : Kn ≤ 1000) (l : List S52) (hi1 : Inc l) {N : Nat} {w : World} {L : List Res} (HS0 : St N w (Sk p Kn sd l :: L)) :
    Calls Try.prog 35 #[.pointer (some ⟨p, 0, none⟩), .pointer (some ⟨p, 0, none⟩)] w fun e w' => e = .returned (.tuple #[.int .i64 (ovl (l.take Kn) (l.take Kn) (l.take Kn)), .int .i64 0]) ∧ St N w' (Sk p Kn sd l :: L) ∧ Below N w w' := by
  have HS := Aside0.mk HS0
  have HB := Aside0.mk (Below.refl N w)
  have hm : Aside0 (∀ x : S52, x ∈ l ↔ x ∈ l ∨ x ∈ l) := ⟨fun x => by simp⟩
  have z1 : (l.take Kn).length ≤ 1000 := by rw [List.length_take]; omega
  generalize hwt : l.take Kn = wt at z1 ⊢
  obtain ⟨mC, bC⟩ : ∃ b, decide (Kn < l.length) = b := ⟨_, rfl⟩
  replace hwt := Aside0.mk hwt
  replace bC := Aside0.mk bC
  replace z1 := Aside0.mk z1
  clear HS0
  by_cases h0 : wt.length = 0
  · have q1 : ((wt.length : Int) == 0) = true := by simp [h0]
    rw [show ovl wt wt wt = 0 from if_pos h0]
    replace h0 := Aside0.mk h0
    go_enter Try.func35, Try.ntmps35
    go_wp2_with (first | ((with_reducible refine gate_callee (f := 65) rfl ?_); refine goesL_ (some 14) rfl rfl Try.func65 (by kernel_rfl) rfl #[.pointer (some ⟨p, 0, none⟩), .pointer (some ⟨p, 0, none⟩)] rfl (by (try simp only [List.map_toArray, List.map_cons, List.map_nil]); first | done | rfl | (simp only [List.length_drop, List.length_take]; rfl)) ?_; (with_reducible refine (union_self p Kn sd hK l l hi1 hi1 hm.out HS.out).mono ?_); rintro e w1 ⟨c, rfl, hs1, hb⟩; refine ⟨_, rfl, ?_⟩; have n0_ := Aside0.mk (hs1); have n1_ := Aside0.mk (HB.out.trans hb); clear HS HB; have HS := n0_; have HB := n1_; clear n0_ n1_; (try simp only [List.eraseIdx_cons_succ, List.eraseIdx_cons_zero] at HS); clear hs1 hb; obtain ⟨AC, AP, cC, cP, hs2⟩ := Sk2_open HS.out wt hwt.out mC bC.out; clear HS; have HS := Aside0.mk hs2; clear hs2; have hc0_2 := ((HS.out.pick 0 rfl).cell 2).trans (show _ = some (.slice AC wt.length cC) from rfl)))
    go_ret2
    exact ⟨rfl, Sk2_shut HS.out hwt.out bC.out, HB.out⟩
  · have q1 : ((wt.length : Int) == 0) = false := by simpa using h0
    rw [show ovl wt wt wt = ((cnt wt wt wt wt.length : Nat) : Int) * 1000000 / (wt.length : Int) from if_neg h0]
    have h0' := Aside0.mk h0
    clear h0
    go_enter Try.func35, Try.ntmps35
    go_upto_region 6 with (first | ((with_reducible refine gate_callee (f := 65) rfl ?_); refine goesL_ (some 14) rfl rfl Try.func65 (by kernel_rfl) rfl #[.pointer (some ⟨p, 0, none⟩), .pointer (some ⟨p, 0, none⟩)] rfl (by (try simp only [List.map_toArray, List.map_cons, List.map_nil]); first | done | rfl | (simp only [List.length_drop, List.length_take]; rfl)) ?_; (with_reducible refine (union_self p Kn sd hK l l hi1 hi1 hm.out HS.out).mono ?_); rintro e w1 ⟨c, rfl, hs1, hb⟩; refine ⟨_, rfl, ?_⟩; have n0_ := Aside0.mk (hs1); have n1_ := Aside0.mk (HB.out.trans hb); clear HS HB; have HS := n0_; have HB := n1_; clear n0_ n1_; (try simp only [List.eraseIdx_cons_succ, List.eraseIdx_cons_zero] at HS); clear hs1 hb; obtain ⟨AC, AP, cC, cP, hs2⟩ := Sk2_open HS.out wt hwt.out mC bC.out; clear HS; have HS := Aside0.mk hs2; clear hs2; have hc0_2 := ((HS.out.pick 0 rfl).cell 2).trans (show _ = some (.slice AC wt.length cC) from rfl)))
    have hc0_2' := Aside0.mk hc0_2
    clear hc0_2 q1
    go_wp2
    go_loopw [8, 33] (fun v8 v33 wc => ∃ i : Nat, i ≤ wt.length ∧ v8 = .int .i64 ((cnt wt wt wt i : Nat) : Int) ∧ v33 = .int .i64 i ∧ Aside0 (St N wc (Blk c #[.int .i64 Kn, .int .i64 sd, .slice AC wt.length cC, .bool mC] 59 :: Row k52 52 (.slice AC wt.length cC) wt :: Blk p #[.int .i64 Kn, .int .i64 sd, .slice AP wt.length cP, .bool mC] 59 :: Row k52 52 (.slice AP wt.length cP) wt :: L)) ∧ Aside0 (Below N w wc)) (fun _ v33 _ => (wt.length - intOf v33).toNat)
    case atStart => exact ⟨0, Nat.zero_le _, rfl, rfl, HS, HB⟩
    case round =>
      clear HS HB hc0_2'
      obtain ⟨i, hi, rfl, rfl, HS, HB⟩ := hrel
      by_cases hlt2 : i < wt.length
      · obtain ⟨x, hx⟩ : ∃ x, rd_T52 wt (i : Int) = x := ⟨_, rfl⟩
        obtain ⟨n, hn⟩ : ∃ n, cnt wt wt wt i = n := ⟨_, rfl⟩
        have hni : n ≤ i := hn ▸ cnt_le wt wt wt i
        rw [hn]
        obtain ⟨ad, e, hx0, hx1⟩ := at_T52 (HS.out.pick 1 rfl).rowC.2.2 (i : Int) (by omega) (by omega)
        cases e
        rw [hx, Int.toNat_natCast] at hx0 hx1
        have p1 : (0 : Int) ≤ (i : Int) := by omega
        have p2 : (i : Int) < (wt.length : Int) := by omega
        have p3 : decide ((i : Int) < (wt.length : Int)) = true := decide_eq_true p2
        have p4 : wrap64 ((i : Int) + 1) = (i : Int) + 1 := wrap64_small _ (by omega) (by have := z1.out; omega)
        have p5 : wrap64 ((n : Int) + 1) = (n : Int) + 1 := wrap64_small _ (by omega) (by have := z1.out; omega)
        have m1 : x ∈ wt := (mem_rd wt x).mpr ⟨i, hlt2, hx.symm⟩
        have hcl := Aside0.mk (contains_ok wt x (by have := z1.out; omega))
        rw [decide_eq_true m1] at hcl
        have m12 := Aside0.mk (And.intro m1 m1)
        replace hx := Aside0.mk hx
        replace hn := Aside0.mk hn
        clear hni hi m1
        go_upto_region 8 with (first | ((with_reducible refine gate_dst (N := 10) rfl ?_); refine box_event ?hg (N := 10) ?hd (cs := #[.int .i64 0, .string ⟨#[]⟩]) (t := 52) ?hr ?_; (case hd => rfl); (case hg => rfl); (case hr => first | (go_simp; done) | (go_simp; rfl)); intro g hg w3 hbox hb; have n0_ := Aside0.mk (HS.out.box hg hbox hb); have n1_ := Aside0.mk (below_step' HB.out HS.out.size hb); clear HS HB; have HS := n0_; have HB := n1_; clear n0_ n1_; (try simp only [List.eraseIdx_cons_succ, List.eraseIdx_cons_zero] at HS); clear hb hbox hg; have hc0_0 := ((HS.out.pick 0 rfl).cell 0).trans (show _ = some (.int .i64 0) from rfl); have hc0_1 := ((HS.out.pick 0 rfl).cell 1).trans (show _ = some (.string ⟨#[]⟩) from rfl); have hf0_0 := (HS.out.pick 0 rfl).frozen 0; have hf0_1 := (HS.out.pick 0 rfl).frozen 1) | ((with_reducible refine gate_store (t := 52) (p := 10) rfl ?_); refine store_event (t := 52) (p := 10) (v := .tmp 36) (w1 := ?_) rfl rfl rfl ?_ ?_; rotate_left; (focus (first | (go_simp; done) | (go_simp; rfl))); intro w4 hw; have n0_ := Aside0.mk (HS.out.set2 hw); have n1_ := Aside0.mk (HS.out.below_set2 HB.out hw); clear HS HB; have HS := n0_; have HB := n1_; clear n0_ n1_; (try simp only [List.eraseIdx_cons_succ, List.eraseIdx_cons_zero] at HS); clear hw; clear hc0_0 hc0_1 hf0_0 hf0_1))
        clear hx0 hx1
        have n0_ := Aside0.mk (HS.out.drew); have n1_ := Aside0.mk (HB.out.drew); clear HS HB; have HS := n0_; have HB := n1_; clear n0_ n1_
        refine start_ (n := 14) (S := fun w' => w'.cell? ⟨p, 2, none⟩ = some (.slice AP wt.length cP) ∧ w'.cell? ⟨g, 0, none⟩ = some (.int .i64 x.f0) ∧ w'.cell? ⟨g, 1, none⟩ = some (.string x.f1)) (ds := []) (tfs true [0, 14]).toArray (by kernel_rfl) rfl rfl ⟨((HS.out.pick 3 rfl).cell 2).trans rfl, ((HS.out.pick 0 rfl).cell 0).trans rfl, ((HS.out.pick 0 rfl).cell 1).trans rfl⟩ (fun hHeld => ?_); refine with_tabW ovp.tab8 ovp.bits8 (fun HT_ HW_ => ?_)
        generalize w4.drew = w5 at HS HB hHeld ⊢
        refine pU 0 37 (tfs true [1, 13]).toArray rfl rfl HT_ ?_
        refine pU 1 38 (tfs true [2, 12]).toArray rfl rfl HT_ ?_
        refine pU 2 39 (tfs true [3, 11]).toArray rfl rfl HT_ ?_
        refine tK 3 40 (tfs true [4, 10]).toArray rfl rfl HT_ HW_ hHeld ?_ (by rintro w' ⟨s0, s1, s2⟩; go_simp; with_reducible rfl)
        refine tK 4 41 (tfs true [5, 9]).toArray rfl rfl HT_ HW_ hHeld ?_ (by rintro w' ⟨s0, s1, s2⟩; go_simp; with_reducible rfl)
        refine one_ (i := 5) (N := some 42) (tfs true [6, 8]).toArray rfl rfl (one_of HT_.out (by kernel_rfl)) (by decide) (fun K hK => ?_)
        refine goes_ Try.func66 (by kernel_rfl) rfl #[.slice AP wt.length cP, .agg #[.int .i64 x.f0, .string x.f1]] (by rfl) rfl rfl (by (try simp only [List.map_toArray, List.map_cons, List.map_nil]); first | done | rfl | (simp only [List.length_drop, List.length_take]; rfl)) ?_
        with_reducible refine (bottomk_Key_66.calls (wt.length + 1) AP cP wt x.f0 x.f1 _ _ (HS.out.pick 4 rfl).rowC.2.2 (HS.out.pick 4 rfl).rowC.2.1 hcl.out).mono ?_
        rintro e w6 ⟨rfl, hb⟩
        refine ⟨_, rfl, ?_⟩
        have n0_ := Aside0.mk (HS.out.step hb); have n1_ := Aside0.mk (below_step' HB.out HS.out.size hb); clear HS HB; have HS := n0_; have HB := n1_; clear n0_ n1_; (try simp only [List.eraseIdx_cons_succ, List.eraseIdx_cons_zero] at HS)
        clear hb
        refine hK.out _ _ ⟨((HS.out.pick 3 rfl).cell 2).trans rfl, ((HS.out.pick 0 rfl).cell 0).trans rfl, ((HS.out.pick 0 rfl).cell 1).trans rfl⟩ (fun hHeld => ?_)
        clear hK K
        refine norm_ (a' := ?_) ?_ ?_
        rotate_left
        · show Act.put _ (some 42) _ = _
          simp only [Act.put, List.setIfInBounds_toArray, List.set_cons_zero, List.set_cons_succ, i64_w, i32_w]
          rfl
        refine pU 6 43 (tfs true [7, 7]).toArray rfl rfl HT_ ?_
        refine pU 7 44 (tfs true [8, 6]).toArray rfl rfl HT_ ?_
        refine pU 8 45 (tfs true [9, 5]).toArray rfl rfl HT_ ?_
        refine pU 9 46 (tfs true [10, 4]).toArray rfl rfl HT_ ?_
        refine tK 10 47 (tfs true [11, 3]).toArray rfl rfl HT_ HW_ hHeld ?_ (by rintro w' ⟨s0, s1, s2⟩; go_simp; with_reducible rfl)
        refine tK 11 48 (tfs true [12, 2]).toArray rfl rfl HT_ HW_ hHeld ?_ (by rintro w' ⟨s0, s1, s2⟩; go_simp; with_reducible rfl)
        refine one_ (i := 12) (N := some 49) (tfs true [13, 1]).toArray rfl rfl (one_of HT_.out (by kernel_rfl)) (by decide) (fun K hK => ?_)
        refine goes_ Try.func66 (by kernel_rfl) rfl #[.slice AP wt.length cP, .agg #[.int .i64 x.f0, .string x.f1]] (by rfl) rfl rfl (by (try simp only [List.map_toArray, List.map_cons, List.map_nil]); first | done | rfl | (simp only [List.length_drop, List.length_take]; rfl)) ?_
        with_reducible refine (bottomk_Key_66.calls (wt.length + 1) AP cP wt x.f0 x.f1 _ _ (HS.out.pick 4 rfl).rowC.2.2 (HS.out.pick 4 rfl).rowC.2.1 hcl.out).mono ?_
        rintro e w7 ⟨rfl, hb⟩
        refine ⟨_, rfl, ?_⟩
        have n0_ := Aside0.mk (HS.out.step hb); have n1_ := Aside0.mk (below_step' HB.out HS.out.size hb); clear HS HB; have HS := n0_; have HB := n1_; clear n0_ n1_; (try simp only [List.eraseIdx_cons_succ, List.eraseIdx_cons_zero] at HS)
        clear hb
        refine hK.out _ _ ⟨((HS.out.pick 3 rfl).cell 2).trans rfl, ((HS.out.pick 0 rfl).cell 0).trans rfl, ((HS.out.pick 0 rfl).cell 1).trans rfl⟩ (fun hHeld => ?_)
        clear hK K
        refine norm_ (a' := ?_) ?_ ?_
        rotate_left
        · show Act.put _ (some 49) _ = _
          simp only [Act.put, List.setIfInBounds_toArray, List.set_cons_zero, List.set_cons_succ, i64_w, i32_w]
          rfl
        refine pU 13 50 (tfs true [14]).toArray rfl rfl HT_ ?_
        refine done_ (done_of HT_.out (by kernel_rfl)) ?_
        clear HT_ HW_
        try clear hHeld
        go_wp2
        go_roundw
        case rel =>
          refine ⟨i + 1, by omega, ?_, by go_num, ⟨HS.out.drop⟩, HB⟩
          rw [cnt, if_pos (by rw [hx.out]; exact m12.out), hn.out]
          try (first | rfl | go_num)
        case measure =>
          (try rw [p4])
          exact meas_i i wt.length hlt2
      · obtain rfl : i = wt.length := by omega
        have p3 : decide ((wt.length : Int) < (wt.length : Int)) = false := decide_eq_false (by omega)
        have t1 := mul_small (cnt wt wt wt wt.length) (by have := cnt_le wt wt wt wt.length; have := z1.out; omega)
        have t2 := tdiv_ovl (cnt wt wt wt wt.length) wt.length (by have := cnt_le wt wt wt wt.length; have := z1.out; omega) (by have := h0'.out; omega)
        have t3 : ¬ (wt.length : Int) = 0 := by have := h0'.out; omega
        have hc0_2 := ((HS.out.pick 0 rfl).cell 2).trans (show _ = some (.slice AC wt.length cC) from rfl)
        go_wp2
        rw [t2]
        go_ret2
        exact ⟨rfl, Sk2_shut HS.out hwt.out bC.out, HB.out⟩

end Go.Proofs.Ytddhpkobingmhaa.PB
end
