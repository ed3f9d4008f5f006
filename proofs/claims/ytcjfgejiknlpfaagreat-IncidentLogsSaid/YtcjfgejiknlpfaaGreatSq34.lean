/- Grow and Concat over rows of events. -/
import Derived.Test.YtcjfgejiknlpfaaGreatRowC
import Derived.Test.YtcjfgejiknlpfaaGreatJ1
namespace Go.Proofs.YtcjfgejiknlpfaaGreat.PI
open Go.RowKit Go.Proofs.YtcjfgejiknlpfaaGreatW.PrintWords Go.Proofs.YtcjfgejiknlpfaaGreatW.PrintLast Go.Proofs.YtcjfgejiknlpfaaGreatW.PrintMore Go.Proofs.YtcjfgejiknlpfaaGreat.Sep
set_option linter.unusedVariables false
set_option linter.unusedSimpArgs false
set_option maxHeartbeats 8000000
set_option maxRecDepth 100000

theorem w64s (x : Int) (h0 : -4000000 ≤ x) (h1 : x ≤ 4000000) : wrap64 x = x := by unfold wrap64; omega
theorem grow_zero (w : World) : Calls Tryz.prog 69 #[.slice none 0 0, .int .i64 0] w fun e w' => e = .returned (.slice none 0 0) ∧ w' = w := by
  go_enter Tryz.func69, Tryz.ntmps69
  go_wp2
  go_ret
  exact ⟨rfl, rfl⟩
theorem grow_some (n : Nat) (hn0 : 0 < n) (hn : n ≤ 2000000) {N : Nat} {w : World} {L : List Res} (HS0 : St N w L) :
    Calls Tryz.prog 69 #[.slice none 0 0, .int .i64 n] w fun e w' => ∃ v, e = .returned v ∧ St N w' (Row k50 50 v [] :: L) ∧ Below N w w' := by
  have HS := Aside0.mk (HS0.rowNil (d := k50) (e := 50))
  have HB := Aside0.mk (Below.refl N w)
  clear HS0
  have q0 : (0 : Int) ≤ (n : Int) := by omega
  have q1 : decide ((n : Int) < 0) = false := decide_eq_false (by omega)
  have q2 : wrap64 (n : Int) = (n : Int) := w64s _ (by omega) (by omega)
  have q3 : decide ((n : Int) > 0) = true := decide_eq_true (by omega)
  have q4 : decide ((0 : Int) < (n : Int)) = true := decide_eq_true (by omega)
  go_enter Tryz.func69, Tryz.ntmps69
  go_wp2_with (first | ((with_reducible refine gate_builtin (b := .append) (xs := #[.tmp 20, .tmp 21]) rfl ?_); refine S_append_zs k50 rfl (.tmp 20) (.tmp 21) 25 3 50 (.agg #[(.string ⟨#[]⟩), (.int .i64 0), (.int .i64 0), (.int .i64 0), (.string ⟨#[]⟩), (.int .i64 0), (.string ⟨#[]⟩), (.int .i64 0), (.string ⟨#[]⟩)]) 104 rfl Tryz.underlying25 Tryz.underlying3 info50 rfl (by decide) (by omega) (.slice none 0 0) [] z50 (kx := .i64) (n : Int) rfl rfl (flat50.M _ _ _ z50) HS.out q0 HB.out (by simp; omega) ?_; intro v1 w1 hs hb; have n0_ := Aside0.mk (hs); have n1_ := Aside0.mk (hb); clear HS HB; have HS := n0_; have HB := n1_; clear n0_ n1_; (try simp only [List.eraseIdx_cons_succ, List.eraseIdx_cons_zero] at HS); clear hs hb; obtain ⟨A1, c1, e1⟩ : ∃ (A : Option Addr) (c : Nat), v1 = .slice A n c := (by obtain ⟨A, c, e, _, _⟩ := HS.out.reads; exact ⟨A, c, by simpa using e⟩); subst e1))
  go_ret
  refine ⟨_, rfl, ?_, HB.out⟩
  have := St.cutRow flat50 HS.out 0 (Nat.zero_le _)
  simpa using this

theorem grow_ok (z : Int) (h0 : 0 ≤ z) (h1 : z ≤ 2000000) {N : Nat} {w : World} {L : List Res} (HS0 : St N w L) :
    Calls Tryz.prog 69 #[.slice none 0 0, .int .i64 z] w fun e w' => ∃ v, e = .returned v ∧ St N w' (Row k50 50 v [] :: L) ∧ Below N w w' := by
  by_cases hz : z = 0
  · subst hz
    refine (grow_zero w).mono ?_
    rintro e w' ⟨rfl, rfl⟩
    exact ⟨_, rfl, HS0.rowNil, Below.refl _ _⟩
  · obtain ⟨n, rfl⟩ := Int.eq_ofNat_of_zero_le h0
    exact grow_some n (by omega) (by omega) HS0

theorem concat_ok (l1 l2 : List S50) (b1 : l1.length ≤ 1000) (b2 : l2.length ≤ 1000) (A1 A2 : Option Addr) (c1 c2 o : Nat) {N : Nat} {L : List Res} (hC : ∀ w', St N w' L → (k50.C w' A1 l1.length l1 ∧ l1.length ≤ c1) ∧ (k50.C w' A2 l2.length l2 ∧ l2.length ≤ c2)) {w : World} (HS0 : St N w (Blk o #[.slice A1 l1.length c1, .slice A2 l2.length c2] 25 :: L)) :
    Calls Tryz.prog 49 #[.slice (some ⟨o, 0, none⟩) 2 2] w fun e w' => ∃ v, e = .returned v ∧ St N w' (Row k50 50 v (l1 ++ l2) :: Blk o #[.slice A1 l1.length c1, .slice A2 l2.length c2] 25 :: L) ∧ Below N w w' := by
  have HS := Aside0.mk HS0
  have HB := Aside0.mk (Below.refl N w)
  clear HS0
  have hc0_0 := ((HS.out.pick 0 rfl).cell 0).trans (show _ = some (.slice A1 l1.length c1) from rfl)
  have hc0_1 := ((HS.out.pick 0 rfl).cell 1).trans (show _ = some (.slice A2 l2.length c2) from rfl)
  have q1 : wrap64 (l1.length : Int) = (l1.length : Int) := w64s _ (by omega) (by omega)
  have q2 : wrap64 ((l1.length : Int) + (l2.length : Int)) = (l1.length : Int) + (l2.length : Int) := w64s _ (by omega) (by omega)
  have q3 : decide ((l1.length : Int) < 0) = false := decide_eq_false (by omega)
  have q4 : decide ((l1.length : Int) + (l2.length : Int) < 0) = false := decide_eq_false (by omega)
  have q5 : (0 : Int) ≤ (l1.length : Int) + (l2.length : Int) := by omega
  have q6 : (l1.length : Int) + (l2.length : Int) ≤ 2000000 := by omega
  go_enter Tryz.func49, Tryz.ntmps49
  go_wp2
  refine wp_loop_rounds 3 ?_
  rw [rounds_succ]
  go_wp2
  rw [rounds_succ]
  go_wp2
  rw [rounds_succ]
  go_wp2_with (first | ((with_reducible refine gate_callee (f := 69) rfl ?_); refine goesL_ (some 24) rfl rfl Tryz.func69 (by kernel_rfl) rfl #[.slice none 0 0, .int .i64 ((l1.length : Int) + (l2.length : Int))] rfl (by (try simp only [List.map_toArray, List.map_cons, List.map_nil]); first | done | rfl | (simp only [List.length_drop, List.length_take]; rfl)) ?_; (with_reducible refine (grow_ok _ q5 q6 HS.out).mono ?_); rintro e w1 ⟨vG, rfl, hs1, hb⟩; clear hc0_0 hc0_1; refine ⟨_, rfl, ?_⟩; have n0_ := Aside0.mk (hs1); have n1_ := Aside0.mk (HB.out.trans hb); clear HS HB; have HS := n0_; have HB := n1_; clear n0_ n1_; (try simp only [List.eraseIdx_cons_succ, List.eraseIdx_cons_zero] at HS); clear hs1 hb; have hc1_0 := ((HS.out.pick 1 rfl).cell 0).trans (show _ = some (.slice A1 l1.length c1) from rfl); have hc1_1 := ((HS.out.pick 1 rfl).cell 1).trans (show _ = some (.slice A2 l2.length c2) from rfl)))
  refine wp_loop_rounds 3 ?_
  rw [rounds_succ]
  go_wp2_with (first | ((with_reducible refine gate_builtin (b := .append) (xs := #[.tmp 31, .tmp 32]) rfl ?_); at_builtin; refine S_append_rows k50 rfl (.tmp 31) (.tmp 32) 25 50 (.agg #[(.string ⟨#[]⟩), (.int .i64 0), (.int .i64 0), (.int .i64 0), (.string ⟨#[]⟩), (.int .i64 0), (.string ⟨#[]⟩), (.int .i64 0), (.string ⟨#[]⟩)]) 104 rfl Tryz.underlying25 info50 rfl (by decide) (by omega) vG [] l1 A1 l1.length c1 rfl rfl (fun x cs h => by rw [flat50.K h]; exact flat_k50 _ _ x) HS.out (hC _ HS.out.drop.drop).1.1 HB.out (by simp; omega) ?_; intro v1 w2 hs hb; have n0_ := Aside0.mk (hs); have n1_ := Aside0.mk (hb); clear HS HB; have HS := n0_; have HB := n1_; clear n0_ n1_; (try simp only [List.eraseIdx_cons_succ, List.eraseIdx_cons_zero] at HS); clear hs hb hc1_0 hc1_1; have hc1_0 := ((HS.out.pick 1 rfl).cell 0).trans (show _ = some (.slice A1 l1.length c1) from rfl); have hc1_1 := ((HS.out.pick 1 rfl).cell 1).trans (show _ = some (.slice A2 l2.length c2) from rfl)))
  rw [rounds_succ]
  go_wp2_with (first | ((with_reducible refine gate_builtin (b := .append) (xs := #[.tmp 31, .tmp 32]) rfl ?_); at_builtin; refine S_append_rows k50 rfl (.tmp 31) (.tmp 32) 25 50 (.agg #[(.string ⟨#[]⟩), (.int .i64 0), (.int .i64 0), (.int .i64 0), (.string ⟨#[]⟩), (.int .i64 0), (.string ⟨#[]⟩), (.int .i64 0), (.string ⟨#[]⟩)]) 104 rfl Tryz.underlying25 info50 rfl (by decide) (by omega) v1 ([] ++ l1) l2 A2 l2.length c2 rfl rfl (fun x cs h => by rw [flat50.K h]; exact flat_k50 _ _ x) HS.out (hC _ HS.out.drop.drop).2.1 HB.out (by simp; omega) ?_; intro v2 w3 hs hb; have n0_ := Aside0.mk (hs); have n1_ := Aside0.mk (hb); clear HS HB; have HS := n0_; have HB := n1_; clear n0_ n1_; (try simp only [List.eraseIdx_cons_succ, List.eraseIdx_cons_zero] at HS); clear hs hb hc1_0 hc1_1; have hc1_0 := ((HS.out.pick 1 rfl).cell 0).trans (show _ = some (.slice A1 l1.length c1) from rfl); have hc1_1 := ((HS.out.pick 1 rfl).cell 1).trans (show _ = some (.slice A2 l2.length c2) from rfl)))
  rw [rounds_succ]
  go_wp2
  go_ret
  refine ⟨_, rfl, ?_, HB.out⟩
  simpa using HS.out

end Go.Proofs.YtcjfgejiknlpfaaGreat.PI
