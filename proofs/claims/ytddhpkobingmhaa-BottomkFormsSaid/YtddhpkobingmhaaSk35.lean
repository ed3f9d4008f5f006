/- The Reader's functions. -/
import Derived.Test.YtddhpkobingmhaaRdF

namespace Go.Proofs.Ytddhpkobingmhaa.PB
open Go.RowKit Go.Proofs.YtddhpkobingmhaaW.PrintWords Go.Proofs.YtddhpkobingmhaaW.PrintLast Go.Proofs.YtddhpkobingmhaaW.PrintMore Go.Proofs.Ytddhpkobingmhaa.Sep
set_option linter.unusedVariables false
set_option linter.unusedSimpArgs false
set_option maxHeartbeats 8000000
set_option maxRecDepth 100000

theorem Rd_ok (g : Nat) (s : ByteArray) (hs : s.size ≤ 140737488355328) (a : Nat) (er : Int) {N : Nat} {w : World} {L : List Res} (HS0 : St N w (Blk g #[.string s, .int .i64 a, .int .i64 er] 98 :: L)) :
    Calls Try.prog 72 #[.pointer (some ⟨g, 0, none⟩)] w fun e w' => e = .returned (.bool (er == 0)) ∧ w' = w := by
  have HS := Aside0.mk HS0
  have hc0_0 := ((HS.out.pick 0 rfl).cell 0).trans (show _ = some (.string s) from rfl); have hc0_1 := ((HS.out.pick 0 rfl).cell 1).trans (show _ = some (.int .i64 a) from rfl); have hc0_2 := ((HS.out.pick 0 rfl).cell 2).trans (show _ = some (.int .i64 er) from rfl)
  clear HS HS0
  go_enter Try.func72, Try.ntmps72
  go_wp2
  go_ret
  exact ⟨rfl, rfl⟩

theorem Rd_Err (g : Nat) (s : ByteArray) (hs : s.size ≤ 140737488355328) (a : Nat) (er : Int) {N : Nat} {w : World} {L : List Res} (HS0 : St N w (Blk g #[.string s, .int .i64 a, .int .i64 er] 98 :: L)) :
    Calls Try.prog 53 #[.pointer (some ⟨g, 0, none⟩)] w fun e w' => e = .returned (.int .i64 er) ∧ w' = w := by
  have HS := Aside0.mk HS0
  have hc0_0 := ((HS.out.pick 0 rfl).cell 0).trans (show _ = some (.string s) from rfl); have hc0_1 := ((HS.out.pick 0 rfl).cell 1).trans (show _ = some (.int .i64 a) from rfl); have hc0_2 := ((HS.out.pick 0 rfl).cell 2).trans (show _ = some (.int .i64 er) from rfl)
  clear HS HS0
  go_enter Try.func53, Try.ntmps53
  go_wp2
  go_ret
  exact ⟨rfl, rfl⟩

theorem Rd_ok_to (g : Nat) (s : ByteArray) (hs : s.size ≤ 140737488355328) (a : Nat) (er : Int) (b : Bool) (hb : (er == 0) = b) {N : Nat} {w : World} {L : List Res} (HS0 : St N w (Blk g #[.string s, .int .i64 a, .int .i64 er] 98 :: L)) :
    Calls Try.prog 72 #[.pointer (some ⟨g, 0, none⟩)] w fun e w' => e = .returned (.bool b) ∧ w' = w := by
  subst hb
  exact Rd_ok g s hs a er HS0
theorem number_to (g : Nat) (s : ByteArray) (hs : s.size ≤ 140737488355328) (a b : Nat) (er : Int) (n : Int) (nx : Nat) (e1 : Int) (hr : numR s b = (n, nx, e1)) {N : Nat} {w : World} {L : List Res} (HS0 : St N w (Blk g #[.string s, .int .i64 a, .int .i64 er] 98 :: L)) :
    Calls Try.prog 73 #[.pointer (some ⟨g, 0, none⟩), .int .i64 b] w fun e w' => e = .returned (.tuple #[.int .i64 n, .int .i64 nx, .int .i64 e1]) ∧ w' = w := by
  have := number_ok g s hs b a er HS0
  rwa [hr] at this
theorem Rd_fail (g : Nat) (s : ByteArray) (a : Nat) (v : Int) (hv : v ≠ 0) {N : Nat} {w : World} {L : List Res} (HS0 : St N w (Blk g #[.string s, .int .i64 a, .int .i64 0] 98 :: L)) :
    Calls Try.prog 74 #[.pointer (some ⟨g, 0, none⟩), .int .i64 v] w fun e w' => e = .returned (.tuple #[]) ∧ St N w' (Blk g #[.string s, .int .i64 a, .int .i64 v] 98 :: L) ∧ Below N w w' := by
  have HS := Aside0.mk HS0
  have HB := Aside0.mk (Below.refl N w)
  clear HS0
  have hc0_0 := ((HS.out.pick 0 rfl).cell 0).trans (show _ = some (.string s) from rfl); have hc0_1 := ((HS.out.pick 0 rfl).cell 1).trans (show _ = some (.int .i64 a) from rfl); have hc0_2 := ((HS.out.pick 0 rfl).cell 2).trans (show _ = some (.int .i64 0) from rfl)
  have hf0_2 := HS.out.frozen 2
  go_enter Try.func74, Try.ntmps74
  go_wp2
  have n0_ := Aside0.mk ((HS.out.pick 0 rfl).set 2 (.int .i64 v) #[.string s, .int .i64 a, .int .i64 v] rfl); have n1_ := Aside0.mk ((HS.out.pick 0 rfl).below_set (i := 2) (u := .int .i64 v) HB.out); clear HS HB; have HS := n0_; have HB := n1_; clear n0_ n1_; (try simp only [List.eraseIdx_cons_succ, List.eraseIdx_cons_zero] at HS)
  go_end0
  exact ⟨rfl, HS.out, HB.out⟩

theorem Rd_Number (g : Nat) (s : ByteArray) (hs : s.size ≤ 140737488355328) (a : Nat) (er : Int) {N : Nat} {w : World} {L : List Res} (HS0 : St N w (Blk g #[.string s, .int .i64 a, .int .i64 er] 98 :: L)) :
    Calls Try.prog 49 #[.pointer (some ⟨g, 0, none⟩)] w fun e w' => e = .returned (.int .i64 (numS s a er).1) ∧ St N w' (Blk g #[.string s, .int .i64 (numS s a er).2.1, .int .i64 (numS s a er).2.2] 98 :: L) ∧ Below N w w' := by
  have HS := Aside0.mk HS0
  have HB := Aside0.mk (Below.refl N w)
  clear HS0
  by_cases he : er = 0
  · subst he
    have h0 : ((0 : Int) == 0) = true := rfl
    obtain ⟨n, nx, er1, hr⟩ : ∃ n nx e, numR s a = (n, nx, e) := ⟨_, _, _, rfl⟩
    have hle := numR_le s a
    simp only [numS, if_true, hr] at hle ⊢
    replace hr := Aside0.mk hr
    by_cases h1 : er1 = 0
    · subst h1
      simp only [if_true]
      go_enter Try.func49, Try.ntmps49
      go_wp2_with (first | ((with_reducible refine gate_callee (f := 72) rfl ?_); refine goesL_ (some 7) rfl rfl Try.func72 (by kernel_rfl) rfl #[.pointer (some ⟨g, 0, none⟩)] rfl (by (try simp only [List.map_toArray, List.map_cons, List.map_nil]); first | done | rfl | (simp only [List.length_drop, List.length_take]; rfl)) ?_; (with_reducible refine (Rd_ok_to g s hs a 0 true h0 HS.out).mono ?_); rintro e w1 ⟨rfl, rfl⟩; refine ⟨_, rfl, ?_⟩; have n0_ := Aside0.mk (HS.out); have n1_ := Aside0.mk (HB.out); clear HS HB; have HS := n0_; have HB := n1_; clear n0_ n1_; (try simp only [List.eraseIdx_cons_succ, List.eraseIdx_cons_zero] at HS); have hc0_0 := ((HS.out.pick 0 rfl).cell 0).trans (show _ = some (.string s) from rfl); have hc0_1 := ((HS.out.pick 0 rfl).cell 1).trans (show _ = some (.int .i64 a) from rfl); have hc0_2 := ((HS.out.pick 0 rfl).cell 2).trans (show _ = some (.int .i64 0) from rfl)) | ((with_reducible refine gate_callee (f := 73) rfl ?_); refine goesL_ (some 15) rfl rfl Try.func73 (by kernel_rfl) rfl #[.pointer (some ⟨g, 0, none⟩), .int .i64 a] rfl (by (try simp only [List.map_toArray, List.map_cons, List.map_nil]); first | done | rfl | (simp only [List.length_drop, List.length_take]; rfl)) ?_; (with_reducible refine (number_to g s hs a a 0 _ _ _ hr.out HS.out).mono ?_); rintro e w2 ⟨rfl, rfl⟩; clear hc0_0 hc0_1 hc0_2; refine ⟨_, rfl, ?_⟩; have n0_ := Aside0.mk (HS.out); have n1_ := Aside0.mk (HB.out); clear HS HB; have HS := n0_; have HB := n1_; clear n0_ n1_; (try simp only [List.eraseIdx_cons_succ, List.eraseIdx_cons_zero] at HS); have hc0_0 := ((HS.out.pick 0 rfl).cell 0).trans (show _ = some (.string s) from rfl); have hc0_1 := ((HS.out.pick 0 rfl).cell 1).trans (show _ = some (.int .i64 a) from rfl); have hc0_2 := ((HS.out.pick 0 rfl).cell 2).trans (show _ = some (.int .i64 0) from rfl); have hf0_1 := HS.out.frozen 1; have hf0_2 := HS.out.frozen 2))
      have n0_ := Aside0.mk ((HS.out.pick 0 rfl).set 1 (.int .i64 nx) #[.string s, .int .i64 nx, .int .i64 0] rfl); have n1_ := Aside0.mk ((HS.out.pick 0 rfl).below_set (i := 1) (u := .int .i64 nx) HB.out); clear HS HB; have HS := n0_; have HB := n1_; clear n0_ n1_; (try simp only [List.eraseIdx_cons_succ, List.eraseIdx_cons_zero] at HS)
      go_ret
      exact ⟨rfl, HS.out, HB.out⟩
    · simp only [if_neg h1]
      have q1 : (er1 != 0) = true := by simpa using h1
      have h1' := Aside0.mk h1
      go_enter Try.func49, Try.ntmps49
      go_wp2_with (first | ((with_reducible refine gate_callee (f := 72) rfl ?_); refine goesL_ (some 7) rfl rfl Try.func72 (by kernel_rfl) rfl #[.pointer (some ⟨g, 0, none⟩)] rfl (by (try simp only [List.map_toArray, List.map_cons, List.map_nil]); first | done | rfl | (simp only [List.length_drop, List.length_take]; rfl)) ?_; (with_reducible refine (Rd_ok_to g s hs a 0 true h0 HS.out).mono ?_); rintro e w1 ⟨rfl, rfl⟩; refine ⟨_, rfl, ?_⟩; have n0_ := Aside0.mk (HS.out); have n1_ := Aside0.mk (HB.out); clear HS HB; have HS := n0_; have HB := n1_; clear n0_ n1_; (try simp only [List.eraseIdx_cons_succ, List.eraseIdx_cons_zero] at HS); have hc0_0 := ((HS.out.pick 0 rfl).cell 0).trans (show _ = some (.string s) from rfl); have hc0_1 := ((HS.out.pick 0 rfl).cell 1).trans (show _ = some (.int .i64 a) from rfl); have hc0_2 := ((HS.out.pick 0 rfl).cell 2).trans (show _ = some (.int .i64 0) from rfl)) | ((with_reducible refine gate_callee (f := 73) rfl ?_); refine goesL_ (some 15) rfl rfl Try.func73 (by kernel_rfl) rfl #[.pointer (some ⟨g, 0, none⟩), .int .i64 a] rfl (by (try simp only [List.map_toArray, List.map_cons, List.map_nil]); first | done | rfl | (simp only [List.length_drop, List.length_take]; rfl)) ?_; (with_reducible refine (number_to g s hs a a 0 _ _ _ hr.out HS.out).mono ?_); rintro e w2 ⟨rfl, rfl⟩; clear hc0_0 hc0_1 hc0_2; refine ⟨_, rfl, ?_⟩; have n0_ := Aside0.mk (HS.out); have n1_ := Aside0.mk (HB.out); clear HS HB; have HS := n0_; have HB := n1_; clear n0_ n1_; (try simp only [List.eraseIdx_cons_succ, List.eraseIdx_cons_zero] at HS); have hc0_0 := ((HS.out.pick 0 rfl).cell 0).trans (show _ = some (.string s) from rfl); have hc0_1 := ((HS.out.pick 0 rfl).cell 1).trans (show _ = some (.int .i64 a) from rfl); have hc0_2 := ((HS.out.pick 0 rfl).cell 2).trans (show _ = some (.int .i64 0) from rfl); have hf0_1 := HS.out.frozen 1; have hf0_2 := HS.out.frozen 2) | ((with_reducible refine gate_callee (f := 74) rfl ?_); refine goesL_ (some 23) rfl rfl Try.func74 (by kernel_rfl) rfl #[.pointer (some ⟨g, 0, none⟩), .int .i64 er1] rfl (by (try simp only [List.map_toArray, List.map_cons, List.map_nil]); first | done | rfl | (simp only [List.length_drop, List.length_take]; rfl)) ?_; (with_reducible refine (Rd_fail g s a er1 h1'.out HS.out).mono ?_); rintro e w3 ⟨rfl, hs1, hb⟩; clear hc0_0 hc0_1 hc0_2; refine ⟨_, rfl, ?_⟩; have n0_ := Aside0.mk (hs1); have n1_ := Aside0.mk (HB.out.trans hb); clear HS HB; have HS := n0_; have HB := n1_; clear n0_ n1_; (try simp only [List.eraseIdx_cons_succ, List.eraseIdx_cons_zero] at HS); clear hs1 hb))
      go_ret
      exact ⟨rfl, HS.out, HB.out⟩
  · have h0 : (er == 0) = false := by simpa using he
    simp only [numS, if_neg he]
    go_enter Try.func49, Try.ntmps49
    go_wp2_with (first | ((with_reducible refine gate_callee (f := 72) rfl ?_); refine goesL_ (some 7) rfl rfl Try.func72 (by kernel_rfl) rfl #[.pointer (some ⟨g, 0, none⟩)] rfl (by (try simp only [List.map_toArray, List.map_cons, List.map_nil]); first | done | rfl | (simp only [List.length_drop, List.length_take]; rfl)) ?_; (with_reducible refine (Rd_ok_to g s hs a er false h0 HS.out).mono ?_); rintro e w1 ⟨rfl, rfl⟩; refine ⟨_, rfl, ?_⟩; have n0_ := Aside0.mk (HS.out); have n1_ := Aside0.mk (HB.out); clear HS HB; have HS := n0_; have HB := n1_; clear n0_ n1_; (try simp only [List.eraseIdx_cons_succ, List.eraseIdx_cons_zero] at HS); have hc0_0 := ((HS.out.pick 0 rfl).cell 0).trans (show _ = some (.string s) from rfl); have hc0_1 := ((HS.out.pick 0 rfl).cell 1).trans (show _ = some (.int .i64 a) from rfl); have hc0_2 := ((HS.out.pick 0 rfl).cell 2).trans (show _ = some (.int .i64 er) from rfl)))
    go_ret
    exact ⟨rfl, HS.out, HB.out⟩

theorem Rd_Bool (g : Nat) (s : ByteArray) (hs : s.size ≤ 140737488355328) (a : Nat) (er : Int) {N : Nat} {w : World} {L : List Res} (HS0 : St N w (Blk g #[.string s, .int .i64 a, .int .i64 er] 98 :: L)) :
    Calls Try.prog 50 #[.pointer (some ⟨g, 0, none⟩)] w fun e w' => e = .returned (.bool (boolS s a er).1) ∧ St N w' (Blk g #[.string s, .int .i64 (boolS s a er).2.1, .int .i64 (boolS s a er).2.2] 98 :: L) ∧ Below N w w' := by
  have HS := Aside0.mk HS0
  have HB := Aside0.mk (Below.refl N w)
  clear HS0
  by_cases he : er = 0
  · subst he
    have h0 : ((0 : Int) == 0) = true := rfl
    obtain ⟨n, nx, er1, hr⟩ : ∃ n nx e, numR s a = (n, nx, e) := ⟨_, _, _, rfl⟩
    have hle := numR_le s a
    simp only [boolS, boolE, if_true, hr] at hle ⊢
    replace hr := Aside0.mk hr
    by_cases h1 : er1 = 0
    · subst h1
      simp only [if_true]
      by_cases h2 : n = 0
      · subst h2
        simp only [true_or, if_true, show (decide ((0 : Int) = 1)) = false from rfl]
        go_enter Try.func50, Try.ntmps50
        go_wp2_with (first | ((with_reducible refine gate_callee (f := 72) rfl ?_); refine goesL_ (some 7) rfl rfl Try.func72 (by kernel_rfl) rfl #[.pointer (some ⟨g, 0, none⟩)] rfl (by (try simp only [List.map_toArray, List.map_cons, List.map_nil]); first | done | rfl | (simp only [List.length_drop, List.length_take]; rfl)) ?_; (with_reducible refine (Rd_ok_to g s hs a 0 true h0 HS.out).mono ?_); rintro e w1 ⟨rfl, rfl⟩; refine ⟨_, rfl, ?_⟩; have n0_ := Aside0.mk (HS.out); have n1_ := Aside0.mk (HB.out); clear HS HB; have HS := n0_; have HB := n1_; clear n0_ n1_; (try simp only [List.eraseIdx_cons_succ, List.eraseIdx_cons_zero] at HS); have hc0_0 := ((HS.out.pick 0 rfl).cell 0).trans (show _ = some (.string s) from rfl); have hc0_1 := ((HS.out.pick 0 rfl).cell 1).trans (show _ = some (.int .i64 a) from rfl); have hc0_2 := ((HS.out.pick 0 rfl).cell 2).trans (show _ = some (.int .i64 0) from rfl)) | ((with_reducible refine gate_callee (f := 73) rfl ?_); refine goesL_ (some 15) rfl rfl Try.func73 (by kernel_rfl) rfl #[.pointer (some ⟨g, 0, none⟩), .int .i64 a] rfl (by (try simp only [List.map_toArray, List.map_cons, List.map_nil]); first | done | rfl | (simp only [List.length_drop, List.length_take]; rfl)) ?_; (with_reducible refine (number_to g s hs a a 0 _ _ _ hr.out HS.out).mono ?_); rintro e w2 ⟨rfl, rfl⟩; clear hc0_0 hc0_1 hc0_2; refine ⟨_, rfl, ?_⟩; have n0_ := Aside0.mk (HS.out); have n1_ := Aside0.mk (HB.out); clear HS HB; have HS := n0_; have HB := n1_; clear n0_ n1_; (try simp only [List.eraseIdx_cons_succ, List.eraseIdx_cons_zero] at HS); have hc0_0 := ((HS.out.pick 0 rfl).cell 0).trans (show _ = some (.string s) from rfl); have hc0_1 := ((HS.out.pick 0 rfl).cell 1).trans (show _ = some (.int .i64 a) from rfl); have hc0_2 := ((HS.out.pick 0 rfl).cell 2).trans (show _ = some (.int .i64 0) from rfl); have hf0_1 := HS.out.frozen 1; have hf0_2 := HS.out.frozen 2))
        have n0_ := Aside0.mk ((HS.out.pick 0 rfl).set 1 (.int .i64 nx) #[.string s, .int .i64 nx, .int .i64 0] rfl); have n1_ := Aside0.mk ((HS.out.pick 0 rfl).below_set (i := 1) (u := .int .i64 nx) HB.out); clear HS HB; have HS := n0_; have HB := n1_; clear n0_ n1_; (try simp only [List.eraseIdx_cons_succ, List.eraseIdx_cons_zero] at HS)
        go_ret
        exact ⟨rfl, HS.out, HB.out⟩
      · by_cases h3 : n = 1
        · subst h3
          simp only [or_true, if_true, decide_true]
          go_enter Try.func50, Try.ntmps50
          go_wp2_with (first | ((with_reducible refine gate_callee (f := 72) rfl ?_); refine goesL_ (some 7) rfl rfl Try.func72 (by kernel_rfl) rfl #[.pointer (some ⟨g, 0, none⟩)] rfl (by (try simp only [List.map_toArray, List.map_cons, List.map_nil]); first | done | rfl | (simp only [List.length_drop, List.length_take]; rfl)) ?_; (with_reducible refine (Rd_ok_to g s hs a 0 true h0 HS.out).mono ?_); rintro e w1 ⟨rfl, rfl⟩; refine ⟨_, rfl, ?_⟩; have n0_ := Aside0.mk (HS.out); have n1_ := Aside0.mk (HB.out); clear HS HB; have HS := n0_; have HB := n1_; clear n0_ n1_; (try simp only [List.eraseIdx_cons_succ, List.eraseIdx_cons_zero] at HS); have hc0_0 := ((HS.out.pick 0 rfl).cell 0).trans (show _ = some (.string s) from rfl); have hc0_1 := ((HS.out.pick 0 rfl).cell 1).trans (show _ = some (.int .i64 a) from rfl); have hc0_2 := ((HS.out.pick 0 rfl).cell 2).trans (show _ = some (.int .i64 0) from rfl)) | ((with_reducible refine gate_callee (f := 73) rfl ?_); refine goesL_ (some 15) rfl rfl Try.func73 (by kernel_rfl) rfl #[.pointer (some ⟨g, 0, none⟩), .int .i64 a] rfl (by (try simp only [List.map_toArray, List.map_cons, List.map_nil]); first | done | rfl | (simp only [List.length_drop, List.length_take]; rfl)) ?_; (with_reducible refine (number_to g s hs a a 0 _ _ _ hr.out HS.out).mono ?_); rintro e w2 ⟨rfl, rfl⟩; clear hc0_0 hc0_1 hc0_2; refine ⟨_, rfl, ?_⟩; have n0_ := Aside0.mk (HS.out); have n1_ := Aside0.mk (HB.out); clear HS HB; have HS := n0_; have HB := n1_; clear n0_ n1_; (try simp only [List.eraseIdx_cons_succ, List.eraseIdx_cons_zero] at HS); have hc0_0 := ((HS.out.pick 0 rfl).cell 0).trans (show _ = some (.string s) from rfl); have hc0_1 := ((HS.out.pick 0 rfl).cell 1).trans (show _ = some (.int .i64 a) from rfl); have hc0_2 := ((HS.out.pick 0 rfl).cell 2).trans (show _ = some (.int .i64 0) from rfl); have hf0_1 := HS.out.frozen 1; have hf0_2 := HS.out.frozen 2))
          have n0_ := Aside0.mk ((HS.out.pick 0 rfl).set 1 (.int .i64 nx) #[.string s, .int .i64 nx, .int .i64 0] rfl); have n1_ := Aside0.mk ((HS.out.pick 0 rfl).below_set (i := 1) (u := .int .i64 nx) HB.out); clear HS HB; have HS := n0_; have HB := n1_; clear n0_ n1_; (try simp only [List.eraseIdx_cons_succ, List.eraseIdx_cons_zero] at HS)
          go_ret
          exact ⟨rfl, HS.out, HB.out⟩
        · simp only [h2, h3, or_self, show ¬ (3 : Int) = 0 by decide, if_false]
          have q1 : (n != 0) = true := by simpa using h2
          have q2 : (n != 1) = true := by simpa using h3
          have q3 : (n = 0) = False := eq_false h2
          have q4 : (n = 1) = False := eq_false h3
          go_enter Try.func50, Try.ntmps50
          go_wp2_with (first | ((with_reducible refine gate_callee (f := 72) rfl ?_); refine goesL_ (some 7) rfl rfl Try.func72 (by kernel_rfl) rfl #[.pointer (some ⟨g, 0, none⟩)] rfl (by (try simp only [List.map_toArray, List.map_cons, List.map_nil]); first | done | rfl | (simp only [List.length_drop, List.length_take]; rfl)) ?_; (with_reducible refine (Rd_ok_to g s hs a 0 true h0 HS.out).mono ?_); rintro e w1 ⟨rfl, rfl⟩; refine ⟨_, rfl, ?_⟩; have n0_ := Aside0.mk (HS.out); have n1_ := Aside0.mk (HB.out); clear HS HB; have HS := n0_; have HB := n1_; clear n0_ n1_; (try simp only [List.eraseIdx_cons_succ, List.eraseIdx_cons_zero] at HS); have hc0_0 := ((HS.out.pick 0 rfl).cell 0).trans (show _ = some (.string s) from rfl); have hc0_1 := ((HS.out.pick 0 rfl).cell 1).trans (show _ = some (.int .i64 a) from rfl); have hc0_2 := ((HS.out.pick 0 rfl).cell 2).trans (show _ = some (.int .i64 0) from rfl)) | ((with_reducible refine gate_callee (f := 73) rfl ?_); refine goesL_ (some 15) rfl rfl Try.func73 (by kernel_rfl) rfl #[.pointer (some ⟨g, 0, none⟩), .int .i64 a] rfl (by (try simp only [List.map_toArray, List.map_cons, List.map_nil]); first | done | rfl | (simp only [List.length_drop, List.length_take]; rfl)) ?_; (with_reducible refine (number_to g s hs a a 0 _ _ _ hr.out HS.out).mono ?_); rintro e w2 ⟨rfl, rfl⟩; clear hc0_0 hc0_1 hc0_2; refine ⟨_, rfl, ?_⟩; have n0_ := Aside0.mk (HS.out); have n1_ := Aside0.mk (HB.out); clear HS HB; have HS := n0_; have HB := n1_; clear n0_ n1_; (try simp only [List.eraseIdx_cons_succ, List.eraseIdx_cons_zero] at HS); have hc0_0 := ((HS.out.pick 0 rfl).cell 0).trans (show _ = some (.string s) from rfl); have hc0_1 := ((HS.out.pick 0 rfl).cell 1).trans (show _ = some (.int .i64 a) from rfl); have hc0_2 := ((HS.out.pick 0 rfl).cell 2).trans (show _ = some (.int .i64 0) from rfl); have hf0_1 := HS.out.frozen 1; have hf0_2 := HS.out.frozen 2) | ((with_reducible refine gate_callee (f := 74) rfl ?_); refine goesL_ (some 33) rfl rfl Try.func74 (by kernel_rfl) rfl #[.pointer (some ⟨g, 0, none⟩), .int .i64 3] rfl (by (try simp only [List.map_toArray, List.map_cons, List.map_nil]); first | done | rfl | (simp only [List.length_drop, List.length_take]; rfl)) ?_; (with_reducible refine (Rd_fail g s a 3 (by decide) HS.out).mono ?_); rintro e w3 ⟨rfl, hs1, hb⟩; clear hc0_0 hc0_1 hc0_2; refine ⟨_, rfl, ?_⟩; have n0_ := Aside0.mk (hs1); have n1_ := Aside0.mk (HB.out.trans hb); clear HS HB; have HS := n0_; have HB := n1_; clear n0_ n1_; (try simp only [List.eraseIdx_cons_succ, List.eraseIdx_cons_zero] at HS); clear hs1 hb))
          go_ret
          exact ⟨rfl, HS.out, HB.out⟩
    · simp only [if_neg h1]
      have q1 : (er1 != 0) = true := by simpa using h1
      have q2 : (er1 == 0) = false := by simpa using h1
      have h1' := Aside0.mk h1
      go_enter Try.func50, Try.ntmps50
      go_wp2_with (first | ((with_reducible refine gate_callee (f := 72) rfl ?_); refine goesL_ (some 7) rfl rfl Try.func72 (by kernel_rfl) rfl #[.pointer (some ⟨g, 0, none⟩)] rfl (by (try simp only [List.map_toArray, List.map_cons, List.map_nil]); first | done | rfl | (simp only [List.length_drop, List.length_take]; rfl)) ?_; (with_reducible refine (Rd_ok_to g s hs a 0 true h0 HS.out).mono ?_); rintro e w1 ⟨rfl, rfl⟩; refine ⟨_, rfl, ?_⟩; have n0_ := Aside0.mk (HS.out); have n1_ := Aside0.mk (HB.out); clear HS HB; have HS := n0_; have HB := n1_; clear n0_ n1_; (try simp only [List.eraseIdx_cons_succ, List.eraseIdx_cons_zero] at HS); have hc0_0 := ((HS.out.pick 0 rfl).cell 0).trans (show _ = some (.string s) from rfl); have hc0_1 := ((HS.out.pick 0 rfl).cell 1).trans (show _ = some (.int .i64 a) from rfl); have hc0_2 := ((HS.out.pick 0 rfl).cell 2).trans (show _ = some (.int .i64 0) from rfl)) | ((with_reducible refine gate_callee (f := 73) rfl ?_); refine goesL_ (some 15) rfl rfl Try.func73 (by kernel_rfl) rfl #[.pointer (some ⟨g, 0, none⟩), .int .i64 a] rfl (by (try simp only [List.map_toArray, List.map_cons, List.map_nil]); first | done | rfl | (simp only [List.length_drop, List.length_take]; rfl)) ?_; (with_reducible refine (number_to g s hs a a 0 _ _ _ hr.out HS.out).mono ?_); rintro e w2 ⟨rfl, rfl⟩; clear hc0_0 hc0_1 hc0_2; refine ⟨_, rfl, ?_⟩; have n0_ := Aside0.mk (HS.out); have n1_ := Aside0.mk (HB.out); clear HS HB; have HS := n0_; have HB := n1_; clear n0_ n1_; (try simp only [List.eraseIdx_cons_succ, List.eraseIdx_cons_zero] at HS); have hc0_0 := ((HS.out.pick 0 rfl).cell 0).trans (show _ = some (.string s) from rfl); have hc0_1 := ((HS.out.pick 0 rfl).cell 1).trans (show _ = some (.int .i64 a) from rfl); have hc0_2 := ((HS.out.pick 0 rfl).cell 2).trans (show _ = some (.int .i64 0) from rfl); have hf0_1 := HS.out.frozen 1; have hf0_2 := HS.out.frozen 2) | ((with_reducible refine gate_callee (f := 74) rfl ?_); refine goesL_ (some 33) rfl rfl Try.func74 (by kernel_rfl) rfl #[.pointer (some ⟨g, 0, none⟩), .int .i64 er1] rfl (by (try simp only [List.map_toArray, List.map_cons, List.map_nil]); first | done | rfl | (simp only [List.length_drop, List.length_take]; rfl)) ?_; (with_reducible refine (Rd_fail g s a er1 h1'.out HS.out).mono ?_); rintro e w3 ⟨rfl, hs1, hb⟩; clear hc0_0 hc0_1 hc0_2; refine ⟨_, rfl, ?_⟩; have n0_ := Aside0.mk (hs1); have n1_ := Aside0.mk (HB.out.trans hb); clear HS HB; have HS := n0_; have HB := n1_; clear n0_ n1_; (try simp only [List.eraseIdx_cons_succ, List.eraseIdx_cons_zero] at HS); clear hs1 hb))
      go_ret
      exact ⟨rfl, HS.out, HB.out⟩
  · have h0 : (er == 0) = false := by simpa using he
    simp only [boolS, boolE, if_neg he]
    go_enter Try.func50, Try.ntmps50
    go_wp2_with (first | ((with_reducible refine gate_callee (f := 72) rfl ?_); refine goesL_ (some 7) rfl rfl Try.func72 (by kernel_rfl) rfl #[.pointer (some ⟨g, 0, none⟩)] rfl (by (try simp only [List.map_toArray, List.map_cons, List.map_nil]); first | done | rfl | (simp only [List.length_drop, List.length_take]; rfl)) ?_; (with_reducible refine (Rd_ok_to g s hs a er false h0 HS.out).mono ?_); rintro e w1 ⟨rfl, rfl⟩; refine ⟨_, rfl, ?_⟩; have n0_ := Aside0.mk (HS.out); have n1_ := Aside0.mk (HB.out); clear HS HB; have HS := n0_; have HB := n1_; clear n0_ n1_; (try simp only [List.eraseIdx_cons_succ, List.eraseIdx_cons_zero] at HS); have hc0_0 := ((HS.out.pick 0 rfl).cell 0).trans (show _ = some (.string s) from rfl); have hc0_1 := ((HS.out.pick 0 rfl).cell 1).trans (show _ = some (.int .i64 a) from rfl); have hc0_2 := ((HS.out.pick 0 rfl).cell 2).trans (show _ = some (.int .i64 er) from rfl)))
    go_ret
    exact ⟨rfl, HS.out, HB.out⟩

theorem Rd_size (g : Nat) (s : ByteArray) (hs : s.size ≤ 140737488355328) (a : Nat) (most more : Int) (hmore : more ≠ 0) {N : Nat} {w : World} {L : List Res} (HS0 : St N w (Blk g #[.string s, .int .i64 a, .int .i64 0] 98 :: L)) :
    Calls Try.prog 75 #[.pointer (some ⟨g, 0, none⟩), .int .i64 most, .int .i64 more] w fun e w' => e = .returned (.tuple #[.int .i64 (if sizE s a most more = 0 then (numR s a).1 else 0), .int .i64 (if sizE s a most more = 0 then ((numR s a).2.1 : Int) else 0), .bool (decide (sizE s a most more = 0))]) ∧ St N w' (Blk g #[.string s, .int .i64 a, .int .i64 (sizE s a most more)] 98 :: L) ∧ Below N w w' := by
  have HS := Aside0.mk HS0
  have HB := Aside0.mk (Below.refl N w)
  clear HS0
  have hc0_0 := ((HS.out.pick 0 rfl).cell 0).trans (show _ = some (.string s) from rfl); have hc0_1 := ((HS.out.pick 0 rfl).cell 1).trans (show _ = some (.int .i64 a) from rfl); have hc0_2 := ((HS.out.pick 0 rfl).cell 2).trans (show _ = some (.int .i64 0) from rfl)
  obtain ⟨n, nx, er1, hr⟩ : ∃ n nx e, numR s a = (n, nx, e) := ⟨_, _, _, rfl⟩
  have hle := numR_le s a
  simp only [sizE, hr] at hle ⊢
  replace hr := Aside0.mk hr
  by_cases h1 : er1 = 0
  · subst h1
    have hle := hle rfl
    simp only [if_true]
    have q0 : wrap64 ((s.size : Int) - (nx : Int)) = (s.size : Int) - (nx : Int) := wrap64_small _ (by omega) (by omega)
    by_cases h2 : n < 0
    · simp only [if_pos h2, show ¬ (3 : Int) = 0 by decide, if_false, decide_false]
      have q1 : decide (n < 0) = true := decide_eq_true h2
      have q2 : (n < 0) = True := eq_true h2
      clear h2
      go_enter Try.func75, Try.ntmps75
      go_wp2_with (first | ((with_reducible refine gate_callee (f := 73) rfl ?_); refine goesL_ (some 16) rfl rfl Try.func73 (by kernel_rfl) rfl #[.pointer (some ⟨g, 0, none⟩), .int .i64 a] rfl (by (try simp only [List.map_toArray, List.map_cons, List.map_nil]); first | done | rfl | (simp only [List.length_drop, List.length_take]; rfl)) ?_; (with_reducible refine (number_to g s hs a a 0 _ _ _ hr.out HS.out).mono ?_); rintro e w2 ⟨rfl, rfl⟩; clear hc0_0 hc0_1 hc0_2; refine ⟨_, rfl, ?_⟩; have n0_ := Aside0.mk (HS.out); have n1_ := Aside0.mk (HB.out); clear HS HB; have HS := n0_; have HB := n1_; clear n0_ n1_; (try simp only [List.eraseIdx_cons_succ, List.eraseIdx_cons_zero] at HS); have hc0_0 := ((HS.out.pick 0 rfl).cell 0).trans (show _ = some (.string s) from rfl); have hc0_1 := ((HS.out.pick 0 rfl).cell 1).trans (show _ = some (.int .i64 a) from rfl); have hc0_2 := ((HS.out.pick 0 rfl).cell 2).trans (show _ = some (.int .i64 0) from rfl); have hf0_1 := HS.out.frozen 1; have hf0_2 := HS.out.frozen 2) | ((with_reducible refine gate_callee (f := 74) rfl ?_); refine goesL_ (some 45) rfl rfl Try.func74 (by kernel_rfl) rfl #[.pointer (some ⟨g, 0, none⟩), .int .i64 3] rfl (by (try simp only [List.map_toArray, List.map_cons, List.map_nil]); first | done | rfl | (simp only [List.length_drop, List.length_take]; rfl)) ?_; (with_reducible refine (Rd_fail g s a 3 (by decide) HS.out).mono ?_); rintro e w3 ⟨rfl, hs1, hb⟩; clear hc0_0 hc0_1 hc0_2; refine ⟨_, rfl, ?_⟩; have n0_ := Aside0.mk (hs1); have n1_ := Aside0.mk (HB.out.trans hb); clear HS HB; have HS := n0_; have HB := n1_; clear n0_ n1_; (try simp only [List.eraseIdx_cons_succ, List.eraseIdx_cons_zero] at HS); clear hs1 hb))
      go_ret3
      exact ⟨rfl, HS.out, HB.out⟩
    · simp only [if_neg h2]
      have q1 : decide (n < 0) = false := decide_eq_false h2
      have q2 : (n < 0) = False := eq_false h2
      by_cases h3 : most < n
      · simp only [if_pos h3, if_neg hmore, decide_eq_false hmore]
        have q3 : decide (n > most) = true := decide_eq_true h3
        have q4 : (most < n) = True := eq_true h3
        have hm' := Aside0.mk hmore
        clear h2 h3
        go_enter Try.func75, Try.ntmps75
        go_wp2_with (first | ((with_reducible refine gate_callee (f := 73) rfl ?_); refine goesL_ (some 16) rfl rfl Try.func73 (by kernel_rfl) rfl #[.pointer (some ⟨g, 0, none⟩), .int .i64 a] rfl (by (try simp only [List.map_toArray, List.map_cons, List.map_nil]); first | done | rfl | (simp only [List.length_drop, List.length_take]; rfl)) ?_; (with_reducible refine (number_to g s hs a a 0 _ _ _ hr.out HS.out).mono ?_); rintro e w2 ⟨rfl, rfl⟩; clear hc0_0 hc0_1 hc0_2; refine ⟨_, rfl, ?_⟩; have n0_ := Aside0.mk (HS.out); have n1_ := Aside0.mk (HB.out); clear HS HB; have HS := n0_; have HB := n1_; clear n0_ n1_; (try simp only [List.eraseIdx_cons_succ, List.eraseIdx_cons_zero] at HS); have hc0_0 := ((HS.out.pick 0 rfl).cell 0).trans (show _ = some (.string s) from rfl); have hc0_1 := ((HS.out.pick 0 rfl).cell 1).trans (show _ = some (.int .i64 a) from rfl); have hc0_2 := ((HS.out.pick 0 rfl).cell 2).trans (show _ = some (.int .i64 0) from rfl); have hf0_1 := HS.out.frozen 1; have hf0_2 := HS.out.frozen 2) | ((with_reducible refine gate_callee (f := 74) rfl ?_); refine goesL_ (some 45) rfl rfl Try.func74 (by kernel_rfl) rfl #[.pointer (some ⟨g, 0, none⟩), .int .i64 more] rfl (by (try simp only [List.map_toArray, List.map_cons, List.map_nil]); first | done | rfl | (simp only [List.length_drop, List.length_take]; rfl)) ?_; (with_reducible refine (Rd_fail g s a more hm'.out HS.out).mono ?_); rintro e w3 ⟨rfl, hs1, hb⟩; clear hc0_0 hc0_1 hc0_2; refine ⟨_, rfl, ?_⟩; have n0_ := Aside0.mk (hs1); have n1_ := Aside0.mk (HB.out.trans hb); clear HS HB; have HS := n0_; have HB := n1_; clear n0_ n1_; (try simp only [List.eraseIdx_cons_succ, List.eraseIdx_cons_zero] at HS); clear hs1 hb))
        go_ret3
        exact ⟨rfl, HS.out, HB.out⟩
      · simp only [if_neg h3]
        have q3 : decide (n > most) = false := decide_eq_false h3
        have q4 : (most < n) = False := eq_false h3
        by_cases h4 : (s.size : Int) - nx < n
        · simp only [if_pos h4, show ¬ (4 : Int) = 0 by decide, if_false, decide_false]
          have q5 : decide ((s.size : Int) - (nx : Int) < n) = true := decide_eq_true h4
          have q6 : ((s.size : Int) - (nx : Int) < n) = True := eq_true h4
          clear h2 h3 h4
          go_enter Try.func75, Try.ntmps75
          go_wp2_with (first | ((with_reducible refine gate_callee (f := 73) rfl ?_); refine goesL_ (some 16) rfl rfl Try.func73 (by kernel_rfl) rfl #[.pointer (some ⟨g, 0, none⟩), .int .i64 a] rfl (by (try simp only [List.map_toArray, List.map_cons, List.map_nil]); first | done | rfl | (simp only [List.length_drop, List.length_take]; rfl)) ?_; (with_reducible refine (number_to g s hs a a 0 _ _ _ hr.out HS.out).mono ?_); rintro e w2 ⟨rfl, rfl⟩; clear hc0_0 hc0_1 hc0_2; refine ⟨_, rfl, ?_⟩; have n0_ := Aside0.mk (HS.out); have n1_ := Aside0.mk (HB.out); clear HS HB; have HS := n0_; have HB := n1_; clear n0_ n1_; (try simp only [List.eraseIdx_cons_succ, List.eraseIdx_cons_zero] at HS); have hc0_0 := ((HS.out.pick 0 rfl).cell 0).trans (show _ = some (.string s) from rfl); have hc0_1 := ((HS.out.pick 0 rfl).cell 1).trans (show _ = some (.int .i64 a) from rfl); have hc0_2 := ((HS.out.pick 0 rfl).cell 2).trans (show _ = some (.int .i64 0) from rfl); have hf0_1 := HS.out.frozen 1; have hf0_2 := HS.out.frozen 2) | ((with_reducible refine gate_callee (f := 74) rfl ?_); refine goesL_ (some 45) rfl rfl Try.func74 (by kernel_rfl) rfl #[.pointer (some ⟨g, 0, none⟩), .int .i64 4] rfl (by (try simp only [List.map_toArray, List.map_cons, List.map_nil]); first | done | rfl | (simp only [List.length_drop, List.length_take]; rfl)) ?_; (with_reducible refine (Rd_fail g s a 4 (by decide) HS.out).mono ?_); rintro e w3 ⟨rfl, hs1, hb⟩; clear hc0_0 hc0_1 hc0_2; refine ⟨_, rfl, ?_⟩; have n0_ := Aside0.mk (hs1); have n1_ := Aside0.mk (HB.out.trans hb); clear HS HB; have HS := n0_; have HB := n1_; clear n0_ n1_; (try simp only [List.eraseIdx_cons_succ, List.eraseIdx_cons_zero] at HS); clear hs1 hb))
          go_ret3
          exact ⟨rfl, HS.out, HB.out⟩
        · simp only [if_neg h4, if_true, decide_true]
          have q5 : decide ((s.size : Int) - (nx : Int) < n) = false := decide_eq_false h4
          have q6 : ((s.size : Int) - (nx : Int) < n) = False := eq_false h4
          clear h2 h3 h4
          go_enter Try.func75, Try.ntmps75
          go_wp2_with (first | ((with_reducible refine gate_callee (f := 73) rfl ?_); refine goesL_ (some 16) rfl rfl Try.func73 (by kernel_rfl) rfl #[.pointer (some ⟨g, 0, none⟩), .int .i64 a] rfl (by (try simp only [List.map_toArray, List.map_cons, List.map_nil]); first | done | rfl | (simp only [List.length_drop, List.length_take]; rfl)) ?_; (with_reducible refine (number_to g s hs a a 0 _ _ _ hr.out HS.out).mono ?_); rintro e w2 ⟨rfl, rfl⟩; clear hc0_0 hc0_1 hc0_2; refine ⟨_, rfl, ?_⟩; have n0_ := Aside0.mk (HS.out); have n1_ := Aside0.mk (HB.out); clear HS HB; have HS := n0_; have HB := n1_; clear n0_ n1_; (try simp only [List.eraseIdx_cons_succ, List.eraseIdx_cons_zero] at HS); have hc0_0 := ((HS.out.pick 0 rfl).cell 0).trans (show _ = some (.string s) from rfl); have hc0_1 := ((HS.out.pick 0 rfl).cell 1).trans (show _ = some (.int .i64 a) from rfl); have hc0_2 := ((HS.out.pick 0 rfl).cell 2).trans (show _ = some (.int .i64 0) from rfl); have hf0_1 := HS.out.frozen 1; have hf0_2 := HS.out.frozen 2))
          go_ret3
          exact ⟨rfl, HS.out, HB.out⟩
  · simp only [if_neg h1, decide_eq_false h1]
    have q1 : (er1 != 0) = true := by simpa using h1
    have h1' := Aside0.mk h1
    go_enter Try.func75, Try.ntmps75
    go_wp2_with (first | ((with_reducible refine gate_callee (f := 73) rfl ?_); refine goesL_ (some 16) rfl rfl Try.func73 (by kernel_rfl) rfl #[.pointer (some ⟨g, 0, none⟩), .int .i64 a] rfl (by (try simp only [List.map_toArray, List.map_cons, List.map_nil]); first | done | rfl | (simp only [List.length_drop, List.length_take]; rfl)) ?_; (with_reducible refine (number_to g s hs a a 0 _ _ _ hr.out HS.out).mono ?_); rintro e w2 ⟨rfl, rfl⟩; clear hc0_0 hc0_1 hc0_2; refine ⟨_, rfl, ?_⟩; have n0_ := Aside0.mk (HS.out); have n1_ := Aside0.mk (HB.out); clear HS HB; have HS := n0_; have HB := n1_; clear n0_ n1_; (try simp only [List.eraseIdx_cons_succ, List.eraseIdx_cons_zero] at HS); have hc0_0 := ((HS.out.pick 0 rfl).cell 0).trans (show _ = some (.string s) from rfl); have hc0_1 := ((HS.out.pick 0 rfl).cell 1).trans (show _ = some (.int .i64 a) from rfl); have hc0_2 := ((HS.out.pick 0 rfl).cell 2).trans (show _ = some (.int .i64 0) from rfl); have hf0_1 := HS.out.frozen 1; have hf0_2 := HS.out.frozen 2) | ((with_reducible refine gate_callee (f := 74) rfl ?_); refine goesL_ (some 45) rfl rfl Try.func74 (by kernel_rfl) rfl #[.pointer (some ⟨g, 0, none⟩), .int .i64 er1] rfl (by (try simp only [List.map_toArray, List.map_cons, List.map_nil]); first | done | rfl | (simp only [List.length_drop, List.length_take]; rfl)) ?_; (with_reducible refine (Rd_fail g s a er1 h1'.out HS.out).mono ?_); rintro e w3 ⟨rfl, hs1, hb⟩; clear hc0_0 hc0_1 hc0_2; refine ⟨_, rfl, ?_⟩; have n0_ := Aside0.mk (hs1); have n1_ := Aside0.mk (HB.out.trans hb); clear HS HB; have HS := n0_; have HB := n1_; clear n0_ n1_; (try simp only [List.eraseIdx_cons_succ, List.eraseIdx_cons_zero] at HS); clear hs1 hb))
    go_ret3
    exact ⟨rfl, HS.out, HB.out⟩

theorem Rd_size_ok (g : Nat) (s : ByteArray) (hs : s.size ≤ 140737488355328) (a : Nat) (most more : Int) (hmore : more ≠ 0) (h : sizE s a most more = 0) {N : Nat} {w : World} {L : List Res} (HS0 : St N w (Blk g #[.string s, .int .i64 a, .int .i64 0] 98 :: L)) :
    Calls Try.prog 75 #[.pointer (some ⟨g, 0, none⟩), .int .i64 most, .int .i64 more] w fun e w' => e = .returned (.tuple #[.int .i64 (numR s a).1, .int .i64 (numR s a).2.1, .bool true]) ∧ St N w' (Blk g #[.string s, .int .i64 a, .int .i64 0] 98 :: L) ∧ Below N w w' := by
  have := Rd_size g s hs a most more hmore HS0
  rw [h] at this
  simpa only [if_true, decide_true] using this
theorem Rd_size_bad (g : Nat) (s : ByteArray) (hs : s.size ≤ 140737488355328) (a : Nat) (most more : Int) (hmore : more ≠ 0) (e : Int) (he : sizE s a most more = e) (h : e ≠ 0) {N : Nat} {w : World} {L : List Res} (HS0 : St N w (Blk g #[.string s, .int .i64 a, .int .i64 0] 98 :: L)) :
    Calls Try.prog 75 #[.pointer (some ⟨g, 0, none⟩), .int .i64 most, .int .i64 more] w fun e' w' => e' = .returned (.tuple #[.int .i64 0, .int .i64 0, .bool false]) ∧ St N w' (Blk g #[.string s, .int .i64 a, .int .i64 e] 98 :: L) ∧ Below N w w' := by
  have := Rd_size g s hs a most more hmore HS0
  rw [he] at this
  simpa only [if_neg h, decide_eq_false h] using this
theorem sizE_le (s : ByteArray) (a : Nat) (most more : Int) (hmore : more ≠ 0) (h : sizE s a most more = 0) : (numR s a).2.2 = 0 ∧ 0 ≤ (numR s a).1 ∧ (numR s a).1 ≤ most ∧ (numR s a).1 ≤ (s.size : Int) - (numR s a).2.1 ∧ (numR s a).2.1 ≤ s.size ∧ a < (numR s a).2.1 := by
  unfold sizE at h
  by_cases h1 : (numR s a).2.2 = 0
  · rw [if_pos h1] at h
    have := numR_le s a h1
    by_cases h2 : (numR s a).1 < 0
    · rw [if_pos h2] at h; simp at h
    rw [if_neg h2] at h
    by_cases h3 : most < (numR s a).1
    · rw [if_pos h3] at h; exact absurd h hmore
    rw [if_neg h3] at h
    by_cases h4 : (s.size : Int) - (numR s a).2.1 < (numR s a).1
    · rw [if_pos h4] at h; simp at h
    exact ⟨h1, by omega, by omega, by omega, this.1, this.2⟩
  · rw [if_neg h1] at h; exact absurd h h1

theorem Rd_Count (g : Nat) (s : ByteArray) (hs : s.size ≤ 140737488355328) (a : Nat) (er most : Int) {N : Nat} {w : World} {L : List Res} (HS0 : St N w (Blk g #[.string s, .int .i64 a, .int .i64 er] 98 :: L)) :
    Calls Try.prog 51 #[.pointer (some ⟨g, 0, none⟩), .int .i64 most] w fun e w' => e = .returned (.int .i64 (cntS s a er most).1) ∧ St N w' (Blk g #[.string s, .int .i64 (cntS s a er most).2.1, .int .i64 (cntS s a er most).2.2] 98 :: L) ∧ Below N w w' := by
  have HS := Aside0.mk HS0
  have HB := Aside0.mk (Below.refl N w)
  clear HS0
  by_cases he : er = 0
  · subst he
    have h0 : ((0 : Int) == 0) = true := rfl
    by_cases hz : sizE s a most 6 = 0
    · simp only [cntS, if_true, if_pos hz]
      obtain ⟨n, hn⟩ : ∃ n, (numR s a).1 = n := ⟨_, rfl⟩
      obtain ⟨nx, hnx⟩ : ∃ n, (numR s a).2.1 = n := ⟨_, rfl⟩
      rw [hn, hnx]
      replace hz := Aside0.mk hz
      go_enter Try.func51, Try.ntmps51
      go_wp2_with (first | ((with_reducible refine gate_callee (f := 72) rfl ?_); refine goesL_ (some 9) rfl rfl Try.func72 (by kernel_rfl) rfl #[.pointer (some ⟨g, 0, none⟩)] rfl (by (try simp only [List.map_toArray, List.map_cons, List.map_nil]); first | done | rfl | (simp only [List.length_drop, List.length_take]; rfl)) ?_; (with_reducible refine (Rd_ok_to g s hs a 0 true h0 HS.out).mono ?_); rintro e w1 ⟨rfl, rfl⟩; refine ⟨_, rfl, ?_⟩; have n0_ := Aside0.mk (HS.out); have n1_ := Aside0.mk (HB.out); clear HS HB; have HS := n0_; have HB := n1_; clear n0_ n1_; (try simp only [List.eraseIdx_cons_succ, List.eraseIdx_cons_zero] at HS); have hc0_0 := ((HS.out.pick 0 rfl).cell 0).trans (show _ = some (.string s) from rfl); have hc0_1 := ((HS.out.pick 0 rfl).cell 1).trans (show _ = some (.int .i64 a) from rfl); have hc0_2 := ((HS.out.pick 0 rfl).cell 2).trans (show _ = some (.int .i64 0) from rfl)) | ((with_reducible refine gate_callee (f := 75) rfl ?_); refine goesL_ (some 14) rfl rfl Try.func75 (by kernel_rfl) rfl #[.pointer (some ⟨g, 0, none⟩), .int .i64 most, .int .i64 6] rfl (by (try simp only [List.map_toArray, List.map_cons, List.map_nil]); first | done | rfl | (simp only [List.length_drop, List.length_take]; rfl)) ?_; (with_reducible refine (Rd_size_ok g s hs a most 6 (by decide) hz.out HS.out).mono ?_); rintro e w2 ⟨rfl, hs1, hb⟩; rw [hn, hnx]; clear hc0_0 hc0_1 hc0_2; refine ⟨_, rfl, ?_⟩; have n0_ := Aside0.mk (hs1); have n1_ := Aside0.mk (HB.out.trans hb); clear HS HB; have HS := n0_; have HB := n1_; clear n0_ n1_; (try simp only [List.eraseIdx_cons_succ, List.eraseIdx_cons_zero] at HS); clear hs1 hb; have hc0_0 := ((HS.out.pick 0 rfl).cell 0).trans (show _ = some (.string s) from rfl); have hc0_1 := ((HS.out.pick 0 rfl).cell 1).trans (show _ = some (.int .i64 a) from rfl); have hc0_2 := ((HS.out.pick 0 rfl).cell 2).trans (show _ = some (.int .i64 0) from rfl); have hf0_1 := HS.out.frozen 1))
      have n0_ := Aside0.mk ((HS.out.pick 0 rfl).set 1 (.int .i64 nx) #[.string s, .int .i64 nx, .int .i64 0] rfl); have n1_ := Aside0.mk ((HS.out.pick 0 rfl).below_set (i := 1) (u := .int .i64 nx) HB.out); clear HS HB; have HS := n0_; have HB := n1_; clear n0_ n1_; (try simp only [List.eraseIdx_cons_succ, List.eraseIdx_cons_zero] at HS)
      go_ret
      exact ⟨rfl, HS.out, HB.out⟩
    · simp only [cntS, if_true, if_neg hz]
      replace hz := Aside0.mk hz
      go_enter Try.func51, Try.ntmps51
      go_wp2_with (first | ((with_reducible refine gate_callee (f := 72) rfl ?_); refine goesL_ (some 9) rfl rfl Try.func72 (by kernel_rfl) rfl #[.pointer (some ⟨g, 0, none⟩)] rfl (by (try simp only [List.map_toArray, List.map_cons, List.map_nil]); first | done | rfl | (simp only [List.length_drop, List.length_take]; rfl)) ?_; (with_reducible refine (Rd_ok_to g s hs a 0 true h0 HS.out).mono ?_); rintro e w1 ⟨rfl, rfl⟩; refine ⟨_, rfl, ?_⟩; have n0_ := Aside0.mk (HS.out); have n1_ := Aside0.mk (HB.out); clear HS HB; have HS := n0_; have HB := n1_; clear n0_ n1_; (try simp only [List.eraseIdx_cons_succ, List.eraseIdx_cons_zero] at HS); have hc0_0 := ((HS.out.pick 0 rfl).cell 0).trans (show _ = some (.string s) from rfl); have hc0_1 := ((HS.out.pick 0 rfl).cell 1).trans (show _ = some (.int .i64 a) from rfl); have hc0_2 := ((HS.out.pick 0 rfl).cell 2).trans (show _ = some (.int .i64 0) from rfl)) | ((with_reducible refine gate_callee (f := 75) rfl ?_); refine goesL_ (some 14) rfl rfl Try.func75 (by kernel_rfl) rfl #[.pointer (some ⟨g, 0, none⟩), .int .i64 most, .int .i64 6] rfl (by (try simp only [List.map_toArray, List.map_cons, List.map_nil]); first | done | rfl | (simp only [List.length_drop, List.length_take]; rfl)) ?_; (with_reducible refine (Rd_size_bad g s hs a most 6 (by decide) _ rfl hz.out HS.out).mono ?_); rintro e w2 ⟨rfl, hs1, hb⟩; clear hc0_0 hc0_1 hc0_2; refine ⟨_, rfl, ?_⟩; have n0_ := Aside0.mk (hs1); have n1_ := Aside0.mk (HB.out.trans hb); clear HS HB; have HS := n0_; have HB := n1_; clear n0_ n1_; (try simp only [List.eraseIdx_cons_succ, List.eraseIdx_cons_zero] at HS); clear hs1 hb))
      go_ret
      exact ⟨rfl, HS.out, HB.out⟩
  · have h0 : (er == 0) = false := by simpa using he
    simp only [cntS, if_neg he]
    go_enter Try.func51, Try.ntmps51
    go_wp2_with (first | ((with_reducible refine gate_callee (f := 72) rfl ?_); refine goesL_ (some 9) rfl rfl Try.func72 (by kernel_rfl) rfl #[.pointer (some ⟨g, 0, none⟩)] rfl (by (try simp only [List.map_toArray, List.map_cons, List.map_nil]); first | done | rfl | (simp only [List.length_drop, List.length_take]; rfl)) ?_; (with_reducible refine (Rd_ok_to g s hs a er false h0 HS.out).mono ?_); rintro e w1 ⟨rfl, rfl⟩; refine ⟨_, rfl, ?_⟩; have n0_ := Aside0.mk (HS.out); have n1_ := Aside0.mk (HB.out); clear HS HB; have HS := n0_; have HB := n1_; clear n0_ n1_; (try simp only [List.eraseIdx_cons_succ, List.eraseIdx_cons_zero] at HS); have hc0_0 := ((HS.out.pick 0 rfl).cell 0).trans (show _ = some (.string s) from rfl); have hc0_1 := ((HS.out.pick 0 rfl).cell 1).trans (show _ = some (.int .i64 a) from rfl); have hc0_2 := ((HS.out.pick 0 rfl).cell 2).trans (show _ = some (.int .i64 er) from rfl)))
    go_ret
    exact ⟨rfl, HS.out, HB.out⟩

def rtx.T7 : Bool × List (List Nat × List Nat) := (true, [([], []), ([0], [0]), ([1], [1]), ([2], [2]), ([], []), ([], []), ([5], [5]), ([6], [6]), ([7], [7]), ([3, 4, 8], [3, 4, 8]), ([9, 0, 1, 2, 3, 4, 5, 6, 7, 8, 9], [9])])
def rtx.B7 : List Nat := [0, 1, 3, 7, 0, 0, 32, 96, 224, 511, 1023]
theorem rtx.tab7 : rtab .any (opsOf Try.f52 7) = rtx.T7 := by kernel_rfl
theorem rtx.bits7 : waitsOk rtx.T7.2 rtx.B7 = true := by kernel_rfl
def rlf.T3 : Bool × List (List Nat × List Nat) := (true, [([], []), ([0], [0]), ([1], [1]), ([2], [2]), ([3], [3]), ([], []), ([5], [5]), ([6], [6]), ([7], [7]), ([4, 8], [4, 8]), ([9, 0, 1, 2, 3, 4, 5, 6, 7, 8, 9], [9])])
def rlf.B3 : List Nat := [0, 1, 3, 7, 15, 0, 32, 96, 224, 511, 1023]
theorem rlf.tab3 : rtab .any (opsOf Try.f54 3) = rlf.T3 := by kernel_rfl
theorem rlf.bits3 : waitsOk rlf.T3.2 rlf.B3 = true := by kernel_rfl
def ren.T5 : Bool × List (List Nat × List Nat) := (true, [([], []), ([0], [0]), ([1], [1]), ([2], [2]), ([], []), ([4], [4]), ([5], [5]), ([6], [6]), ([7], [7]), ([3, 8], [3, 8]), ([9], [9])])
def ren.B5 : List Nat := [0, 1, 3, 7, 0, 16, 48, 112, 240, 511, 1023]
theorem ren.tab5 : rtab .any (opsOf Try.f56 5) = ren.T5 := by kernel_rfl
theorem ren.bits5 : waitsOk ren.T5.2 ren.B5 = true := by kernel_rfl
theorem Rd_Text (g : Nat) (s : ByteArray) (hs : s.size ≤ 140737488355328) (a : Nat) (er most : Int) {N : Nat} {w : World} {L : List Res} (HS0 : St N w (Blk g #[.string s, .int .i64 a, .int .i64 er] 98 :: L)) :
    Calls Try.prog 52 #[.pointer (some ⟨g, 0, none⟩), .int .i64 most] w fun e w' => e = .returned (.string (txtS s a er most).1) ∧ St N w' (Blk g #[.string s, .int .i64 (txtS s a er most).2.1, .int .i64 (txtS s a er most).2.2] 98 :: L) ∧ Below N w w' := by
  have HS := Aside0.mk HS0
  have HB := Aside0.mk (Below.refl N w)
  clear HS0
  by_cases he : er = 0
  · subst he
    have h0 : ((0 : Int) == 0) = true := rfl
    by_cases hz : sizE s a most 5 = 0
    · simp only [txtS, if_true, if_pos hz]
      have hle := sizE_le s a most 5 (by decide) hz
      obtain ⟨k, hn⟩ : ∃ k : Nat, (numR s a).1 = (k : Int) := ⟨(numR s a).1.toNat, by omega⟩
      obtain ⟨nx, hnx⟩ : ∃ n, (numR s a).2.1 = n := ⟨_, rfl⟩
      rw [hn, hnx] at hle ⊢
      rw [Int.toNat_natCast]
      replace hz := Aside0.mk hz
      have r1 : wrap64 ((nx : Int) + (k : Int)) = (nx : Int) + (k : Int) := wrap64_small _ (by omega) (by omega)
      have r2 : (0 : Int) ≤ (nx : Int) := by omega
      have r3 : (nx : Int) ≤ (nx : Int) + (k : Int) := by omega
      have r4 : (nx : Int) + (k : Int) ≤ (s.size : Int) := by omega
      have r5 : ((nx : Int) + (k : Int)).toNat = nx + k := by omega
      rw [Int.natCast_add]
      go_enter Try.func52, Try.ntmps52
      go_upto_region 7 with (first | ((with_reducible refine gate_callee (f := 72) rfl ?_); refine goesL_ (some 9) rfl rfl Try.func72 (by kernel_rfl) rfl #[.pointer (some ⟨g, 0, none⟩)] rfl (by (try simp only [List.map_toArray, List.map_cons, List.map_nil]); first | done | rfl | (simp only [List.length_drop, List.length_take]; rfl)) ?_; (with_reducible refine (Rd_ok_to g s hs a 0 true h0 HS.out).mono ?_); rintro e w1 ⟨rfl, rfl⟩; refine ⟨_, rfl, ?_⟩; have n0_ := Aside0.mk (HS.out); have n1_ := Aside0.mk (HB.out); clear HS HB; have HS := n0_; have HB := n1_; clear n0_ n1_; (try simp only [List.eraseIdx_cons_succ, List.eraseIdx_cons_zero] at HS); have hc0_0 := ((HS.out.pick 0 rfl).cell 0).trans (show _ = some (.string s) from rfl); have hc0_1 := ((HS.out.pick 0 rfl).cell 1).trans (show _ = some (.int .i64 a) from rfl); have hc0_2 := ((HS.out.pick 0 rfl).cell 2).trans (show _ = some (.int .i64 0) from rfl)) | ((with_reducible refine gate_callee (f := 75) rfl ?_); refine goesL_ (some 14) rfl rfl Try.func75 (by kernel_rfl) rfl #[.pointer (some ⟨g, 0, none⟩), .int .i64 most, .int .i64 5] rfl (by (try simp only [List.map_toArray, List.map_cons, List.map_nil]); first | done | rfl | (simp only [List.length_drop, List.length_take]; rfl)) ?_; (with_reducible refine (Rd_size_ok g s hs a most 5 (by decide) hz.out HS.out).mono ?_); rintro e w2 ⟨rfl, hs1, hb⟩; rw [hn, hnx]; clear hc0_0 hc0_1 hc0_2; refine ⟨_, rfl, ?_⟩; have n0_ := Aside0.mk (hs1); have n1_ := Aside0.mk (HB.out.trans hb); clear HS HB; have HS := n0_; have HB := n1_; clear n0_ n1_; (try simp only [List.eraseIdx_cons_succ, List.eraseIdx_cons_zero] at HS); clear hs1 hb; have hc0_0 := ((HS.out.pick 0 rfl).cell 0).trans (show _ = some (.string s) from rfl); have hc0_1 := ((HS.out.pick 0 rfl).cell 1).trans (show _ = some (.int .i64 a) from rfl); have hc0_2 := ((HS.out.pick 0 rfl).cell 2).trans (show _ = some (.int .i64 0) from rfl); have hf0_1 := HS.out.frozen 1))
      have n0_ := Aside0.mk ((HS.out.pick 0 rfl).set 1 (.int .i64 ((nx : Int) + (k : Int))) #[.string s, .int .i64 ((nx : Int) + (k : Int)), .int .i64 0] rfl); have n1_ := Aside0.mk ((HS.out.pick 0 rfl).below_set (i := 1) (u := .int .i64 ((nx : Int) + (k : Int))) HB.out); clear HS HB; have HS := n0_; have HB := n1_; clear n0_ n1_; (try simp only [List.eraseIdx_cons_succ, List.eraseIdx_cons_zero] at HS)
      generalize World.setCell _ _ _ = w5 at HS HB ⊢
      have n0_ := Aside0.mk (HS.out.drew); have n1_ := Aside0.mk (HB.out.drew); clear HS HB; have HS := n0_; have HB := n1_; clear n0_ n1_
      refine start_ (n := 11) (S := fun w' => w'.cell? ⟨g, 0, none⟩ = some (.string s) ∧ w'.cell? ⟨g, 1, none⟩ = some (.int .i64 ((nx : Int) + (k : Int)))) (ds := []) #[false, false, false, false, false, false, false, false, false, false, false] (by kernel_rfl) rfl rfl ⟨(HS.out.cell 0).trans rfl, (HS.out.cell 1).trans rfl⟩ (fun hHeld => ?_); refine with_tabW rtx.tab7 rtx.bits7 (fun HT_ HW_ => ?_)
      generalize w5.drew = w6 at HS HB hHeld ⊢
      refine pU 0 26 #[true, false, false, false, false, false, false, false, false, false, false] rfl rfl HT_ ?_
      refine pU 1 27 #[true, true, false, false, false, false, false, false, false, false, false] rfl rfl HT_ ?_
      refine pU 2 28 #[true, true, true, false, false, false, false, false, false, false, false] rfl rfl HT_ ?_
      refine pU 4 30 #[true, true, true, false, true, false, false, false, false, false, false] rfl rfl HT_ ?_
      refine pU 5 31 #[true, true, true, false, true, true, false, false, false, false, false] rfl rfl HT_ ?_
      refine pU 6 32 #[true, true, true, false, true, true, true, false, false, false, false] rfl rfl HT_ ?_
      refine pU 7 33 #[true, true, true, false, true, true, true, true, false, false, false] rfl rfl HT_ ?_
      refine tK 3 29 #[true, true, true, true, true, true, true, true, false, false, false] rfl rfl HT_ HW_ hHeld ?_ (by rintro w' ⟨s0, s1⟩; go_simp; with_reducible rfl)
      refine tK 8 34 #[true, true, true, true, true, true, true, true, true, false, false] rfl rfl HT_ HW_ hHeld ?_ (by rintro w' ⟨s0, s1⟩; go_simp; with_reducible rfl)
      refine pU 9 35 #[true, true, true, true, true, true, true, true, true, true, false] rfl rfl HT_ ?_
      refine pU 10 4 #[true, true, true, true, true, true, true, true, true, true, true] rfl rfl HT_ ?_
      refine done_ (done_of HT_.out (by kernel_rfl)) ?_
      clear HT_ HW_
      try clear hHeld
      go_wp2
      go_ret
      exact ⟨rfl, HS.out, HB.out⟩
    · simp only [txtS, if_true, if_neg hz]
      replace hz := Aside0.mk hz
      go_enter Try.func52, Try.ntmps52
      go_wp2_with (first | ((with_reducible refine gate_callee (f := 72) rfl ?_); refine goesL_ (some 9) rfl rfl Try.func72 (by kernel_rfl) rfl #[.pointer (some ⟨g, 0, none⟩)] rfl (by (try simp only [List.map_toArray, List.map_cons, List.map_nil]); first | done | rfl | (simp only [List.length_drop, List.length_take]; rfl)) ?_; (with_reducible refine (Rd_ok_to g s hs a 0 true h0 HS.out).mono ?_); rintro e w1 ⟨rfl, rfl⟩; refine ⟨_, rfl, ?_⟩; have n0_ := Aside0.mk (HS.out); have n1_ := Aside0.mk (HB.out); clear HS HB; have HS := n0_; have HB := n1_; clear n0_ n1_; (try simp only [List.eraseIdx_cons_succ, List.eraseIdx_cons_zero] at HS); have hc0_0 := ((HS.out.pick 0 rfl).cell 0).trans (show _ = some (.string s) from rfl); have hc0_1 := ((HS.out.pick 0 rfl).cell 1).trans (show _ = some (.int .i64 a) from rfl); have hc0_2 := ((HS.out.pick 0 rfl).cell 2).trans (show _ = some (.int .i64 0) from rfl)) | ((with_reducible refine gate_callee (f := 75) rfl ?_); refine goesL_ (some 14) rfl rfl Try.func75 (by kernel_rfl) rfl #[.pointer (some ⟨g, 0, none⟩), .int .i64 most, .int .i64 5] rfl (by (try simp only [List.map_toArray, List.map_cons, List.map_nil]); first | done | rfl | (simp only [List.length_drop, List.length_take]; rfl)) ?_; (with_reducible refine (Rd_size_bad g s hs a most 5 (by decide) _ rfl hz.out HS.out).mono ?_); rintro e w2 ⟨rfl, hs1, hb⟩; clear hc0_0 hc0_1 hc0_2; refine ⟨_, rfl, ?_⟩; have n0_ := Aside0.mk (hs1); have n1_ := Aside0.mk (HB.out.trans hb); clear HS HB; have HS := n0_; have HB := n1_; clear n0_ n1_; (try simp only [List.eraseIdx_cons_succ, List.eraseIdx_cons_zero] at HS); clear hs1 hb))
      go_ret
      exact ⟨rfl, HS.out, HB.out⟩
  · have h0 : (er == 0) = false := by simpa using he
    simp only [txtS, if_neg he]
    go_enter Try.func52, Try.ntmps52
    go_wp2_with (first | ((with_reducible refine gate_callee (f := 72) rfl ?_); refine goesL_ (some 9) rfl rfl Try.func72 (by kernel_rfl) rfl #[.pointer (some ⟨g, 0, none⟩)] rfl (by (try simp only [List.map_toArray, List.map_cons, List.map_nil]); first | done | rfl | (simp only [List.length_drop, List.length_take]; rfl)) ?_; (with_reducible refine (Rd_ok_to g s hs a er false h0 HS.out).mono ?_); rintro e w1 ⟨rfl, rfl⟩; refine ⟨_, rfl, ?_⟩; have n0_ := Aside0.mk (HS.out); have n1_ := Aside0.mk (HB.out); clear HS HB; have HS := n0_; have HB := n1_; clear n0_ n1_; (try simp only [List.eraseIdx_cons_succ, List.eraseIdx_cons_zero] at HS); have hc0_0 := ((HS.out.pick 0 rfl).cell 0).trans (show _ = some (.string s) from rfl); have hc0_1 := ((HS.out.pick 0 rfl).cell 1).trans (show _ = some (.int .i64 a) from rfl); have hc0_2 := ((HS.out.pick 0 rfl).cell 2).trans (show _ = some (.int .i64 er) from rfl)))
    go_ret
    exact ⟨rfl, HS.out, HB.out⟩

theorem Rd_Left (g : Nat) (s : ByteArray) (hs : s.size ≤ 140737488355328) (a : Nat) (er : Int) (ha : a ≤ s.size) {N : Nat} {w : World} {L : List Res} (HS0 : St N w (Blk g #[.string s, .int .i64 a, .int .i64 er] 98 :: L)) :
    Calls Try.prog 54 #[.pointer (some ⟨g, 0, none⟩)] w fun e w' => e = .returned (.int .i64 ((s.size : Int) - a)) ∧ St N w' (Blk g #[.string s, .int .i64 a, .int .i64 er] 98 :: L) ∧ Below N w w' := by
  have HS := Aside0.mk HS0
  have HB := Aside0.mk (Below.refl N w)
  clear HS0
  have r1 : wrap64 ((s.size : Int) - (a : Int)) = (s.size : Int) - (a : Int) := wrap64_small _ (by omega) (by omega)
  go_enter Try.func54, Try.ntmps54
  go_upto_region 3 with (fail)
  have n0_ := Aside0.mk (HS.out.drew); have n1_ := Aside0.mk (HB.out.drew); clear HS HB; have HS := n0_; have HB := n1_; clear n0_ n1_
  refine start_ (n := 11) (S := fun w' => w'.cell? ⟨g, 0, none⟩ = some (.string s) ∧ w'.cell? ⟨g, 1, none⟩ = some (.int .i64 a)) (ds := []) #[false, false, false, false, false, false, false, false, false, false, false] (by kernel_rfl) rfl rfl ⟨(HS.out.cell 0).trans rfl, (HS.out.cell 1).trans rfl⟩ (fun hHeld => ?_); refine with_tabW rlf.tab3 rlf.bits3 (fun HT_ HW_ => ?_)
  generalize w.drew = w6 at HS HB hHeld ⊢
  refine pU 0 5 #[true, false, false, false, false, false, false, false, false, false, false] rfl rfl HT_ ?_
  refine pU 1 6 #[true, true, false, false, false, false, false, false, false, false, false] rfl rfl HT_ ?_
  refine pU 2 7 #[true, true, true, false, false, false, false, false, false, false, false] rfl rfl HT_ ?_
  refine pU 5 10 #[true, true, true, false, false, true, false, false, false, false, false] rfl rfl HT_ ?_
  refine pU 6 11 #[true, true, true, false, false, true, true, false, false, false, false] rfl rfl HT_ ?_
  refine pU 7 12 #[true, true, true, false, false, true, true, true, false, false, false] rfl rfl HT_ ?_
  refine tK 3 8 #[true, true, true, true, false, true, true, true, false, false, false] rfl rfl HT_ HW_ hHeld ?_ (by rintro w' ⟨s0, s1⟩; go_simp; with_reducible rfl)
  refine pU 4 9 #[true, true, true, true, true, true, true, true, false, false, false] rfl rfl HT_ ?_
  refine tK 8 13 #[true, true, true, true, true, true, true, true, true, false, false] rfl rfl HT_ HW_ hHeld ?_ (by rintro w' ⟨s0, s1⟩; go_simp; with_reducible rfl)
  refine pU 9 14 #[true, true, true, true, true, true, true, true, true, true, false] rfl rfl HT_ ?_
  refine pU 10 2 #[true, true, true, true, true, true, true, true, true, true, true] rfl rfl HT_ ?_
  refine done_ (done_of HT_.out (by kernel_rfl)) ?_
  clear HT_ HW_
  try clear hHeld
  go_wp2
  go_ret
  exact ⟨rfl, HS.out, HB.out⟩
theorem Rd_End (g : Nat) (s : ByteArray) (hs : s.size ≤ 140737488355328) (a : Nat) (er : Int) {N : Nat} {w : World} {L : List Res} (HS0 : St N w (Blk g #[.string s, .int .i64 a, .int .i64 er] 98 :: L)) :
    Calls Try.prog 56 #[.pointer (some ⟨g, 0, none⟩)] w fun e w' => e = .returned (.int .i64 (if er = 0 then (if a < s.size then 3 else 0) else er)) ∧ St N w' (Blk g #[.string s, .int .i64 a, .int .i64 er] 98 :: L) ∧ Below N w w' := by
  have HS := Aside0.mk HS0
  have HB := Aside0.mk (Below.refl N w)
  clear HS0
  have hc0_2 := (HS.out.cell 2).trans (show _ = some (.int .i64 er) from rfl)
  by_cases he : er = 0
  · subst he
    simp only [if_true]
    by_cases h1 : a < s.size
    · have q1 : decide ((a : Int) < (s.size : Int)) = true := decide_eq_true (by omega)
      have q2 : ((a : Int) < (s.size : Int)) = True := eq_true (by omega)
      rw [if_pos h1]
      replace h1 := Aside0.mk h1
      go_enter Try.func56, Try.ntmps56
      go_upto_region 5 with (fail)
      have n0_ := Aside0.mk (HS.out.drew); have n1_ := Aside0.mk (HB.out.drew); clear HS HB; have HS := n0_; have HB := n1_; clear n0_ n1_
      refine start_ (n := 11) (S := fun w' => w'.cell? ⟨g, 0, none⟩ = some (.string s) ∧ w'.cell? ⟨g, 1, none⟩ = some (.int .i64 a)) (ds := []) #[false, false, false, false, false, false, false, false, false, false, false] (by kernel_rfl) rfl rfl ⟨(HS.out.cell 0).trans rfl, (HS.out.cell 1).trans rfl⟩ (fun hHeld => ?_); refine with_tabW ren.tab5 ren.bits5 (fun HT_ HW_ => ?_)
      generalize w.drew = w6 at HS HB hHeld ⊢
      refine pU 0 17 #[true, false, false, false, false, false, false, false, false, false, false] rfl rfl HT_ ?_
      refine pU 1 18 #[true, true, false, false, false, false, false, false, false, false, false] rfl rfl HT_ ?_
      refine pU 2 19 #[true, true, true, false, false, false, false, false, false, false, false] rfl rfl HT_ ?_
      refine pU 4 21 #[true, true, true, false, true, false, false, false, false, false, false] rfl rfl HT_ ?_
      refine pU 5 22 #[true, true, true, false, true, true, false, false, false, false, false] rfl rfl HT_ ?_
      refine pU 6 23 #[true, true, true, false, true, true, true, false, false, false, false] rfl rfl HT_ ?_
      refine tK 3 20 #[true, true, true, true, true, true, true, false, false, false, false] rfl rfl HT_ HW_ hHeld ?_ (by rintro w' ⟨s0, s1⟩; go_simp; with_reducible rfl)
      refine tK 7 24 #[true, true, true, true, true, true, true, true, false, false, false] rfl rfl HT_ HW_ hHeld ?_ (by rintro w' ⟨s0, s1⟩; go_simp; with_reducible rfl)
      refine pU 8 25 #[true, true, true, true, true, true, true, true, true, false, false] rfl rfl HT_ ?_
      refine pU 9 26 #[true, true, true, true, true, true, true, true, true, true, false] rfl rfl HT_ ?_
      refine pU 10 16 #[true, true, true, true, true, true, true, true, true, true, true] rfl rfl HT_ ?_
      refine done_ (done_of HT_.out (by kernel_rfl)) ?_
      clear HT_ HW_
      try clear hHeld
      go_wp2
      go_ret
      exact ⟨rfl, HS.out, HB.out⟩
    · have q1 : decide ((a : Int) < (s.size : Int)) = false := decide_eq_false (by omega)
      have q2 : ((a : Int) < (s.size : Int)) = False := eq_false (by omega)
      rw [if_neg h1]
      replace h1 := Aside0.mk h1
      go_enter Try.func56, Try.ntmps56
      go_upto_region 5 with (fail)
      have n0_ := Aside0.mk (HS.out.drew); have n1_ := Aside0.mk (HB.out.drew); clear HS HB; have HS := n0_; have HB := n1_; clear n0_ n1_
      refine start_ (n := 11) (S := fun w' => w'.cell? ⟨g, 0, none⟩ = some (.string s) ∧ w'.cell? ⟨g, 1, none⟩ = some (.int .i64 a)) (ds := []) #[false, false, false, false, false, false, false, false, false, false, false] (by kernel_rfl) rfl rfl ⟨(HS.out.cell 0).trans rfl, (HS.out.cell 1).trans rfl⟩ (fun hHeld => ?_); refine with_tabW ren.tab5 ren.bits5 (fun HT_ HW_ => ?_)
      generalize w.drew = w6 at HS HB hHeld ⊢
      refine pU 0 17 #[true, false, false, false, false, false, false, false, false, false, false] rfl rfl HT_ ?_
      refine pU 1 18 #[true, true, false, false, false, false, false, false, false, false, false] rfl rfl HT_ ?_
      refine pU 2 19 #[true, true, true, false, false, false, false, false, false, false, false] rfl rfl HT_ ?_
      refine pU 4 21 #[true, true, true, false, true, false, false, false, false, false, false] rfl rfl HT_ ?_
      refine pU 5 22 #[true, true, true, false, true, true, false, false, false, false, false] rfl rfl HT_ ?_
      refine pU 6 23 #[true, true, true, false, true, true, true, false, false, false, false] rfl rfl HT_ ?_
      refine tK 3 20 #[true, true, true, true, true, true, true, false, false, false, false] rfl rfl HT_ HW_ hHeld ?_ (by rintro w' ⟨s0, s1⟩; go_simp; with_reducible rfl)
      refine tK 7 24 #[true, true, true, true, true, true, true, true, false, false, false] rfl rfl HT_ HW_ hHeld ?_ (by rintro w' ⟨s0, s1⟩; go_simp; with_reducible rfl)
      refine pU 8 25 #[true, true, true, true, true, true, true, true, true, false, false] rfl rfl HT_ ?_
      refine pU 9 26 #[true, true, true, true, true, true, true, true, true, true, false] rfl rfl HT_ ?_
      refine pU 10 16 #[true, true, true, true, true, true, true, true, true, true, true] rfl rfl HT_ ?_
      refine done_ (done_of HT_.out (by kernel_rfl)) ?_
      clear HT_ HW_
      try clear hHeld
      go_wp2
      go_ret
      exact ⟨rfl, HS.out, HB.out⟩
  · rw [if_neg he]
    have q1 : (er != 0) = true := by simpa using he
    replace he := Aside0.mk he
    go_enter Try.func56, Try.ntmps56
    go_wp2
    go_ret
    exact ⟨rfl, HS.out, HB.out⟩
theorem Rd_New (s : ByteArray) {N : Nat} {w : World} {L : List Res} (HS0 : St N w L) :
    Calls Try.prog 48 #[.string s] w fun e w' => ∃ g : Nat, e = .returned (.pointer (some ⟨g, 0, none⟩)) ∧ St N w' (Blk g #[.string s, .int .i64 ((0 : Nat) : Int), .int .i64 0] 98 :: L) ∧ Below N w w' := by
  have HS := Aside0.mk HS0
  have HB := Aside0.mk (Below.refl N w)
  clear HS0
  go_enter Try.func48, Try.ntmps48
  go_wp2_with (first | ((with_reducible refine gate_dst (N := 5) rfl ?_); refine box_event ?hg (N := 5) ?hd (cs := #[.string s, .int .i64 0, .int .i64 0]) (t := 98) ?hr ?_; (case hd => rfl); (case hg => rfl); (case hr => first | (go_simp; done) | (go_simp; rfl)); intro g hg w1 hbox hb; have n0_ := Aside0.mk (HS.out.box hg hbox hb); have n1_ := Aside0.mk (below_step' HB.out HS.out.size hb); clear HS HB; have HS := n0_; have HB := n1_; clear n0_ n1_; (try simp only [List.eraseIdx_cons_succ, List.eraseIdx_cons_zero] at HS); clear hb hbox hg))
  go_ret
  exact ⟨g, rfl, HS.out, HB.out⟩

end Go.Proofs.Ytddhpkobingmhaa.PB
