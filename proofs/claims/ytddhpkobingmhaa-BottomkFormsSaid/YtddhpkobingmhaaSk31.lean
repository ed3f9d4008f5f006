/- The Writer: Number (of a number that is not negative), Bool, Text, Bytes. -/
import Derived.Test.YtddhpkobingmhaaWrM
import Derived.Test.YtddhpkobingmhaaJ8

namespace Go.Proofs.Ytddhpkobingmhaa.PB
open Go.RowKit Go.Proofs.YtddhpkobingmhaaW.PrintWords Go.Proofs.YtddhpkobingmhaaW.PrintLast Go.Proofs.YtddhpkobingmhaaW.PrintMore Go.Proofs.Ytddhpkobingmhaa.Sep
set_option linter.unusedVariables false
set_option linter.unusedSimpArgs false
set_option maxHeartbeats 8000000
set_option maxRecDepth 100000

theorem mag_ok (n : Nat) (h : n < 4611686018427387904) : encoding_magnitude.f (n : Int) = some (n : Int) := by
  unfold encoding_magnitude.f
  rw [if_neg (by omega), IntKind.wrap_u64]
  congr 1
  omega
theorem xor0 : ∀ x : Fin 256, bits BinOp.xor IntKind.u8 (x.val : Int) 0 = (x.val : Int) := by decide +kernel
theorem dg_eq (n i : Nat) : bits BinOp.xor IntKind.u8 (IntKind.u8.wrap ((n : Int) / 2 ^ (8 * (i : Int)).toNat)) 0 = dgN n i := by
  have e1 : ((n : Int) / 2 ^ (8 * (i : Int)).toNat) = ((n / 256 ^ i : Nat) : Int) := by
    rw [show (8 * (i : Int)).toNat = 8 * i by omega]
    have h2 : (256 : Nat) ^ i = 2 ^ (8 * i) := by rw [Nat.pow_mul]
    rw [h2]
    push_cast
    rfl
  rw [e1, IntKind.wrap_u8]
  have h := xor0 ⟨n / 256 ^ i % 256, Nat.mod_lt _ (by decide)⟩
  simp only at h
  rw [show (((n / 256 ^ i : Nat) : Int) % 256) = ((n / 256 ^ i % 256 : Nat) : Int) by omega]
  exact h
theorem pred_small (s : Nat) (h : s ≤ 8) : wrap64 ((s : Int) - 1) = (s : Int) - 1 := by unfold wrap64; omega
theorem sz8 (n : Nat) (h : n < 4611686018427387904) : szN n ≤ 8 := szN_le 8 n (by omega)

def wnm.T14 : Bool × List (List Nat × List Nat) := (true, [([], []), ([], []), ([1], [1]), ([2], [2]), ([3], [3]), ([], []), ([], []), ([6], [6]), ([5, 7], [5, 7]), ([8], [8]), ([], []), ([9, 10], [9, 10]), ([11], [11]), ([4, 12], [4, 12]), ([0, 0, 1, 2, 3, 4, 5, 6, 7, 8, 9, 10, 11, 12, 13], [0]), ([14, 0, 1, 2, 3, 4, 5, 6, 7, 8, 9, 10, 11, 12, 13], [14]), ([15, 13, 13, 0, 1, 2, 3, 4, 5, 6, 7, 8, 9, 10, 11, 12, 13], [13, 15])])
def wnm.B14 : List Nat := [0, 0, 2, 6, 14, 0, 0, 64, 224, 480, 0, 2016, 4064, 8190, 16383, 32767, 65535]
theorem wnm.tab14 : rtab .any (opsOf Try.f58 14) = wnm.T14 := by kernel_rfl
theorem wnm.bits14 : waitsOk wnm.T14.2 wnm.B14 = true := by kernel_rfl
theorem Writer_Number (g n : Nat) (hn : n < 4611686018427387904) (bs : List Int) (hb : bs.length ≤ 1000000000000) {N : Nat} {w : World} {L : List Res} (HS0 : St N w (Wr g bs :: L)) :
    Calls Try.prog 58 #[.pointer (some ⟨g, 0, none⟩), .int .i64 n] w fun e w' => e = .returned (.tuple #[]) ∧ St N w' (Wr g (bs ++ numB n) :: L) ∧ Below N w w' := by
  have HS := Aside0.mk HS0
  have HB := Aside0.mk (Below.refl N w)
  have hmag := mag_ok n hn
  have hs8 := sz8 n hn
  have hbl : Aside0 ((bs.length + 1) * 1 ≤ 140737488355328) := ⟨by omega⟩
  clear HS0
  obtain ⟨A0, c0, h0_⟩ := Wr_open HS.out; clear HS; have HS := Aside0.mk h0_; clear h0_
  have hc0_0 := (HS.out.cell 0).trans (show _ = some (.slice A0 bs.length c0) from rfl)
  go_enter Try.func58, Try.ntmps58
  go_upto_region 3 with (first | ((with_reducible refine gate_callee (f := 79) rfl ?_); refine goesL_ (some 12) rfl rfl Try.func79 (by kernel_rfl) rfl #[.int .i64 n] rfl (by (try simp only [List.map_toArray, List.map_cons, List.map_nil]); first | done | rfl | (simp only [List.length_drop, List.length_take]; rfl)) ?_; (with_reducible refine (encoding_magnitude.calls (n : Int) (n : Int) _ hmag).mono ?_); rintro e w1 ⟨rfl, hb0⟩; have hb := hb0.below; clear hb0; refine ⟨_, rfl, ?_⟩; have n0_ := Aside0.mk (HS.out.step hb); have n1_ := Aside0.mk (below_step' HB.out HS.out.size hb); clear HS HB; have HS := n0_; have HB := n1_; clear n0_ n1_; (try simp only [List.eraseIdx_cons_succ, List.eraseIdx_cons_zero] at HS); clear hb))
  go_wp2
  go_loopw [5, 6] (fun v5 v6 wc => ∃ s x : Nat, s + szN x = szN n ∧ x ≤ n ∧ v5 = .int .i64 s ∧ v6 = .int .u64 x ∧ Aside0 (St N wc (Blk g #[.slice A0 bs.length c0] 77 :: Row (Kd.int .u8) 5 (.slice A0 bs.length c0) bs :: L)) ∧ Aside0 (Below N w wc)) (fun _ v6 _ => (intOf v6).toNat)
  case atStart => exact ⟨0, n, by omega, Nat.le_refl _, rfl, rfl, HS, HB⟩
  case round =>
    clear HS HB hc0_0
    obtain ⟨s, x, hsx, hxn, rfl, rfl, HS, HB⟩ := hrel
    by_cases hx : x = 0
    · subst hx
      rw [szN_zero] at hsx
      obtain rfl : s = szN n := by omega
      have t1 : wrap64 (128 + (szN n : Int)) = 128 + (szN n : Int) := wrap64_small _ (by omega) (by omega)
      have t2 : IntKind.u8.wrap (128 + (szN n : Int)) = 128 + (szN n : Int) := by rw [IntKind.wrap_u8]; omega
      have hc0_0 := (HS.out.cell 0).trans (show _ = some (.slice A0 bs.length c0) from rfl)
      go_upto_region 11 with (first | ((with_reducible refine gate_dst (N := 42) rfl ?_); refine S_lit (Kd.int .u8) 5 ?hg42 (Nt := 42) ?hd42 (xs := ([128 + (szN n : Int)] : List Int)) (inner := [.int .u8 (128 + (szN n : Int))]) ?hr42 ?hp42 HS.out (by simp) ?_; (case hd42 => rfl); (case hg42 => rfl); (case hr42 => first | (go_simp; done) | (go_simp; rfl)); (case hp42 => exact Reps.one (show Kd.M (Kd.int .u8) _ _ _ (128 + (szN n : Int)) [.int .u8 (128 + (szN n : Int))] from rfl) (Reps.none _ _)); intro vl w3 hs hb; have n0_ := Aside0.mk (hs); have n1_ := Aside0.mk (below_step' HB.out HS.out.size hb); clear HS HB; have HS := n0_; have HB := n1_; clear n0_ n1_; (try simp only [List.eraseIdx_cons_succ, List.eraseIdx_cons_zero] at HS); clear hs hb; obtain ⟨Al, cl, e_⟩ : ∃ (A : Option Addr) (c : Nat), vl = .slice A ([128 + (szN n : Int)] : List Int).length c := (by obtain ⟨A, c, e, _, _⟩ := (HS.out.pick 0 rfl).reads; exact ⟨A, c, e⟩); subst e_) | ((with_reducible refine gate_builtin (b := .append) (xs := #[.tmp 38, .tmp 42]) rfl ?_); at_builtin; refine S_append_rows (Kd.int .u8) rfl (.tmp 38) (.tmp 42) 24 5 (.int .u8 0) 1 rfl Try.underlying24 info5 rfl (by decide) (by omega) _ bs [128 + (szN n : Int)] Al 1 cl rfl rfl (fun _ _ h => h) (HS.out.pick 2 rfl) ?hC HB.out ?hl ?_; (case hC => exact (HS.out.pick 0 rfl).rowC.2.2); (case hl => exact hbl.out); intro v2 w4 hs hb; have n0_ := Aside0.mk (((hs.pick 1 rfl).drop).swap); have n1_ := Aside0.mk (hb); clear HS HB; have HS := n0_; have HB := n1_; clear n0_ n1_; (try simp only [List.eraseIdx_cons_succ, List.eraseIdx_cons_zero] at HS); clear hs hb; obtain ⟨A1, c1, e_⟩ : ∃ (A : Option Addr) (c : Nat), v2 = .slice A (bs ++ [128 + (szN n : Int)]).length c := (by obtain ⟨A, c, e, _, _⟩ := (HS.out.pick 1 rfl).reads; exact ⟨A, c, e⟩); subst e_; have hc0_0 := (HS.out.cell 0).trans (show _ = some (.slice A0 bs.length c0) from rfl); have hf0_0 := HS.out.frozen 0))
      have n0_ := Aside0.mk ((HS.out.pick 0 rfl).set 0 (.slice A1 (bs.length + 1) c1) #[.slice A1 (bs.length + 1) c1] rfl); have n1_ := Aside0.mk ((HS.out.pick 0 rfl).below_set (i := 0) (u := .slice A1 (bs.length + 1) c1) HB.out); clear HS HB; have HS := n0_; have HB := n1_; clear n0_ n1_; (try simp only [List.eraseIdx_cons_succ, List.eraseIdx_cons_zero] at HS)
      generalize World.setCell _ _ _ = w5 at HS HB ⊢
      have h0_ : St N w5 (Wr g (bs ++ [128 + (szN n : Int)]) :: L) := by
        have h1_ := HS.out
        rw [show bs.length + 1 = (bs ++ [128 + (szN n : Int)]).length by simp] at h1_
        exact Wr_shut h1_
      clear HS hc0_0 hf0_0 t1 t2
      have HS := Aside0.mk h0_
      clear h0_
      have t3 : wrap64 ((szN n : Int) - 1) = (szN n : Int) - 1 := pred_small _ hs8
      go_wp2
      go_loopw [8] (fun v8 wc => ∃ (j : Nat) (xs : List Int), j ≤ szN n ∧ xs ++ digs n j = bs ++ numB n ∧ v8 = .int .i64 ((j : Int) - 1) ∧ Aside0 (St N wc (Wr g xs :: L)) ∧ Aside0 (Below N w wc)) (fun v8 _ => (intOf v8 + 1).toNat)
      case atStart => exact ⟨szN n, bs ++ [128 + (szN n : Int)], Nat.le_refl _, by simp [numB], rfl, HS, HB⟩
      case round =>
        clear HS HB t3
        obtain ⟨j, xs, hj, hxs, rfl, HS, HB⟩ := hrel
        have hlx : xs.length + j = bs.length + 1 + szN n := by
          have := congrArg List.length hxs
          simp only [List.length_append, digs_len, numB, List.length_cons] at this
          omega
        cases j with
        | zero =>
          have t4 : decide (((0 : Nat) : Int) - 1 ≥ 0) = false := rfl
          have t5 : ((((0 : Nat) : Int) - 1) ≥ 0) = False := eq_false (by omega)
          go_wp2
          go_end0
          refine ⟨rfl, ?_, HB.out⟩
          rw [← hxs, digs, List.append_nil]
          exact HS.out
        | succ i =>
          rw [show (((i + 1 : Nat) : Int) - 1) = (i : Int) by omega]
          have t4 : decide ((i : Int) ≥ 0) = true := decide_eq_true (by omega)
          have t6 : wrap64 (8 * (i : Int)) = 8 * (i : Int) := wrap64_small _ (by omega) (by omega)
          have t7 := dg_eq n i
          obtain ⟨A0, c0, h0_⟩ := Wr_open HS.out; clear HS; have HS := Aside0.mk h0_; clear h0_
          go_upto_region 14 with (fail)
          have n0_ := Aside0.mk (HS.out.drew); have n1_ := Aside0.mk (HB.out.drew); clear HS HB; have HS := n0_; have HB := n1_; clear n0_ n1_
          refine start_ (n := 17) (S := fun w' => w'.cell? ⟨g, 0, none⟩ = some (.slice A0 xs.length c0)) (ds := [16]) (tfs true [0, 17]).toArray (by kernel_rfl) rfl rfl ((HS.out.cell 0).trans rfl) (fun hHeld => ?_); refine with_tabW wnm.tab14 wnm.bits14 (fun HT_ HW_ => ?_)
          generalize wr.drew = w3 at HS HB hHeld ⊢
          refine pU 0 52 (tfs true [1, 16]).toArray rfl rfl HT_ ?_
          refine pU 1 53 (tfs true [2, 15]).toArray rfl rfl HT_ ?_
          refine pU 2 54 (tfs true [3, 14]).toArray rfl rfl HT_ ?_
          refine pU 3 55 (tfs true [4, 13]).toArray rfl rfl HT_ ?_
          refine pU 5 57 (tfs true [4, 1, 1, 11]).toArray rfl rfl HT_ ?_
          refine pU 6 58 (tfs true [4, 1, 2, 10]).toArray rfl rfl HT_ ?_
          refine pU 7 59 (tfs true [4, 1, 3, 9]).toArray rfl rfl HT_ ?_
          refine pU 8 60 (tfs true [4, 1, 4, 8]).toArray rfl rfl HT_ ?_
          refine pU 9 61 (tfs true [4, 1, 5, 7]).toArray rfl rfl HT_ ?_
          refine pU 10 62 (tfs true [4, 1, 6, 6]).toArray rfl rfl HT_ ?_
          refine pU 11 63 (tfs true [4, 1, 7, 5]).toArray rfl rfl HT_ ?_
          refine tK 4 56 (tfs true [12, 5]).toArray rfl rfl HT_ HW_ hHeld ?_ (by rintro w' s0; go_simp; with_reducible rfl)
          refine one_ (i := 12) (N := some 64) (tfs true [13, 4]).toArray rfl rfl (one_of HT_.out (by kernel_rfl)) (by decide) (fun K hK => ?_)
          refine S_lit_step (Kd.int .u8) 5 (by rfl) (Nt := 64) rfl (xs := ([(dgN n i)] : List Int)) (inner := [.int .u8 (dgN n i)]) ?hr ?hp HS.out (by simp) ?_
          (case hr => first | (go_simp; done) | (go_simp; rfl))
          (case hp => exact Reps.one (show Kd.M (Kd.int .u8) _ _ _ (dgN n i) [.int .u8 (dgN n i)] from rfl) (Reps.none _ _))
          intro vl w4 hs hb
          have n0_ := Aside0.mk (((hs.pick 2 rfl).pick 2 rfl)); have n1_ := Aside0.mk (below_step' HB.out HS.out.size hb); clear HS HB; have HS := n0_; have HB := n1_; clear n0_ n1_; (try simp only [List.eraseIdx_cons_succ, List.eraseIdx_cons_zero] at HS)
          clear hs hb
          obtain ⟨Al, cl, e_⟩ : ∃ (A : Option Addr) (c : Nat), vl = .slice A ([(dgN n i)] : List Int).length c := (by obtain ⟨A, c, e, _, _⟩ := (HS.out.pick 2 rfl).reads; exact ⟨A, c, e⟩); subst e_
          refine hK.out _ _ ((HS.out.cell 0).trans rfl) (fun hHeld => ?_)
          clear hK K
          refine norm_ (a' := ?_) ?_ ?_
          rotate_left
          · show Act.put _ (some 64) _ = _
            simp only [Act.put, List.setIfInBounds_toArray, List.set_cons_zero, List.set_cons_succ, i64_w, i32_w]
            rfl
          refine one_ (i := 13) (N := some 65) (tfs true [14, 3]).toArray rfl rfl (one_of HT_.out (by kernel_rfl)) (by decide) (fun K hK => ?_)
          refine S_append_rows_step (Kd.int .u8) (by rfl) (.tmp 56) (.tmp 64) 24 5 (.int .u8 0) 1 rfl Try.underlying24 info5 rfl (by decide) (by omega) _ xs [(dgN n i)] Al 1 cl rfl rfl (fun _ _ h => h) (HS.out.pick 1 rfl) (HS.out.pick 2 rfl).rowC.2.2 HB.out (by omega) ?_
          intro v2 w5 hs hb
          have n0_ := Aside0.mk ((hs.pick 1 rfl)); have n1_ := Aside0.mk (hb); clear HS HB; have HS := n0_; have HB := n1_; clear n0_ n1_; (try simp only [List.eraseIdx_cons_succ, List.eraseIdx_cons_zero] at HS)
          clear hs hb
          obtain ⟨A1, c1, e_⟩ : ∃ (A : Option Addr) (c : Nat), v2 = .slice A (xs ++ [(dgN n i)]).length c := (by obtain ⟨A, c, e, _, _⟩ := (HS.out.pick 1 rfl).reads; exact ⟨A, c, e⟩); subst e_
          have hc0_0 := (HS.out.cell 0).trans (show _ = some (.slice A0 xs.length c0) from rfl)
          have hf0_0 := HS.out.frozen 0
          refine hK.out _ _ ((HS.out.cell 0).trans rfl) (fun hHeld => ?_)
          clear hK K
          refine norm_ (a' := ?_) ?_ ?_
          rotate_left
          · show Act.put _ (some 65) _ = _
            simp only [Act.put, List.setIfInBounds_toArray, List.set_cons_zero, List.set_cons_succ, i64_w, i32_w]
            rfl
          refine pU 14 66 (tfs true [15, 2]).toArray rfl rfl HT_ ?_
          refine pU 15 67 (tfs true [16, 1]).toArray rfl rfl HT_ ?_
          refine last_ (i := 16) (N := none) (tfs true [17]).toArray rfl rfl (one_of HT_.out (by kernel_rfl)) (by decide) (fun K hK => ?_)
          refine skip_ (w1 := ?_) (by rfl) rfl ?_ ?_
          rotate_left
          · go_simp
            rfl
          clear hc0_0 hf0_0
          have n0_ := Aside0.mk ((HS.out.pick 0 rfl).set 0 (.slice A1 (xs.length + 1) c1) #[.slice A1 (xs.length + 1) c1] rfl); have n1_ := Aside0.mk ((HS.out.pick 0 rfl).below_set (i := 0) (u := .slice A1 (xs.length + 1) c1) HB.out); clear HS HB; have HS := n0_; have HB := n1_; clear n0_ n1_; (try simp only [List.eraseIdx_cons_succ, List.eraseIdx_cons_zero] at HS)
          refine hK.out _ _ ?_
          clear hK K
          refine done_ (done_of HT_.out (by kernel_rfl)) ?_
          clear HT_ HW_
          try clear hHeld
          generalize World.setCell _ _ _ = w6 at HS HB ⊢
          have h0_ : St N w6 (Wr g (xs ++ [dgN n i]) :: L) := by
            have h1_ := HS.out
            rw [show xs.length + 1 = (xs ++ [dgN n i]).length by simp] at h1_
            exact (Wr_shut h1_).swap.drop
          clear HS
          have HS := Aside0.mk h0_
          clear h0_
          go_wp2
          refine ⟨⟨i, xs ++ [dgN n i], by omega, by rw [← hxs, digs, List.append_assoc]; rfl, ?_, HS, HB⟩, ?_⟩
          · rfl
          · simp only [intOf]; omega
    · go_wp2
      refine ⟨⟨s + 1, x / 256, ?_, by omega, by go_num, by go_num, HS, HB⟩, ?_⟩
      · rw [szN_step hx] at hsx; omega
      · simp only [intOf]; omega

theorem Writer_Num (g n : Nat) (z : Int) (hz : (n : Int) = z) (hn : n < 4611686018427387904) (bs : List Int) (hb : bs.length ≤ 1000000000000) {N : Nat} {w : World} {L : List Res} (HS0 : St N w (Wr g bs :: L)) :
    Calls Try.prog 58 #[.pointer (some ⟨g, 0, none⟩), .int .i64 z] w fun e w' => e = .returned (.tuple #[]) ∧ St N w' (Wr g (bs ++ numB n) :: L) ∧ Below N w w' := by
  subst hz
  exact Writer_Number g n hn bs hb HS0
def b2n (b : Bool) : Nat := if b then 1 else 0

theorem Writer_Bool (g : Nat) (b : Bool) (bs : List Int) (hb : bs.length ≤ 1000000000000) {N : Nat} {w : World} {L : List Res} (HS0 : St N w (Wr g bs :: L)) :
    Calls Try.prog 59 #[.pointer (some ⟨g, 0, none⟩), .bool b] w fun e w' => e = .returned (.tuple #[]) ∧ St N w' (Wr g (bs ++ numB (b2n b)) :: L) ∧ Below N w w' := by
  have HS := Aside0.mk HS0
  have HB := Aside0.mk (Below.refl N w)
  clear HS0
  cases b
  all_goals
    go_enter Try.func59, Try.ntmps59
    go_wp2_with (first | ((with_reducible refine gate_callee (f := 58) rfl ?_); refine goesL_ (some 8) rfl rfl Try.func58 (by kernel_rfl) rfl #[.pointer (some ⟨g, 0, none⟩), .int .i64 0] rfl (by (try simp only [List.map_toArray, List.map_cons, List.map_nil]); first | done | rfl | (simp only [List.length_drop, List.length_take]; rfl)) ?_; (with_reducible refine (Writer_Num g 0 0 rfl (by decide) bs hb HS.out).mono ?_); rintro e w1 ⟨rfl, hs1, hb1⟩; refine ⟨_, rfl, ?_⟩; have n0_ := Aside0.mk (hs1); have n1_ := Aside0.mk (HB.out.trans hb1); clear HS HB; have HS := n0_; have HB := n1_; clear n0_ n1_; (try simp only [List.eraseIdx_cons_succ, List.eraseIdx_cons_zero] at HS); clear hs1 hb1) | ((with_reducible refine gate_callee (f := 58) rfl ?_); refine goesL_ (some 8) rfl rfl Try.func58 (by kernel_rfl) rfl #[.pointer (some ⟨g, 0, none⟩), .int .i64 1] rfl (by (try simp only [List.map_toArray, List.map_cons, List.map_nil]); first | done | rfl | (simp only [List.length_drop, List.length_take]; rfl)) ?_; (with_reducible refine (Writer_Num g 1 1 rfl (by decide) bs hb HS.out).mono ?_); rintro e w1 ⟨rfl, hs1, hb1⟩; refine ⟨_, rfl, ?_⟩; have n0_ := Aside0.mk (hs1); have n1_ := Aside0.mk (HB.out.trans hb1); clear HS HB; have HS := n0_; have HB := n1_; clear n0_ n1_; (try simp only [List.eraseIdx_cons_succ, List.eraseIdx_cons_zero] at HS); clear hs1 hb1))
    go_end0
    exact ⟨rfl, HS.out, HB.out⟩

def textB (s : ByteArray) : List Int := numB s.size ++ bytesOf s
theorem numB_len (n : Nat) (h : n < 4611686018427387904) : (numB n).length ≤ 9 := by
  rw [numB, List.length_cons, digs_len]
  have := sz8 n h
  omega
theorem Writer_Text (g : Nat) (s : ByteArray) (hs : s.size ≤ 1000000) (bs : List Int) (hb : bs.length ≤ 100000000000) {N : Nat} {w : World} {L : List Res} (HS0 : St N w (Wr g bs :: L)) :
    Calls Try.prog 60 #[.pointer (some ⟨g, 0, none⟩), .string s] w fun e w' => e = .returned (.tuple #[]) ∧ St N w' (Wr g (bs ++ textB s) :: L) ∧ Below N w w' := by
  have HS := Aside0.mk HS0
  have HB := Aside0.mk (Below.refl N w)
  obtain ⟨bs2, hbs2⟩ : ∃ l, bs ++ numB s.size = l := ⟨_, rfl⟩
  obtain ⟨bs3, hbs3⟩ : ∃ l, bs2 ++ bytesOf s = l := ⟨_, rfl⟩
  have hl2 : Aside0 (bs2.length + s.size ≤ 140737488355328) := ⟨by
    have := numB_len s.size (by omega)
    rw [← hbs2, List.length_append]; omega⟩
  replace hbs2 := Aside0.mk hbs2
  replace hbs3 := Aside0.mk hbs3
  rw [textB, ← List.append_assoc, hbs2.out, hbs3.out]
  clear HS0
  go_enter Try.func60, Try.ntmps60
  go_wp2_with (first | ((with_reducible refine gate_callee (f := 58) rfl ?_); refine goesL_ (some 9) rfl rfl Try.func58 (by kernel_rfl) rfl #[.pointer (some ⟨g, 0, none⟩), .int .i64 s.size] rfl (by (try simp only [List.map_toArray, List.map_cons, List.map_nil]); first | done | rfl | (simp only [List.length_drop, List.length_take]; rfl)) ?_; (with_reducible refine (Writer_Num g s.size s.size rfl (by omega) bs (by omega) HS.out).mono ?_); rintro e w1 ⟨rfl, hs1, hb1⟩; rw [hbs2.out] at hs1; refine ⟨_, rfl, ?_⟩; have n0_ := Aside0.mk (hs1); have n1_ := Aside0.mk (HB.out.trans hb1); clear HS HB; have HS := n0_; have HB := n1_; clear n0_ n1_; (try simp only [List.eraseIdx_cons_succ, List.eraseIdx_cons_zero] at HS); clear hs1 hb1; obtain ⟨A2, c2, h0_⟩ := Wr_open HS.out; clear HS; have HS := Aside0.mk h0_; clear h0_; have hc0_0 := (HS.out.cell 0).trans (show _ = some (.slice A2 bs2.length c2) from rfl); have hf0_0 := HS.out.frozen 0) | ((with_reducible refine gate_builtin (b := .append) (xs := #[.tmp 14, .tmp 15]) rfl ?_); at_builtin; refine S_append_str rfl (.tmp 14) (.tmp 15) 24 9 5 rfl Try.underlying24 Try.underlying9 info5 _ bs2 s rfl rfl (HS.out.pick 1 rfl) HB.out hl2.out ?_; intro v2 w4 hs hb; rw [hbs3.out] at hs; have n0_ := Aside0.mk (hs.swap); have n1_ := Aside0.mk (hb); clear HS HB; have HS := n0_; have HB := n1_; clear n0_ n1_; (try simp only [List.eraseIdx_cons_succ, List.eraseIdx_cons_zero] at HS); clear hs hb; obtain ⟨A3, c3, e_⟩ : ∃ (A : Option Addr) (c : Nat), v2 = .slice A bs3.length c := (by obtain ⟨A, c, e, _, _⟩ := (HS.out.pick 1 rfl).reads; exact ⟨A, c, e⟩); subst e_; clear hc0_0 hf0_0; have hc0_0 := (HS.out.cell 0).trans (show _ = some (.slice A2 bs2.length c2) from rfl); have hf0_0 := HS.out.frozen 0))
  have n0_ := Aside0.mk ((HS.out.pick 0 rfl).set 0 (.slice A3 bs3.length c3) #[.slice A3 bs3.length c3] rfl); have n1_ := Aside0.mk ((HS.out.pick 0 rfl).below_set (i := 0) (u := .slice A3 bs3.length c3) HB.out); clear HS HB; have HS := n0_; have HB := n1_; clear n0_ n1_; (try simp only [List.eraseIdx_cons_succ, List.eraseIdx_cons_zero] at HS)
  go_end0
  exact ⟨rfl, Wr_shut HS.out, HB.out⟩

theorem S_string {P : Program} {N : Nat} {w : World} {L : List Res} {e src dst : TypeId} {v : Value} {bs : List Int} (hs : P.underlying src = some (.slice e)) (he : P.underlying e = some (.int .u8)) (hd : P.underlying dst = some .string) (h : St N w (Row (Kd.int .u8) e v bs :: L)) : (convert src dst v).run P w = .ok (.string (strOfNums bs)) w := by
  obtain ⟨G, _, ⟨hok, inner, hown, hr⟩, _⟩ := h.own
  rw [Kd.reps_encs hr] at hown
  exact own_string hs he hd hown
theorem Writer_Bytes (g : Nat) (bs : List Int) {N : Nat} {w : World} {L : List Res} (HS0 : St N w (Wr g bs :: L)) :
    Calls Try.prog 61 #[.pointer (some ⟨g, 0, none⟩)] w fun e w' => e = .returned (.string (strOfNums bs)) ∧ w' = w := by
  obtain ⟨A0, c0, h0⟩ := Wr_open HS0
  have hc0_0 := (h0.cell 0).trans (show _ = some (.slice A0 bs.length c0) from rfl)
  have kv := S_string (P := Try.prog) (src := 24) (dst := 9) Try.underlying24 Try.underlying5 Try.underlying9 h0.swap
  clear h0 HS0
  go_enter Try.func61, Try.ntmps61
  go_wp2
  go_ret
  exact ⟨rfl, rfl⟩

end Go.Proofs.Ytddhpkobingmhaa.PB
