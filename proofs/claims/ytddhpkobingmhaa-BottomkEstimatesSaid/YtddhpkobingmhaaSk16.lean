/- The estimates of a sketch and of the law's state. -/
import Derived.Test.YtddhpkobingmhaaSk14
import Derived.Test.YtddhpkobingmhaaDistM
import Derived.Test.YtddhpkobingmhaaKeys

namespace Go.Proofs.Ytddhpkobingmhaa.PB
open Go.RowKit Go.Proofs.YtddhpkobingmhaaW.PrintWords Go.Proofs.YtddhpkobingmhaaW.PrintLast Go.Proofs.YtddhpkobingmhaaW.PrintMore Go.Proofs.Ytddhpkobingmhaa.Sep
attribute [local go_sem] max2_int min2_int max_two min_two
set_option linter.unusedVariables false
set_option linter.unusedSimpArgs false
set_option maxHeartbeats 8000000
set_option maxRecDepth 100000

def dsn.T5 : Bool × List (List Nat × List Nat) := (true, [([], []), ([0], [0]), ([1], [1]), ([2], [2]), ([], []), ([4], [4]), ([5], [5]), ([6], [6]), ([7], [7]), ([3, 8], [3, 8]), ([9], [9]), ([10], [10]), ([11], [11]), ([12, 0, 1, 2, 3, 4, 5, 6, 7, 8, 9, 10, 11, 12], [12])])
def dsn.B5 : List Nat := [0, 1, 3, 7, 0, 16, 48, 112, 240, 511, 1023, 2047, 4095, 8191]
theorem dsn.tab5 : rtab .any (opsOf Try.f16 5) = dsn.T5 := by kernel_rfl
theorem dsn.bits5 : waitsOk dsn.T5.2 dsn.B5 = true := by kernel_rfl
theorem dsn_zero (Kn j : Nat) (hj : Kn = j + 1) (hK : Kn ≤ 1024) (sd h : Int) (h0 : 0 ≤ h) (h1 : h < 4611686018427387904) (ad : Addr) (c : Nat) (l : List S52) (hl : l.length = Kn) (hh : (rd_T52 l (j : Int)).f0 = h) (p : Nat) (hi lo : Int) (hmul : Aside0 (bits_Mul64.f (j : Int) 4611686018427387904 = some (hi, lo))) (hz : (h == 0) = true) {N : Nat} {w : World} {L : List Res} (HS0 : St N w (Blk p #[.int .i64 Kn, .int .i64 sd, .slice (some ad) Kn c, .bool true] 59 :: Row k52 52 (.slice (some ad) Kn c) l :: L)) :
    Calls Try.prog 16 #[.pointer (some ⟨p, 0, none⟩)] w fun e w' => e = .returned (.int .i64 Kn) ∧ St N w' (Blk p #[.int .i64 Kn, .int .i64 sd, .slice (some ad) Kn c, .bool true] 59 :: Row k52 52 (.slice (some ad) Kn c) l :: L) ∧ Below N w w' := by
  have HS := Aside0.mk HS0
  have HB := Aside0.mk (Below.refl N w)
  clear HS0
  have q1 : (0 : Int) ≤ (j : Int) := by omega
  have q2 : (j : Int) < (Kn : Int) := by omega
  have q3 : wrap64 ((Kn : Int) - 1) = (j : Int) := by rw [wrap64_small _ (by omega) (by omega)]; omega
  have q4 : IntKind.u64.wrap h = h := wu h h0 (by omega)
  have q5 : IntKind.u64.wrap (j : Int) = (j : Int) := wu _ q1 (by omega)
  have q6 : IntKind.u64.wrap (Kn : Int) = (Kn : Int) := wu _ (by omega) (by omega)
  have q7 : wrap64 (Kn : Int) = (Kn : Int) := wrap64_small _ (by omega) (by omega)
  obtain ⟨ad', e, hx, _⟩ := at_T52 (HS.out.pick 1 rfl).rowC.2.2 (j : Int) q1 (by omega)
  cases e
  rw [hh, Int.toNat_natCast] at hx
  replace hx := Aside0.mk hx
  replace hj := Aside0.mk hj
  replace hl := Aside0.mk hl
  clear hh hK
  have hc0_3 := ((HS.out.pick 0 rfl).cell 3).trans (show _ = some (.bool true) from rfl)
  go_enter Try.func16, Try.ntmps16
  go_upto_region 5 with (fail)
  clear hc0_3
  have n2_ := Aside0.mk (show w.drew.cell? _ = _ from hx.out); clear hx; have hx := n2_; clear n2_
  have n0_ := Aside0.mk (HS.out.drew); have n1_ := Aside0.mk (HB.out.drew); clear HS HB; have HS := n0_; have HB := n1_; clear n0_ n1_
  refine start_ (n := 14) (S := fun w' => w'.cell? ⟨p, 2, none⟩ = some (.slice (some ad) Kn c) ∧ w'.cell? ⟨p, 0, none⟩ = some (.int .i64 Kn) ∧ w'.cell? (ad.add (j * 2)) = some (.int .i64 h)) (ds := []) (tfs true [0, 14]).toArray (by kernel_rfl) rfl rfl ⟨((HS.out.pick 0 rfl).cell 2).trans rfl, ((HS.out.pick 0 rfl).cell 0).trans rfl, hx.out⟩ (fun hHeld => ?_); refine with_tabW dsn.tab5 dsn.bits5 (fun HT_ HW_ => ?_)
  generalize w.drew = w1 at HS HB hx hHeld ⊢
  refine pure_ (i := 0) (N := some 22) (v := ?_) (a' := ?_) (tfs true [1, 13]).toArray rfl rfl (any_of HT_.out (by kernel_rfl)) (fun _ _ _ h => h) (Or.inl ⟨by rfl, ?_⟩) ?_ ?_
  rotate_left
  · intro w'
    go_simp
    with_reducible rfl
  rotate_left
  · simp only [Act.put, List.setIfInBounds_toArray, List.set_cons_zero, List.set_cons_succ, i64_w, i32_w]
    rfl
  refine pure_ (i := 1) (N := some 23) (v := ?_) (a' := ?_) (tfs true [2, 12]).toArray rfl rfl (any_of HT_.out (by kernel_rfl)) (fun _ _ _ h => h) (Or.inl ⟨by rfl, ?_⟩) ?_ ?_
  rotate_left
  · intro w'
    go_simp
    with_reducible rfl
  rotate_left
  · simp only [Act.put, List.setIfInBounds_toArray, List.set_cons_zero, List.set_cons_succ, i64_w, i32_w]
    rfl
  refine pure_ (i := 2) (N := some 24) (v := ?_) (a' := ?_) (tfs true [3, 11]).toArray rfl rfl (any_of HT_.out (by kernel_rfl)) (fun _ _ _ h => h) (Or.inl ⟨by rfl, ?_⟩) ?_ ?_
  rotate_left
  · intro w'
    go_simp
    with_reducible rfl
  rotate_left
  · simp only [Act.put, List.setIfInBounds_toArray, List.set_cons_zero, List.set_cons_succ, i64_w, i32_w]
    rfl
  refine pure_ (i := 4) (N := some 26) (v := ?_) (a' := ?_) (tfs true [3, 1, 1, 9]).toArray rfl rfl (any_of HT_.out (by kernel_rfl)) (fun _ _ _ h => h) (Or.inl ⟨by rfl, ?_⟩) ?_ ?_
  rotate_left
  · intro w'
    go_simp
    with_reducible rfl
  rotate_left
  · simp only [Act.put, List.setIfInBounds_toArray, List.set_cons_zero, List.set_cons_succ, i64_w, i32_w]
    rfl
  refine pure_ (i := 5) (N := some 27) (v := ?_) (a' := ?_) (tfs true [3, 1, 2, 8]).toArray rfl rfl (any_of HT_.out (by kernel_rfl)) (fun _ _ _ h => h) (Or.inl ⟨by rfl, ?_⟩) ?_ ?_
  rotate_left
  · intro w'
    go_simp
    with_reducible rfl
  rotate_left
  · simp only [Act.put, List.setIfInBounds_toArray, List.set_cons_zero, List.set_cons_succ, i64_w, i32_w]
    rfl
  refine pure_ (i := 6) (N := some 28) (v := ?_) (a' := ?_) (tfs true [3, 1, 3, 7]).toArray rfl rfl (any_of HT_.out (by kernel_rfl)) (fun _ _ _ h => h) (Or.inl ⟨by rfl, ?_⟩) ?_ ?_
  rotate_left
  · intro w'
    go_simp
    with_reducible rfl
  rotate_left
  · simp only [Act.put, List.setIfInBounds_toArray, List.set_cons_zero, List.set_cons_succ, i64_w, i32_w]
    rfl
  refine take_ (i := 3) (N := some 25) (v := ?_) (a' := ?_) (tfs true [7, 7]).toArray rfl rfl (take_ofW HT_.out HW_.out (by kernel_rfl)) (fun _ _ _ h => h) (Or.inl ⟨by rfl, ?_⟩) hHeld ?_ ?_
  rotate_left
  · rintro w' ⟨s0, s1, s2⟩
    go_simp
    with_reducible rfl
  rotate_left
  · simp only [Act.put, List.setIfInBounds_toArray, List.set_cons_zero, List.set_cons_succ, i64_w, i32_w]
    rfl
  refine take_ (i := 7) (N := some 29) (v := ?_) (a' := ?_) (tfs true [8, 6]).toArray rfl rfl (take_ofW HT_.out HW_.out (by kernel_rfl)) (fun _ _ _ h => h) (Or.inl ⟨by rfl, ?_⟩) hHeld ?_ ?_
  rotate_left
  · rintro w' ⟨s0, s1, s2⟩
    go_simp
    with_reducible rfl
  rotate_left
  · simp only [Act.put, List.setIfInBounds_toArray, List.set_cons_zero, List.set_cons_succ, i64_w, i32_w]
    rfl
  refine pure_ (i := 8) (N := some 30) (v := ?_) (a' := ?_) (tfs true [9, 5]).toArray rfl rfl (any_of HT_.out (by kernel_rfl)) (fun _ _ _ h => h) (Or.inl ⟨by rfl, ?_⟩) ?_ ?_
  rotate_left
  · intro w'
    go_simp
    with_reducible rfl
  rotate_left
  · simp only [Act.put, List.setIfInBounds_toArray, List.set_cons_zero, List.set_cons_succ, i64_w, i32_w]
    rfl
  refine pure_ (i := 9) (N := some 31) (v := ?_) (a' := ?_) (tfs true [10, 4]).toArray rfl rfl (any_of HT_.out (by kernel_rfl)) (fun _ _ _ h => h) (Or.inl ⟨by rfl, ?_⟩) ?_ ?_
  rotate_left
  · intro w'
    go_simp
    with_reducible rfl
  rotate_left
  · simp only [Act.put, List.setIfInBounds_toArray, List.set_cons_zero, List.set_cons_succ, i64_w, i32_w]
    rfl
  refine pure_ (i := 10) (N := some 32) (v := ?_) (a' := ?_) (tfs true [11, 3]).toArray rfl rfl (any_of HT_.out (by kernel_rfl)) (fun _ _ _ h => h) (Or.inl ⟨by rfl, ?_⟩) ?_ ?_
  rotate_left
  · intro w'
    go_simp
    with_reducible rfl
  rotate_left
  · simp only [Act.put, List.setIfInBounds_toArray, List.set_cons_zero, List.set_cons_succ, i64_w, i32_w]
    rfl
  refine take_ (i := 11) (N := some 33) (v := ?_) (a' := ?_) (tfs true [12, 2]).toArray rfl rfl (take_ofW HT_.out HW_.out (by kernel_rfl)) (fun _ _ _ h => h) (Or.inl ⟨by rfl, ?_⟩) hHeld ?_ ?_
  rotate_left
  · rintro w' ⟨s0, s1, s2⟩
    go_simp
    with_reducible rfl
  rotate_left
  · simp only [Act.put, List.setIfInBounds_toArray, List.set_cons_zero, List.set_cons_succ, i64_w, i32_w]
    rfl
  refine pure_ (i := 12) (N := some 34) (v := ?_) (a' := ?_) (tfs true [13, 1]).toArray rfl rfl (any_of HT_.out (by kernel_rfl)) (fun _ _ _ h => h) (Or.inl ⟨by rfl, ?_⟩) ?_ ?_
  rotate_left
  · intro w'
    go_simp
    with_reducible rfl
  rotate_left
  · simp only [Act.put, List.setIfInBounds_toArray, List.set_cons_zero, List.set_cons_succ, i64_w, i32_w]
    rfl
  refine pure_ (i := 13) (N := some 3) (v := ?_) (a' := ?_) (tfs true [14]).toArray rfl rfl (any_of HT_.out (by kernel_rfl)) (fun _ _ _ h => h) (Or.inl ⟨by rfl, ?_⟩) ?_ ?_
  rotate_left
  · intro w'
    go_simp
    with_reducible rfl
  rotate_left
  · simp only [Act.put, List.setIfInBounds_toArray, List.set_cons_zero, List.set_cons_succ, i64_w, i32_w]
    rfl
  refine done_ (done_of HT_.out (by kernel_rfl)) ?_
  clear HT_ HW_
  try clear hHeld
  have hc0_0 := ((HS.out.pick 0 rfl).cell 0).trans (show _ = some (.int .i64 Kn) from rfl)
  clear q1 q2 h0 h1
  go_wp2_with (first | ((with_reducible refine gate_callee (f := 39) rfl ?_); refine goesL_ (some 42) rfl rfl Try.func39 (by kernel_rfl) rfl #[.int .u64 (j : Int), .int .u64 4611686018427387904] rfl (by (try simp only [List.map_toArray, List.map_cons, List.map_nil]); first | done | rfl | (simp only [List.length_drop, List.length_take]; rfl)) ?_; (with_reducible refine (bits_Mul64.calls _ _ _ _ _ hmul.out).mono ?_); rintro e w2 ⟨rfl, hb0⟩; have hb := hb0.below; clear hb0 hc0_0; refine ⟨_, rfl, ?_⟩; have n0_ := Aside0.mk (HS.out.step hb); have n1_ := Aside0.mk (below_step' HB.out HS.out.size hb); clear HS HB; have HS := n0_; have HB := n1_; clear n0_ n1_; (try simp only [List.eraseIdx_cons_succ, List.eraseIdx_cons_zero] at HS); clear hb; have hc0_0 := ((HS.out.pick 0 rfl).cell 0).trans (show _ = some (.int .i64 Kn) from rfl)))
  go_ret
  exact ⟨rfl, HS.out, HB.out⟩

theorem dsn_great (Kn j : Nat) (hj : Kn = j + 1) (hK : Kn ≤ 1024) (sd h : Int) (h0 : 0 ≤ h) (h1 : h < 4611686018427387904) (ad : Addr) (c : Nat) (l : List S52) (hl : l.length = Kn) (hh : (rd_T52 l (j : Int)).f0 = h) (p : Nat) (hi lo : Int) (hmul : Aside0 (bits_Mul64.f (j : Int) 4611686018427387904 = some (hi, lo))) (hz : (h == 0) = false) (hle : (decide (h ≤ hi)) = true) {N : Nat} {w : World} {L : List Res} (HS0 : St N w (Blk p #[.int .i64 Kn, .int .i64 sd, .slice (some ad) Kn c, .bool true] 59 :: Row k52 52 (.slice (some ad) Kn c) l :: L)) :
    Calls Try.prog 16 #[.pointer (some ⟨p, 0, none⟩)] w fun e w' => e = .returned (.int .i64 1099511627776) ∧ St N w' (Blk p #[.int .i64 Kn, .int .i64 sd, .slice (some ad) Kn c, .bool true] 59 :: Row k52 52 (.slice (some ad) Kn c) l :: L) ∧ Below N w w' := by
  have HS := Aside0.mk HS0
  have HB := Aside0.mk (Below.refl N w)
  clear HS0
  have q1 : (0 : Int) ≤ (j : Int) := by omega
  have q2 : (j : Int) < (Kn : Int) := by omega
  have q3 : wrap64 ((Kn : Int) - 1) = (j : Int) := by rw [wrap64_small _ (by omega) (by omega)]; omega
  have q4 : IntKind.u64.wrap h = h := wu h h0 (by omega)
  have q5 : IntKind.u64.wrap (j : Int) = (j : Int) := wu _ q1 (by omega)
  have q6 : IntKind.u64.wrap (Kn : Int) = (Kn : Int) := wu _ (by omega) (by omega)
  have q7 : wrap64 (Kn : Int) = (Kn : Int) := wrap64_small _ (by omega) (by omega)
  obtain ⟨ad', e, hx, _⟩ := at_T52 (HS.out.pick 1 rfl).rowC.2.2 (j : Int) q1 (by omega)
  cases e
  rw [hh, Int.toNat_natCast] at hx
  replace hx := Aside0.mk hx
  replace hj := Aside0.mk hj
  replace hl := Aside0.mk hl
  clear hh hK
  have hc0_3 := ((HS.out.pick 0 rfl).cell 3).trans (show _ = some (.bool true) from rfl)
  go_enter Try.func16, Try.ntmps16
  go_upto_region 5 with (fail)
  clear hc0_3
  have n2_ := Aside0.mk (show w.drew.cell? _ = _ from hx.out); clear hx; have hx := n2_; clear n2_
  have n0_ := Aside0.mk (HS.out.drew); have n1_ := Aside0.mk (HB.out.drew); clear HS HB; have HS := n0_; have HB := n1_; clear n0_ n1_
  refine start_ (n := 14) (S := fun w' => w'.cell? ⟨p, 2, none⟩ = some (.slice (some ad) Kn c) ∧ w'.cell? ⟨p, 0, none⟩ = some (.int .i64 Kn) ∧ w'.cell? (ad.add (j * 2)) = some (.int .i64 h)) (ds := []) (tfs true [0, 14]).toArray (by kernel_rfl) rfl rfl ⟨((HS.out.pick 0 rfl).cell 2).trans rfl, ((HS.out.pick 0 rfl).cell 0).trans rfl, hx.out⟩ (fun hHeld => ?_); refine with_tabW dsn.tab5 dsn.bits5 (fun HT_ HW_ => ?_)
  generalize w.drew = w1 at HS HB hx hHeld ⊢
  refine pure_ (i := 0) (N := some 22) (v := ?_) (a' := ?_) (tfs true [1, 13]).toArray rfl rfl (any_of HT_.out (by kernel_rfl)) (fun _ _ _ h => h) (Or.inl ⟨by rfl, ?_⟩) ?_ ?_
  rotate_left
  · intro w'
    go_simp
    with_reducible rfl
  rotate_left
  · simp only [Act.put, List.setIfInBounds_toArray, List.set_cons_zero, List.set_cons_succ, i64_w, i32_w]
    rfl
  refine pure_ (i := 1) (N := some 23) (v := ?_) (a' := ?_) (tfs true [2, 12]).toArray rfl rfl (any_of HT_.out (by kernel_rfl)) (fun _ _ _ h => h) (Or.inl ⟨by rfl, ?_⟩) ?_ ?_
  rotate_left
  · intro w'
    go_simp
    with_reducible rfl
  rotate_left
  · simp only [Act.put, List.setIfInBounds_toArray, List.set_cons_zero, List.set_cons_succ, i64_w, i32_w]
    rfl
  refine pure_ (i := 2) (N := some 24) (v := ?_) (a' := ?_) (tfs true [3, 11]).toArray rfl rfl (any_of HT_.out (by kernel_rfl)) (fun _ _ _ h => h) (Or.inl ⟨by rfl, ?_⟩) ?_ ?_
  rotate_left
  · intro w'
    go_simp
    with_reducible rfl
  rotate_left
  · simp only [Act.put, List.setIfInBounds_toArray, List.set_cons_zero, List.set_cons_succ, i64_w, i32_w]
    rfl
  refine pure_ (i := 4) (N := some 26) (v := ?_) (a' := ?_) (tfs true [3, 1, 1, 9]).toArray rfl rfl (any_of HT_.out (by kernel_rfl)) (fun _ _ _ h => h) (Or.inl ⟨by rfl, ?_⟩) ?_ ?_
  rotate_left
  · intro w'
    go_simp
    with_reducible rfl
  rotate_left
  · simp only [Act.put, List.setIfInBounds_toArray, List.set_cons_zero, List.set_cons_succ, i64_w, i32_w]
    rfl
  refine pure_ (i := 5) (N := some 27) (v := ?_) (a' := ?_) (tfs true [3, 1, 2, 8]).toArray rfl rfl (any_of HT_.out (by kernel_rfl)) (fun _ _ _ h => h) (Or.inl ⟨by rfl, ?_⟩) ?_ ?_
  rotate_left
  · intro w'
    go_simp
    with_reducible rfl
  rotate_left
  · simp only [Act.put, List.setIfInBounds_toArray, List.set_cons_zero, List.set_cons_succ, i64_w, i32_w]
    rfl
  refine pure_ (i := 6) (N := some 28) (v := ?_) (a' := ?_) (tfs true [3, 1, 3, 7]).toArray rfl rfl (any_of HT_.out (by kernel_rfl)) (fun _ _ _ h => h) (Or.inl ⟨by rfl, ?_⟩) ?_ ?_
  rotate_left
  · intro w'
    go_simp
    with_reducible rfl
  rotate_left
  · simp only [Act.put, List.setIfInBounds_toArray, List.set_cons_zero, List.set_cons_succ, i64_w, i32_w]
    rfl
  refine take_ (i := 3) (N := some 25) (v := ?_) (a' := ?_) (tfs true [7, 7]).toArray rfl rfl (take_ofW HT_.out HW_.out (by kernel_rfl)) (fun _ _ _ h => h) (Or.inl ⟨by rfl, ?_⟩) hHeld ?_ ?_
  rotate_left
  · rintro w' ⟨s0, s1, s2⟩
    go_simp
    with_reducible rfl
  rotate_left
  · simp only [Act.put, List.setIfInBounds_toArray, List.set_cons_zero, List.set_cons_succ, i64_w, i32_w]
    rfl
  refine take_ (i := 7) (N := some 29) (v := ?_) (a' := ?_) (tfs true [8, 6]).toArray rfl rfl (take_ofW HT_.out HW_.out (by kernel_rfl)) (fun _ _ _ h => h) (Or.inl ⟨by rfl, ?_⟩) hHeld ?_ ?_
  rotate_left
  · rintro w' ⟨s0, s1, s2⟩
    go_simp
    with_reducible rfl
  rotate_left
  · simp only [Act.put, List.setIfInBounds_toArray, List.set_cons_zero, List.set_cons_succ, i64_w, i32_w]
    rfl
  refine pure_ (i := 8) (N := some 30) (v := ?_) (a' := ?_) (tfs true [9, 5]).toArray rfl rfl (any_of HT_.out (by kernel_rfl)) (fun _ _ _ h => h) (Or.inl ⟨by rfl, ?_⟩) ?_ ?_
  rotate_left
  · intro w'
    go_simp
    with_reducible rfl
  rotate_left
  · simp only [Act.put, List.setIfInBounds_toArray, List.set_cons_zero, List.set_cons_succ, i64_w, i32_w]
    rfl
  refine pure_ (i := 9) (N := some 31) (v := ?_) (a' := ?_) (tfs true [10, 4]).toArray rfl rfl (any_of HT_.out (by kernel_rfl)) (fun _ _ _ h => h) (Or.inl ⟨by rfl, ?_⟩) ?_ ?_
  rotate_left
  · intro w'
    go_simp
    with_reducible rfl
  rotate_left
  · simp only [Act.put, List.setIfInBounds_toArray, List.set_cons_zero, List.set_cons_succ, i64_w, i32_w]
    rfl
  refine pure_ (i := 10) (N := some 32) (v := ?_) (a' := ?_) (tfs true [11, 3]).toArray rfl rfl (any_of HT_.out (by kernel_rfl)) (fun _ _ _ h => h) (Or.inl ⟨by rfl, ?_⟩) ?_ ?_
  rotate_left
  · intro w'
    go_simp
    with_reducible rfl
  rotate_left
  · simp only [Act.put, List.setIfInBounds_toArray, List.set_cons_zero, List.set_cons_succ, i64_w, i32_w]
    rfl
  refine take_ (i := 11) (N := some 33) (v := ?_) (a' := ?_) (tfs true [12, 2]).toArray rfl rfl (take_ofW HT_.out HW_.out (by kernel_rfl)) (fun _ _ _ h => h) (Or.inl ⟨by rfl, ?_⟩) hHeld ?_ ?_
  rotate_left
  · rintro w' ⟨s0, s1, s2⟩
    go_simp
    with_reducible rfl
  rotate_left
  · simp only [Act.put, List.setIfInBounds_toArray, List.set_cons_zero, List.set_cons_succ, i64_w, i32_w]
    rfl
  refine pure_ (i := 12) (N := some 34) (v := ?_) (a' := ?_) (tfs true [13, 1]).toArray rfl rfl (any_of HT_.out (by kernel_rfl)) (fun _ _ _ h => h) (Or.inl ⟨by rfl, ?_⟩) ?_ ?_
  rotate_left
  · intro w'
    go_simp
    with_reducible rfl
  rotate_left
  · simp only [Act.put, List.setIfInBounds_toArray, List.set_cons_zero, List.set_cons_succ, i64_w, i32_w]
    rfl
  refine pure_ (i := 13) (N := some 3) (v := ?_) (a' := ?_) (tfs true [14]).toArray rfl rfl (any_of HT_.out (by kernel_rfl)) (fun _ _ _ h => h) (Or.inl ⟨by rfl, ?_⟩) ?_ ?_
  rotate_left
  · intro w'
    go_simp
    with_reducible rfl
  rotate_left
  · simp only [Act.put, List.setIfInBounds_toArray, List.set_cons_zero, List.set_cons_succ, i64_w, i32_w]
    rfl
  refine done_ (done_of HT_.out (by kernel_rfl)) ?_
  clear HT_ HW_
  try clear hHeld
  have hc0_0 := ((HS.out.pick 0 rfl).cell 0).trans (show _ = some (.int .i64 Kn) from rfl)
  clear q1 q2 h0 h1
  go_wp2_with (first | ((with_reducible refine gate_callee (f := 39) rfl ?_); refine goesL_ (some 42) rfl rfl Try.func39 (by kernel_rfl) rfl #[.int .u64 (j : Int), .int .u64 4611686018427387904] rfl (by (try simp only [List.map_toArray, List.map_cons, List.map_nil]); first | done | rfl | (simp only [List.length_drop, List.length_take]; rfl)) ?_; (with_reducible refine (bits_Mul64.calls _ _ _ _ _ hmul.out).mono ?_); rintro e w2 ⟨rfl, hb0⟩; have hb := hb0.below; clear hb0 hc0_0; refine ⟨_, rfl, ?_⟩; have n0_ := Aside0.mk (HS.out.step hb); have n1_ := Aside0.mk (below_step' HB.out HS.out.size hb); clear HS HB; have HS := n0_; have HB := n1_; clear n0_ n1_; (try simp only [List.eraseIdx_cons_succ, List.eraseIdx_cons_zero] at HS); clear hb; have hc0_0 := ((HS.out.pick 0 rfl).cell 0).trans (show _ = some (.int .i64 Kn) from rfl)))
  go_ret
  exact ⟨rfl, HS.out, HB.out⟩

theorem dsn_A (Kn j : Nat) (hj : Kn = j + 1) (hK : Kn ≤ 1024) (sd h : Int) (h0 : 0 ≤ h) (h1 : h < 4611686018427387904) (ad : Addr) (c : Nat) (l : List S52) (hl : l.length = Kn) (hh : (rd_T52 l (j : Int)).f0 = h) (p : Nat) (hi lo : Int) (hmul : Aside0 (bits_Mul64.f (j : Int) 4611686018427387904 = some (hi, lo))) (hz : Aside0 (¬ h = 0)) (hz2 : (h == 0) = false) (hle : Aside0 (¬ h ≤ hi)) (hle2 : (decide (h ≤ hi)) = false) (Q r2 : Int) (hdiv : Aside0 (bits_Div64.f 10 hi lo h = some (Q, r2))) (k1 : (1099511627776 < Q) = True) (k2 : ((Kn : Int) < 1099511627776) = True) (k3 : wrap64 1099511627776 = 1099511627776) {N : Nat} {w : World} {L : List Res} (HS0 : St N w (Blk p #[.int .i64 Kn, .int .i64 sd, .slice (some ad) Kn c, .bool true] 59 :: Row k52 52 (.slice (some ad) Kn c) l :: L)) :
    Calls Try.prog 16 #[.pointer (some ⟨p, 0, none⟩)] w fun e w' => e = .returned (.int .i64 1099511627776) ∧ St N w' (Blk p #[.int .i64 Kn, .int .i64 sd, .slice (some ad) Kn c, .bool true] 59 :: Row k52 52 (.slice (some ad) Kn c) l :: L) ∧ Below N w w' := by
  have HS := Aside0.mk HS0
  have HB := Aside0.mk (Below.refl N w)
  clear HS0
  have q1 : (0 : Int) ≤ (j : Int) := by omega
  have q2 : (j : Int) < (Kn : Int) := by omega
  have q3 : wrap64 ((Kn : Int) - 1) = (j : Int) := by rw [wrap64_small _ (by omega) (by omega)]; omega
  have q4 : IntKind.u64.wrap h = h := wu h h0 (by omega)
  have q5 : IntKind.u64.wrap (j : Int) = (j : Int) := wu _ q1 (by omega)
  have q6 : IntKind.u64.wrap (Kn : Int) = (Kn : Int) := wu _ (by omega) (by omega)
  have q7 : wrap64 (Kn : Int) = (Kn : Int) := wrap64_small _ (by omega) (by omega)
  obtain ⟨ad', e, hx, _⟩ := at_T52 (HS.out.pick 1 rfl).rowC.2.2 (j : Int) q1 (by omega)
  cases e
  rw [hh, Int.toNat_natCast] at hx
  replace hx := Aside0.mk hx
  replace hj := Aside0.mk hj
  replace hl := Aside0.mk hl
  clear hh hK
  have hc0_3 := ((HS.out.pick 0 rfl).cell 3).trans (show _ = some (.bool true) from rfl)
  go_enter Try.func16, Try.ntmps16
  go_upto_region 5 with (fail)
  clear hc0_3
  have n2_ := Aside0.mk (show w.drew.cell? _ = _ from hx.out); clear hx; have hx := n2_; clear n2_
  have n0_ := Aside0.mk (HS.out.drew); have n1_ := Aside0.mk (HB.out.drew); clear HS HB; have HS := n0_; have HB := n1_; clear n0_ n1_
  refine start_ (n := 14) (S := fun w' => w'.cell? ⟨p, 2, none⟩ = some (.slice (some ad) Kn c) ∧ w'.cell? ⟨p, 0, none⟩ = some (.int .i64 Kn) ∧ w'.cell? (ad.add (j * 2)) = some (.int .i64 h)) (ds := []) (tfs true [0, 14]).toArray (by kernel_rfl) rfl rfl ⟨((HS.out.pick 0 rfl).cell 2).trans rfl, ((HS.out.pick 0 rfl).cell 0).trans rfl, hx.out⟩ (fun hHeld => ?_); refine with_tabW dsn.tab5 dsn.bits5 (fun HT_ HW_ => ?_)
  generalize w.drew = w1 at HS HB hx hHeld ⊢
  refine pure_ (i := 0) (N := some 22) (v := ?_) (a' := ?_) (tfs true [1, 13]).toArray rfl rfl (any_of HT_.out (by kernel_rfl)) (fun _ _ _ h => h) (Or.inl ⟨by rfl, ?_⟩) ?_ ?_
  rotate_left
  · intro w'
    go_simp
    with_reducible rfl
  rotate_left
  · simp only [Act.put, List.setIfInBounds_toArray, List.set_cons_zero, List.set_cons_succ, i64_w, i32_w]
    rfl
  refine pure_ (i := 1) (N := some 23) (v := ?_) (a' := ?_) (tfs true [2, 12]).toArray rfl rfl (any_of HT_.out (by kernel_rfl)) (fun _ _ _ h => h) (Or.inl ⟨by rfl, ?_⟩) ?_ ?_
  rotate_left
  · intro w'
    go_simp
    with_reducible rfl
  rotate_left
  · simp only [Act.put, List.setIfInBounds_toArray, List.set_cons_zero, List.set_cons_succ, i64_w, i32_w]
    rfl
  refine pure_ (i := 2) (N := some 24) (v := ?_) (a' := ?_) (tfs true [3, 11]).toArray rfl rfl (any_of HT_.out (by kernel_rfl)) (fun _ _ _ h => h) (Or.inl ⟨by rfl, ?_⟩) ?_ ?_
  rotate_left
  · intro w'
    go_simp
    with_reducible rfl
  rotate_left
  · simp only [Act.put, List.setIfInBounds_toArray, List.set_cons_zero, List.set_cons_succ, i64_w, i32_w]
    rfl
  refine pure_ (i := 4) (N := some 26) (v := ?_) (a' := ?_) (tfs true [3, 1, 1, 9]).toArray rfl rfl (any_of HT_.out (by kernel_rfl)) (fun _ _ _ h => h) (Or.inl ⟨by rfl, ?_⟩) ?_ ?_
  rotate_left
  · intro w'
    go_simp
    with_reducible rfl
  rotate_left
  · simp only [Act.put, List.setIfInBounds_toArray, List.set_cons_zero, List.set_cons_succ, i64_w, i32_w]
    rfl
  refine pure_ (i := 5) (N := some 27) (v := ?_) (a' := ?_) (tfs true [3, 1, 2, 8]).toArray rfl rfl (any_of HT_.out (by kernel_rfl)) (fun _ _ _ h => h) (Or.inl ⟨by rfl, ?_⟩) ?_ ?_
  rotate_left
  · intro w'
    go_simp
    with_reducible rfl
  rotate_left
  · simp only [Act.put, List.setIfInBounds_toArray, List.set_cons_zero, List.set_cons_succ, i64_w, i32_w]
    rfl
  refine pure_ (i := 6) (N := some 28) (v := ?_) (a' := ?_) (tfs true [3, 1, 3, 7]).toArray rfl rfl (any_of HT_.out (by kernel_rfl)) (fun _ _ _ h => h) (Or.inl ⟨by rfl, ?_⟩) ?_ ?_
  rotate_left
  · intro w'
    go_simp
    with_reducible rfl
  rotate_left
  · simp only [Act.put, List.setIfInBounds_toArray, List.set_cons_zero, List.set_cons_succ, i64_w, i32_w]
    rfl
  refine take_ (i := 3) (N := some 25) (v := ?_) (a' := ?_) (tfs true [7, 7]).toArray rfl rfl (take_ofW HT_.out HW_.out (by kernel_rfl)) (fun _ _ _ h => h) (Or.inl ⟨by rfl, ?_⟩) hHeld ?_ ?_
  rotate_left
  · rintro w' ⟨s0, s1, s2⟩
    go_simp
    with_reducible rfl
  rotate_left
  · simp only [Act.put, List.setIfInBounds_toArray, List.set_cons_zero, List.set_cons_succ, i64_w, i32_w]
    rfl
  refine take_ (i := 7) (N := some 29) (v := ?_) (a' := ?_) (tfs true [8, 6]).toArray rfl rfl (take_ofW HT_.out HW_.out (by kernel_rfl)) (fun _ _ _ h => h) (Or.inl ⟨by rfl, ?_⟩) hHeld ?_ ?_
  rotate_left
  · rintro w' ⟨s0, s1, s2⟩
    go_simp
    with_reducible rfl
  rotate_left
  · simp only [Act.put, List.setIfInBounds_toArray, List.set_cons_zero, List.set_cons_succ, i64_w, i32_w]
    rfl
  refine pure_ (i := 8) (N := some 30) (v := ?_) (a' := ?_) (tfs true [9, 5]).toArray rfl rfl (any_of HT_.out (by kernel_rfl)) (fun _ _ _ h => h) (Or.inl ⟨by rfl, ?_⟩) ?_ ?_
  rotate_left
  · intro w'
    go_simp
    with_reducible rfl
  rotate_left
  · simp only [Act.put, List.setIfInBounds_toArray, List.set_cons_zero, List.set_cons_succ, i64_w, i32_w]
    rfl
  refine pure_ (i := 9) (N := some 31) (v := ?_) (a' := ?_) (tfs true [10, 4]).toArray rfl rfl (any_of HT_.out (by kernel_rfl)) (fun _ _ _ h => h) (Or.inl ⟨by rfl, ?_⟩) ?_ ?_
  rotate_left
  · intro w'
    go_simp
    with_reducible rfl
  rotate_left
  · simp only [Act.put, List.setIfInBounds_toArray, List.set_cons_zero, List.set_cons_succ, i64_w, i32_w]
    rfl
  refine pure_ (i := 10) (N := some 32) (v := ?_) (a' := ?_) (tfs true [11, 3]).toArray rfl rfl (any_of HT_.out (by kernel_rfl)) (fun _ _ _ h => h) (Or.inl ⟨by rfl, ?_⟩) ?_ ?_
  rotate_left
  · intro w'
    go_simp
    with_reducible rfl
  rotate_left
  · simp only [Act.put, List.setIfInBounds_toArray, List.set_cons_zero, List.set_cons_succ, i64_w, i32_w]
    rfl
  refine take_ (i := 11) (N := some 33) (v := ?_) (a' := ?_) (tfs true [12, 2]).toArray rfl rfl (take_ofW HT_.out HW_.out (by kernel_rfl)) (fun _ _ _ h => h) (Or.inl ⟨by rfl, ?_⟩) hHeld ?_ ?_
  rotate_left
  · rintro w' ⟨s0, s1, s2⟩
    go_simp
    with_reducible rfl
  rotate_left
  · simp only [Act.put, List.setIfInBounds_toArray, List.set_cons_zero, List.set_cons_succ, i64_w, i32_w]
    rfl
  refine pure_ (i := 12) (N := some 34) (v := ?_) (a' := ?_) (tfs true [13, 1]).toArray rfl rfl (any_of HT_.out (by kernel_rfl)) (fun _ _ _ h => h) (Or.inl ⟨by rfl, ?_⟩) ?_ ?_
  rotate_left
  · intro w'
    go_simp
    with_reducible rfl
  rotate_left
  · simp only [Act.put, List.setIfInBounds_toArray, List.set_cons_zero, List.set_cons_succ, i64_w, i32_w]
    rfl
  refine pure_ (i := 13) (N := some 3) (v := ?_) (a' := ?_) (tfs true [14]).toArray rfl rfl (any_of HT_.out (by kernel_rfl)) (fun _ _ _ h => h) (Or.inl ⟨by rfl, ?_⟩) ?_ ?_
  rotate_left
  · intro w'
    go_simp
    with_reducible rfl
  rotate_left
  · simp only [Act.put, List.setIfInBounds_toArray, List.set_cons_zero, List.set_cons_succ, i64_w, i32_w]
    rfl
  refine done_ (done_of HT_.out (by kernel_rfl)) ?_
  clear HT_ HW_
  try clear hHeld
  have hc0_0 := ((HS.out.pick 0 rfl).cell 0).trans (show _ = some (.int .i64 Kn) from rfl)
  clear q1 q2 h0 h1
  go_wp2_with (first | ((with_reducible refine gate_callee (f := 39) rfl ?_); refine goesL_ (some 42) rfl rfl Try.func39 (by kernel_rfl) rfl #[.int .u64 (j : Int), .int .u64 4611686018427387904] rfl (by (try simp only [List.map_toArray, List.map_cons, List.map_nil]); first | done | rfl | (simp only [List.length_drop, List.length_take]; rfl)) ?_; (with_reducible refine (bits_Mul64.calls _ _ _ _ _ hmul.out).mono ?_); rintro e w2 ⟨rfl, hb0⟩; have hb := hb0.below; clear hb0 hc0_0; refine ⟨_, rfl, ?_⟩; have n0_ := Aside0.mk (HS.out.step hb); have n1_ := Aside0.mk (below_step' HB.out HS.out.size hb); clear HS HB; have HS := n0_; have HB := n1_; clear n0_ n1_; (try simp only [List.eraseIdx_cons_succ, List.eraseIdx_cons_zero] at HS); clear hb; have hc0_0 := ((HS.out.pick 0 rfl).cell 0).trans (show _ = some (.int .i64 Kn) from rfl)) | ((with_reducible refine gate_callee (f := 40) rfl ?_); refine goesL_ (some 60) rfl rfl Try.func40 (by kernel_rfl) rfl #[.int .u64 hi, .int .u64 lo, .int .u64 h] rfl (by (try simp only [List.map_toArray, List.map_cons, List.map_nil]); first | done | rfl | (simp only [List.length_drop, List.length_take]; rfl)) ?_; (with_reducible refine (bits_Div64.calls 10 _ _ _ Q r2 _ hdiv.out hz.out hle.out).mono ?_); rintro e w3 ⟨rfl, hb0⟩; have hb := hb0.below; clear hb0 hc0_0; refine ⟨_, rfl, ?_⟩; have n0_ := Aside0.mk (HS.out.step hb); have n1_ := Aside0.mk (below_step' HB.out HS.out.size hb); clear HS HB; have HS := n0_; have HB := n1_; clear n0_ n1_; (try simp only [List.eraseIdx_cons_succ, List.eraseIdx_cons_zero] at HS); clear hb; have hc0_0 := ((HS.out.pick 0 rfl).cell 0).trans (show _ = some (.int .i64 Kn) from rfl)))
  go_ret
  exact ⟨rfl, HS.out, HB.out⟩

theorem dsn_B (Kn j : Nat) (hj : Kn = j + 1) (hK : Kn ≤ 1024) (sd h : Int) (h0 : 0 ≤ h) (h1 : h < 4611686018427387904) (ad : Addr) (c : Nat) (l : List S52) (hl : l.length = Kn) (hh : (rd_T52 l (j : Int)).f0 = h) (p : Nat) (hi lo : Int) (hmul : Aside0 (bits_Mul64.f (j : Int) 4611686018427387904 = some (hi, lo))) (hz : Aside0 (¬ h = 0)) (hz2 : (h == 0) = false) (hle : Aside0 (¬ h ≤ hi)) (hle2 : (decide (h ≤ hi)) = false) (Q r2 : Int) (hdiv : Aside0 (bits_Div64.f 10 hi lo h = some (Q, r2))) (hQ : wrap64 Q = Q) (k1 : (1099511627776 < Q) = False) (k2 : ((Kn : Int) < Q) = True) {N : Nat} {w : World} {L : List Res} (HS0 : St N w (Blk p #[.int .i64 Kn, .int .i64 sd, .slice (some ad) Kn c, .bool true] 59 :: Row k52 52 (.slice (some ad) Kn c) l :: L)) :
    Calls Try.prog 16 #[.pointer (some ⟨p, 0, none⟩)] w fun e w' => e = .returned (.int .i64 Q) ∧ St N w' (Blk p #[.int .i64 Kn, .int .i64 sd, .slice (some ad) Kn c, .bool true] 59 :: Row k52 52 (.slice (some ad) Kn c) l :: L) ∧ Below N w w' := by
  have HS := Aside0.mk HS0
  have HB := Aside0.mk (Below.refl N w)
  clear HS0
  have q1 : (0 : Int) ≤ (j : Int) := by omega
  have q2 : (j : Int) < (Kn : Int) := by omega
  have q3 : wrap64 ((Kn : Int) - 1) = (j : Int) := by rw [wrap64_small _ (by omega) (by omega)]; omega
  have q4 : IntKind.u64.wrap h = h := wu h h0 (by omega)
  have q5 : IntKind.u64.wrap (j : Int) = (j : Int) := wu _ q1 (by omega)
  have q6 : IntKind.u64.wrap (Kn : Int) = (Kn : Int) := wu _ (by omega) (by omega)
  have q7 : wrap64 (Kn : Int) = (Kn : Int) := wrap64_small _ (by omega) (by omega)
  obtain ⟨ad', e, hx, _⟩ := at_T52 (HS.out.pick 1 rfl).rowC.2.2 (j : Int) q1 (by omega)
  cases e
  rw [hh, Int.toNat_natCast] at hx
  replace hx := Aside0.mk hx
  replace hj := Aside0.mk hj
  replace hl := Aside0.mk hl
  clear hh hK
  have hc0_3 := ((HS.out.pick 0 rfl).cell 3).trans (show _ = some (.bool true) from rfl)
  go_enter Try.func16, Try.ntmps16
  go_upto_region 5 with (fail)
  clear hc0_3
  have n2_ := Aside0.mk (show w.drew.cell? _ = _ from hx.out); clear hx; have hx := n2_; clear n2_
  have n0_ := Aside0.mk (HS.out.drew); have n1_ := Aside0.mk (HB.out.drew); clear HS HB; have HS := n0_; have HB := n1_; clear n0_ n1_
  refine start_ (n := 14) (S := fun w' => w'.cell? ⟨p, 2, none⟩ = some (.slice (some ad) Kn c) ∧ w'.cell? ⟨p, 0, none⟩ = some (.int .i64 Kn) ∧ w'.cell? (ad.add (j * 2)) = some (.int .i64 h)) (ds := []) (tfs true [0, 14]).toArray (by kernel_rfl) rfl rfl ⟨((HS.out.pick 0 rfl).cell 2).trans rfl, ((HS.out.pick 0 rfl).cell 0).trans rfl, hx.out⟩ (fun hHeld => ?_); refine with_tabW dsn.tab5 dsn.bits5 (fun HT_ HW_ => ?_)
  generalize w.drew = w1 at HS HB hx hHeld ⊢
  refine pure_ (i := 0) (N := some 22) (v := ?_) (a' := ?_) (tfs true [1, 13]).toArray rfl rfl (any_of HT_.out (by kernel_rfl)) (fun _ _ _ h => h) (Or.inl ⟨by rfl, ?_⟩) ?_ ?_
  rotate_left
  · intro w'
    go_simp
    with_reducible rfl
  rotate_left
  · simp only [Act.put, List.setIfInBounds_toArray, List.set_cons_zero, List.set_cons_succ, i64_w, i32_w]
    rfl
  refine pure_ (i := 1) (N := some 23) (v := ?_) (a' := ?_) (tfs true [2, 12]).toArray rfl rfl (any_of HT_.out (by kernel_rfl)) (fun _ _ _ h => h) (Or.inl ⟨by rfl, ?_⟩) ?_ ?_
  rotate_left
  · intro w'
    go_simp
    with_reducible rfl
  rotate_left
  · simp only [Act.put, List.setIfInBounds_toArray, List.set_cons_zero, List.set_cons_succ, i64_w, i32_w]
    rfl
  refine pure_ (i := 2) (N := some 24) (v := ?_) (a' := ?_) (tfs true [3, 11]).toArray rfl rfl (any_of HT_.out (by kernel_rfl)) (fun _ _ _ h => h) (Or.inl ⟨by rfl, ?_⟩) ?_ ?_
  rotate_left
  · intro w'
    go_simp
    with_reducible rfl
  rotate_left
  · simp only [Act.put, List.setIfInBounds_toArray, List.set_cons_zero, List.set_cons_succ, i64_w, i32_w]
    rfl
  refine pure_ (i := 4) (N := some 26) (v := ?_) (a' := ?_) (tfs true [3, 1, 1, 9]).toArray rfl rfl (any_of HT_.out (by kernel_rfl)) (fun _ _ _ h => h) (Or.inl ⟨by rfl, ?_⟩) ?_ ?_
  rotate_left
  · intro w'
    go_simp
    with_reducible rfl
  rotate_left
  · simp only [Act.put, List.setIfInBounds_toArray, List.set_cons_zero, List.set_cons_succ, i64_w, i32_w]
    rfl
  refine pure_ (i := 5) (N := some 27) (v := ?_) (a' := ?_) (tfs true [3, 1, 2, 8]).toArray rfl rfl (any_of HT_.out (by kernel_rfl)) (fun _ _ _ h => h) (Or.inl ⟨by rfl, ?_⟩) ?_ ?_
  rotate_left
  · intro w'
    go_simp
    with_reducible rfl
  rotate_left
  · simp only [Act.put, List.setIfInBounds_toArray, List.set_cons_zero, List.set_cons_succ, i64_w, i32_w]
    rfl
  refine pure_ (i := 6) (N := some 28) (v := ?_) (a' := ?_) (tfs true [3, 1, 3, 7]).toArray rfl rfl (any_of HT_.out (by kernel_rfl)) (fun _ _ _ h => h) (Or.inl ⟨by rfl, ?_⟩) ?_ ?_
  rotate_left
  · intro w'
    go_simp
    with_reducible rfl
  rotate_left
  · simp only [Act.put, List.setIfInBounds_toArray, List.set_cons_zero, List.set_cons_succ, i64_w, i32_w]
    rfl
  refine take_ (i := 3) (N := some 25) (v := ?_) (a' := ?_) (tfs true [7, 7]).toArray rfl rfl (take_ofW HT_.out HW_.out (by kernel_rfl)) (fun _ _ _ h => h) (Or.inl ⟨by rfl, ?_⟩) hHeld ?_ ?_
  rotate_left
  · rintro w' ⟨s0, s1, s2⟩
    go_simp
    with_reducible rfl
  rotate_left
  · simp only [Act.put, List.setIfInBounds_toArray, List.set_cons_zero, List.set_cons_succ, i64_w, i32_w]
    rfl
  refine take_ (i := 7) (N := some 29) (v := ?_) (a' := ?_) (tfs true [8, 6]).toArray rfl rfl (take_ofW HT_.out HW_.out (by kernel_rfl)) (fun _ _ _ h => h) (Or.inl ⟨by rfl, ?_⟩) hHeld ?_ ?_
  rotate_left
  · rintro w' ⟨s0, s1, s2⟩
    go_simp
    with_reducible rfl
  rotate_left
  · simp only [Act.put, List.setIfInBounds_toArray, List.set_cons_zero, List.set_cons_succ, i64_w, i32_w]
    rfl
  refine pure_ (i := 8) (N := some 30) (v := ?_) (a' := ?_) (tfs true [9, 5]).toArray rfl rfl (any_of HT_.out (by kernel_rfl)) (fun _ _ _ h => h) (Or.inl ⟨by rfl, ?_⟩) ?_ ?_
  rotate_left
  · intro w'
    go_simp
    with_reducible rfl
  rotate_left
  · simp only [Act.put, List.setIfInBounds_toArray, List.set_cons_zero, List.set_cons_succ, i64_w, i32_w]
    rfl
  refine pure_ (i := 9) (N := some 31) (v := ?_) (a' := ?_) (tfs true [10, 4]).toArray rfl rfl (any_of HT_.out (by kernel_rfl)) (fun _ _ _ h => h) (Or.inl ⟨by rfl, ?_⟩) ?_ ?_
  rotate_left
  · intro w'
    go_simp
    with_reducible rfl
  rotate_left
  · simp only [Act.put, List.setIfInBounds_toArray, List.set_cons_zero, List.set_cons_succ, i64_w, i32_w]
    rfl
  refine pure_ (i := 10) (N := some 32) (v := ?_) (a' := ?_) (tfs true [11, 3]).toArray rfl rfl (any_of HT_.out (by kernel_rfl)) (fun _ _ _ h => h) (Or.inl ⟨by rfl, ?_⟩) ?_ ?_
  rotate_left
  · intro w'
    go_simp
    with_reducible rfl
  rotate_left
  · simp only [Act.put, List.setIfInBounds_toArray, List.set_cons_zero, List.set_cons_succ, i64_w, i32_w]
    rfl
  refine take_ (i := 11) (N := some 33) (v := ?_) (a' := ?_) (tfs true [12, 2]).toArray rfl rfl (take_ofW HT_.out HW_.out (by kernel_rfl)) (fun _ _ _ h => h) (Or.inl ⟨by rfl, ?_⟩) hHeld ?_ ?_
  rotate_left
  · rintro w' ⟨s0, s1, s2⟩
    go_simp
    with_reducible rfl
  rotate_left
  · simp only [Act.put, List.setIfInBounds_toArray, List.set_cons_zero, List.set_cons_succ, i64_w, i32_w]
    rfl
  refine pure_ (i := 12) (N := some 34) (v := ?_) (a' := ?_) (tfs true [13, 1]).toArray rfl rfl (any_of HT_.out (by kernel_rfl)) (fun _ _ _ h => h) (Or.inl ⟨by rfl, ?_⟩) ?_ ?_
  rotate_left
  · intro w'
    go_simp
    with_reducible rfl
  rotate_left
  · simp only [Act.put, List.setIfInBounds_toArray, List.set_cons_zero, List.set_cons_succ, i64_w, i32_w]
    rfl
  refine pure_ (i := 13) (N := some 3) (v := ?_) (a' := ?_) (tfs true [14]).toArray rfl rfl (any_of HT_.out (by kernel_rfl)) (fun _ _ _ h => h) (Or.inl ⟨by rfl, ?_⟩) ?_ ?_
  rotate_left
  · intro w'
    go_simp
    with_reducible rfl
  rotate_left
  · simp only [Act.put, List.setIfInBounds_toArray, List.set_cons_zero, List.set_cons_succ, i64_w, i32_w]
    rfl
  refine done_ (done_of HT_.out (by kernel_rfl)) ?_
  clear HT_ HW_
  try clear hHeld
  have hc0_0 := ((HS.out.pick 0 rfl).cell 0).trans (show _ = some (.int .i64 Kn) from rfl)
  clear q1 q2 h0 h1
  go_wp2_with (first | ((with_reducible refine gate_callee (f := 39) rfl ?_); refine goesL_ (some 42) rfl rfl Try.func39 (by kernel_rfl) rfl #[.int .u64 (j : Int), .int .u64 4611686018427387904] rfl (by (try simp only [List.map_toArray, List.map_cons, List.map_nil]); first | done | rfl | (simp only [List.length_drop, List.length_take]; rfl)) ?_; (with_reducible refine (bits_Mul64.calls _ _ _ _ _ hmul.out).mono ?_); rintro e w2 ⟨rfl, hb0⟩; have hb := hb0.below; clear hb0 hc0_0; refine ⟨_, rfl, ?_⟩; have n0_ := Aside0.mk (HS.out.step hb); have n1_ := Aside0.mk (below_step' HB.out HS.out.size hb); clear HS HB; have HS := n0_; have HB := n1_; clear n0_ n1_; (try simp only [List.eraseIdx_cons_succ, List.eraseIdx_cons_zero] at HS); clear hb; have hc0_0 := ((HS.out.pick 0 rfl).cell 0).trans (show _ = some (.int .i64 Kn) from rfl)) | ((with_reducible refine gate_callee (f := 40) rfl ?_); refine goesL_ (some 60) rfl rfl Try.func40 (by kernel_rfl) rfl #[.int .u64 hi, .int .u64 lo, .int .u64 h] rfl (by (try simp only [List.map_toArray, List.map_cons, List.map_nil]); first | done | rfl | (simp only [List.length_drop, List.length_take]; rfl)) ?_; (with_reducible refine (bits_Div64.calls 10 _ _ _ Q r2 _ hdiv.out hz.out hle.out).mono ?_); rintro e w3 ⟨rfl, hb0⟩; have hb := hb0.below; clear hb0 hc0_0; refine ⟨_, rfl, ?_⟩; have n0_ := Aside0.mk (HS.out.step hb); have n1_ := Aside0.mk (below_step' HB.out HS.out.size hb); clear HS HB; have HS := n0_; have HB := n1_; clear n0_ n1_; (try simp only [List.eraseIdx_cons_succ, List.eraseIdx_cons_zero] at HS); clear hb; have hc0_0 := ((HS.out.pick 0 rfl).cell 0).trans (show _ = some (.int .i64 Kn) from rfl)))
  go_ret
  exact ⟨rfl, HS.out, HB.out⟩

theorem dsn_C (Kn j : Nat) (hj : Kn = j + 1) (hK : Kn ≤ 1024) (sd h : Int) (h0 : 0 ≤ h) (h1 : h < 4611686018427387904) (ad : Addr) (c : Nat) (l : List S52) (hl : l.length = Kn) (hh : (rd_T52 l (j : Int)).f0 = h) (p : Nat) (hi lo : Int) (hmul : Aside0 (bits_Mul64.f (j : Int) 4611686018427387904 = some (hi, lo))) (hz : Aside0 (¬ h = 0)) (hz2 : (h == 0) = false) (hle : Aside0 (¬ h ≤ hi)) (hle2 : (decide (h ≤ hi)) = false) (Q r2 : Int) (hdiv : Aside0 (bits_Div64.f 10 hi lo h = some (Q, r2))) (hQ : wrap64 Q = Q) (k1 : (1099511627776 < Q) = False) (k2 : ((Kn : Int) < Q) = False) {N : Nat} {w : World} {L : List Res} (HS0 : St N w (Blk p #[.int .i64 Kn, .int .i64 sd, .slice (some ad) Kn c, .bool true] 59 :: Row k52 52 (.slice (some ad) Kn c) l :: L)) :
    Calls Try.prog 16 #[.pointer (some ⟨p, 0, none⟩)] w fun e w' => e = .returned (.int .i64 Kn) ∧ St N w' (Blk p #[.int .i64 Kn, .int .i64 sd, .slice (some ad) Kn c, .bool true] 59 :: Row k52 52 (.slice (some ad) Kn c) l :: L) ∧ Below N w w' := by
  have HS := Aside0.mk HS0
  have HB := Aside0.mk (Below.refl N w)
  clear HS0
  have q1 : (0 : Int) ≤ (j : Int) := by omega
  have q2 : (j : Int) < (Kn : Int) := by omega
  have q3 : wrap64 ((Kn : Int) - 1) = (j : Int) := by rw [wrap64_small _ (by omega) (by omega)]; omega
  have q4 : IntKind.u64.wrap h = h := wu h h0 (by omega)
  have q5 : IntKind.u64.wrap (j : Int) = (j : Int) := wu _ q1 (by omega)
  have q6 : IntKind.u64.wrap (Kn : Int) = (Kn : Int) := wu _ (by omega) (by omega)
  have q7 : wrap64 (Kn : Int) = (Kn : Int) := wrap64_small _ (by omega) (by omega)
  obtain ⟨ad', e, hx, _⟩ := at_T52 (HS.out.pick 1 rfl).rowC.2.2 (j : Int) q1 (by omega)
  cases e
  rw [hh, Int.toNat_natCast] at hx
  replace hx := Aside0.mk hx
  replace hj := Aside0.mk hj
  replace hl := Aside0.mk hl
  clear hh hK
  have hc0_3 := ((HS.out.pick 0 rfl).cell 3).trans (show _ = some (.bool true) from rfl)
  go_enter Try.func16, Try.ntmps16
  go_upto_region 5 with (fail)
  clear hc0_3
  have n2_ := Aside0.mk (show w.drew.cell? _ = _ from hx.out); clear hx; have hx := n2_; clear n2_
  have n0_ := Aside0.mk (HS.out.drew); have n1_ := Aside0.mk (HB.out.drew); clear HS HB; have HS := n0_; have HB := n1_; clear n0_ n1_
  refine start_ (n := 14) (S := fun w' => w'.cell? ⟨p, 2, none⟩ = some (.slice (some ad) Kn c) ∧ w'.cell? ⟨p, 0, none⟩ = some (.int .i64 Kn) ∧ w'.cell? (ad.add (j * 2)) = some (.int .i64 h)) (ds := []) (tfs true [0, 14]).toArray (by kernel_rfl) rfl rfl ⟨((HS.out.pick 0 rfl).cell 2).trans rfl, ((HS.out.pick 0 rfl).cell 0).trans rfl, hx.out⟩ (fun hHeld => ?_); refine with_tabW dsn.tab5 dsn.bits5 (fun HT_ HW_ => ?_)
  generalize w.drew = w1 at HS HB hx hHeld ⊢
  refine pure_ (i := 0) (N := some 22) (v := ?_) (a' := ?_) (tfs true [1, 13]).toArray rfl rfl (any_of HT_.out (by kernel_rfl)) (fun _ _ _ h => h) (Or.inl ⟨by rfl, ?_⟩) ?_ ?_
  rotate_left
  · intro w'
    go_simp
    with_reducible rfl
  rotate_left
  · simp only [Act.put, List.setIfInBounds_toArray, List.set_cons_zero, List.set_cons_succ, i64_w, i32_w]
    rfl
  refine pure_ (i := 1) (N := some 23) (v := ?_) (a' := ?_) (tfs true [2, 12]).toArray rfl rfl (any_of HT_.out (by kernel_rfl)) (fun _ _ _ h => h) (Or.inl ⟨by rfl, ?_⟩) ?_ ?_
  rotate_left
  · intro w'
    go_simp
    with_reducible rfl
  rotate_left
  · simp only [Act.put, List.setIfInBounds_toArray, List.set_cons_zero, List.set_cons_succ, i64_w, i32_w]
    rfl
  refine pure_ (i := 2) (N := some 24) (v := ?_) (a' := ?_) (tfs true [3, 11]).toArray rfl rfl (any_of HT_.out (by kernel_rfl)) (fun _ _ _ h => h) (Or.inl ⟨by rfl, ?_⟩) ?_ ?_
  rotate_left
  · intro w'
    go_simp
    with_reducible rfl
  rotate_left
  · simp only [Act.put, List.setIfInBounds_toArray, List.set_cons_zero, List.set_cons_succ, i64_w, i32_w]
    rfl
  refine pure_ (i := 4) (N := some 26) (v := ?_) (a' := ?_) (tfs true [3, 1, 1, 9]).toArray rfl rfl (any_of HT_.out (by kernel_rfl)) (fun _ _ _ h => h) (Or.inl ⟨by rfl, ?_⟩) ?_ ?_
  rotate_left
  · intro w'
    go_simp
    with_reducible rfl
  rotate_left
  · simp only [Act.put, List.setIfInBounds_toArray, List.set_cons_zero, List.set_cons_succ, i64_w, i32_w]
    rfl
  refine pure_ (i := 5) (N := some 27) (v := ?_) (a' := ?_) (tfs true [3, 1, 2, 8]).toArray rfl rfl (any_of HT_.out (by kernel_rfl)) (fun _ _ _ h => h) (Or.inl ⟨by rfl, ?_⟩) ?_ ?_
  rotate_left
  · intro w'
    go_simp
    with_reducible rfl
  rotate_left
  · simp only [Act.put, List.setIfInBounds_toArray, List.set_cons_zero, List.set_cons_succ, i64_w, i32_w]
    rfl
  refine pure_ (i := 6) (N := some 28) (v := ?_) (a' := ?_) (tfs true [3, 1, 3, 7]).toArray rfl rfl (any_of HT_.out (by kernel_rfl)) (fun _ _ _ h => h) (Or.inl ⟨by rfl, ?_⟩) ?_ ?_
  rotate_left
  · intro w'
    go_simp
    with_reducible rfl
  rotate_left
  · simp only [Act.put, List.setIfInBounds_toArray, List.set_cons_zero, List.set_cons_succ, i64_w, i32_w]
    rfl
  refine take_ (i := 3) (N := some 25) (v := ?_) (a' := ?_) (tfs true [7, 7]).toArray rfl rfl (take_ofW HT_.out HW_.out (by kernel_rfl)) (fun _ _ _ h => h) (Or.inl ⟨by rfl, ?_⟩) hHeld ?_ ?_
  rotate_left
  · rintro w' ⟨s0, s1, s2⟩
    go_simp
    with_reducible rfl
  rotate_left
  · simp only [Act.put, List.setIfInBounds_toArray, List.set_cons_zero, List.set_cons_succ, i64_w, i32_w]
    rfl
  refine take_ (i := 7) (N := some 29) (v := ?_) (a' := ?_) (tfs true [8, 6]).toArray rfl rfl (take_ofW HT_.out HW_.out (by kernel_rfl)) (fun _ _ _ h => h) (Or.inl ⟨by rfl, ?_⟩) hHeld ?_ ?_
  rotate_left
  · rintro w' ⟨s0, s1, s2⟩
    go_simp
    with_reducible rfl
  rotate_left
  · simp only [Act.put, List.setIfInBounds_toArray, List.set_cons_zero, List.set_cons_succ, i64_w, i32_w]
    rfl
  refine pure_ (i := 8) (N := some 30) (v := ?_) (a' := ?_) (tfs true [9, 5]).toArray rfl rfl (any_of HT_.out (by kernel_rfl)) (fun _ _ _ h => h) (Or.inl ⟨by rfl, ?_⟩) ?_ ?_
  rotate_left
  · intro w'
    go_simp
    with_reducible rfl
  rotate_left
  · simp only [Act.put, List.setIfInBounds_toArray, List.set_cons_zero, List.set_cons_succ, i64_w, i32_w]
    rfl
  refine pure_ (i := 9) (N := some 31) (v := ?_) (a' := ?_) (tfs true [10, 4]).toArray rfl rfl (any_of HT_.out (by kernel_rfl)) (fun _ _ _ h => h) (Or.inl ⟨by rfl, ?_⟩) ?_ ?_
  rotate_left
  · intro w'
    go_simp
    with_reducible rfl
  rotate_left
  · simp only [Act.put, List.setIfInBounds_toArray, List.set_cons_zero, List.set_cons_succ, i64_w, i32_w]
    rfl
  refine pure_ (i := 10) (N := some 32) (v := ?_) (a' := ?_) (tfs true [11, 3]).toArray rfl rfl (any_of HT_.out (by kernel_rfl)) (fun _ _ _ h => h) (Or.inl ⟨by rfl, ?_⟩) ?_ ?_
  rotate_left
  · intro w'
    go_simp
    with_reducible rfl
  rotate_left
  · simp only [Act.put, List.setIfInBounds_toArray, List.set_cons_zero, List.set_cons_succ, i64_w, i32_w]
    rfl
  refine take_ (i := 11) (N := some 33) (v := ?_) (a' := ?_) (tfs true [12, 2]).toArray rfl rfl (take_ofW HT_.out HW_.out (by kernel_rfl)) (fun _ _ _ h => h) (Or.inl ⟨by rfl, ?_⟩) hHeld ?_ ?_
  rotate_left
  · rintro w' ⟨s0, s1, s2⟩
    go_simp
    with_reducible rfl
  rotate_left
  · simp only [Act.put, List.setIfInBounds_toArray, List.set_cons_zero, List.set_cons_succ, i64_w, i32_w]
    rfl
  refine pure_ (i := 12) (N := some 34) (v := ?_) (a' := ?_) (tfs true [13, 1]).toArray rfl rfl (any_of HT_.out (by kernel_rfl)) (fun _ _ _ h => h) (Or.inl ⟨by rfl, ?_⟩) ?_ ?_
  rotate_left
  · intro w'
    go_simp
    with_reducible rfl
  rotate_left
  · simp only [Act.put, List.setIfInBounds_toArray, List.set_cons_zero, List.set_cons_succ, i64_w, i32_w]
    rfl
  refine pure_ (i := 13) (N := some 3) (v := ?_) (a' := ?_) (tfs true [14]).toArray rfl rfl (any_of HT_.out (by kernel_rfl)) (fun _ _ _ h => h) (Or.inl ⟨by rfl, ?_⟩) ?_ ?_
  rotate_left
  · intro w'
    go_simp
    with_reducible rfl
  rotate_left
  · simp only [Act.put, List.setIfInBounds_toArray, List.set_cons_zero, List.set_cons_succ, i64_w, i32_w]
    rfl
  refine done_ (done_of HT_.out (by kernel_rfl)) ?_
  clear HT_ HW_
  try clear hHeld
  have hc0_0 := ((HS.out.pick 0 rfl).cell 0).trans (show _ = some (.int .i64 Kn) from rfl)
  clear q1 q2 h0 h1
  go_wp2_with (first | ((with_reducible refine gate_callee (f := 39) rfl ?_); refine goesL_ (some 42) rfl rfl Try.func39 (by kernel_rfl) rfl #[.int .u64 (j : Int), .int .u64 4611686018427387904] rfl (by (try simp only [List.map_toArray, List.map_cons, List.map_nil]); first | done | rfl | (simp only [List.length_drop, List.length_take]; rfl)) ?_; (with_reducible refine (bits_Mul64.calls _ _ _ _ _ hmul.out).mono ?_); rintro e w2 ⟨rfl, hb0⟩; have hb := hb0.below; clear hb0 hc0_0; refine ⟨_, rfl, ?_⟩; have n0_ := Aside0.mk (HS.out.step hb); have n1_ := Aside0.mk (below_step' HB.out HS.out.size hb); clear HS HB; have HS := n0_; have HB := n1_; clear n0_ n1_; (try simp only [List.eraseIdx_cons_succ, List.eraseIdx_cons_zero] at HS); clear hb; have hc0_0 := ((HS.out.pick 0 rfl).cell 0).trans (show _ = some (.int .i64 Kn) from rfl)) | ((with_reducible refine gate_callee (f := 40) rfl ?_); refine goesL_ (some 60) rfl rfl Try.func40 (by kernel_rfl) rfl #[.int .u64 hi, .int .u64 lo, .int .u64 h] rfl (by (try simp only [List.map_toArray, List.map_cons, List.map_nil]); first | done | rfl | (simp only [List.length_drop, List.length_take]; rfl)) ?_; (with_reducible refine (bits_Div64.calls 10 _ _ _ Q r2 _ hdiv.out hz.out hle.out).mono ?_); rintro e w3 ⟨rfl, hb0⟩; have hb := hb0.below; clear hb0 hc0_0; refine ⟨_, rfl, ?_⟩; have n0_ := Aside0.mk (HS.out.step hb); have n1_ := Aside0.mk (below_step' HB.out HS.out.size hb); clear HS HB; have HS := n0_; have HB := n1_; clear n0_ n1_; (try simp only [List.eraseIdx_cons_succ, List.eraseIdx_cons_zero] at HS); clear hb; have hc0_0 := ((HS.out.pick 0 rfl).cell 0).trans (show _ = some (.int .i64 Kn) from rfl)))
  go_ret
  exact ⟨rfl, HS.out, HB.out⟩

theorem bottomk_Distinct.more (Kn j : Nat) (hj : Kn = j + 1) (hK : Kn ≤ 1024) (sd h : Int) (h0 : 0 ≤ h) (h1 : h < 4611686018427387904) (ad : Addr) (c : Nat) (l : List S52) (hl : l.length = Kn) (hh : (rd_T52 l (j : Int)).f0 = h) (p : Nat) {N : Nat} {w : World} {L : List Res} (HS0 : St N w (Blk p #[.int .i64 Kn, .int .i64 sd, .slice (some ad) Kn c, .bool true] 59 :: Row k52 52 (.slice (some ad) Kn c) l :: L)) :
    Calls Try.prog 16 #[.pointer (some ⟨p, 0, none⟩)] w fun e w' => e = .returned (.int .i64 (dist Kn h)) ∧ St N w' (Blk p #[.int .i64 Kn, .int .i64 sd, .slice (some ad) Kn c, .bool true] 59 :: Row k52 52 (.slice (some ad) Kn c) l :: L) ∧ Below N w w' := by
  have hm := mul_ok (j : Int) (by omega) (by omega)
  have ek : (Kn : Int) - 1 = (j : Int) := by omega
  unfold dist
  rw [ek]
  by_cases hz : h = 0
  · rw [if_pos hz]
    exact dsn_zero Kn j hj hK sd h h0 h1 ad c l hl hh p _ _ ⟨hm⟩ (by simpa using hz) HS0
  · rw [if_neg hz]
    by_cases hle : h ≤ (j : Int) / 4
    · rw [if_pos (dist_great (j : Int) h (by omega) (by omega) hle)]
      exact dsn_great Kn j hj hK sd h h0 h1 ad c l hl hh p _ _ ⟨hm⟩ (by simpa using hz) (decide_eq_true hle) HS0
    · obtain ⟨r2, hd⟩ := div_dist (j : Int) h (by omega) (by omega) (by omega) (by omega) (by omega)
      have n0 := dist_nonneg (j : Int) h (by omega) (by omega)
      generalize distQ (j : Int) h = Q at hd n0 ⊢
      by_cases k1 : Q > 1099511627776
      · rw [if_pos k1]
        exact dsn_A Kn j hj hK sd h h0 h1 ad c l hl hh p _ _ ⟨hm⟩ ⟨hz⟩ (by simpa using hz) ⟨hle⟩ (decide_eq_false hle) Q r2 ⟨hd⟩ (eq_true k1) (eq_true (by omega)) (wrap64_small _ (by omega) (by omega)) HS0
      · rw [if_neg k1]
        have hw : wrap64 Q = Q := wrap64_small _ n0 (by omega)
        by_cases k2 : Q > (Kn : Int)
        · rw [if_pos k2]
          exact dsn_B Kn j hj hK sd h h0 h1 ad c l hl hh p _ _ ⟨hm⟩ ⟨hz⟩ (by simpa using hz) ⟨hle⟩ (decide_eq_false hle) Q r2 ⟨hd⟩ hw (eq_false k1) (eq_true k2) HS0
        · rw [if_neg k2]
          exact dsn_C Kn j hj hK sd h h0 h1 ad c l hl hh p _ _ ⟨hm⟩ ⟨hz⟩ (by simpa using hz) ⟨hle⟩ (decide_eq_false hle) Q r2 ⟨hd⟩ hw (eq_false k1) (eq_false k2) HS0
/-- The number that is estimated. -/
def dst (Kn : Nat) (l : List S52) : Int := if l.length ≤ Kn then (l.length : Int) else dist (Kn : Int) (rd_T52 l ((Kn - 1 : Nat) : Int)).f0
theorem rd_take (l : List S52) (Kn j : Nat) (h : j < Kn) : rd_T52 (l.take Kn) (j : Int) = rd_T52 l (j : Int) := by
  unfold rd_T52
  rw [Int.toNat_natCast, List.getD_eq_getElem?_getD, List.getD_eq_getElem?_getD, List.getElem?_take_of_lt h]
/-- All hashes of a row lie in the range of hashes. -/
def Hin (l : List S52) : Prop := ∀ x ∈ l, 0 ≤ x.f0 ∧ x.f0 < 4611686018427387904
theorem Hin_rd {l : List S52} (h : Hin l) (j : Nat) (hj : j < l.length) : 0 ≤ (rd_T52 l (j : Int)).f0 ∧ (rd_T52 l (j : Int)).f0 < 4611686018427387904 := by
  rw [rd52 l j hj]; exact h _ (List.getElem_mem _)
theorem Hin_foldl (hs : ByteArray → Int) : ∀ (ts : List ByteArray) (l : List S52), Hin l → (∀ t ∈ ts, 0 ≤ hs t ∧ hs t < 4611686018427387904) → Hin (ts.foldl (fun l t => ins ⟨hs t, t⟩ l) l)
  | [], l, h, _ => h
  | t :: ts, l, h, ht => by
    refine Hin_foldl hs ts _ ?_ (fun t' h' => ht t' (List.mem_cons_of_mem _ h'))
    intro x hx
    rcases mem_ins.mp hx with rfl | hx
    · exact ht t List.mem_cons_self
    · exact h x hx
theorem Hin_foldk (sd : Int) (ts : List ByteArray) (ht : ∀ t ∈ ts, t.size ≤ 1000000) : Hin (foldk (hashT sd) ts) :=
  Hin_foldl (hashT sd) ts [] (fun x hx => by simp at hx) (fun t h => hash_range sd t (ht t h))
theorem Distinct_sk (p Kn : Nat) (sd : Int) (l : List S52) (hK1 : 1 ≤ Kn) (hK : Kn ≤ 1024) (hin : Hin l) {N : Nat} {w : World} {L : List Res} (HS0 : St N w (Sk p Kn sd l :: L)) :
    Calls Try.prog 16 #[.pointer (some ⟨p, 0, none⟩)] w fun e w' => e = .returned (.int .i64 (dst Kn l)) ∧ St N w' (Sk p Kn sd l :: L) ∧ Below N w w' := by
  obtain ⟨v, hv⟩ := Sk_open HS0
  obtain ⟨A, c, e, hc, _⟩ := hv.swap.reads
  subst e
  unfold dst
  by_cases hle : l.length ≤ Kn
  · rw [if_pos hle]
    rw [decide_eq_false (show ¬ Kn < l.length by omega)] at hv
    rw [List.take_of_length_le hle] at hv
    refine (bottomk_Distinct.exact _ _ A l.length c p w hv.blk).mono ?_
    rintro e w' ⟨rfl, rfl⟩
    exact ⟨rfl, HS0, Below.refl _ _⟩
  · rw [if_neg hle]
    have ht : (l.take Kn).length = Kn := by rw [List.length_take]; omega
    have hr := rd_take l Kn (Kn - 1) (by omega)
    have hb := Hin_rd hin (Kn - 1) (by omega)
    have hv2 := hv
    rw [decide_eq_true (show Kn < l.length by omega), ht] at hv2
    obtain ⟨ad, e, _⟩ := at_T52 hv2.swap.rowC.2.2 ((Kn - 1 : Nat) : Int) (by omega) (by omega)
    subst e
    refine (bottomk_Distinct.more Kn (Kn - 1) (by omega) hK sd _ hb.1 hb.2 ad c (l.take Kn) ht (congrArg S52.f0 hr) p hv2).mono ?_
    rintro e w' ⟨rfl, hs, hbl⟩
    refine ⟨rfl, Sk_shut (v := .slice (some ad) Kn c) ?_, hbl⟩
    rw [decide_eq_true (show Kn < l.length by omega)]
    exact hs

end Go.Proofs.Ytddhpkobingmhaa.PB
