/- BottomkAdds, walked. -/
import Derived.Test.YtddhpkobingmhaaSk12

namespace Go.Proofs.Ytddhpkobingmhaa.PB
open Go.RowKit Go.Proofs.YtddhpkobingmhaaW.PrintWords Go.Proofs.YtddhpkobingmhaaW.PrintLast Go.Proofs.YtddhpkobingmhaaW.PrintMore Go.Proofs.Ytddhpkobingmhaa.Sep
set_option linter.unusedVariables false
set_option linter.unusedSimpArgs false
set_option maxHeartbeats 8000000
set_option maxRecDepth 100000

theorem facts_j (j n c : Nat) (hj : j < n) (hn : n ≤ 1000) (hc : n ≤ c) : (0 : Int) ≤ (j : Int) ∧ (j : Int) < (n : Int) ∧ wrap64 ((j : Int) + 1) = (j : Int) + 1 ∧ (0 : Int) ≤ (j : Int) + 1 ∧ (j : Int) + 1 ≤ (c : Int) ∧ ((j : Int) + 1).toNat = j + 1 ∧ decide ((j : Int) < (n : Int)) = true ∧ j + 1 ≤ n :=
  ⟨by omega, by omega, wrap64_small _ (by omega) (by omega), by omega, by omega, by omega, decide_eq_true (by omega), by omega⟩
theorem meas_j (j n : Nat) (h : j < n) : ((n : Int) - ((j : Int) + 1)).toNat < ((n : Int) - (j : Int)).toNat := by omega
theorem txt_head {N : Nat} {w : World} {L : List Res} {ad : Addr} {c : Nat} {ts : List ByteArray} (h : St N w (Row Kd.string 9 (.slice (some ad) ts.length c) ts :: L)) (j : Nat) (hj : j < ts.length) : w.cell? (ad.add j) = some (.string (rdOf ByteArray.empty ts (j : Int))) := by
  obtain ⟨ad', e, hx⟩ := Kd.at_string h.rowC.2.2 (j : Int) (by omega) (by omega)
  cases e
  rwa [Int.toNat_natCast] at hx

def adl.T9 : Bool × List (List Nat × List Nat) := (true, [([], []), ([], []), ([], []), ([1, 2], [1, 2]), ([3], [3]), ([0, 4], [0, 4]), ([5], [5]), ([6, 5], [6]), ([7], [7]), ([8, 7], [7, 8]), ([7], [7]), ([10, 7], [7, 10]), ([7], [7]), ([7], [7]), ([13, 7], [7, 13]), ([12, 14, 7], [7, 12, 14]), ([9, 11, 15, 7, 7], [7, 9, 11, 15]), ([7], [7]), ([16, 17, 16, 7], [7, 16, 17]), ([18, 7], [7, 18]), ([7, 19], [7, 19])])
def adl.B9 : List Nat := [0, 0, 0, 6, 14, 31, 63, 127, 255, 511, 255, 1279, 255, 255, 8447, 28927, 65535, 255, 262143, 524287, 1048575]
theorem adl.tab9 : rtab .any (opsOf Try.f4 9) = adl.T9 := by kernel_rfl
theorem adl.bits9 : waitsOk adl.T9.2 adl.B9 = true := by kernel_rfl
theorem adds_walk (a bb : Int) (ha0 : 0 ≤ a) (ha1 : a ≤ 255) (hb0 : 0 ≤ bb) (hb1 : bb ≤ 255) (A : Option Addr) (c : Nat) (dl : List Int) (hc : dl.length ≤ c) (Kn : Nat) (hKn : 1 + a % 12 = (Kn : Int)) (k kc k2 : Nat) (hs : ByteArray → Int) (ts : List ByteArray) (hk0 : sleuthlaw23_keys.f k dl = some ts) (hts : ts.length ≤ 1000) (hok : ∀ t ∈ ts, bottomk_check.f kc t = some 0 ∧ checksum_Text.f k2 bb t = some (hs t)) (w : World) (HC0 : Kd.C (Kd.int .u8) w A dl.length dl) :
    Calls Try.prog 4 #[.agg #[.int .u8 a, .int .u8 bb], .slice A dl.length c] w fun e w' => e = .returned (.bool true) ∧ Below w.heap.size w w' := by
  have HS := Aside0.mk (St.none_ (N := w.heap.size) (w := w) (Nat.le_refl _))
  have HB := Aside0.mk (Below.refl w.heap.size w)
  have HC := Aside0.mk HC0
  have HOK := Aside0.mk hok
  have hk := Aside0.mk hk0
  clear HC0 hok hk0
  have hw1 : wrap64 bb = bb := by unfold wrap64; omega
  have hw2 : IntKind.i64.wrap bb = bb := by rw [IntKind.wrap_i64]; omega
  have hKn2 : (1 : Int) ≤ (Kn : Int) ∧ (Kn : Int) ≤ 12 := by omega
  have hKn3 := hKn
  replace hKn := Aside0.mk hKn
  obtain ⟨hKa, hKb⟩ := hKn2
  have hK12 : Kn ≤ 12 := by omega
  go_enter Try.func4, Try.ntmps4
  go_wp2_with (first | ((with_reducible refine gate_dst (N := 2) rfl ?_); refine box_event ?hg (N := 2) ?hd (cs := #[.int .u8 a, .int .u8 bb]) (t := 23) ?hr ?_; (case hd => rfl); (case hg => rfl); (case hr => first | (go_simp; done) | (go_simp; rfl)); intro q hg w1 hbox hb; have n0_ := Aside0.mk (HS.out.box hg hbox hb); have n1_ := Aside0.mk (below_step' HB.out HS.out.size hb); clear HS HB; have HS := n0_; have HB := n1_; clear n0_ n1_; (try simp only [List.eraseIdx_cons_succ, List.eraseIdx_cons_zero] at HS); clear hb hbox hg; have hc0_0 := ((HS.out.pick 0 rfl).cell 0).trans (show _ = some (.int .u8 a) from rfl); have hc0_1 := ((HS.out.pick 0 rfl).cell 1).trans (show _ = some (.int .u8 bb) from rfl)) | ((with_reducible refine gate_callee (f := 12) rfl ?_); refine goesL_ (some 14) rfl rfl Try.func12 (by kernel_rfl) rfl #[.agg #[.int .u8 a, .int .u8 bb], .slice A dl.length c] rfl (by (try simp only [List.map_toArray, List.map_cons, List.map_nil]); first | done | rfl | (simp only [List.length_drop, List.length_take]; rfl)) ?_; (with_reducible refine (made_ok a bb ha0 ha1 hb0 hb1 A c dl hc Kn hKn.out k kc k2 hs ts hk.out (by omega) HOK.out HC.out HB.out HS.out).mono ?_); rintro e w2 ⟨p, v, rfl, hs1, hb⟩; refine ⟨_, rfl, ?_⟩; have n0_ := Aside0.mk (hs1); have n1_ := Aside0.mk (hb); clear HS HB; have HS := n0_; have HB := n1_; clear n0_ n1_; (try simp only [List.eraseIdx_cons_succ, List.eraseIdx_cons_zero] at HS); clear hs1 hb; obtain ⟨A1, n1, c1, rfl⟩ : ∃ (A : Option Addr) (n c : Nat), v = .slice A n c := (by obtain ⟨A, c, e, _, _⟩ := HS.out.reads; exact ⟨A, _, c, e⟩)) | ((with_reducible refine gate_dst (N := 6) rfl ?_); refine box_event ?hg (N := 6) ?hd (cs := #[.int .i64 0, .int .i64 0, .slice none 0 0]) (t := 28) ?hr ?_; (case hd => rfl); (case hg => rfl); (case hr => first | (go_simp; done) | (go_simp; rfl)); intro s hg w3 hbox hb; have n0_ := Aside0.mk (HS.out.box hg hbox hb); have n1_ := Aside0.mk (below_step' HB.out HS.out.size hb); clear HS HB; have HS := n0_; have HB := n1_; clear n0_ n1_; (try simp only [List.eraseIdx_cons_succ, List.eraseIdx_cons_zero] at HS); clear hb hbox hg; have hc0_0 := ((HS.out.pick 0 rfl).cell 0).trans (show _ = some (.int .i64 0) from rfl); have hc0_1 := ((HS.out.pick 0 rfl).cell 1).trans (show _ = some (.int .i64 0) from rfl); have hc0_2 := ((HS.out.pick 0 rfl).cell 2).trans (show _ = some (.slice none 0 0) from rfl); have hf0_0 := (HS.out.pick 0 rfl).frozen 0; have hf0_1 := (HS.out.pick 0 rfl).frozen 1; have hf0_2 := (HS.out.pick 0 rfl).frozen 2) | ((with_reducible refine gate_store (t := 28) (p := 6) rfl ?_); refine store_event (t := 28) (p := 6) (v := .tmp 16) (w1 := ?_) rfl rfl rfl ?_ ?_; rotate_left; (focus (first | (go_simp; done) | (go_simp; rfl))); intro w4 hw; have n0_ := Aside0.mk (HS.out.set3 hw); have n1_ := Aside0.mk (HS.out.below_set3 HB.out hw); clear HS HB; have HS := n0_; have HB := n1_; clear n0_ n1_; (try simp only [List.eraseIdx_cons_succ, List.eraseIdx_cons_zero] at HS); clear hw; clear hc0_0 hc0_1 hc0_2 hf0_0 hf0_1 hf0_2; have hc3_0 := ((HS.out.pick 3 rfl).cell 0).trans (show _ = some (.int .u8 a) from rfl); have hc3_1 := ((HS.out.pick 3 rfl).cell 1).trans (show _ = some (.int .u8 bb) from rfl)) | ((with_reducible refine gate_callee (f := 20) rfl ?_); refine goesL_ (some 26) rfl rfl Try.func20 (by kernel_rfl) rfl #[.int .i64 Kn, .int .i64 bb] rfl (by (try simp only [List.map_toArray, List.map_cons, List.map_nil]); first | done | rfl | (simp only [List.length_drop, List.length_take]; rfl)) ?_; (with_reducible refine (bottomk_New.ok Kn bb (by omega) (by omega) hb0 (by omega) HS.out).mono ?_); rintro e w5 ⟨p2, rfl, hs1, hb⟩; refine ⟨_, rfl, ?_⟩; have n0_ := Aside0.mk (Sk_nil hs1); have n1_ := Aside0.mk (HB.out.trans hb); clear HS HB; have HS := n0_; have HB := n1_; clear n0_ n1_; (try simp only [List.eraseIdx_cons_succ, List.eraseIdx_cons_zero] at HS); clear hs1 hb hc3_0 hc3_1) | ((with_reducible refine gate_callee (f := 13) rfl ?_); refine goesL_ (some 29) rfl rfl Try.func13 (by kernel_rfl) rfl #[] rfl (by (try simp only [List.map_toArray, List.map_cons, List.map_nil]); first | done | rfl | (simp only [List.length_drop, List.length_take]; rfl)) ?_; (with_reducible refine (known_ok HS.out).mono ?_); rintro e w6 ⟨rfl, hs1, hb⟩; refine ⟨_, rfl, ?_⟩; have n0_ := Aside0.mk (hs1); have n1_ := Aside0.mk (HB.out.trans hb); clear HS HB; have HS := n0_; have HB := n1_; clear n0_ n1_; (try simp only [List.eraseIdx_cons_succ, List.eraseIdx_cons_zero] at HS); clear hs1 hb; have hc1_0 := ((HS.out.pick 1 rfl).cell 0).trans (show _ = some (.int .i64 Kn) from rfl); have hc1_1 := ((HS.out.pick 1 rfl).cell 1).trans (show _ = some (.int .i64 bb) from rfl); have hc1_2 := ((HS.out.pick 1 rfl).cell 2).trans (show _ = some (.slice A1 n1 c1) from rfl)) | (go_at_call 21; refine (agrees_ok Kn (by omega) bb (foldk hs ts) (by have := lenk hs ts ts.length (by omega); rwa [List.take_length] at this) (.slice A1 n1 c1) p ((HS.out.pick 3 rfl).pick 3 rfl)).mono ?_; rintro e w7 ⟨rfl, hs1, hb⟩; have n0_ := Aside0.mk (((hs1.pick 3 rfl).pick 3 rfl)); have n1_ := Aside0.mk (HB.out.trans hb); clear HS HB; have HS := n0_; have HB := n1_; clear n0_ n1_; (try simp only [List.eraseIdx_cons_succ, List.eraseIdx_cons_zero] at HS); clear hs1 hb) | ((with_reducible refine gate_callee (f := 22) rfl ?_); refine goesL_ (some 42) rfl rfl Try.func22 (by kernel_rfl) rfl #[.slice A dl.length c] rfl (by (try simp only [List.map_toArray, List.map_cons, List.map_nil]); first | done | rfl | (simp only [List.length_drop, List.length_take]; rfl)) ?_; (with_reducible refine (sleuthlaw23_keys.calls k A c dl ts _ (Kd.C_below HC.out HB.out) hc hk.out).mono ?_); rintro e w8 ⟨vt, rfl, ho, hb⟩; refine ⟨_, rfl, ?_⟩; have n0_ := Aside0.mk (HS.out.made ho hb); have n1_ := Aside0.mk (below_step' HB.out HS.out.size hb); clear HS HB; have HS := n0_; have HB := n1_; clear n0_ n1_; (try simp only [List.eraseIdx_cons_succ, List.eraseIdx_cons_zero] at HS); clear ho hb; obtain ⟨A2, c2, e2, _, _⟩ := HS.out.reads; subst e2))
  go_loopw [10] (fun v10 wc => ∃ j : Nat, j ≤ ts.length ∧ v10 = .int .i64 j ∧ Aside0 (St w.heap.size wc (Row Kd.string 9 (.slice A2 ts.length c2) ts :: Sk p2 Kn bb (foldk hs (ts.take j)) :: Blk s #[.int .i64 Kn, .int .i64 bb, .slice A1 n1 c1] 28 :: Row k52 52 (.slice A1 n1 c1) (foldk hs ts) :: Sk p Kn bb (foldk hs ts) :: Blk q #[.int .u8 a, .int .u8 bb] 23 :: [])) ∧ Aside0 (Below w.heap.size w wc)) (fun v10 _ => (ts.length - intOf v10).toNat)
  case atStart =>
    (try simp only [List.eraseIdx_cons_succ, List.eraseIdx_cons_zero] at HS)
    refine ⟨0, Nat.zero_le _, rfl, ?_, HB⟩
    rw [show foldk hs (ts.take 0) = [] from rfl]
    exact HS
  case round =>
    clear HS HB hKn3
    obtain ⟨j, hj, rfl, HS, HB⟩ := hrel
    by_cases hlt : j < ts.length
    · have hmem : (rdOf ByteArray.empty ts (j : Int)) ∈ ts := by rw [rdOf_at ts j hlt]; exact List.getElem_mem _
      have hck := Aside0.mk (HOK.out _ hmem).1
      have htx := Aside0.mk (HOK.out _ hmem).2
      have hc2 := HS.out.rowC.2.1
      obtain ⟨ad, e, hx⟩ := Kd.at_string HS.out.rowC.2.2 (j : Int) (by omega) (by omega)
      clear hmem
      cases e
      rw [Int.toNat_natCast] at hx
      replace hx := Aside0.mk hx
      obtain ⟨q1, q2, q3, q4, q5, q6, q7, hj1⟩ := facts_j j ts.length c2 hlt hts hc2
      have ht5 : ts.length ≤ 100000 := Nat.le_trans hts (by decide)
      have hK4 : Kn ≤ 1024 := Nat.le_trans hK12 (by decide)
      go_upto_region 9 with (fail)
      have n2_ := Aside0.mk (show wr.drew.cell? _ = _ from hx.out); clear hx; have hx := n2_; clear n2_
      have n0_ := Aside0.mk (HS.out.drew); have n1_ := Aside0.mk (HB.out.drew); clear HS HB; have HS := n0_; have HB := n1_; clear n0_ n1_
      refine start_ (n := 21) (S := fun w' => w'.cell? (ad.add j) = some (.string (rdOf ByteArray.empty ts (j : Int))) ∧ w'.cell? ⟨s, 0, none⟩ = some (.int .i64 Kn) ∧ w'.cell? ⟨s, 1, none⟩ = some (.int .i64 bb)) (ds := []) (tfs true [0, 21]).toArray (by kernel_rfl) rfl rfl ⟨hx.out, ((HS.out.pick 2 rfl).cell 0).trans rfl, ((HS.out.pick 2 rfl).cell 1).trans rfl⟩ (fun hHeld => ?_); refine with_tabW adl.tab9 adl.bits9 (fun HT_ HW_ => ?_)
      generalize wr.drew = w10 at HS HB hx hHeld ⊢
      refine pure_ (i := 0) (N := some 49) (v := ?_) (a' := ?_) (tfs true [1, 20]).toArray rfl rfl (any_of HT_.out (by kernel_rfl)) (fun _ _ _ h => h) (Or.inl ⟨by rfl, ?_⟩) ?_ ?_
      rotate_left
      · intro w'
        go_simp
        with_reducible rfl
      rotate_left
      · simp only [Act.put, List.setIfInBounds_toArray, List.set_cons_zero, List.set_cons_succ, i64_w, i32_w]
        rfl
      refine pure_ (i := 1) (N := some 50) (v := ?_) (a' := ?_) (tfs true [2, 19]).toArray rfl rfl (any_of HT_.out (by kernel_rfl)) (fun _ _ _ h => h) (Or.inl ⟨by rfl, ?_⟩) ?_ ?_
      rotate_left
      · intro w'
        go_simp
        with_reducible rfl
      rotate_left
      · simp only [Act.put, List.setIfInBounds_toArray, List.set_cons_zero, List.set_cons_succ, i64_w, i32_w]
        rfl
      refine pure_ (i := 2) (N := some 51) (v := ?_) (a' := ?_) (tfs true [3, 18]).toArray rfl rfl (any_of HT_.out (by kernel_rfl)) (fun _ _ _ h => h) (Or.inl ⟨by rfl, ?_⟩) ?_ ?_
      rotate_left
      · intro w'
        go_simp
        with_reducible rfl
      rotate_left
      · simp only [Act.put, List.setIfInBounds_toArray, List.set_cons_zero, List.set_cons_succ, i64_w, i32_w]
        rfl
      refine pure_ (i := 3) (N := some 52) (v := ?_) (a' := ?_) (tfs true [4, 17]).toArray rfl rfl (any_of HT_.out (by kernel_rfl)) (fun _ _ _ h => h) (Or.inl ⟨by rfl, ?_⟩) ?_ ?_
      rotate_left
      · intro w'
        go_simp
        with_reducible rfl
      rotate_left
      · simp only [Act.put, List.setIfInBounds_toArray, List.set_cons_zero, List.set_cons_succ, i64_w, i32_w]
        rfl
      refine take_ (i := 4) (N := some 53) (v := ?_) (a' := ?_) (tfs true [5, 16]).toArray rfl rfl (take_ofW HT_.out HW_.out (by kernel_rfl)) (fun _ _ _ h => h) (Or.inl ⟨by rfl, ?_⟩) hHeld ?_ ?_
      rotate_left
      · rintro w' ⟨s0, s1, s2⟩
        go_simp
        with_reducible rfl
      rotate_left
      · simp only [Act.put, List.setIfInBounds_toArray, List.set_cons_zero, List.set_cons_succ, i64_w, i32_w]
        rfl
      refine one_ (i := 5) (N := some 54) (tfs true [6, 15]).toArray rfl rfl (one_of HT_.out (by kernel_rfl)) (by decide) (fun K hK => ?_)
      refine goes_ Try.func23 (by kernel_rfl) rfl #[.pointer (some ⟨p2, 0, none⟩), .string (rdOf ByteArray.empty ts (j : Int))] (by rfl) rfl rfl (by (try simp only [List.map_toArray, List.map_cons, List.map_nil]); first | done | rfl | (simp only [List.length_drop, List.length_take]; rfl)) ?_
      with_reducible refine (bottomk_Add.ok kc k2 (rdOf ByteArray.empty ts (j : Int)) hck.out (hs (rdOf ByteArray.empty ts (j : Int))) bb htx.out Kn hK4 (foldk hs (ts.take j)) (inc_foldk _ _) p2 (HS.out.pick 1 rfl)).mono ?_
      rintro e w11 ⟨rfl, hs1, hb⟩; rw [← foldk_snoc, ← take_snoc ts j hlt] at hs1
      refine ⟨_, rfl, ?_⟩
      have n0_ := Aside0.mk (hs1.pick 1 rfl); have n1_ := Aside0.mk (HB.out.trans hb); clear HS HB; have HS := n0_; have HB := n1_; clear n0_ n1_; (try simp only [List.eraseIdx_cons_succ, List.eraseIdx_cons_zero] at HS)
      clear hs1 hb; have n2_ := Aside0.mk (txt_head HS.out j hlt); clear hx; have hx := n2_; clear n2_
      refine hK.out _ _ ⟨hx.out, ((HS.out.pick 2 rfl).cell 0).trans rfl, ((HS.out.pick 2 rfl).cell 1).trans rfl⟩ (fun hHeld => ?_)
      clear hK K
      refine norm_ (a' := ?_) ?_ ?_
      rotate_left
      · show Act.put _ (some 54) _ = _
        simp only [Act.put, List.setIfInBounds_toArray, List.set_cons_zero, List.set_cons_succ, i64_w, i32_w]
        rfl
      refine pure_ (i := 6) (N := some 55) (v := ?_) (a' := ?_) (tfs true [7, 14]).toArray rfl rfl (any_of HT_.out (by kernel_rfl)) (fun _ _ _ h => h) (Or.inl ⟨by rfl, ?_⟩) ?_ ?_
      rotate_left
      · intro w'
        go_simp
        with_reducible rfl
      rotate_left
      · simp only [Act.put, List.setIfInBounds_toArray, List.set_cons_zero, List.set_cons_succ, i64_w, i32_w]
        rfl
      refine pure_ (i := 7) (N := some 56) (v := ?_) (a' := ?_) (tfs true [8, 13]).toArray rfl rfl (any_of HT_.out (by kernel_rfl)) (fun _ _ _ h => h) (Or.inl ⟨by rfl, ?_⟩) ?_ ?_
      rotate_left
      · intro w'
        go_simp
        with_reducible rfl
      rotate_left
      · simp only [Act.put, List.setIfInBounds_toArray, List.set_cons_zero, List.set_cons_succ, i64_w, i32_w]
        rfl
      refine pure_ (i := 8) (N := some 57) (v := ?_) (a' := ?_) (tfs true [9, 12]).toArray rfl rfl (any_of HT_.out (by kernel_rfl)) (fun _ _ _ h => h) (Or.inl ⟨by rfl, ?_⟩) ?_ ?_
      rotate_left
      · intro w'
        go_simp
        with_reducible rfl
      rotate_left
      · simp only [Act.put, List.setIfInBounds_toArray, List.set_cons_zero, List.set_cons_succ, i64_w, i32_w]
        rfl
      refine pure_ (i := 10) (N := some 59) (v := ?_) (a' := ?_) (tfs true [9, 1, 1, 10]).toArray rfl rfl (any_of HT_.out (by kernel_rfl)) (fun _ _ _ h => h) (Or.inl ⟨by rfl, ?_⟩) ?_ ?_
      rotate_left
      · intro w'
        go_simp
        with_reducible rfl
      rotate_left
      · simp only [Act.put, List.setIfInBounds_toArray, List.set_cons_zero, List.set_cons_succ, i64_w, i32_w]
        rfl
      refine pure_ (i := 12) (N := some 61) (v := ?_) (a' := ?_) (tfs true [9, 1, 1, 1, 1, 8]).toArray rfl rfl (any_of HT_.out (by kernel_rfl)) (fun _ _ _ h => h) (Or.inl ⟨by rfl, ?_⟩) ?_ ?_
      rotate_left
      · intro w'
        go_simp
        with_reducible rfl
      rotate_left
      · simp only [Act.put, List.setIfInBounds_toArray, List.set_cons_zero, List.set_cons_succ, i64_w, i32_w]
        rfl
      refine pure_ (i := 13) (N := some 62) (v := ?_) (a' := ?_) (tfs true [9, 1, 1, 1, 2, 7]).toArray rfl rfl (any_of HT_.out (by kernel_rfl)) (fun _ _ _ h => h) (Or.inl ⟨by rfl, ?_⟩) ?_ ?_
      rotate_left
      · intro w'
        go_simp
        with_reducible rfl
      rotate_left
      · simp only [Act.put, List.setIfInBounds_toArray, List.set_cons_zero, List.set_cons_succ, i64_w, i32_w]
        rfl
      refine pure_ (i := 14) (N := some 63) (v := ?_) (a' := ?_) (tfs true [9, 1, 1, 1, 3, 6]).toArray rfl rfl (any_of HT_.out (by kernel_rfl)) (fun _ _ _ h => h) (Or.inl ⟨by rfl, ?_⟩) ?_ ?_
      rotate_left
      · intro w'
        go_simp
        with_reducible rfl
      rotate_left
      · simp only [Act.put, List.setIfInBounds_toArray, List.set_cons_zero, List.set_cons_succ, i64_w, i32_w]
        rfl
      refine pure_ (i := 15) (N := some 64) (v := ?_) (a' := ?_) (tfs true [9, 1, 1, 1, 4, 5]).toArray rfl rfl (any_of HT_.out (by kernel_rfl)) (fun _ _ _ h => h) (Or.inl ⟨by rfl, ?_⟩) ?_ ?_
      rotate_left
      · intro w'
        go_simp
        with_reducible rfl
      rotate_left
      · simp only [Act.put, List.setIfInBounds_toArray, List.set_cons_zero, List.set_cons_succ, i64_w, i32_w]
        rfl
      refine pure_ (i := 17) (N := some 66) (v := ?_) (a' := ?_) (tfs true [9, 1, 1, 1, 4, 1, 1, 3]).toArray rfl rfl (any_of HT_.out (by kernel_rfl)) (fun _ _ _ h => h) (Or.inl ⟨by rfl, ?_⟩) ?_ ?_
      rotate_left
      · intro w'
        go_simp
        with_reducible rfl
      rotate_left
      · simp only [Act.put, List.setIfInBounds_toArray, List.set_cons_zero, List.set_cons_succ, i64_w, i32_w]
        rfl
      refine take_ (i := 9) (N := some 58) (v := ?_) (a' := ?_) (tfs true [11, 1, 4, 1, 1, 3]).toArray rfl rfl (take_ofW HT_.out HW_.out (by kernel_rfl)) (fun _ _ _ h => h) (Or.inl ⟨by rfl, ?_⟩) hHeld ?_ ?_
      rotate_left
      · rintro w' ⟨s0, s1, s2⟩
        go_simp
        with_reducible rfl
      rotate_left
      · simp only [Act.put, List.setIfInBounds_toArray, List.set_cons_zero, List.set_cons_succ, i64_w, i32_w]
        rfl
      refine take_ (i := 11) (N := some 60) (v := ?_) (a' := ?_) (tfs true [16, 1, 1, 3]).toArray rfl rfl (take_ofW HT_.out HW_.out (by kernel_rfl)) (fun _ _ _ h => h) (Or.inl ⟨by rfl, ?_⟩) hHeld ?_ ?_
      rotate_left
      · rintro w' ⟨s0, s1, s2⟩
        go_simp
        with_reducible rfl
      rotate_left
      · simp only [Act.put, List.setIfInBounds_toArray, List.set_cons_zero, List.set_cons_succ, i64_w, i32_w]
        rfl
      refine one_ (i := 16) (N := some 65) (tfs true [18, 3]).toArray rfl rfl (one_of HT_.out (by kernel_rfl)) (by decide) (fun K hK => ?_)
      refine goes_ Try.func24 (by kernel_rfl) rfl #[.int .i64 Kn, .int .i64 bb, .slice (some ad) (j + 1) c2] (by rfl) rfl rfl (by (try simp only [List.map_toArray, List.map_cons, List.map_nil]); first | done | rfl | (simp only [List.length_drop, List.length_take]; rfl)) ?_
      with_reducible refine (ofl_ok Kn bb k2 hs ts (j + 1) hj1 ht5 (fun t ht => (HOK.out t ht).2) (some ad) c2 HS.out).mono ?_
      rintro e w12 ⟨v4, rfl, hs1, hb⟩
      refine ⟨_, rfl, ?_⟩
      have n0_ := Aside0.mk (((((((hs1.pick 6 rfl).pick 6 rfl).pick 6 rfl).pick 6 rfl).pick 6 rfl).pick 6 rfl)); have n1_ := Aside0.mk (HB.out.trans hb); clear HS HB; have HS := n0_; have HB := n1_; clear n0_ n1_; (try simp only [List.eraseIdx_cons_succ, List.eraseIdx_cons_zero] at HS)
      clear hs1 hb; have n2_ := Aside0.mk (txt_head HS.out j hlt); clear hx; have hx := n2_; clear n2_
      refine hK.out _ _ ⟨hx.out, ((HS.out.pick 2 rfl).cell 0).trans rfl, ((HS.out.pick 2 rfl).cell 1).trans rfl⟩ (fun hHeld => ?_)
      clear hK K
      refine norm_ (a' := ?_) ?_ ?_
      rotate_left
      · show Act.put _ (some 65) _ = _
        simp only [Act.put, List.setIfInBounds_toArray, List.set_cons_zero, List.set_cons_succ, i64_w, i32_w]
        rfl
      refine one_ (i := 18) (N := some 67) (tfs true [19, 2]).toArray rfl rfl (one_of HT_.out (by kernel_rfl)) (by decide) (fun K hK => ?_)
      refine goes_ Try.func21 (by kernel_rfl) rfl #[.agg #[.int .i64 Kn, .int .i64 bb, v4], .pointer (some ⟨p2, 0, none⟩)] (by rfl) rfl rfl (by (try simp only [List.map_toArray, List.map_cons, List.map_nil]); first | done | rfl | (simp only [List.length_drop, List.length_take]; rfl)) ?_
      with_reducible refine (agrees_ok Kn hK4 bb (foldk hs (ts.take (j + 1))) (lenk _ _ _ ht5) v4 p2 ((HS.out.pick 1 rfl).pick 6 rfl)).mono ?_
      rintro e w13 ⟨rfl, hs1, hb⟩
      refine ⟨_, rfl, ?_⟩
      have n0_ := Aside0.mk ((hs1.drop).pick 1 rfl); have n1_ := Aside0.mk (HB.out.trans hb); clear HS HB; have HS := n0_; have HB := n1_; clear n0_ n1_; (try simp only [List.eraseIdx_cons_succ, List.eraseIdx_cons_zero] at HS)
      clear hs1 hb; have n2_ := Aside0.mk (txt_head HS.out j hlt); clear hx; have hx := n2_; clear n2_
      refine hK.out _ _ ⟨hx.out, ((HS.out.pick 2 rfl).cell 0).trans rfl, ((HS.out.pick 2 rfl).cell 1).trans rfl⟩ (fun hHeld => ?_)
      clear hK K
      refine norm_ (a' := ?_) ?_ ?_
      rotate_left
      · show Act.put _ (some 67) _ = _
        simp only [Act.put, List.setIfInBounds_toArray, List.set_cons_zero, List.set_cons_succ, i64_w, i32_w]
        rfl
      refine pure_ (i := 19) (N := some 68) (v := ?_) (a' := ?_) (tfs true [20, 1]).toArray rfl rfl (any_of HT_.out (by kernel_rfl)) (fun _ _ _ h => h) (Or.inl ⟨by rfl, ?_⟩) ?_ ?_
      rotate_left
      · intro w'
        go_simp
        with_reducible rfl
      rotate_left
      · simp only [Act.put, List.setIfInBounds_toArray, List.set_cons_zero, List.set_cons_succ, i64_w, i32_w]
        rfl
      refine pure_ (i := 20) (N := some 69) (v := ?_) (a' := ?_) (tfs true [21]).toArray rfl rfl (any_of HT_.out (by kernel_rfl)) (fun _ _ _ h => h) (Or.inl ⟨by rfl, ?_⟩) ?_ ?_
      rotate_left
      · intro w'
        go_simp
        with_reducible rfl
      rotate_left
      · simp only [Act.put, List.setIfInBounds_toArray, List.set_cons_zero, List.set_cons_succ, i64_w, i32_w]
        rfl
      refine done_ (done_of HT_.out (by kernel_rfl)) ?_
      clear HT_ HW_
      try clear hHeld
      have hj2 := Aside0.mk hj1
      clear q1 q2 q4 q5 q6 q7 hc2 hw1 hw2 hKa hKb hck htx hx hts hj1
      go_wp2
      go_roundw
      case rel => exact ⟨j + 1, hj2.out, by rfl, HS, HB⟩
      case measure =>
        show ((ts.length : Int) - ((j : Int) + 1)).toNat < ((ts.length : Int) - (j : Int)).toNat
        exact meas_j j ts.length hlt
    · obtain rfl : j = ts.length := Nat.le_antisymm hj (Nat.le_of_not_lt hlt)
      have q7 : decide ((ts.length : Int) < (ts.length : Int)) = false := decide_eq_false (Int.lt_irrefl _)
      have hK4 : Kn ≤ 1024 := Nat.le_trans hK12 (by decide)
      have ht5 : ts.length ≤ 100000 := Nat.le_trans hts (by decide)
      rw [List.take_length] at HS
      have hc1_0 := ((HS.out.pick 2 rfl).cell 0).trans (show _ = some (.int .i64 Kn) from rfl); have hc1_1 := ((HS.out.pick 2 rfl).cell 1).trans (show _ = some (.int .i64 bb) from rfl); have hc1_2 := ((HS.out.pick 2 rfl).cell 2).trans (show _ = some (.slice A1 n1 c1) from rfl)
      go_wp2_with (first | ((with_reducible refine gate_callee (f := 21) rfl ?_); refine goesL_ (some 72) rfl rfl Try.func21 (by kernel_rfl) rfl #[.agg #[.int .i64 Kn, .int .i64 bb, .slice A1 n1 c1], .pointer (some ⟨p2, 0, none⟩)] rfl (by (try simp only [List.map_toArray, List.map_cons, List.map_nil]); first | done | rfl | (simp only [List.length_drop, List.length_take]; rfl)) ?_; (with_reducible refine (agrees_ok Kn hK4 bb (foldk hs ts) (by have := lenk hs ts ts.length ht5; rwa [List.take_length] at this) (.slice A1 n1 c1) p2 ((HS.out.pick 1 rfl).pick 3 rfl)).mono ?_); rintro e w14 ⟨rfl, hs1, hb⟩; refine ⟨_, rfl, ?_⟩; have n0_ := Aside0.mk (hs1); have n1_ := Aside0.mk (HB.out.trans hb); clear HS HB; have HS := n0_; have HB := n1_; clear n0_ n1_; (try simp only [List.eraseIdx_cons_succ, List.eraseIdx_cons_zero] at HS); clear hs1 hb))
      go_ret
      exact ⟨rfl, HB.out⟩

end Go.Proofs.Ytddhpkobingmhaa.PB
