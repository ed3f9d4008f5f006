/- The law's own record of keys: of. -/
import Derived.Test.YtddhpkobingmhaaSk9
namespace Go.Proofs.Ytddhpkobingmhaa.PB
open Go.RowKit Go.Proofs.YtddhpkobingmhaaW.PrintWords Go.Proofs.YtddhpkobingmhaaW.PrintLast Go.Proofs.YtddhpkobingmhaaW.PrintMore Go.Proofs.Ytddhpkobingmhaa.Sep
set_option linter.unusedVariables false
set_option linter.unusedSimpArgs false
set_option maxHeartbeats 8000000
set_option maxRecDepth 100000

theorem lenk (hs : ByteArray → Int) (ts : List ByteArray) (j : Nat) (h : ts.length ≤ 100000) : (foldk hs (ts.take j)).length ≤ 100000 := by
  have : ∀ (l : List ByteArray) (a : List S52), (l.foldl (fun l t => ins ⟨hs t, t⟩ l) a).length ≤ a.length + l.length := by
    intro l
    induction l with
    | nil => intro a; simp
    | cons t l ih =>
      intro a
      have h1 := ih (ins ⟨hs t, t⟩ a)
      have h2 := length_ins ⟨hs t, t⟩ a
      simp only [List.foldl_cons, List.length_cons]
      split at h2 <;> omega
  have h3 := this (ts.take j) []
  rw [List.length_take] at h3
  unfold foldk
  simp only [List.length_nil] at h3
  omega
theorem txt_at {N : Nat} {w : World} {L : List Res} {r1 r2 r3 : Res} {ad : Addr} {c : Nat} {ts : List ByteArray} (h : St N w (r1 :: r2 :: r3 :: Row Kd.string 9 (.slice (some ad) ts.length c) ts :: L)) (j : Nat) (hj : j < ts.length) : w.cell? (ad.add j) = some (.string (rdOf ByteArray.empty ts (j : Int))) := by
  obtain ⟨ad', e, hx⟩ := Kd.at_string (h.pick 3 rfl).rowC.2.2 (j : Int) (by omega) (by omega)
  cases e
  rwa [Int.toNat_natCast] at hx

def ofl.T5 : Bool × List (List Nat × List Nat) := (true, [([], []), ([], []), ([], []), ([1, 2], [1, 2]), ([3], [3]), ([0, 4], [0, 4]), ([5, 5, 0, 1, 2, 3, 4, 5], [5])])
def ofl.B5 : List Nat := [0, 0, 0, 6, 14, 31, 63]
theorem ofl.tab5 : rtab .any (opsOf Try.f24 5) = ofl.T5 := by kernel_rfl
theorem ofl.bits5 : waitsOk ofl.T5.2 ofl.B5 = true := by kernel_rfl
theorem ofl_ok (sz sd : Int) (k2 : Nat) (hs : ByteArray → Int) (ts : List ByteArray) (n : Nat) (hn : n ≤ ts.length) (hts : ts.length ≤ 100000) (hok : ∀ t ∈ ts, checksum_Text.f k2 sd t = some (hs t))
    (A : Option Addr) (c : Nat) {N : Nat} {w : World} {L : List Res} (HS0 : St N w (Row Kd.string 9 (.slice A ts.length c) ts :: L)) :
    Calls Try.prog 24 #[.int .i64 sz, .int .i64 sd, .slice A n c] w fun e w' => ∃ v', e = .returned (.agg #[.int .i64 sz, .int .i64 sd, v']) ∧ St N w' (Row k52 52 v' (foldk hs (ts.take n)) :: Row Kd.string 9 (.slice A ts.length c) ts :: L) ∧ Below N w w' := by
  have HS := Aside0.mk HS0
  have HB := Aside0.mk (Below.refl N w)
  have HOK := Aside0.mk hok
  clear HS0 hok
  go_enter Try.func24, Try.ntmps24
  go_wp2_with (first | ((with_reducible refine gate_dst (N := 6) rfl ?_); refine box_event ?hg (N := 6) ?hd (cs := #[.int .i64 0, .int .i64 0, .slice none 0 0]) (t := 28) ?hr ?_; (case hd => rfl); (case hg => rfl); (case hr => first | (go_simp; done) | (go_simp; rfl)); intro r hg w1 hbox hb; have n0_ := Aside0.mk (HS.out.box hg hbox hb); have n1_ := Aside0.mk (below_step' HB.out HS.out.size hb); clear HS HB; have HS := n0_; have HB := n1_; clear n0_ n1_; (try simp only [List.eraseIdx_cons_succ, List.eraseIdx_cons_zero] at HS); clear hb hbox hg) | ((with_reducible refine gate_dst (N := 7) rfl ?_); refine box_event ?hg (N := 7) ?hd (cs := #[.int .i64 0, .int .i64 0, .slice none 0 0]) (t := 28) ?hr ?_; (case hd => rfl); (case hg => rfl); (case hr => first | (go_simp; done) | (go_simp; rfl)); intro b hg w2 hbox hb; have n0_ := Aside0.mk (HS.out.box hg hbox hb); have n1_ := Aside0.mk (below_step' HB.out HS.out.size hb); clear HS HB; have HS := n0_; have HB := n1_; clear n0_ n1_; (try simp only [List.eraseIdx_cons_succ, List.eraseIdx_cons_zero] at HS); clear hb hbox hg; have hc0_0 := ((HS.out.pick 0 rfl).cell 0).trans (show _ = some (.int .i64 0) from rfl); have hc0_1 := ((HS.out.pick 0 rfl).cell 1).trans (show _ = some (.int .i64 0) from rfl); have hc0_2 := ((HS.out.pick 0 rfl).cell 2).trans (show _ = some (.slice none 0 0) from rfl); have hf0_0 := (HS.out.pick 0 rfl).frozen 0; have hf0_1 := (HS.out.pick 0 rfl).frozen 1; have hf0_2 := (HS.out.pick 0 rfl).frozen 2) | ((with_reducible refine gate_store (t := 28) (p := 7) rfl ?_); refine store_event (t := 28) (p := 7) (v := .tmp 11) (w1 := ?_) rfl rfl rfl ?_ ?_; rotate_left; (focus (first | (go_simp; done) | (go_simp; rfl))); intro w3 hw; have n0_ := Aside0.mk (HS.out.set3 hw); have n1_ := Aside0.mk (HS.out.below_set3 HB.out hw); clear HS HB; have HS := n0_; have HB := n1_; clear n0_ n1_; (try simp only [List.eraseIdx_cons_succ, List.eraseIdx_cons_zero] at HS); clear hw; clear hc0_0 hc0_1 hc0_2 hf0_0 hf0_1 hf0_2))
  go_loopw [8] (fun v8 wc => ∃ (j : Nat) (A1 : Option Addr) (n1 c1 : Nat), j ≤ n ∧ v8 = .int .i64 j ∧ Aside0 (St N wc (Blk b #[.int .i64 sz, .int .i64 sd, (.slice A1 n1 c1)] 28 :: Blk r #[.int .i64 0, .int .i64 0, .slice none 0 0] 28 :: Row k52 52 (.slice A1 n1 c1) (foldk hs (ts.take j)) :: Row Kd.string 9 (.slice A ts.length c) ts :: L)) ∧ Aside0 (Below N w wc)) (fun v8 _ => (n - intOf v8).toNat)
  case atStart => exact ⟨0, none, 0, 0, Nat.zero_le _, rfl, Aside0.mk ((((HS.out.rowNil (d := k52) (e := 52)).pick 2 rfl).pick 2 rfl)), HB⟩
  case round =>
    clear HS HB
    obtain ⟨j, A1, n1, c1, hj, rfl, HS, HB⟩ := hrel
    by_cases hlt : j < n
    · have hlt2 : j < ts.length := by omega
      have htx := Aside0.mk (HOK.out (rdOf ByteArray.empty ts (j : Int)) (by rw [rdOf_at ts j hlt2]; exact List.getElem_mem _))
      obtain ⟨ad, e, hx⟩ := Kd.at_string (HS.out.pick 3 rfl).rowC.2.2 (j : Int) (by omega) (by omega)
      cases e
      rw [Int.toNat_natCast] at hx
      replace hx := Aside0.mk hx
      have q7 : (0 : Int) ≤ (j : Int) := by omega
      have q8 : (j : Int) < (n : Int) := by omega
      have q9 : decide ((j : Int) < (n : Int)) = true := decide_eq_true q8
      go_upto_region 5 with (fail)
      have n2_ := Aside0.mk (show wr.drew.cell? _ = _ from hx.out); clear hx; have hx := n2_; clear n2_
      have n0_ := Aside0.mk (HS.out.drew); have n1_ := Aside0.mk (HB.out.drew); clear HS HB; have HS := n0_; have HB := n1_; clear n0_ n1_
      refine start_ (n := 7) (S := fun w' => w'.cell? ⟨b, 0, none⟩ = some (.int .i64 sz) ∧ w'.cell? ⟨b, 1, none⟩ = some (.int .i64 sd) ∧ w'.cell? ⟨b, 2, none⟩ = some ((.slice A1 n1 c1)) ∧ w'.cell? (ad.add j) = some (.string (rdOf ByteArray.empty ts (j : Int)))) (ds := [6]) #[false, false, false, false, false, false, false] (by kernel_rfl) rfl rfl ⟨((HS.out.pick 0 rfl).cell 0).trans rfl, ((HS.out.pick 0 rfl).cell 1).trans rfl, ((HS.out.pick 0 rfl).cell 2).trans rfl, hx.out⟩ (fun hHeld => ?_); refine with_tabW ofl.tab5 ofl.bits5 (fun HT_ HW_ => ?_)
      generalize wr.drew = w5 at HS HB hx hHeld ⊢
      refine pure_ (i := 1) (N := some 19) (v := ?_) (a' := ?_) #[false, true, false, false, false, false, false] rfl rfl (any_of HT_.out (by kernel_rfl)) (fun _ _ _ h => h) (Or.inl ⟨by rfl, ?_⟩) ?_ ?_
      rotate_left
      · intro w'
        go_simp
        with_reducible rfl
      rotate_left
      · simp only [Act.put, List.setIfInBounds_toArray, List.set_cons_zero, List.set_cons_succ, i64_w, i32_w]
        rfl
      refine pure_ (i := 2) (N := some 20) (v := ?_) (a' := ?_) #[false, true, true, false, false, false, false] rfl rfl (any_of HT_.out (by kernel_rfl)) (fun _ _ _ h => h) (Or.inl ⟨by rfl, ?_⟩) ?_ ?_
      rotate_left
      · intro w'
        go_simp
        with_reducible rfl
      rotate_left
      · simp only [Act.put, List.setIfInBounds_toArray, List.set_cons_zero, List.set_cons_succ, i64_w, i32_w]
        rfl
      refine pure_ (i := 3) (N := some 21) (v := ?_) (a' := ?_) #[false, true, true, true, false, false, false] rfl rfl (any_of HT_.out (by kernel_rfl)) (fun _ _ _ h => h) (Or.inl ⟨by rfl, ?_⟩) ?_ ?_
      rotate_left
      · intro w'
        go_simp
        with_reducible rfl
      rotate_left
      · simp only [Act.put, List.setIfInBounds_toArray, List.set_cons_zero, List.set_cons_succ, i64_w, i32_w]
        rfl
      refine take_ (i := 0) (N := some 18) (v := ?_) (a' := ?_) #[true, true, true, true, false, false, false] rfl rfl (take_ofW HT_.out HW_.out (by kernel_rfl)) (fun _ _ _ h => h) (Or.inl ⟨by rfl, ?_⟩) hHeld ?_ ?_
      rotate_left
      · rintro w' ⟨s0, s1, s2, s3⟩
        go_simp
        with_reducible rfl
      rotate_left
      · simp only [Act.put, List.setIfInBounds_toArray, List.set_cons_zero, List.set_cons_succ, i64_w, i32_w]
        rfl
      refine take_ (i := 4) (N := some 22) (v := ?_) (a' := ?_) #[true, true, true, true, true, false, false] rfl rfl (take_ofW HT_.out HW_.out (by kernel_rfl)) (fun _ _ _ h => h) (Or.inl ⟨by rfl, ?_⟩) hHeld ?_ ?_
      rotate_left
      · rintro w' ⟨s0, s1, s2, s3⟩
        go_simp
        with_reducible rfl
      rotate_left
      · simp only [Act.put, List.setIfInBounds_toArray, List.set_cons_zero, List.set_cons_succ, i64_w, i32_w]
        rfl
      refine one_ (i := 5) (N := some 23) #[true, true, true, true, true, true, false] rfl rfl (one_of HT_.out (by kernel_rfl)) (by decide) (fun K hK => ?_)
      refine goes_ Try.func46 (by kernel_rfl) rfl #[.agg #[.int .i64 sz, .int .i64 sd, (.slice A1 n1 c1)], .string (rdOf ByteArray.empty ts (j : Int))] (by rfl) rfl rfl (by (try simp only [List.map_toArray, List.map_cons, List.map_nil]); first | done | rfl | (simp only [List.length_drop, List.length_take]; rfl)) ?_
      with_reducible refine (with_ok sz sd k2 (rdOf ByteArray.empty ts (j : Int)) (hs (rdOf ByteArray.empty ts (j : Int))) htx.out (foldk hs (ts.take j)) (inc_foldk _ _) (lenk _ _ _ (by omega)) _ (HS.out.pick 2 rfl)).mono ?_
      rintro e w6 ⟨v', rfl, hs1, hb⟩
      refine ⟨_, rfl, ?_⟩
      have n0_ := Aside0.mk ((hs1.pick 2 rfl).pick 2 rfl); have n1_ := Aside0.mk (HB.out.trans hb); clear HS HB; have HS := n0_; have HB := n1_; clear n0_ n1_; (try simp only [List.eraseIdx_cons_succ, List.eraseIdx_cons_zero] at HS)
      have n2_ := Aside0.mk (txt_at HS.out j hlt2); clear hx; have hx := n2_; clear n2_ hs1 hb; obtain ⟨A2, n2, c2, rfl⟩ : ∃ (A : Option Addr) (n c : Nat), v' = .slice A n c := (by obtain ⟨A, c, e, _, _⟩ := (HS.out.pick 2 rfl).reads; exact ⟨A, _, c, e⟩); have q0 := ((HS.out.pick 0 rfl).cell 0).trans (show _ = some (.int .i64 sz) from rfl); have f0 := (HS.out.pick 0 rfl).frozen 0; have q1 := ((HS.out.pick 0 rfl).cell 1).trans (show _ = some (.int .i64 sd) from rfl); have f1 := (HS.out.pick 0 rfl).frozen 1; have q2 := ((HS.out.pick 0 rfl).cell 2).trans (show _ = some ((.slice A1 n1 c1)) from rfl); have f2 := (HS.out.pick 0 rfl).frozen 2
      refine hK.out _ _ ⟨((HS.out.pick 0 rfl).cell 0).trans rfl, ((HS.out.pick 0 rfl).cell 1).trans rfl, ((HS.out.pick 0 rfl).cell 2).trans rfl, hx.out⟩ (fun hHeld => ?_)
      clear hK K
      refine norm_ (a' := ?_) ?_ ?_
      rotate_left
      · show Act.put _ (some 23) _ = _
        simp only [Act.put, List.setIfInBounds_toArray, List.set_cons_zero, List.set_cons_succ, i64_w, i32_w]
        rfl
      refine last_ (i := 6) (N := none) #[true, true, true, true, true, true, true] rfl rfl (one_of HT_.out (by kernel_rfl)) (by decide) (fun K hK => ?_)
      refine skip_ (w1 := ?_) (by rfl) rfl ?_ ?_
      rotate_left
      · go_simp
        rfl
      clear q0 q1 q2 f0 f1 f2
      have n0_ := Aside0.mk ((((HS.out.pick 0 rfl).set 0 (.int .i64 sz) #[.int .i64 sz, .int .i64 sd, (.slice A1 n1 c1)] rfl).set 1 (.int .i64 sd) #[.int .i64 sz, .int .i64 sd, (.slice A1 n1 c1)] rfl).set 2 (.slice A2 n2 c2) #[.int .i64 sz, .int .i64 sd, .slice A2 n2 c2] rfl); have n1_ := Aside0.mk ((((HS.out.pick 0 rfl).set 0 (.int .i64 sz) #[.int .i64 sz, .int .i64 sd, (.slice A1 n1 c1)] rfl).set 1 (.int .i64 sd) #[.int .i64 sz, .int .i64 sd, (.slice A1 n1 c1)] rfl).below_set (i := 2) (u := .slice A2 n2 c2) (((HS.out.pick 0 rfl).set 0 (.int .i64 sz) #[.int .i64 sz, .int .i64 sd, (.slice A1 n1 c1)] rfl).below_set (i := 1) (u := .int .i64 sd) ((HS.out.pick 0 rfl).below_set (i := 0) (u := .int .i64 sz) HB.out))); clear HS HB; have HS := n0_; have HB := n1_; clear n0_ n1_; (try simp only [List.eraseIdx_cons_succ, List.eraseIdx_cons_zero] at HS)
      refine hK.out _ _ ?_
      clear hK K
      refine done_ (done_of HT_.out (by kernel_rfl)) ?_
      clear HT_ HW_
      try clear hHeld
      generalize (World.setCell (World.setCell (World.setCell _ _ _) _ _) _ _) = w9 at HS HB ⊢
      go_wp2
      go_roundw
      case rel => exact ⟨j + 1, A2, n2, c2, by omega, by go_num, Aside0.mk (by rw [take_snoc ts j hlt2, foldk_snoc]; exact HS.out), HB⟩
      case measure => simp [intOf]; omega
    · obtain rfl : j = n := by omega
      have q9 : decide ((j : Int) < (j : Int)) = false := decide_eq_false (by omega)
      have q0 := ((HS.out.pick 0 rfl).cell 0).trans (show _ = some (.int .i64 sz) from rfl)
      have q1 := ((HS.out.pick 0 rfl).cell 1).trans (show _ = some (.int .i64 sd) from rfl)
      have q2 := ((HS.out.pick 0 rfl).cell 2).trans (show _ = some ((.slice A1 n1 c1)) from rfl)
      have q10 := ((HS.out.pick 1 rfl).cell 0).trans (show _ = some (.int .i64 0) from rfl)
      have q11 := ((HS.out.pick 1 rfl).cell 1).trans (show _ = some (.int .i64 0) from rfl)
      have q12 := ((HS.out.pick 1 rfl).cell 2).trans (show _ = some (.slice none 0 0) from rfl)
      have f0 := (HS.out.pick 1 rfl).frozen 0
      have f1 := (HS.out.pick 1 rfl).frozen 1
      have f2 := (HS.out.pick 1 rfl).frozen 2
      go_wp2_with (first | ((with_reducible refine gate_store (t := 28) (p := 6) rfl ?_); refine store_event (t := 28) (p := 6) (v := .tmp 24) (w1 := ?_) rfl rfl rfl ?_ ?_; rotate_left; (focus (first | (go_simp; done) | (go_simp; rfl))); intro w16 hw; have n0_ := Aside0.mk ((HS.out.pick 1 rfl).set3 hw); have n1_ := Aside0.mk ((HS.out.pick 1 rfl).below_set3 HB.out hw); clear HS HB; have HS := n0_; have HB := n1_; clear n0_ n1_; (try simp only [List.eraseIdx_cons_succ, List.eraseIdx_cons_zero] at HS); clear hw))
      (try simp only [Exit.inBlock, Exit.then])
      refine bodyPost_ret (results_cell_row rfl _ _ r 28 _ (0, 0) _ rfl HS.out.blk Try.underlying28 rfl (by kernel_rfl)) rfl ?_
      refine ⟨_, rfl, ?_, HB.out⟩
      have := HS.out.drop.drop
      exact this

end Go.Proofs.Ytddhpkobingmhaa.PB
