/- Texts of this claim, taken together: Sk10, Sk11, Sk12, Eq, Sk14. -/
import Derived.Test.YtddhpkobingmhaaSk9
import Derived.Test.YtddhpkobingmhaaJ2
import Derived.Test.YtddhpkobingmhaaJ5
/-! # Sk10 -/
section
namespace Go.Proofs.Ytddhpkobingmhaa.PB
open Go.RowKit Go.Proofs.YtddhpkobingmhaaW.PrintWords Go.Proofs.YtddhpkobingmhaaW.PrintLast Go.Proofs.YtddhpkobingmhaaW.PrintMore Go.Proofs.Ytddhpkobingmhaa.Sep
set_option linter.unusedVariables false
set_option linter.unusedSimpArgs false
set_option maxHeartbeats 8000000
set_option maxRecDepth 100000

theorem lenk (hs : ByteArray → Int) (ts : List ByteArray) (j : Nat) (h : ts.length ≤ 100000) : (foldk hs (ts.take j)).length ≤ 100000 := by
  have : ∀ (l : List ByteArray) (a : List S52), (l.foldl (fun l t => ins ⟨hs t, t⟩ l) a).length ≤ a.length + l.length := by
    intro l
    induction l with
    | nil => intro a; simp
    | cons t l ih =>
      intro a
      have h1 := ih (ins ⟨hs t, t⟩ a)
      have h2 := length_ins ⟨hs t, t⟩ a
      simp only [List.foldl_cons, List.length_cons]
      split at h2 <;> omega
  have h3 := this (ts.take j) []
  rw [List.length_take] at h3
  unfold foldk
  simp only [List.length_nil] at h3
  omega
theorem txt_at {N : Nat} {w : World} {L : List Res} {r1 r2 r3 : Res} {ad : Addr} {c : Nat} {ts : List ByteArray} (h : St N w (r1 :: r2 :: r3 :: Row Kd.string 9 (.slice (some ad) ts.length c) ts :: L)) (j : Nat) (hj : j < ts.length) : w.cell? (ad.add j) = some (.string (rdOf ByteArray.empty ts (j : Int))) := by
  obtain ⟨ad', e, hx⟩ := Kd.at_string (h.pick 3 rfl).rowC.2.2 (j : Int) (by omega) (by omega)
  cases e
  rwa [Int.toNat_natCast] at hx

def ofl.T5 : Bool × List (List Nat × List Nat) := (true, [([], []), ([], []), ([], []), ([1, 2], [1, 2]), ([3], [3]), ([0, 4], [0, 4]), ([5, 5, 0, 1, 2, 3, 4, 5], [5])])
def ofl.B5 : List Nat := [0, 0, 0, 6, 14, 31, 63]
theorem ofl.tab5 : rtab .any (opsOf Try.f24 5) = ofl.T5 := by kernel_rfl
theorem ofl.bits5 : waitsOk ofl.T5.2 ofl.B5 = true := by kernel_rfl
theorem ofl_ok (sz sd : Int) (k2 : Nat) (hs : ByteArray → Int) (ts : List ByteArray) (n : Nat) (hn : n ≤ ts.length) (hts : ts.length ≤ 100000) (hok : ∀ t ∈ ts, checksum_Text.f k2 sd t = some (hs t))
    (A : Option Addr) (c : Nat) {N : Nat} {w : World} {L : List Res} (HS0 : St N w (Row Kd.string 9 (.slice A ts.length c) ts :: L)) :
    Calls Try.prog 24 #[.int .i64 sz, .int .i64 sd, .slice A n c] w fun e w' => ∃ v', e = .returned (.agg #[.int .i64 sz, .int .i64 sd, v']) ∧ St N w' (Row k52 52 v' (foldk hs (ts.take n)) :: Row Kd.string 9 (.slice A ts.length c) ts :: L) ∧ Below N w w' := by
  have HS := Aside0.mk HS0
  have HB := Aside0.mk (Below.refl N w)
  have HOK := Aside0.mk hok
  clear HS0 hok
  go_enter Try.func24, Try.ntmps24
  go_wp2_with (first | ((with_reducible refine gate_dst (N := 6) rfl ?_); refine box_event ?hg (N := 6) ?hd (cs := #[.int .i64 0, .int .i64 0, .slice none 0 0]) (t := 28) ?hr ?_; (case hd => rfl); (case hg => rfl); (case hr => first | (go_simp; done) | (go_simp; rfl)); intro r hg w1 hbox hb; have n0_ := Aside0.mk (HS.out.box hg hbox hb); have n1_ := Aside0.mk (below_step' HB.out HS.out.size hb); clear HS HB; have HS := n0_; have HB := n1_; clear n0_ n1_; (try simp only [List.eraseIdx_cons_succ, List.eraseIdx_cons_zero] at HS); clear hb hbox hg) | ((with_reducible refine gate_dst (N := 7) rfl ?_); refine box_event ?hg (N := 7) ?hd (cs := #[.int .i64 0, .int .i64 0, .slice none 0 0]) (t := 28) ?hr ?_; (case hd => rfl); (case hg => rfl); (case hr => first | (go_simp; done) | (go_simp; rfl)); intro b hg w2 hbox hb; have n0_ := Aside0.mk (HS.out.box hg hbox hb); have n1_ := Aside0.mk (below_step' HB.out HS.out.size hb); clear HS HB; have HS := n0_; have HB := n1_; clear n0_ n1_; (try simp only [List.eraseIdx_cons_succ, List.eraseIdx_cons_zero] at HS); clear hb hbox hg; have hc0_0 := ((HS.out.pick 0 rfl).cell 0).trans (show _ = some (.int .i64 0) from rfl); have hc0_1 := ((HS.out.pick 0 rfl).cell 1).trans (show _ = some (.int .i64 0) from rfl); have hc0_2 := ((HS.out.pick 0 rfl).cell 2).trans (show _ = some (.slice none 0 0) from rfl); have hf0_0 := (HS.out.pick 0 rfl).frozen 0; have hf0_1 := (HS.out.pick 0 rfl).frozen 1; have hf0_2 := (HS.out.pick 0 rfl).frozen 2) | ((with_reducible refine gate_store (t := 28) (p := 7) rfl ?_); refine store_event (t := 28) (p := 7) (v := .tmp 11) (w1 := ?_) rfl rfl rfl ?_ ?_; rotate_left; (focus (first | (go_simp; done) | (go_simp; rfl))); intro w3 hw; have n0_ := Aside0.mk (HS.out.set3 hw); have n1_ := Aside0.mk (HS.out.below_set3 HB.out hw); clear HS HB; have HS := n0_; have HB := n1_; clear n0_ n1_; (try simp only [List.eraseIdx_cons_succ, List.eraseIdx_cons_zero] at HS); clear hw; clear hc0_0 hc0_1 hc0_2 hf0_0 hf0_1 hf0_2))
  go_loopw [8] (fun v8 wc => ∃ (j : Nat) (A1 : Option Addr) (n1 c1 : Nat), j ≤ n ∧ v8 = .int .i64 j ∧ Aside0 (St N wc (Blk b #[.int .i64 sz, .int .i64 sd, (.slice A1 n1 c1)] 28 :: Blk r #[.int .i64 0, .int .i64 0, .slice none 0 0] 28 :: Row k52 52 (.slice A1 n1 c1) (foldk hs (ts.take j)) :: Row Kd.string 9 (.slice A ts.length c) ts :: L)) ∧ Aside0 (Below N w wc)) (fun v8 _ => (n - intOf v8).toNat)
  case atStart => exact ⟨0, none, 0, 0, Nat.zero_le _, rfl, Aside0.mk ((((HS.out.rowNil (d := k52) (e := 52)).pick 2 rfl).pick 2 rfl)), HB⟩
  case round =>
    clear HS HB
    obtain ⟨j, A1, n1, c1, hj, rfl, HS, HB⟩ := hrel
    by_cases hlt : j < n
    · have hlt2 : j < ts.length := by omega
      have htx := Aside0.mk (HOK.out (rdOf ByteArray.empty ts (j : Int)) (by rw [rdOf_at ts j hlt2]; exact List.getElem_mem _))
      obtain ⟨ad, e, hx⟩ := Kd.at_string (HS.out.pick 3 rfl).rowC.2.2 (j : Int) (by omega) (by omega)
      cases e
      rw [Int.toNat_natCast] at hx
      replace hx := Aside0.mk hx
      have q7 : (0 : Int) ≤ (j : Int) := by omega
      have q8 : (j : Int) < (n : Int) := by omega
      have q9 : decide ((j : Int) < (n : Int)) = true := decide_eq_true q8
      go_upto_region 5 with (fail)
      have n2_ := Aside0.mk (show wr.drew.cell? _ = _ from hx.out); clear hx; have hx := n2_; clear n2_
      have n0_ := Aside0.mk (HS.out.drew); have n1_ := Aside0.mk (HB.out.drew); clear HS HB; have HS := n0_; have HB := n1_; clear n0_ n1_
      refine start_ (n := 7) (S := fun w' => w'.cell? ⟨b, 0, none⟩ = some (.int .i64 sz) ∧ w'.cell? ⟨b, 1, none⟩ = some (.int .i64 sd) ∧ w'.cell? ⟨b, 2, none⟩ = some ((.slice A1 n1 c1)) ∧ w'.cell? (ad.add j) = some (.string (rdOf ByteArray.empty ts (j : Int)))) (ds := [6]) #[false, false, false, false, false, false, false] (by kernel_rfl) rfl rfl ⟨((HS.out.pick 0 rfl).cell 0).trans rfl, ((HS.out.pick 0 rfl).cell 1).trans rfl, ((HS.out.pick 0 rfl).cell 2).trans rfl, hx.out⟩ (fun hHeld => ?_); refine with_tabW ofl.tab5 ofl.bits5 (fun HT_ HW_ => ?_)
      generalize wr.drew = w5 at HS HB hx hHeld ⊢
      refine pU 1 19 #[false, true, false, false, false, false, false] rfl rfl HT_ ?_
      refine pU 2 20 #[false, true, true, false, false, false, false] rfl rfl HT_ ?_
      refine pU 3 21 #[false, true, true, true, false, false, false] rfl rfl HT_ ?_
      refine tK 0 18 #[true, true, true, true, false, false, false] rfl rfl HT_ HW_ hHeld ?_ (by rintro w' ⟨s0, s1, s2, s3⟩; go_simp; with_reducible rfl)
      refine tK 4 22 #[true, true, true, true, true, false, false] rfl rfl HT_ HW_ hHeld ?_ (by rintro w' ⟨s0, s1, s2, s3⟩; go_simp; with_reducible rfl)
      refine one_ (i := 5) (N := some 23) #[true, true, true, true, true, true, false] rfl rfl (one_of HT_.out (by kernel_rfl)) (by decide) (fun K hK => ?_)
      refine goes_ Try.func46 (by kernel_rfl) rfl #[.agg #[.int .i64 sz, .int .i64 sd, (.slice A1 n1 c1)], .string (rdOf ByteArray.empty ts (j : Int))] (by rfl) rfl rfl (by (try simp only [List.map_toArray, List.map_cons, List.map_nil]); first | done | rfl | (simp only [List.length_drop, List.length_take]; rfl)) ?_
      with_reducible refine (with_ok sz sd k2 (rdOf ByteArray.empty ts (j : Int)) (hs (rdOf ByteArray.empty ts (j : Int))) htx.out (foldk hs (ts.take j)) (inc_foldk _ _) (lenk _ _ _ (by omega)) _ (HS.out.pick 2 rfl)).mono ?_
      rintro e w6 ⟨v', rfl, hs1, hb⟩
      refine ⟨_, rfl, ?_⟩
      have n0_ := Aside0.mk ((hs1.pick 2 rfl).pick 2 rfl); have n1_ := Aside0.mk (HB.out.trans hb); clear HS HB; have HS := n0_; have HB := n1_; clear n0_ n1_; (try simp only [List.eraseIdx_cons_succ, List.eraseIdx_cons_zero] at HS)
      have n2_ := Aside0.mk (txt_at HS.out j hlt2); clear hx; have hx := n2_; clear n2_ hs1 hb; obtain ⟨A2, n2, c2, rfl⟩ : ∃ (A : Option Addr) (n c : Nat), v' = .slice A n c := (by obtain ⟨A, c, e, _, _⟩ := (HS.out.pick 2 rfl).reads; exact ⟨A, _, c, e⟩); have q0 := ((HS.out.pick 0 rfl).cell 0).trans (show _ = some (.int .i64 sz) from rfl); have f0 := (HS.out.pick 0 rfl).frozen 0; have q1 := ((HS.out.pick 0 rfl).cell 1).trans (show _ = some (.int .i64 sd) from rfl); have f1 := (HS.out.pick 0 rfl).frozen 1; have q2 := ((HS.out.pick 0 rfl).cell 2).trans (show _ = some ((.slice A1 n1 c1)) from rfl); have f2 := (HS.out.pick 0 rfl).frozen 2
      refine hK.out _ _ ⟨((HS.out.pick 0 rfl).cell 0).trans rfl, ((HS.out.pick 0 rfl).cell 1).trans rfl, ((HS.out.pick 0 rfl).cell 2).trans rfl, hx.out⟩ (fun hHeld => ?_)
      clear hK K
      refine norm_ (a' := ?_) ?_ ?_
      rotate_left
      · show Act.put _ (some 23) _ = _
        simp only [Act.put, List.setIfInBounds_toArray, List.set_cons_zero, List.set_cons_succ, i64_w, i32_w]
        rfl
      refine last_ (i := 6) (N := none) #[true, true, true, true, true, true, true] rfl rfl (one_of HT_.out (by kernel_rfl)) (by decide) (fun K hK => ?_)
      refine skip_ (w1 := ?_) (by rfl) rfl ?_ ?_
      rotate_left
      · go_simp
        rfl
      clear q0 q1 q2 f0 f1 f2
      have n0_ := Aside0.mk ((((HS.out.pick 0 rfl).set 0 (.int .i64 sz) #[.int .i64 sz, .int .i64 sd, (.slice A1 n1 c1)] rfl).set 1 (.int .i64 sd) #[.int .i64 sz, .int .i64 sd, (.slice A1 n1 c1)] rfl).set 2 (.slice A2 n2 c2) #[.int .i64 sz, .int .i64 sd, .slice A2 n2 c2] rfl); have n1_ := Aside0.mk ((((HS.out.pick 0 rfl).set 0 (.int .i64 sz) #[.int .i64 sz, .int .i64 sd, (.slice A1 n1 c1)] rfl).set 1 (.int .i64 sd) #[.int .i64 sz, .int .i64 sd, (.slice A1 n1 c1)] rfl).below_set (i := 2) (u := .slice A2 n2 c2) (((HS.out.pick 0 rfl).set 0 (.int .i64 sz) #[.int .i64 sz, .int .i64 sd, (.slice A1 n1 c1)] rfl).below_set (i := 1) (u := .int .i64 sd) ((HS.out.pick 0 rfl).below_set (i := 0) (u := .int .i64 sz) HB.out))); clear HS HB; have HS := n0_; have HB := n1_; clear n0_ n1_; (try simp only [List.eraseIdx_cons_succ, List.eraseIdx_cons_zero] at HS)
      refine hK.out _ _ ?_
      clear hK K
      refine done_ (done_of HT_.out (by kernel_rfl)) ?_
      clear HT_ HW_
      try clear hHeld
      generalize (World.setCell (World.setCell (World.setCell _ _ _) _ _) _ _) = w9 at HS HB ⊢
      go_wp2
      go_roundw
      case rel => exact ⟨j + 1, A2, n2, c2, by omega, by go_num, Aside0.mk (by rw [take_snoc ts j hlt2, foldk_snoc]; exact HS.out), HB⟩
      case measure => simp [intOf]; omega
    · obtain rfl : j = n := by omega
      have q9 : decide ((j : Int) < (j : Int)) = false := decide_eq_false (by omega)
      have q0 := ((HS.out.pick 0 rfl).cell 0).trans (show _ = some (.int .i64 sz) from rfl)
      have q1 := ((HS.out.pick 0 rfl).cell 1).trans (show _ = some (.int .i64 sd) from rfl)
      have q2 := ((HS.out.pick 0 rfl).cell 2).trans (show _ = some ((.slice A1 n1 c1)) from rfl)
      have q10 := ((HS.out.pick 1 rfl).cell 0).trans (show _ = some (.int .i64 0) from rfl)
      have q11 := ((HS.out.pick 1 rfl).cell 1).trans (show _ = some (.int .i64 0) from rfl)
      have q12 := ((HS.out.pick 1 rfl).cell 2).trans (show _ = some (.slice none 0 0) from rfl)
      have f0 := (HS.out.pick 1 rfl).frozen 0
      have f1 := (HS.out.pick 1 rfl).frozen 1
      have f2 := (HS.out.pick 1 rfl).frozen 2
      go_wp2_with (first | ((with_reducible refine gate_store (t := 28) (p := 6) rfl ?_); refine store_event (t := 28) (p := 6) (v := .tmp 24) (w1 := ?_) rfl rfl rfl ?_ ?_; rotate_left; (focus (first | (go_simp; done) | (go_simp; rfl))); intro w16 hw; have n0_ := Aside0.mk ((HS.out.pick 1 rfl).set3 hw); have n1_ := Aside0.mk ((HS.out.pick 1 rfl).below_set3 HB.out hw); clear HS HB; have HS := n0_; have HB := n1_; clear n0_ n1_; (try simp only [List.eraseIdx_cons_succ, List.eraseIdx_cons_zero] at HS); clear hw))
      (try simp only [Exit.inBlock, Exit.then])
      refine bodyPost_ret (results_cell_row rfl _ _ r 28 _ (0, 0) _ rfl HS.out.blk Try.underlying28 rfl (by kernel_rfl)) rfl ?_
      refine ⟨_, rfl, ?_, HB.out⟩
      have := HS.out.drop.drop
      exact this

end Go.Proofs.Ytddhpkobingmhaa.PB
end

/-! # Sk11 -/
section
namespace Go.Proofs.Ytddhpkobingmhaa.PB
open Go.RowKit Go.Proofs.YtddhpkobingmhaaW.PrintWords Go.Proofs.YtddhpkobingmhaaW.PrintLast Go.Proofs.YtddhpkobingmhaaW.PrintMore Go.Proofs.Ytddhpkobingmhaa.Sep
attribute [local go_sem] max2_int min2_int max_two min_two
set_option linter.unusedVariables false
set_option linter.unusedSimpArgs false
set_option maxHeartbeats 8000000
set_option maxRecDepth 100000

def agr.T1 : Bool × List (List Nat × List Nat) := (true, [([], []), ([0], [0]), ([1], [1]), ([2], [2]), ([3, 2, 2], [2, 3]), ([2], [2]), ([5, 2], [2, 5]), ([4, 6, 2], [2, 4, 6]), ([2, 7], [2, 7]), ([8, 4], [8]), ([9], [9]), ([10, 9, 9], [9, 10]), ([9], [9]), ([12, 9], [9, 12]), ([11, 13, 9], [9, 11, 13]), ([9, 14], [9, 14]), ([15, 11], [15]), ([16], [16]), ([17, 16, 16], [16, 17]), ([16], [16]), ([19, 18, 16], [16, 19]), ([18, 20, 16], [16, 18, 20]), ([16, 21], [16, 21])])
def agr.B1 : List Nat := [0, 1, 3, 7, 15, 7, 39, 127, 255, 511, 1023, 2047, 1023, 5119, 16383, 32767, 65535, 131071, 262143, 131071, 1048575, 2097151, 4194303]
theorem agr.tab1 : rtab .any (opsOf Try.f21 1) = agr.T1 := by kernel_rfl
theorem agr.bits1 : waitsOk agr.T1.2 agr.B1 = true := by kernel_rfl
def agr.T3 : Bool × List (List Nat × List Nat) := (true, [([], []), ([0], [0]), ([], []), ([2, 1], [2]), ([1, 3, 3], [1, 3]), ([4, 4, 0, 1, 2, 3, 4], [4])])
def agr.B3 : List Nat := [0, 1, 0, 7, 15, 31]
theorem agr.tab3 : rtab .any (opsOf Try.f21 3) = agr.T3 := by kernel_rfl
theorem agr.bits3 : waitsOk agr.T3.2 agr.B3 = true := by kernel_rfl
theorem kept_ok (Kn : Nat) (sd : Int) (A : Option Addr) (n c : Nat) (hn : n ≤ c) (hb : n ≤ 1000000) (w : World) :
    Calls Try.prog 14 #[.agg #[.int .i64 Kn, .int .i64 sd, .slice A n c]] w fun e w' => e = .returned (.slice A (min Kn n) c) ∧ Below w.heap.size w w' := by
  have HS := Aside0.mk (St.none_ (N := w.heap.size) (w := w) (Nat.le_refl _))
  have HB := Aside0.mk (Below.refl w.heap.size w)
  by_cases h : Kn < n
  · have h1 : (Kn : Int) < (n : Int) := by omega
    have h2 : (Kn : Int) ≤ (c : Int) := by omega
    have h3 : min Kn n = Kn := by omega
    go_enter Try.func14, Try.ntmps14
    go_wp2_with (first | ((with_reducible refine gate_dst (N := 1) rfl ?_); refine box_event ?hg (N := 1) ?hd (cs := #[.int .i64 Kn, .int .i64 sd, .slice A n c]) (t := 28) ?hr ?_; (case hd => rfl); (case hg => rfl); (case hr => first | (go_simp; done) | (go_simp; rfl)); intro g hg w1 hbox hb; have n0_ := Aside0.mk (HS.out.box hg hbox hb); have n1_ := Aside0.mk (below_step' HB.out HS.out.size hb); clear HS HB; have HS := n0_; have HB := n1_; clear n0_ n1_; (try simp only [List.eraseIdx_cons_succ, List.eraseIdx_cons_zero] at HS); clear hb hbox hg; have hc0_0 := ((HS.out.pick 0 rfl).cell 0).trans (show _ = some (.int .i64 Kn) from rfl); have hc0_2 := ((HS.out.pick 0 rfl).cell 2).trans (show _ = some (.slice A n c) from rfl)))
    go_ret
    first | exact ⟨rfl, HB.out⟩ | exact ⟨by rw [h3]; rfl, HB.out⟩
  · have h1 : ¬ (Kn : Int) < (n : Int) := by omega
    have h2 : (n : Int) ≤ (c : Int) := by omega
    have h3 : min Kn n = n := by omega
    go_enter Try.func14, Try.ntmps14
    go_wp2_with (first | ((with_reducible refine gate_dst (N := 1) rfl ?_); refine box_event ?hg (N := 1) ?hd (cs := #[.int .i64 Kn, .int .i64 sd, .slice A n c]) (t := 28) ?hr ?_; (case hd => rfl); (case hg => rfl); (case hr => first | (go_simp; done) | (go_simp; rfl)); intro g hg w1 hbox hb; have n0_ := Aside0.mk (HS.out.box hg hbox hb); have n1_ := Aside0.mk (below_step' HB.out HS.out.size hb); clear HS HB; have HS := n0_; have HB := n1_; clear n0_ n1_; (try simp only [List.eraseIdx_cons_succ, List.eraseIdx_cons_zero] at HS); clear hb hbox hg; have hc0_0 := ((HS.out.pick 0 rfl).cell 0).trans (show _ = some (.int .i64 Kn) from rfl); have hc0_2 := ((HS.out.pick 0 rfl).cell 2).trans (show _ = some (.slice A n c) from rfl)))
    go_ret
    first | exact ⟨rfl, HB.out⟩ | exact ⟨by rw [h3]; rfl, HB.out⟩
theorem same_l0 (l : List S52) (hl : l.length ≤ 1000000) : ∀ (q j : Nat), j + q = l.length → sleuthlaw23_same.l0 (q + 1) l l (j : Int) = some true
  | 0, j, hj => by rw [sleuthlaw23_same.l0, if_neg (by omega)]
  | q + 1, j, hj => by
    rw [sleuthlaw23_same.l0, if_pos (by omega), if_pos (by omega), if_pos (by omega), if_neg (by simp), wrap64_small _ (by omega) (by omega)]
    exact same_l0 l hl q (j + 1) (by omega)
theorem same_ok (l : List S52) (hl : l.length ≤ 1000000) : sleuthlaw23_same.f (l.length + 1) l l = some true := by
  unfold sleuthlaw23_same.f
  rw [if_pos rfl]
  exact same_l0 l hl l.length 0 (by omega)
theorem same_call (l : List S52) (Kn : Nat) {A1 A2 : Option Addr} {n2 c1 c2 : Nat} {w : World} (hl : l.length ≤ 1000000) (h1 : (l.take Kn).length = (l.take Kn).length ∧ (l.take Kn).length ≤ c1 ∧ k52.C w A1 (l.take Kn).length (l.take Kn)) (h2 : n2 = l.length ∧ l.length ≤ c2 ∧ k52.C w A2 l.length l) :
    Calls Try.prog 42 #[.slice A1 (l.take Kn).length c1, .slice A2 (min Kn n2) c2] w fun e w' => e = .returned (.bool true) ∧ Drawn0 w w' := by
  obtain ⟨rfl, h3, h4⟩ := h2
  have hl2 : (l.take Kn).length = min Kn l.length := List.length_take
  have h5 := Kd.C_take (m := min Kn l.length) h4 (by omega)
  rw [show l.take (min Kn l.length) = l.take Kn by rw [List.take_eq_take_iff]; omega] at h5
  have := sleuthlaw23_same.calls ((l.take Kn).length + 1) A1 c1 (l.take Kn) A2 c2 (l.take Kn) true w h1.2.2 h1.2.1 h5 (by omega) (same_ok _ (by rw [hl2]; omega))
  rwa [hl2] at this ⊢
theorem Keys_skv (Kn : Nat) (sd : Int) (l : List S52) (v : Value) (m : Bool) (p : Nat) (hK : Kn ≤ 1024) {N : Nat} {w : World} {L : List Res} (HS : St N w (Blk p #[.int .i64 Kn, .int .i64 sd, v, .bool m] 59 :: Row k52 52 v (l.take Kn) :: L)) :
    Calls Try.prog 36 #[.pointer (some ⟨p, 0, none⟩)] w fun e w' => ∃ u, e = .returned u ∧ St N w' (Row k52 52 u (l.take Kn) :: Blk p #[.int .i64 Kn, .int .i64 sd, v, .bool m] 59 :: Row k52 52 v (l.take Kn) :: L) ∧ Below N w w' := by
  obtain ⟨A, c, hv, hc, hC⟩ := HS.swap.reads
  subst hv
  exact Keys_sk Kn sd l A _ c m p hK HS
theorem agrees_ok (Kn : Nat) (hKn : Kn ≤ 1024) (sd : Int) (l : List S52) (hl : l.length ≤ 100000) (v0 : Value) (p : Nat) {N : Nat} {w : World} {L : List Res} (HS0 : St N w (Row k52 52 v0 l :: Sk p Kn sd l :: L)) :
    Calls Try.prog 21 #[.agg #[.int .i64 Kn, .int .i64 sd, v0], .pointer (some ⟨p, 0, none⟩)] w fun e w' => e = .returned (.bool true) ∧ St N w' (Row k52 52 v0 l :: Sk p Kn sd l :: L) ∧ Below N w w' := by
  obtain ⟨A, c, hv, hc, _⟩ := HS0.reads
  subst hv
  obtain ⟨v, hv⟩ := Sk_open HS0.swap
  obtain ⟨m, hm⟩ : ∃ m, decide (Kn < l.length) = m := ⟨_, rfl⟩
  rw [hm] at hv
  have hex : Aside0 (sleuthlaw23_state_exact.f (Kn : Int) sd l = some (!m)) := ⟨by
    unfold sleuthlaw23_state_exact.f
    rw [← hm]
    by_cases h : Kn < l.length
    · rw [decide_eq_true h, decide_eq_false (by omega)]; rfl
    · rw [decide_eq_false h, decide_eq_true (by omega)]; rfl⟩
  have HS := Aside0.mk hv
  have HB := Aside0.mk (Below.refl N w)
  replace hm := Aside0.mk hm
  clear HS0 hv
  go_enter Try.func21, Try.ntmps21
  go_upto_region 1 with (first | ((with_reducible refine gate_dst (N := 2) rfl ?_); refine box_event ?hg (N := 2) ?hd (cs := #[.int .i64 Kn, .int .i64 sd, .slice A l.length c]) (t := 28) ?hr ?_; (case hd => rfl); (case hg => rfl); (case hr => first | (go_simp; done) | (go_simp; rfl)); intro b hg w1 hbox hb; have n0_ := Aside0.mk (HS.out.box hg hbox hb); have n1_ := Aside0.mk (below_step' HB.out HS.out.size hb); clear HS HB; have HS := n0_; have HB := n1_; clear n0_ n1_; (try simp only [List.eraseIdx_cons_succ, List.eraseIdx_cons_zero] at HS); clear hb hbox hg))
  have n0_ := Aside0.mk (HS.out.drew); have n1_ := Aside0.mk (HB.out.drew); clear HS HB; have HS := n0_; have HB := n1_; clear n0_ n1_
  refine start_ (n := 23) (S := fun w' => w'.cell? ⟨b, 0, none⟩ = some (.int .i64 Kn) ∧ w'.cell? ⟨b, 1, none⟩ = some (.int .i64 sd) ∧ w'.cell? ⟨b, 2, none⟩ = some (.slice A l.length c)) (ds := []) (tfs true [0, 23]).toArray (by kernel_rfl) rfl rfl ⟨((HS.out.pick 0 rfl).cell 0).trans rfl, ((HS.out.pick 0 rfl).cell 1).trans rfl, ((HS.out.pick 0 rfl).cell 2).trans rfl⟩ (fun hHeld => ?_); refine with_tabW agr.tab1 agr.bits1 (fun HT_ HW_ => ?_)
  generalize w1.drew = w2 at HS HB hHeld ⊢
  refine pU 0 5 (tfs true [1, 22]).toArray rfl rfl HT_ ?_
  refine pU 1 6 (tfs true [2, 21]).toArray rfl rfl HT_ ?_
  refine pU 2 7 (tfs true [3, 20]).toArray rfl rfl HT_ ?_
  refine pU 3 8 (tfs true [4, 19]).toArray rfl rfl HT_ ?_
  refine pU 5 10 (tfs true [4, 1, 1, 17]).toArray rfl rfl HT_ ?_
  refine tK 6 11 (tfs true [4, 1, 2, 16]).toArray rfl rfl HT_ HW_ hHeld ?_ (by rintro w' ⟨s0, s1, s2⟩; go_simp; with_reducible rfl)
  refine one_ (i := 4) (N := some 9) (tfs true [7, 16]).toArray rfl rfl (one_of HT_.out (by kernel_rfl)) (by decide) (fun K hK => ?_)
  refine goes_ Try.func37 (by kernel_rfl) rfl #[.pointer (some ⟨p, 0, none⟩)] (by rfl) rfl rfl (by (try simp only [List.map_toArray, List.map_cons, List.map_nil]); first | done | rfl | (simp only [List.length_drop, List.length_take]; rfl)) ?_
  with_reducible refine (bottomk_Size.ok _ _ _ _ p _ (HS.out.pick 1 rfl).blk).mono ?_
  rintro e w' ⟨rfl, rfl⟩
  refine ⟨_, rfl, ?_⟩
  have n0_ := Aside0.mk (HS.out); have n1_ := Aside0.mk (HB.out); clear HS HB; have HS := n0_; have HB := n1_; clear n0_ n1_; (try simp only [List.eraseIdx_cons_succ, List.eraseIdx_cons_zero] at HS)
  refine hK.out _ _ ⟨((HS.out.pick 0 rfl).cell 0).trans rfl, ((HS.out.pick 0 rfl).cell 1).trans rfl, ((HS.out.pick 0 rfl).cell 2).trans rfl⟩ (fun hHeld => ?_)
  clear hK K
  refine norm_ (a' := ?_) ?_ ?_
  rotate_left
  · show Act.put _ (some 9) _ = _
    simp only [Act.put, List.setIfInBounds_toArray, List.set_cons_zero, List.set_cons_succ, i64_w, i32_w]
    rfl
  refine pU 7 12 (tfs true [8, 15]).toArray rfl rfl HT_ ?_
  refine pU 8 13 (tfs true [9, 14]).toArray rfl rfl HT_ ?_
  refine pU 9 14 (tfs true [10, 13]).toArray rfl rfl HT_ ?_
  refine pU 10 15 (tfs true [11, 12]).toArray rfl rfl HT_ ?_
  refine pU 12 17 (tfs true [11, 1, 1, 10]).toArray rfl rfl HT_ ?_
  refine tK 13 18 (tfs true [11, 1, 2, 9]).toArray rfl rfl HT_ HW_ hHeld ?_ (by rintro w' ⟨s0, s1, s2⟩; go_simp; with_reducible rfl)
  refine one_ (i := 11) (N := some 16) (tfs true [14, 9]).toArray rfl rfl (one_of HT_.out (by kernel_rfl)) (by decide) (fun K hK => ?_)
  refine goes_ Try.func38 (by kernel_rfl) rfl #[.pointer (some ⟨p, 0, none⟩)] (by rfl) rfl rfl (by (try simp only [List.map_toArray, List.map_cons, List.map_nil]); first | done | rfl | (simp only [List.length_drop, List.length_take]; rfl)) ?_
  with_reducible refine (bottomk_Seed.ok _ _ _ _ p _ (HS.out.pick 1 rfl).blk).mono ?_
  rintro e w' ⟨rfl, rfl⟩
  refine ⟨_, rfl, ?_⟩
  have n0_ := Aside0.mk (HS.out); have n1_ := Aside0.mk (HB.out); clear HS HB; have HS := n0_; have HB := n1_; clear n0_ n1_; (try simp only [List.eraseIdx_cons_succ, List.eraseIdx_cons_zero] at HS)
  refine hK.out _ _ ⟨((HS.out.pick 0 rfl).cell 0).trans rfl, ((HS.out.pick 0 rfl).cell 1).trans rfl, ((HS.out.pick 0 rfl).cell 2).trans rfl⟩ (fun hHeld => ?_)
  clear hK K
  refine norm_ (a' := ?_) ?_ ?_
  rotate_left
  · show Act.put _ (some 16) _ = _
    simp only [Act.put, List.setIfInBounds_toArray, List.set_cons_zero, List.set_cons_succ, i64_w, i32_w]
    rfl
  refine pU 14 19 (tfs true [15, 8]).toArray rfl rfl HT_ ?_
  refine pU 15 20 (tfs true [16, 7]).toArray rfl rfl HT_ ?_
  refine pU 16 21 (tfs true [17, 6]).toArray rfl rfl HT_ ?_
  refine pU 17 22 (tfs true [18, 5]).toArray rfl rfl HT_ ?_
  refine tK 19 24 (tfs true [18, 1, 1, 3]).toArray rfl rfl HT_ HW_ hHeld ?_ (by rintro w' ⟨s0, s1, s2⟩; go_simp; with_reducible rfl)
  refine one_ (i := 18) (N := some 23) (tfs true [20, 3]).toArray rfl rfl (one_of HT_.out (by kernel_rfl)) (by decide) (fun K hK => ?_)
  refine goes_ Try.func19 (by kernel_rfl) rfl #[.pointer (some ⟨p, 0, none⟩)] (by rfl) rfl rfl (by (try simp only [List.map_toArray, List.map_cons, List.map_nil]); first | done | rfl | (simp only [List.length_drop, List.length_take]; rfl)) ?_
  with_reducible refine (bottomk_Exact.ok _ _ _ _ p _ (HS.out.pick 1 rfl).blk).mono ?_
  rintro e w' ⟨rfl, rfl⟩
  refine ⟨_, rfl, ?_⟩
  have n0_ := Aside0.mk (HS.out); have n1_ := Aside0.mk (HB.out); clear HS HB; have HS := n0_; have HB := n1_; clear n0_ n1_; (try simp only [List.eraseIdx_cons_succ, List.eraseIdx_cons_zero] at HS)
  refine hK.out _ _ ⟨((HS.out.pick 0 rfl).cell 0).trans rfl, ((HS.out.pick 0 rfl).cell 1).trans rfl, ((HS.out.pick 0 rfl).cell 2).trans rfl⟩ (fun hHeld => ?_)
  clear hK K
  refine norm_ (a' := ?_) ?_ ?_
  rotate_left
  · show Act.put _ (some 23) _ = _
    simp only [Act.put, List.setIfInBounds_toArray, List.set_cons_zero, List.set_cons_succ, i64_w, i32_w]
    rfl
  refine one_ (i := 20) (N := some 25) (tfs true [21, 2]).toArray rfl rfl (one_of HT_.out (by kernel_rfl)) (by decide) (fun K hK => ?_)
  refine goes_ Try.func15 (by kernel_rfl) rfl #[.agg #[.int .i64 Kn, .int .i64 sd, .slice A l.length c]] (by rfl) rfl rfl (by (try simp only [List.map_toArray, List.map_cons, List.map_nil]); first | done | rfl | (simp only [List.length_drop, List.length_take]; rfl)) ?_
  with_reducible refine (sleuthlaw23_state_exact.calls _ _ A c l (!m) _ (HS.out.pick 3 rfl).rowC.2.2 hc hex.out).mono ?_
  rintro e w3 ⟨rfl, hb⟩
  refine ⟨_, rfl, ?_⟩
  have n0_ := Aside0.mk (HS.out.step hb); have n1_ := Aside0.mk (below_step' HB.out HS.out.size hb); clear HS HB; have HS := n0_; have HB := n1_; clear n0_ n1_; (try simp only [List.eraseIdx_cons_succ, List.eraseIdx_cons_zero] at HS)
  clear hb
  refine hK.out _ _ ⟨((HS.out.pick 0 rfl).cell 0).trans rfl, ((HS.out.pick 0 rfl).cell 1).trans rfl, ((HS.out.pick 0 rfl).cell 2).trans rfl⟩ (fun hHeld => ?_)
  clear hK K
  refine norm_ (a' := ?_) ?_ ?_
  rotate_left
  · show Act.put _ (some 25) _ = _
    simp only [Act.put, List.setIfInBounds_toArray, List.set_cons_zero, List.set_cons_succ, i64_w, i32_w]
    rfl
  refine pU 21 26 (tfs true [22, 1]).toArray rfl rfl HT_ ?_
  refine pU 22 27 (tfs true [23]).toArray rfl rfl HT_ ?_
  refine done_ (done_of HT_.out (by kernel_rfl)) ?_
  clear HT_ HW_
  try clear hHeld
  go_upto_region 3 with (fail)
  have n0_ := Aside0.mk (HS.out.drew); have n1_ := Aside0.mk (HB.out.drew); clear HS HB; have HS := n0_; have HB := n1_; clear n0_ n1_
  refine start_ (n := 6) (S := fun w' => w'.cell? ⟨b, 0, none⟩ = some (.int .i64 Kn) ∧ w'.cell? ⟨b, 1, none⟩ = some (.int .i64 sd) ∧ w'.cell? ⟨b, 2, none⟩ = some (.slice A l.length c)) (ds := []) #[false, false, false, false, false, false] (by kernel_rfl) rfl rfl ⟨((HS.out.pick 0 rfl).cell 0).trans rfl, ((HS.out.pick 0 rfl).cell 1).trans rfl, ((HS.out.pick 0 rfl).cell 2).trans rfl⟩ (fun hHeld => ?_); refine with_tabW agr.tab3 agr.bits3 (fun HT_ HW_ => ?_)
  generalize w3.drew = w4 at HS HB hHeld ⊢
  refine pU 0 28 #[true, false, false, false, false, false] rfl rfl HT_ ?_
  refine tK 2 30 #[true, false, true, false, false, false] rfl rfl HT_ HW_ hHeld ?_ (by rintro w' ⟨s0, s1, s2⟩; go_simp; with_reducible rfl)
  refine one_ (i := 1) (N := some 29) #[true, true, true, false, false, false] rfl rfl (one_of HT_.out (by kernel_rfl)) (by decide) (fun K hK => ?_)
  refine goes_ Try.func36 (by kernel_rfl) rfl #[.pointer (some ⟨p, 0, none⟩)] (by rfl) rfl rfl (by (try simp only [List.map_toArray, List.map_cons, List.map_nil]); first | done | rfl | (simp only [List.length_drop, List.length_take]; rfl)) ?_
  with_reducible refine (Keys_skv Kn sd l v m p hKn (((HS.out.pick 2 rfl).pick 2 rfl))).mono ?_
  rintro e w6 ⟨u, rfl, hs, hb⟩
  refine ⟨_, rfl, ?_⟩
  have n0_ := Aside0.mk (((((hs.pick 4 rfl).pick 4 rfl).pick 4 rfl).pick 4 rfl).pick 2 rfl); have n1_ := Aside0.mk (HB.out.trans hb); clear HS HB; have HS := n0_; have HB := n1_; clear n0_ n1_; (try simp only [List.eraseIdx_cons_succ, List.eraseIdx_cons_zero] at HS)
  clear hs hb; obtain ⟨Au, cu, rfl⟩ : ∃ (A : Option Addr) (c : Nat), u = .slice A (l.take Kn).length c := (by obtain ⟨A, c, e, _, _⟩ := (HS.out.pick 4 rfl).reads; exact ⟨A, c, e⟩)
  refine hK.out _ _ ⟨((HS.out.pick 0 rfl).cell 0).trans rfl, ((HS.out.pick 0 rfl).cell 1).trans rfl, ((HS.out.pick 0 rfl).cell 2).trans rfl⟩ (fun hHeld => ?_)
  clear hK K
  refine norm_ (a' := ?_) ?_ ?_
  rotate_left
  · show Act.put _ (some 29) _ = _
    simp only [Act.put, List.setIfInBounds_toArray, List.set_cons_zero, List.set_cons_succ, i64_w, i32_w]
    rfl
  refine one_ (i := 3) (N := some 31) #[true, true, true, true, false, false] rfl rfl (one_of HT_.out (by kernel_rfl)) (by decide) (fun K hK => ?_)
  refine goes_ Try.func14 (by kernel_rfl) rfl #[.agg #[.int .i64 Kn, .int .i64 sd, .slice A l.length c]] (by rfl) rfl rfl (by (try simp only [List.map_toArray, List.map_cons, List.map_nil]); first | done | rfl | (simp only [List.length_drop, List.length_take]; rfl)) ?_
  with_reducible refine (kept_ok Kn sd A l.length c hc (by omega) _).mono ?_
  rintro e w7 ⟨rfl, hb⟩
  refine ⟨_, rfl, ?_⟩
  have n0_ := Aside0.mk (HS.out.step hb); have n1_ := Aside0.mk (below_step' HB.out HS.out.size hb); clear HS HB; have HS := n0_; have HB := n1_; clear n0_ n1_; (try simp only [List.eraseIdx_cons_succ, List.eraseIdx_cons_zero] at HS)
  clear hb
  refine hK.out _ _ ⟨((HS.out.pick 0 rfl).cell 0).trans rfl, ((HS.out.pick 0 rfl).cell 1).trans rfl, ((HS.out.pick 0 rfl).cell 2).trans rfl⟩ (fun hHeld => ?_)
  clear hK K
  refine norm_ (a' := ?_) ?_ ?_
  rotate_left
  · show Act.put _ (some 31) _ = _
    simp only [Act.put, List.setIfInBounds_toArray, List.set_cons_zero, List.set_cons_succ, i64_w, i32_w]
    rfl
  refine one_ (i := 4) (N := some 32) #[true, true, true, true, true, false] rfl rfl (one_of HT_.out (by kernel_rfl)) (by decide) (fun K hK => ?_)
  refine goes_ Try.func42 (by kernel_rfl) rfl #[.slice Au (l.take Kn).length cu, .slice A (min Kn l.length) c] (by rfl) rfl rfl (by (try simp only [List.map_toArray, List.map_cons, List.map_nil]); first | done | rfl | (simp only [List.length_drop, List.length_take]; rfl)) ?_
  with_reducible refine (same_call l Kn (by omega) (HS.out.pick 4 rfl).rowC (HS.out.pick 3 rfl).rowC).mono ?_
  rintro e w8 ⟨rfl, hb0⟩; have hb := hb0.below
  refine ⟨_, rfl, ?_⟩
  have n0_ := Aside0.mk (HS.out.step hb); have n1_ := Aside0.mk (below_step' HB.out HS.out.size hb); clear HS HB; have HS := n0_; have HB := n1_; clear n0_ n1_; (try simp only [List.eraseIdx_cons_succ, List.eraseIdx_cons_zero] at HS)
  clear hb hb0
  refine hK.out _ _ ⟨((HS.out.pick 0 rfl).cell 0).trans rfl, ((HS.out.pick 0 rfl).cell 1).trans rfl, ((HS.out.pick 0 rfl).cell 2).trans rfl⟩ (fun hHeld => ?_)
  clear hK K
  refine norm_ (a' := ?_) ?_ ?_
  rotate_left
  · show Act.put _ (some 32) _ = _
    simp only [Act.put, List.setIfInBounds_toArray, List.set_cons_zero, List.set_cons_succ, i64_w, i32_w]
    rfl
  refine pU 5 4 #[true, true, true, true, true, true] rfl rfl HT_ ?_
  refine done_ (done_of HT_.out (by kernel_rfl)) ?_
  clear HT_ HW_
  try clear hHeld
  go_wp2
  go_ret
  refine ⟨rfl, ?_, HB.out⟩
  have h := HS.out.drop
  have h2 := ((h.pick 3 rfl).drop)
  refine (Sk_shut (v := v) ?_).swap
  rw [hm.out]
  exact h2

end Go.Proofs.Ytddhpkobingmhaa.PB
end

/-! # Sk12 -/
section
namespace Go.Proofs.Ytddhpkobingmhaa.PB
open Go.RowKit Go.Proofs.YtddhpkobingmhaaW.PrintWords Go.Proofs.YtddhpkobingmhaaW.PrintLast Go.Proofs.YtddhpkobingmhaaW.PrintMore Go.Proofs.Ytddhpkobingmhaa.Sep
set_option linter.unusedVariables false
set_option linter.unusedSimpArgs false
set_option maxHeartbeats 8000000
set_option maxRecDepth 100000

def mde.T2 : Bool × List (List Nat × List Nat) := (true, [([], []), ([], []), ([1], [1]), ([2], [2]), ([], []), ([4], [4]), ([0, 3, 5, 5], [0, 3, 5]), ([6], [6]), ([7], [7]), ([7], [7]), ([8, 6, 0, 1, 2, 3, 4, 5, 6, 7, 8], [8]), ([9, 10, 0, 1, 2, 3, 4, 5, 6, 7, 8, 9, 10], [9])])
def mde.B2 : List Nat := [0, 0, 2, 6, 0, 16, 63, 127, 255, 255, 511, 2047]
theorem mde.tab2 : rtab .any (opsOf Try.f12 2) = mde.T2 := by kernel_rfl
theorem mde.bits2 : waitsOk mde.T2.2 mde.B2 = true := by kernel_rfl
def mde.T5 : Bool × List (List Nat × List Nat) := (true, [([], []), ([], []), ([], []), ([2], [2]), ([3], [3]), ([], []), ([5], [5]), ([1, 4, 6, 6], [1, 4, 6]), ([0, 7, 0], [0]), ([7, 8, 0, 1, 2, 3, 4, 5, 6, 7, 8], [7])])
def mde.B5 : List Nat := [0, 0, 0, 4, 12, 0, 32, 126, 255, 511]
theorem mde.tab5 : rtab .any (opsOf Try.f12 5) = mde.T5 := by kernel_rfl
theorem mde.bits5 : waitsOk mde.T5.2 mde.B5 = true := by kernel_rfl
theorem made_ok (a bb : Int) (ha0 : 0 ≤ a) (ha1 : a ≤ 255) (hb0 : 0 ≤ bb) (hb1 : bb ≤ 255) (A : Option Addr) (c : Nat) (dl : List Int) (hc : dl.length ≤ c) (Kn : Nat) (hKn : 1 + a % 12 = (Kn : Int)) (k kc k2 : Nat) (hs : ByteArray → Int) (ts : List ByteArray) (hk0 : sleuthlaw23_keys.f k dl = some ts) (hts : ts.length ≤ 1000) (hok : ∀ t ∈ ts, bottomk_check.f kc t = some 0 ∧ checksum_Text.f k2 bb t = some (hs t)) {w0 w : World} {L : List Res} (HC0 : Kd.C (Kd.int .u8) w0 A dl.length dl) (HB0 : Below w0.heap.size w0 w) (HS0 : St w0.heap.size w L) :
    Calls Try.prog 12 #[.agg #[.int .u8 a, .int .u8 bb], .slice A dl.length c] w fun e w' => ∃ (p : Nat) (v : Value), e = .returned (.tuple #[.pointer (some ⟨p, 0, none⟩), .agg #[.int .i64 Kn, .int .i64 bb, v]]) ∧ St w0.heap.size w' (Row k52 52 v (foldk hs ts) :: Sk p Kn bb (foldk hs ts) :: L) ∧ Below w0.heap.size w0 w' := by
  have HS := Aside0.mk HS0
  have HB := Aside0.mk HB0
  have HC := Aside0.mk HC0
  have HOK := Aside0.mk hok
  have hk := Aside0.mk hk0
  clear HS0 HB0 HC0 hok hk0
  have hw1 : wrap64 bb = bb := by unfold wrap64; omega
  have hw2 : IntKind.i64.wrap bb = bb := by rw [IntKind.wrap_i64]; omega
  go_enter Try.func12, Try.ntmps12
  go_upto_region 2 with (first | ((with_reducible refine gate_dst (N := 2) rfl ?_); refine box_event ?hg (N := 2) ?hd (cs := #[.int .u8 a, .int .u8 bb]) (t := 23) ?hr ?_; (case hd => rfl); (case hg => rfl); (case hr => first | (go_simp; done) | (go_simp; rfl)); intro b hg w1 hbox hb; have n0_ := Aside0.mk (HS.out.box hg hbox hb); have n1_ := Aside0.mk (below_step' HB.out HS.out.size hb); clear HS HB; have HS := n0_; have HB := n1_; clear n0_ n1_; (try simp only [List.eraseIdx_cons_succ, List.eraseIdx_cons_zero] at HS); clear hb hbox hg) | ((with_reducible refine gate_dst (N := 5) rfl ?_); refine box_event ?hg (N := 5) ?hd (cs := #[.int .i64 0, .int .i64 0, .slice none 0 0]) (t := 28) ?hr ?_; (case hd => rfl); (case hg => rfl); (case hr => first | (go_simp; done) | (go_simp; rfl)); intro r hg w2 hbox hb; have n0_ := Aside0.mk (HS.out.box hg hbox hb); have n1_ := Aside0.mk (below_step' HB.out HS.out.size hb); clear HS HB; have HS := n0_; have HB := n1_; clear n0_ n1_; (try simp only [List.eraseIdx_cons_succ, List.eraseIdx_cons_zero] at HS); clear hb hbox hg; have hc1_0 := ((HS.out.pick 1 rfl).cell 0).trans (show _ = some (.int .u8 a) from rfl)))
  (try rw [hKn])
  have n0_ := Aside0.mk (HS.out.drew); have n1_ := Aside0.mk (HB.out.drew); clear HS HB; have HS := n0_; have HB := n1_; clear n0_ n1_
  refine start_ (n := 12) (S := fun w' => w'.cell? ⟨b, 1, none⟩ = some (.int .u8 bb)) (ds := []) (tfs true [0, 12]).toArray (by kernel_rfl) rfl rfl (((HS.out.pick 1 rfl).cell 1).trans rfl) (fun hHeld => ?_); refine with_tabW mde.tab2 mde.bits2 (fun HT_ HW_ => ?_)
  generalize w2.drew = w3 at HS HB hHeld ⊢
  refine pU 0 15 (tfs true [1, 11]).toArray rfl rfl HT_ ?_
  refine pU 1 16 (tfs true [2, 10]).toArray rfl rfl HT_ ?_
  refine pU 4 19 (tfs true [2, 2, 1, 7]).toArray rfl rfl HT_ ?_
  refine tK 2 17 (tfs true [3, 1, 1, 7]).toArray rfl rfl HT_ HW_ hHeld ?_ (by rintro w' s0; go_simp; with_reducible rfl)
  refine pU 3 18 (tfs true [5, 7]).toArray rfl rfl HT_ ?_
  refine one_ (i := 5) (N := some 20) (tfs true [6, 6]).toArray rfl rfl (one_of HT_.out (by kernel_rfl)) (by decide) (fun K hK => ?_)
  refine goes_ Try.func22 (by kernel_rfl) rfl #[.slice A dl.length c] (by rfl) rfl rfl (by (try simp only [List.map_toArray, List.map_cons, List.map_nil]); first | done | rfl | (simp only [List.length_drop, List.length_take]; rfl)) ?_
  with_reducible refine (sleuthlaw23_keys.calls k A c dl ts _ (Kd.C_below HC.out HB.out) hc hk.out).mono ?_
  rintro e w4 ⟨vt, rfl, ho, hb⟩
  refine ⟨_, rfl, ?_⟩
  have n0_ := Aside0.mk ((((HS.out.made ho hb).pick 2 rfl).pick 2 rfl)); have n1_ := Aside0.mk (below_step' HB.out HS.out.size hb); clear HS HB; have HS := n0_; have HB := n1_; clear n0_ n1_; (try simp only [List.eraseIdx_cons_succ, List.eraseIdx_cons_zero] at HS)
  clear ho hb
  refine hK.out _ _ (((HS.out.pick 1 rfl).cell 1).trans rfl) (fun hHeld => ?_)
  clear hK K
  refine norm_ (a' := ?_) ?_ ?_
  rotate_left
  · show Act.put _ (some 20) _ = _
    simp only [Act.put, List.setIfInBounds_toArray, List.set_cons_zero, List.set_cons_succ, i64_w, i32_w]
    rfl
  refine one_ (i := 6) (N := some 21) (tfs true [7, 5]).toArray rfl rfl (one_of HT_.out (by kernel_rfl)) (by decide) (fun K hK => ?_)
  refine goes_ Try.func25 (by kernel_rfl) rfl #[.int .i64 Kn, .int .i64 bb, vt] (by rfl) rfl rfl (by (try simp only [List.map_toArray, List.map_cons, List.map_nil]); first | done | rfl | (simp only [List.length_drop, List.length_take]; rfl)) ?_
  with_reducible refine (bottomk_Of.ok kc k2 hs Kn (by omega) (by omega) bb hb0 (by omega) ts (by omega) HOK.out vt (HS.out.pick 2 rfl)).mono ?_
  rintro e w5 ⟨p, rfl, hs1, hb⟩
  refine ⟨_, rfl, ?_⟩
  have n0_ := Aside0.mk (((hs1.pick 3 rfl).pick 3 rfl)); have n1_ := Aside0.mk (HB.out.trans hb); clear HS HB; have HS := n0_; have HB := n1_; clear n0_ n1_; (try simp only [List.eraseIdx_cons_succ, List.eraseIdx_cons_zero] at HS)
  clear hs1 hb
  refine hK.out _ _ (((HS.out.pick 1 rfl).cell 1).trans rfl) (fun hHeld => ?_)
  clear hK K
  refine norm_ (a' := ?_) ?_ ?_
  rotate_left
  · show Act.put _ (some 21) _ = _
    simp only [Act.put, List.setIfInBounds_toArray, List.set_cons_zero, List.set_cons_succ, i64_w, i32_w]
    rfl
  refine pU 7 14 (tfs true [8, 4]).toArray rfl rfl HT_ ?_
  refine pU 8 22 (tfs true [9, 3]).toArray rfl rfl HT_ ?_
  refine pU 9 23 (tfs true [10, 2]).toArray rfl rfl HT_ ?_
  refine pU 10 7 (tfs true [11, 1]).toArray rfl rfl HT_ ?_
  refine pU 11 8 (tfs true [12]).toArray rfl rfl HT_ ?_
  refine done_ (done_of HT_.out (by kernel_rfl)) ?_
  clear HT_ HW_
  try clear hHeld
  go_upto_region 5 with (fail)
  have n0_ := Aside0.mk (HS.out.drew); have n1_ := Aside0.mk (HB.out.drew); clear HS HB; have HS := n0_; have HB := n1_; clear n0_ n1_
  refine start_ (n := 10) (S := fun w' => w'.cell? ⟨b, 1, none⟩ = some (.int .u8 bb)) (ds := [9]) #[false, false, false, false, false, false, false, false, false, false] (by kernel_rfl) rfl rfl (((HS.out.pick 1 rfl).cell 1).trans rfl) (fun hHeld => ?_); refine with_tabW mde.tab5 mde.bits5 (fun HT_ HW_ => ?_)
  generalize w5.drew = w7 at HS HB hHeld ⊢
  refine pU 0 27 #[true, false, false, false, false, false, false, false, false, false] rfl rfl HT_ ?_
  refine pU 1 28 #[true, true, false, false, false, false, false, false, false, false] rfl rfl HT_ ?_
  refine pU 2 29 #[true, true, true, false, false, false, false, false, false, false] rfl rfl HT_ ?_
  refine pU 5 32 #[true, true, true, false, false, true, false, false, false, false] rfl rfl HT_ ?_
  refine tK 3 30 #[true, true, true, true, false, true, false, false, false, false] rfl rfl HT_ HW_ hHeld ?_ (by rintro w' s0; go_simp; with_reducible rfl)
  refine pU 4 31 #[true, true, true, true, true, true, false, false, false, false] rfl rfl HT_ ?_
  refine one_ (i := 6) (N := some 33) #[true, true, true, true, true, true, true, false, false, false] rfl rfl (one_of HT_.out (by kernel_rfl)) (by decide) (fun K hK => ?_)
  refine goes_ Try.func22 (by kernel_rfl) rfl #[.slice A dl.length c] (by rfl) rfl rfl (by (try simp only [List.map_toArray, List.map_cons, List.map_nil]); first | done | rfl | (simp only [List.length_drop, List.length_take]; rfl)) ?_
  with_reducible refine (sleuthlaw23_keys.calls k A c dl ts _ (Kd.C_below HC.out HB.out) hc hk.out).mono ?_
  rintro e w4 ⟨vt2, rfl, ho, hb⟩
  refine ⟨_, rfl, ?_⟩
  have n0_ := Aside0.mk ((((((HS.out.made ho hb).pick 4 rfl).pick 4 rfl).pick 4 rfl).pick 4 rfl)); have n1_ := Aside0.mk (below_step' HB.out HS.out.size hb); clear HS HB; have HS := n0_; have HB := n1_; clear n0_ n1_; (try simp only [List.eraseIdx_cons_succ, List.eraseIdx_cons_zero] at HS)
  clear ho hb; obtain ⟨A2, c2, e2, _, _⟩ := (HS.out.pick 4 rfl).reads; subst e2
  refine hK.out _ _ (((HS.out.pick 1 rfl).cell 1).trans rfl) (fun hHeld => ?_)
  clear hK K
  refine norm_ (a' := ?_) ?_ ?_
  rotate_left
  · show Act.put _ (some 33) _ = _
    simp only [Act.put, List.setIfInBounds_toArray, List.set_cons_zero, List.set_cons_succ, i64_w, i32_w]
    rfl
  refine one_ (i := 7) (N := some 34) #[true, true, true, true, true, true, true, true, false, false] rfl rfl (one_of HT_.out (by kernel_rfl)) (by decide) (fun K hK => ?_)
  refine goes_ Try.func24 (by kernel_rfl) rfl #[.int .i64 Kn, .int .i64 bb, .slice A2 ts.length c2] (by rfl) rfl rfl (by (try simp only [List.map_toArray, List.map_cons, List.map_nil]); first | done | rfl | (simp only [List.length_drop, List.length_take]; rfl)) ?_
  with_reducible refine (ofl_ok Kn bb k2 hs ts ts.length (Nat.le_refl _) (by omega) (fun t ht => (HOK.out t ht).2) A2 c2 (HS.out.pick 4 rfl)).mono ?_
  rintro e w8 ⟨v3, rfl, hs1, hb⟩; rw [List.take_length] at hs1
  refine ⟨_, rfl, ?_⟩
  have n0_ := Aside0.mk (((((((hs1.pick 2 rfl).pick 3 rfl).pick 4 rfl).pick 2 rfl).pick 2 rfl).pick 1 rfl)); have n1_ := Aside0.mk (HB.out.trans hb); clear HS HB; have HS := n0_; have HB := n1_; clear n0_ n1_; (try simp only [List.eraseIdx_cons_succ, List.eraseIdx_cons_zero] at HS)
  clear hs1 hb; obtain ⟨A3, n3, c3, rfl⟩ : ∃ (A : Option Addr) (n c : Nat), v3 = .slice A n c := (by obtain ⟨A, c, e, _, _⟩ := (HS.out.pick 3 rfl).reads; exact ⟨A, _, c, e⟩); have q0 := ((HS.out.pick 0 rfl).cell 0).trans (show _ = some (.int .i64 0) from rfl); have f0 := (HS.out.pick 0 rfl).frozen 0; have q1 := ((HS.out.pick 0 rfl).cell 1).trans (show _ = some (.int .i64 0) from rfl); have f1 := (HS.out.pick 0 rfl).frozen 1; have q2 := ((HS.out.pick 0 rfl).cell 2).trans (show _ = some (.slice none 0 0) from rfl); have f2 := (HS.out.pick 0 rfl).frozen 2
  refine hK.out _ _ (((HS.out.pick 1 rfl).cell 1).trans rfl) (fun hHeld => ?_)
  clear hK K
  refine norm_ (a' := ?_) ?_ ?_
  rotate_left
  · show Act.put _ (some 34) _ = _
    simp only [Act.put, List.setIfInBounds_toArray, List.set_cons_zero, List.set_cons_succ, i64_w, i32_w]
    rfl
  refine pU 8 4 #[true, true, true, true, true, true, true, true, true, false] rfl rfl HT_ ?_
  refine last_ (i := 9) (N := none) #[true, true, true, true, true, true, true, true, true, true] rfl rfl (one_of HT_.out (by kernel_rfl)) (by decide) (fun K hK => ?_)
  refine skip_ (w1 := ?_) (by rfl) rfl ?_ ?_
  rotate_left
  · go_simp
    rfl
  clear q0 q1 q2 f0 f1 f2
  have n0_ := Aside0.mk ((((HS.out.pick 0 rfl).set 0 (.int .i64 Kn) #[.int .i64 Kn, .int .i64 0, .slice none 0 0] rfl).set 1 (.int .i64 bb) #[.int .i64 Kn, .int .i64 bb, .slice none 0 0] rfl).set 2 (.slice A3 n3 c3) #[.int .i64 Kn, .int .i64 bb, .slice A3 n3 c3] rfl); have n1_ := Aside0.mk ((((HS.out.pick 0 rfl).set 0 (.int .i64 Kn) #[.int .i64 Kn, .int .i64 0, .slice none 0 0] rfl).set 1 (.int .i64 bb) #[.int .i64 Kn, .int .i64 bb, .slice none 0 0] rfl).below_set (i := 2) (u := .slice A3 n3 c3) (((HS.out.pick 0 rfl).set 0 (.int .i64 Kn) #[.int .i64 Kn, .int .i64 0, .slice none 0 0] rfl).below_set (i := 1) (u := .int .i64 bb) ((HS.out.pick 0 rfl).below_set (i := 0) (u := .int .i64 Kn) HB.out))); clear HS HB; have HS := n0_; have HB := n1_; clear n0_ n1_; (try simp only [List.eraseIdx_cons_succ, List.eraseIdx_cons_zero] at HS)
  refine hK.out _ _ ?_
  clear hK K
  refine done_ (done_of HT_.out (by kernel_rfl)) ?_
  clear HT_ HW_
  try clear hHeld
  generalize (World.setCell (World.setCell (World.setCell _ _ _) _ _) _ _) = w9 at HS HB ⊢
  go_wp2
  (try simp only [Exit.inBlock, Exit.then])
  refine bodyPost_ret (results_tc rfl _ _ r 28 _ (0, 0) _ rfl HS.out.blk Try.underlying28 rfl (by kernel_rfl)) rfl ?_
  exact ⟨p, .slice A3 n3 c3, rfl, ((((HS.out.drop.drop.swap).pick 2 rfl).drop).pick 2 rfl).drop, HB.out⟩

end Go.Proofs.Ytddhpkobingmhaa.PB
end

/-! # Eq -/
section
namespace Go.Proofs.Ytddhpkobingmhaa.PB
open Go.RowKit Go.Proofs.YtddhpkobingmhaaW.PrintWords Go.Proofs.YtddhpkobingmhaaW.PrintLast
set_option linter.unusedVariables false
set_option maxRecDepth 100000

theorem kne_iff (x y : S52) : ((!((x.f0) == (y.f0)) || (!(((x.f1).toList) == ((y.f1).toList)))) = true) ↔ x ≠ y := by
  obtain ⟨a, s⟩ := x
  obtain ⟨b, t⟩ := y
  constructor
  · rintro h e
    cases e
    simp at h
  · intro h
    by_cases h1 : a = b
    · subst h1
      by_cases h2 : s.toList = t.toList
      · exact absurd (congrArg _ (bytes_ext _ _ h2)) h
      · simp [h2]
    · simp [h1]
theorem rd52 (l : List S52) (j : Nat) (h : j < l.length) : rd_T52 l (j : Int) = l[j] := by
  unfold rd_T52
  rw [Int.toNat_natCast, List.getD_eq_getElem?_getD, List.getElem?_eq_getElem h]; rfl
theorem eqk_l0 (l m : List S52) (he : l.length = m.length) (hl : l.length ≤ 1000000) : ∀ (q j : Nat), j + q = l.length → l.take j = m.take j → bottomk_Key_47.l0 (q + 1) l m (l.length : Int) (j : Int) = some (decide (l = m))
  | 0, j, hj, ht => by
    rw [bottomk_Key_47.l0, if_neg (by omega)]
    rw [List.take_of_length_le (by omega), List.take_of_length_le (by omega)] at ht
    rw [decide_eq_true ht]
  | q + 1, j, hj, ht => by
    have h1 : j < l.length := by omega
    have h2 : j < m.length := by omega
    rw [bottomk_Key_47.l0, if_pos (by omega), if_pos (by omega), if_pos (by omega), if_pos (by omega), wrap64_small _ (by omega) (by omega)]
    by_cases h : rd_T52 l (j : Int) = rd_T52 m (j : Int)
    · rw [if_neg (by rw [kne_iff]; exact fun g => g h)]
      refine eqk_l0 l m he hl q (j + 1) (by omega) ?_
      rw [rd52 l j h1, rd52 m j h2] at h
      rw [List.take_add_one, List.take_add_one, ht, List.getElem?_eq_getElem h1, List.getElem?_eq_getElem h2, h]
    · rw [if_pos ((kne_iff _ _).mpr h)]
      rw [decide_eq_false]
      rintro rfl
      exact h rfl
theorem eqk_ok (l m : List S52) (hl : l.length ≤ 1000000) : bottomk_Key_47.f (l.length + 1) l m = some (decide (l = m)) := by
  unfold bottomk_Key_47.f
  by_cases he : l.length = m.length
  · rw [if_pos (by omega)]
    exact eqk_l0 l m he hl l.length 0 (by omega) (by simp)
  · rw [if_neg (by omega), decide_eq_false]
    rintro rfl
    exact he rfl
end Go.Proofs.Ytddhpkobingmhaa.PB
end

/-! # Sk14 -/
section
namespace Go.Proofs.Ytddhpkobingmhaa.PB
open Go.RowKit Go.Proofs.YtddhpkobingmhaaW.PrintWords Go.Proofs.YtddhpkobingmhaaW.PrintLast Go.Proofs.YtddhpkobingmhaaW.PrintMore Go.Proofs.Ytddhpkobingmhaa.Sep
set_option linter.unusedVariables false
set_option linter.unusedSimpArgs false
set_option maxHeartbeats 8000000
set_option maxRecDepth 100000

def eql.T3 : Bool × List (List Nat × List Nat) := (true, [([], []), ([0], [0]), ([1], [1]), ([2], [2]), ([], []), ([4], [4]), ([5], [5]), ([6], [6]), ([3, 7], [3, 7]), ([8], [8]), ([9], [9]), ([10, 9], [9, 10]), ([11, 9], [9, 11]), ([12, 9], [9, 12]), ([9], [9]), ([14, 9], [9, 14]), ([15, 9], [9, 15]), ([16, 9], [9, 16]), ([13, 17, 9], [9, 13, 17]), ([9, 18], [9, 18]), ([19, 9], [19]), ([20], [20]), ([21, 20], [20, 21]), ([22, 20], [20, 22]), ([23, 20], [20, 23]), ([20], [20]), ([25, 20], [20, 25]), ([26, 20], [20, 26]), ([27, 20], [20, 27]), ([24, 28, 20], [20, 24, 28]), ([20, 29], [20, 29]), ([30, 20], [30]), ([31], [31]), ([32, 31], [31, 32]), ([33, 31], [31, 33]), ([34, 31], [31, 34]), ([31], [31]), ([36, 31], [31, 36]), ([37, 31], [31, 37]), ([38, 31], [31, 38]), ([35, 39, 31, 31], [31, 35, 39]), ([31, 40], [31, 40]), ([41, 40, 0, 1, 2, 3, 4, 5, 6, 7, 8, 9, 10, 11, 12, 13, 14, 15, 16, 17, 18, 19, 20, 21, 22, 23, 24, 25, 26, 27, 28, 29, 30, 31, 32, 33, 34, 35, 36, 37, 38, 39, 40, 41], [41])])
def eql.B3 : List Nat := [0, 1, 3, 7, 0, 16, 48, 112, 255, 511, 1023, 2047, 4095, 8191, 1023, 17407, 50175, 115711, 262143, 524287, 1048575, 2097151, 4194303, 8388607, 16777215, 2097151, 35651583, 102760447, 236978175, 536870911, 1073741823, 2147483647, 4294967295, 8589934591, 17179869183, 34359738367, 4294967295, 73014444031, 210453397503, 485331304447, 1099511627775, 2199023255551, 4398046511103]
theorem eql.tab3 : rtab .any (opsOf Try.f27 3) = eql.T3 := by kernel_rfl
theorem eql.bits3 : waitsOk eql.T3.2 eql.B3 = true := by kernel_rfl
theorem eql_A (Aa Ab : Option Addr) (ca cb : Nat) (la lb : List S52) (pa pb : Nat) (Ka sa Kb sb : Int) (ma mb : Bool) (h1 : (Ka == Kb) = false) {N : Nat} {w : World} {L : List Res} (HS0 : St N w (Blk pa #[.int .i64 Ka, .int .i64 sa, .slice Aa la.length ca, .bool ma] 59 :: Row k52 52 (.slice Aa la.length ca) la :: Blk pb #[.int .i64 Kb, .int .i64 sb, .slice Ab lb.length cb, .bool mb] 59 :: Row k52 52 (.slice Ab lb.length cb) lb :: L)) :
    Calls Try.prog 27 #[.pointer (some ⟨pa, 0, none⟩), .pointer (some ⟨pb, 0, none⟩)] w fun e w' => e = .returned (.bool false) ∧ St N w' (Blk pa #[.int .i64 Ka, .int .i64 sa, .slice Aa la.length ca, .bool ma] 59 :: Row k52 52 (.slice Aa la.length ca) la :: Blk pb #[.int .i64 Kb, .int .i64 sb, .slice Ab lb.length cb, .bool mb] 59 :: Row k52 52 (.slice Ab lb.length cb) lb :: L) ∧ Below N w w' := by
  have HS := Aside0.mk HS0
  have HB := Aside0.mk (Below.refl N w)
  clear HS0
  go_enter Try.func27, Try.ntmps27
  go_upto_region 3 with (fail)
  have n0_ := Aside0.mk (HS.out.drew); have n1_ := Aside0.mk (HB.out.drew); clear HS HB; have HS := n0_; have HB := n1_; clear n0_ n1_
  refine start_ (n := 43) (S := fun w' => w'.cell? ⟨pa, 0, none⟩ = some (.int .i64 Ka) ∧ w'.cell? ⟨pa, 1, none⟩ = some (.int .i64 sa) ∧ w'.cell? ⟨pa, 2, none⟩ = some (.slice Aa la.length ca) ∧ w'.cell? ⟨pa, 3, none⟩ = some (.bool ma) ∧ w'.cell? ⟨pb, 0, none⟩ = some (.int .i64 Kb) ∧ w'.cell? ⟨pb, 1, none⟩ = some (.int .i64 sb) ∧ w'.cell? ⟨pb, 2, none⟩ = some (.slice Ab lb.length cb) ∧ w'.cell? ⟨pb, 3, none⟩ = some (.bool mb)) (ds := []) (tfs true [0, 43]).toArray (by kernel_rfl) rfl rfl ⟨((HS.out.pick 0 rfl).cell 0).trans rfl, ((HS.out.pick 0 rfl).cell 1).trans rfl, ((HS.out.pick 0 rfl).cell 2).trans rfl, ((HS.out.pick 0 rfl).cell 3).trans rfl, ((HS.out.pick 2 rfl).cell 0).trans rfl, ((HS.out.pick 2 rfl).cell 1).trans rfl, ((HS.out.pick 2 rfl).cell 2).trans rfl, ((HS.out.pick 2 rfl).cell 3).trans rfl⟩ (fun hHeld => ?_); refine with_tabW eql.tab3 eql.bits3 (fun HT_ HW_ => ?_)
  generalize w.drew = w1 at HS HB hHeld ⊢
  refine pU 0 14 (tfs true [1, 42]).toArray rfl rfl HT_ ?_
  refine pU 1 15 (tfs true [2, 41]).toArray rfl rfl HT_ ?_
  refine pU 2 16 (tfs true [3, 40]).toArray rfl rfl HT_ ?_
  refine pU 4 18 (tfs true [3, 1, 1, 38]).toArray rfl rfl HT_ ?_
  refine pU 5 19 (tfs true [3, 1, 2, 37]).toArray rfl rfl HT_ ?_
  refine pU 6 20 (tfs true [3, 1, 3, 36]).toArray rfl rfl HT_ ?_
  refine tK 3 17 (tfs true [7, 36]).toArray rfl rfl HT_ HW_ hHeld ?_ (by rintro w' ⟨s0, s1, s2, s3, s4, s5, s6, s7⟩; go_simp; with_reducible rfl)
  refine tK 7 21 (tfs true [8, 35]).toArray rfl rfl HT_ HW_ hHeld ?_ (by rintro w' ⟨s0, s1, s2, s3, s4, s5, s6, s7⟩; go_simp; with_reducible rfl)
  refine pU 8 22 (tfs true [9, 34]).toArray rfl rfl HT_ ?_
  refine pU 9 23 (tfs true [10, 33]).toArray rfl rfl HT_ ?_
  refine pO 10 (some 24) (tfs true [11, 32]).toArray rfl rfl HT_ ?_
  refine pO 11 (some 25) (tfs true [12, 31]).toArray rfl rfl HT_ ?_
  refine pO 12 (some 26) (tfs true [13, 30]).toArray rfl rfl HT_ ?_
  refine pO 13 (some 27) (tfs true [14, 29]).toArray rfl rfl HT_ ?_
  refine pO 14 (some 28) (tfs true [15, 28]).toArray rfl rfl HT_ ?_
  refine pO 15 (some 29) (tfs true [16, 27]).toArray rfl rfl HT_ ?_
  refine pO 16 (some 30) (tfs true [17, 26]).toArray rfl rfl HT_ ?_
  refine pO 17 (some 31) (tfs true [18, 25]).toArray rfl rfl HT_ ?_
  refine pO 18 (some 32) (tfs true [19, 24]).toArray rfl rfl HT_ ?_
  refine pU 19 33 (tfs true [20, 23]).toArray rfl rfl HT_ ?_
  refine pU 20 34 (tfs true [21, 22]).toArray rfl rfl HT_ ?_
  refine pO 21 (some 35) (tfs true [22, 21]).toArray rfl rfl HT_ ?_
  refine pO 22 (some 36) (tfs true [23, 20]).toArray rfl rfl HT_ ?_
  refine pO 23 (some 37) (tfs true [24, 19]).toArray rfl rfl HT_ ?_
  refine pO 24 (some 38) (tfs true [25, 18]).toArray rfl rfl HT_ ?_
  refine pO 25 (some 39) (tfs true [26, 17]).toArray rfl rfl HT_ ?_
  refine pO 26 (some 40) (tfs true [27, 16]).toArray rfl rfl HT_ ?_
  refine pO 27 (some 41) (tfs true [28, 15]).toArray rfl rfl HT_ ?_
  refine pO 28 (some 42) (tfs true [29, 14]).toArray rfl rfl HT_ ?_
  refine pO 29 (some 43) (tfs true [30, 13]).toArray rfl rfl HT_ ?_
  refine pU 30 44 (tfs true [31, 12]).toArray rfl rfl HT_ ?_
  refine pU 31 45 (tfs true [32, 11]).toArray rfl rfl HT_ ?_
  refine pO 32 (some 46) (tfs true [33, 10]).toArray rfl rfl HT_ ?_
  refine pO 33 (some 47) (tfs true [34, 9]).toArray rfl rfl HT_ ?_
  refine pO 34 (some 48) (tfs true [35, 8]).toArray rfl rfl HT_ ?_
  refine pO 35 (some 49) (tfs true [36, 7]).toArray rfl rfl HT_ ?_
  refine pO 36 (some 50) (tfs true [37, 6]).toArray rfl rfl HT_ ?_
  refine pO 37 (some 51) (tfs true [38, 5]).toArray rfl rfl HT_ ?_
  refine pO 38 (some 52) (tfs true [39, 4]).toArray rfl rfl HT_ ?_
  refine pO 39 (some 53) (tfs true [40, 3]).toArray rfl rfl HT_ ?_
  refine pO 40 (some 54) (tfs true [41, 2]).toArray rfl rfl HT_ ?_
  refine pU 41 55 (tfs true [42, 1]).toArray rfl rfl HT_ ?_
  refine pU 42 4 (tfs true [43]).toArray rfl rfl HT_ ?_
  refine done_ (done_of HT_.out (by kernel_rfl)) ?_
  clear HT_ HW_
  try clear hHeld
  go_wp2
  go_ret
  exact ⟨rfl, HS.out, HB.out⟩

theorem eql_B (Aa Ab : Option Addr) (ca cb : Nat) (la lb : List S52) (pa pb : Nat) (Ka sa sb : Int) (ma mb : Bool) (h1 : (sa == sb) = false) (h2 : (Ka == Ka) = true) {N : Nat} {w : World} {L : List Res} (HS0 : St N w (Blk pa #[.int .i64 Ka, .int .i64 sa, .slice Aa la.length ca, .bool ma] 59 :: Row k52 52 (.slice Aa la.length ca) la :: Blk pb #[.int .i64 Ka, .int .i64 sb, .slice Ab lb.length cb, .bool mb] 59 :: Row k52 52 (.slice Ab lb.length cb) lb :: L)) :
    Calls Try.prog 27 #[.pointer (some ⟨pa, 0, none⟩), .pointer (some ⟨pb, 0, none⟩)] w fun e w' => e = .returned (.bool false) ∧ St N w' (Blk pa #[.int .i64 Ka, .int .i64 sa, .slice Aa la.length ca, .bool ma] 59 :: Row k52 52 (.slice Aa la.length ca) la :: Blk pb #[.int .i64 Ka, .int .i64 sb, .slice Ab lb.length cb, .bool mb] 59 :: Row k52 52 (.slice Ab lb.length cb) lb :: L) ∧ Below N w w' := by
  have HS := Aside0.mk HS0
  have HB := Aside0.mk (Below.refl N w)
  clear HS0
  go_enter Try.func27, Try.ntmps27
  go_upto_region 3 with (fail)
  have n0_ := Aside0.mk (HS.out.drew); have n1_ := Aside0.mk (HB.out.drew); clear HS HB; have HS := n0_; have HB := n1_; clear n0_ n1_
  refine start_ (n := 43) (S := fun w' => w'.cell? ⟨pa, 0, none⟩ = some (.int .i64 Ka) ∧ w'.cell? ⟨pa, 1, none⟩ = some (.int .i64 sa) ∧ w'.cell? ⟨pa, 2, none⟩ = some (.slice Aa la.length ca) ∧ w'.cell? ⟨pa, 3, none⟩ = some (.bool ma) ∧ w'.cell? ⟨pb, 0, none⟩ = some (.int .i64 Ka) ∧ w'.cell? ⟨pb, 1, none⟩ = some (.int .i64 sb) ∧ w'.cell? ⟨pb, 2, none⟩ = some (.slice Ab lb.length cb) ∧ w'.cell? ⟨pb, 3, none⟩ = some (.bool mb)) (ds := []) (tfs true [0, 43]).toArray (by kernel_rfl) rfl rfl ⟨((HS.out.pick 0 rfl).cell 0).trans rfl, ((HS.out.pick 0 rfl).cell 1).trans rfl, ((HS.out.pick 0 rfl).cell 2).trans rfl, ((HS.out.pick 0 rfl).cell 3).trans rfl, ((HS.out.pick 2 rfl).cell 0).trans rfl, ((HS.out.pick 2 rfl).cell 1).trans rfl, ((HS.out.pick 2 rfl).cell 2).trans rfl, ((HS.out.pick 2 rfl).cell 3).trans rfl⟩ (fun hHeld => ?_); refine with_tabW eql.tab3 eql.bits3 (fun HT_ HW_ => ?_)
  generalize w.drew = w1 at HS HB hHeld ⊢
  refine pU 0 14 (tfs true [1, 42]).toArray rfl rfl HT_ ?_
  refine pU 1 15 (tfs true [2, 41]).toArray rfl rfl HT_ ?_
  refine pU 2 16 (tfs true [3, 40]).toArray rfl rfl HT_ ?_
  refine pU 4 18 (tfs true [3, 1, 1, 38]).toArray rfl rfl HT_ ?_
  refine pU 5 19 (tfs true [3, 1, 2, 37]).toArray rfl rfl HT_ ?_
  refine pU 6 20 (tfs true [3, 1, 3, 36]).toArray rfl rfl HT_ ?_
  refine tK 3 17 (tfs true [7, 36]).toArray rfl rfl HT_ HW_ hHeld ?_ (by rintro w' ⟨s0, s1, s2, s3, s4, s5, s6, s7⟩; go_simp; with_reducible rfl)
  refine tK 7 21 (tfs true [8, 35]).toArray rfl rfl HT_ HW_ hHeld ?_ (by rintro w' ⟨s0, s1, s2, s3, s4, s5, s6, s7⟩; go_simp; with_reducible rfl)
  refine pU 8 22 (tfs true [9, 34]).toArray rfl rfl HT_ ?_
  refine pU 9 23 (tfs true [10, 33]).toArray rfl rfl HT_ ?_
  refine pU 10 24 (tfs true [11, 32]).toArray rfl rfl HT_ ?_
  refine pU 11 25 (tfs true [12, 31]).toArray rfl rfl HT_ ?_
  refine pU 12 26 (tfs true [13, 30]).toArray rfl rfl HT_ ?_
  refine pU 14 28 (tfs true [13, 1, 1, 28]).toArray rfl rfl HT_ ?_
  refine pU 15 29 (tfs true [13, 1, 2, 27]).toArray rfl rfl HT_ ?_
  refine pU 16 30 (tfs true [13, 1, 3, 26]).toArray rfl rfl HT_ ?_
  refine tK 13 27 (tfs true [17, 26]).toArray rfl rfl HT_ HW_ hHeld ?_ (by rintro w' ⟨s0, s1, s2, s3, s4, s5, s6, s7⟩; go_simp; with_reducible rfl)
  refine tK 17 31 (tfs true [18, 25]).toArray rfl rfl HT_ HW_ hHeld ?_ (by rintro w' ⟨s0, s1, s2, s3, s4, s5, s6, s7⟩; go_simp; with_reducible rfl)
  refine pU 18 32 (tfs true [19, 24]).toArray rfl rfl HT_ ?_
  refine pU 19 33 (tfs true [20, 23]).toArray rfl rfl HT_ ?_
  refine pU 20 34 (tfs true [21, 22]).toArray rfl rfl HT_ ?_
  refine pO 21 (some 35) (tfs true [22, 21]).toArray rfl rfl HT_ ?_
  refine pO 22 (some 36) (tfs true [23, 20]).toArray rfl rfl HT_ ?_
  refine pO 23 (some 37) (tfs true [24, 19]).toArray rfl rfl HT_ ?_
  refine pO 24 (some 38) (tfs true [25, 18]).toArray rfl rfl HT_ ?_
  refine pO 25 (some 39) (tfs true [26, 17]).toArray rfl rfl HT_ ?_
  refine pO 26 (some 40) (tfs true [27, 16]).toArray rfl rfl HT_ ?_
  refine pO 27 (some 41) (tfs true [28, 15]).toArray rfl rfl HT_ ?_
  refine pO 28 (some 42) (tfs true [29, 14]).toArray rfl rfl HT_ ?_
  refine pO 29 (some 43) (tfs true [30, 13]).toArray rfl rfl HT_ ?_
  refine pU 30 44 (tfs true [31, 12]).toArray rfl rfl HT_ ?_
  refine pU 31 45 (tfs true [32, 11]).toArray rfl rfl HT_ ?_
  refine pO 32 (some 46) (tfs true [33, 10]).toArray rfl rfl HT_ ?_
  refine pO 33 (some 47) (tfs true [34, 9]).toArray rfl rfl HT_ ?_
  refine pO 34 (some 48) (tfs true [35, 8]).toArray rfl rfl HT_ ?_
  refine pO 35 (some 49) (tfs true [36, 7]).toArray rfl rfl HT_ ?_
  refine pO 36 (some 50) (tfs true [37, 6]).toArray rfl rfl HT_ ?_
  refine pO 37 (some 51) (tfs true [38, 5]).toArray rfl rfl HT_ ?_
  refine pO 38 (some 52) (tfs true [39, 4]).toArray rfl rfl HT_ ?_
  refine pO 39 (some 53) (tfs true [40, 3]).toArray rfl rfl HT_ ?_
  refine pO 40 (some 54) (tfs true [41, 2]).toArray rfl rfl HT_ ?_
  refine pU 41 55 (tfs true [42, 1]).toArray rfl rfl HT_ ?_
  refine pU 42 4 (tfs true [43]).toArray rfl rfl HT_ ?_
  refine done_ (done_of HT_.out (by kernel_rfl)) ?_
  clear HT_ HW_
  try clear hHeld
  go_wp2
  go_ret
  exact ⟨rfl, HS.out, HB.out⟩

theorem eql_C (Aa Ab : Option Addr) (ca cb : Nat) (la lb : List S52) (pa pb : Nat) (Ka sa : Int) (h1 : (sa == sa) = true) (h2 : (Ka == Ka) = true) {N : Nat} {w : World} {L : List Res} (HS0 : St N w (Blk pa #[.int .i64 Ka, .int .i64 sa, .slice Aa la.length ca, .bool true] 59 :: Row k52 52 (.slice Aa la.length ca) la :: Blk pb #[.int .i64 Ka, .int .i64 sa, .slice Ab lb.length cb, .bool false] 59 :: Row k52 52 (.slice Ab lb.length cb) lb :: L)) :
    Calls Try.prog 27 #[.pointer (some ⟨pa, 0, none⟩), .pointer (some ⟨pb, 0, none⟩)] w fun e w' => e = .returned (.bool false) ∧ St N w' (Blk pa #[.int .i64 Ka, .int .i64 sa, .slice Aa la.length ca, .bool true] 59 :: Row k52 52 (.slice Aa la.length ca) la :: Blk pb #[.int .i64 Ka, .int .i64 sa, .slice Ab lb.length cb, .bool false] 59 :: Row k52 52 (.slice Ab lb.length cb) lb :: L) ∧ Below N w w' := by
  have HS := Aside0.mk HS0
  have HB := Aside0.mk (Below.refl N w)
  clear HS0
  go_enter Try.func27, Try.ntmps27
  go_upto_region 3 with (fail)
  have n0_ := Aside0.mk (HS.out.drew); have n1_ := Aside0.mk (HB.out.drew); clear HS HB; have HS := n0_; have HB := n1_; clear n0_ n1_
  refine start_ (n := 43) (S := fun w' => w'.cell? ⟨pa, 0, none⟩ = some (.int .i64 Ka) ∧ w'.cell? ⟨pa, 1, none⟩ = some (.int .i64 sa) ∧ w'.cell? ⟨pa, 2, none⟩ = some (.slice Aa la.length ca) ∧ w'.cell? ⟨pa, 3, none⟩ = some (.bool true) ∧ w'.cell? ⟨pb, 0, none⟩ = some (.int .i64 Ka) ∧ w'.cell? ⟨pb, 1, none⟩ = some (.int .i64 sa) ∧ w'.cell? ⟨pb, 2, none⟩ = some (.slice Ab lb.length cb) ∧ w'.cell? ⟨pb, 3, none⟩ = some (.bool false)) (ds := []) (tfs true [0, 43]).toArray (by kernel_rfl) rfl rfl ⟨((HS.out.pick 0 rfl).cell 0).trans rfl, ((HS.out.pick 0 rfl).cell 1).trans rfl, ((HS.out.pick 0 rfl).cell 2).trans rfl, ((HS.out.pick 0 rfl).cell 3).trans rfl, ((HS.out.pick 2 rfl).cell 0).trans rfl, ((HS.out.pick 2 rfl).cell 1).trans rfl, ((HS.out.pick 2 rfl).cell 2).trans rfl, ((HS.out.pick 2 rfl).cell 3).trans rfl⟩ (fun hHeld => ?_); refine with_tabW eql.tab3 eql.bits3 (fun HT_ HW_ => ?_)
  generalize w.drew = w1 at HS HB hHeld ⊢
  refine pU 0 14 (tfs true [1, 42]).toArray rfl rfl HT_ ?_
  refine pU 1 15 (tfs true [2, 41]).toArray rfl rfl HT_ ?_
  refine pU 2 16 (tfs true [3, 40]).toArray rfl rfl HT_ ?_
  refine pU 4 18 (tfs true [3, 1, 1, 38]).toArray rfl rfl HT_ ?_
  refine pU 5 19 (tfs true [3, 1, 2, 37]).toArray rfl rfl HT_ ?_
  refine pU 6 20 (tfs true [3, 1, 3, 36]).toArray rfl rfl HT_ ?_
  refine tK 3 17 (tfs true [7, 36]).toArray rfl rfl HT_ HW_ hHeld ?_ (by rintro w' ⟨s0, s1, s2, s3, s4, s5, s6, s7⟩; go_simp; with_reducible rfl)
  refine tK 7 21 (tfs true [8, 35]).toArray rfl rfl HT_ HW_ hHeld ?_ (by rintro w' ⟨s0, s1, s2, s3, s4, s5, s6, s7⟩; go_simp; with_reducible rfl)
  refine pU 8 22 (tfs true [9, 34]).toArray rfl rfl HT_ ?_
  refine pU 9 23 (tfs true [10, 33]).toArray rfl rfl HT_ ?_
  refine pU 10 24 (tfs true [11, 32]).toArray rfl rfl HT_ ?_
  refine pU 11 25 (tfs true [12, 31]).toArray rfl rfl HT_ ?_
  refine pU 12 26 (tfs true [13, 30]).toArray rfl rfl HT_ ?_
  refine pU 14 28 (tfs true [13, 1, 1, 28]).toArray rfl rfl HT_ ?_
  refine pU 15 29 (tfs true [13, 1, 2, 27]).toArray rfl rfl HT_ ?_
  refine pU 16 30 (tfs true [13, 1, 3, 26]).toArray rfl rfl HT_ ?_
  refine tK 13 27 (tfs true [17, 26]).toArray rfl rfl HT_ HW_ hHeld ?_ (by rintro w' ⟨s0, s1, s2, s3, s4, s5, s6, s7⟩; go_simp; with_reducible rfl)
  refine tK 17 31 (tfs true [18, 25]).toArray rfl rfl HT_ HW_ hHeld ?_ (by rintro w' ⟨s0, s1, s2, s3, s4, s5, s6, s7⟩; go_simp; with_reducible rfl)
  refine pU 18 32 (tfs true [19, 24]).toArray rfl rfl HT_ ?_
  refine pU 19 33 (tfs true [20, 23]).toArray rfl rfl HT_ ?_
  refine pU 20 34 (tfs true [21, 22]).toArray rfl rfl HT_ ?_
  refine pU 21 35 (tfs true [22, 21]).toArray rfl rfl HT_ ?_
  refine pU 22 36 (tfs true [23, 20]).toArray rfl rfl HT_ ?_
  refine pU 23 37 (tfs true [24, 19]).toArray rfl rfl HT_ ?_
  refine pU 25 39 (tfs true [24, 1, 1, 17]).toArray rfl rfl HT_ ?_
  refine pU 26 40 (tfs true [24, 1, 2, 16]).toArray rfl rfl HT_ ?_
  refine pU 27 41 (tfs true [24, 1, 3, 15]).toArray rfl rfl HT_ ?_
  refine tK 24 38 (tfs true [28, 15]).toArray rfl rfl HT_ HW_ hHeld ?_ (by rintro w' ⟨s0, s1, s2, s3, s4, s5, s6, s7⟩; go_simp; with_reducible rfl)
  refine tK 28 42 (tfs true [29, 14]).toArray rfl rfl HT_ HW_ hHeld ?_ (by rintro w' ⟨s0, s1, s2, s3, s4, s5, s6, s7⟩; go_simp; with_reducible rfl)
  refine pU 29 43 (tfs true [30, 13]).toArray rfl rfl HT_ ?_
  refine pU 30 44 (tfs true [31, 12]).toArray rfl rfl HT_ ?_
  refine pU 31 45 (tfs true [32, 11]).toArray rfl rfl HT_ ?_
  refine pO 32 (some 46) (tfs true [33, 10]).toArray rfl rfl HT_ ?_
  refine pO 33 (some 47) (tfs true [34, 9]).toArray rfl rfl HT_ ?_
  refine pO 34 (some 48) (tfs true [35, 8]).toArray rfl rfl HT_ ?_
  refine pO 35 (some 49) (tfs true [36, 7]).toArray rfl rfl HT_ ?_
  refine pO 36 (some 50) (tfs true [37, 6]).toArray rfl rfl HT_ ?_
  refine pO 37 (some 51) (tfs true [38, 5]).toArray rfl rfl HT_ ?_
  refine pO 38 (some 52) (tfs true [39, 4]).toArray rfl rfl HT_ ?_
  refine pO 39 (some 53) (tfs true [40, 3]).toArray rfl rfl HT_ ?_
  refine pO 40 (some 54) (tfs true [41, 2]).toArray rfl rfl HT_ ?_
  refine pU 41 55 (tfs true [42, 1]).toArray rfl rfl HT_ ?_
  refine pU 42 4 (tfs true [43]).toArray rfl rfl HT_ ?_
  refine done_ (done_of HT_.out (by kernel_rfl)) ?_
  clear HT_ HW_
  try clear hHeld
  go_wp2
  go_ret
  exact ⟨rfl, HS.out, HB.out⟩

theorem eql_D (Aa Ab : Option Addr) (ca cb : Nat) (la lb : List S52) (pa pb : Nat) (Ka sa : Int) (h1 : (sa == sa) = true) (h2 : (Ka == Ka) = true) {N : Nat} {w : World} {L : List Res} (HS0 : St N w (Blk pa #[.int .i64 Ka, .int .i64 sa, .slice Aa la.length ca, .bool false] 59 :: Row k52 52 (.slice Aa la.length ca) la :: Blk pb #[.int .i64 Ka, .int .i64 sa, .slice Ab lb.length cb, .bool true] 59 :: Row k52 52 (.slice Ab lb.length cb) lb :: L)) :
    Calls Try.prog 27 #[.pointer (some ⟨pa, 0, none⟩), .pointer (some ⟨pb, 0, none⟩)] w fun e w' => e = .returned (.bool false) ∧ St N w' (Blk pa #[.int .i64 Ka, .int .i64 sa, .slice Aa la.length ca, .bool false] 59 :: Row k52 52 (.slice Aa la.length ca) la :: Blk pb #[.int .i64 Ka, .int .i64 sa, .slice Ab lb.length cb, .bool true] 59 :: Row k52 52 (.slice Ab lb.length cb) lb :: L) ∧ Below N w w' := by
  have HS := Aside0.mk HS0
  have HB := Aside0.mk (Below.refl N w)
  clear HS0
  go_enter Try.func27, Try.ntmps27
  go_upto_region 3 with (fail)
  have n0_ := Aside0.mk (HS.out.drew); have n1_ := Aside0.mk (HB.out.drew); clear HS HB; have HS := n0_; have HB := n1_; clear n0_ n1_
  refine start_ (n := 43) (S := fun w' => w'.cell? ⟨pa, 0, none⟩ = some (.int .i64 Ka) ∧ w'.cell? ⟨pa, 1, none⟩ = some (.int .i64 sa) ∧ w'.cell? ⟨pa, 2, none⟩ = some (.slice Aa la.length ca) ∧ w'.cell? ⟨pa, 3, none⟩ = some (.bool false) ∧ w'.cell? ⟨pb, 0, none⟩ = some (.int .i64 Ka) ∧ w'.cell? ⟨pb, 1, none⟩ = some (.int .i64 sa) ∧ w'.cell? ⟨pb, 2, none⟩ = some (.slice Ab lb.length cb) ∧ w'.cell? ⟨pb, 3, none⟩ = some (.bool true)) (ds := []) (tfs true [0, 43]).toArray (by kernel_rfl) rfl rfl ⟨((HS.out.pick 0 rfl).cell 0).trans rfl, ((HS.out.pick 0 rfl).cell 1).trans rfl, ((HS.out.pick 0 rfl).cell 2).trans rfl, ((HS.out.pick 0 rfl).cell 3).trans rfl, ((HS.out.pick 2 rfl).cell 0).trans rfl, ((HS.out.pick 2 rfl).cell 1).trans rfl, ((HS.out.pick 2 rfl).cell 2).trans rfl, ((HS.out.pick 2 rfl).cell 3).trans rfl⟩ (fun hHeld => ?_); refine with_tabW eql.tab3 eql.bits3 (fun HT_ HW_ => ?_)
  generalize w.drew = w1 at HS HB hHeld ⊢
  refine pU 0 14 (tfs true [1, 42]).toArray rfl rfl HT_ ?_
  refine pU 1 15 (tfs true [2, 41]).toArray rfl rfl HT_ ?_
  refine pU 2 16 (tfs true [3, 40]).toArray rfl rfl HT_ ?_
  refine pU 4 18 (tfs true [3, 1, 1, 38]).toArray rfl rfl HT_ ?_
  refine pU 5 19 (tfs true [3, 1, 2, 37]).toArray rfl rfl HT_ ?_
  refine pU 6 20 (tfs true [3, 1, 3, 36]).toArray rfl rfl HT_ ?_
  refine tK 3 17 (tfs true [7, 36]).toArray rfl rfl HT_ HW_ hHeld ?_ (by rintro w' ⟨s0, s1, s2, s3, s4, s5, s6, s7⟩; go_simp; with_reducible rfl)
  refine tK 7 21 (tfs true [8, 35]).toArray rfl rfl HT_ HW_ hHeld ?_ (by rintro w' ⟨s0, s1, s2, s3, s4, s5, s6, s7⟩; go_simp; with_reducible rfl)
  refine pU 8 22 (tfs true [9, 34]).toArray rfl rfl HT_ ?_
  refine pU 9 23 (tfs true [10, 33]).toArray rfl rfl HT_ ?_
  refine pU 10 24 (tfs true [11, 32]).toArray rfl rfl HT_ ?_
  refine pU 11 25 (tfs true [12, 31]).toArray rfl rfl HT_ ?_
  refine pU 12 26 (tfs true [13, 30]).toArray rfl rfl HT_ ?_
  refine pU 14 28 (tfs true [13, 1, 1, 28]).toArray rfl rfl HT_ ?_
  refine pU 15 29 (tfs true [13, 1, 2, 27]).toArray rfl rfl HT_ ?_
  refine pU 16 30 (tfs true [13, 1, 3, 26]).toArray rfl rfl HT_ ?_
  refine tK 13 27 (tfs true [17, 26]).toArray rfl rfl HT_ HW_ hHeld ?_ (by rintro w' ⟨s0, s1, s2, s3, s4, s5, s6, s7⟩; go_simp; with_reducible rfl)
  refine tK 17 31 (tfs true [18, 25]).toArray rfl rfl HT_ HW_ hHeld ?_ (by rintro w' ⟨s0, s1, s2, s3, s4, s5, s6, s7⟩; go_simp; with_reducible rfl)
  refine pU 18 32 (tfs true [19, 24]).toArray rfl rfl HT_ ?_
  refine pU 19 33 (tfs true [20, 23]).toArray rfl rfl HT_ ?_
  refine pU 20 34 (tfs true [21, 22]).toArray rfl rfl HT_ ?_
  refine pU 21 35 (tfs true [22, 21]).toArray rfl rfl HT_ ?_
  refine pU 22 36 (tfs true [23, 20]).toArray rfl rfl HT_ ?_
  refine pU 23 37 (tfs true [24, 19]).toArray rfl rfl HT_ ?_
  refine pU 25 39 (tfs true [24, 1, 1, 17]).toArray rfl rfl HT_ ?_
  refine pU 26 40 (tfs true [24, 1, 2, 16]).toArray rfl rfl HT_ ?_
  refine pU 27 41 (tfs true [24, 1, 3, 15]).toArray rfl rfl HT_ ?_
  refine tK 24 38 (tfs true [28, 15]).toArray rfl rfl HT_ HW_ hHeld ?_ (by rintro w' ⟨s0, s1, s2, s3, s4, s5, s6, s7⟩; go_simp; with_reducible rfl)
  refine tK 28 42 (tfs true [29, 14]).toArray rfl rfl HT_ HW_ hHeld ?_ (by rintro w' ⟨s0, s1, s2, s3, s4, s5, s6, s7⟩; go_simp; with_reducible rfl)
  refine pU 29 43 (tfs true [30, 13]).toArray rfl rfl HT_ ?_
  refine pU 30 44 (tfs true [31, 12]).toArray rfl rfl HT_ ?_
  refine pU 31 45 (tfs true [32, 11]).toArray rfl rfl HT_ ?_
  refine pO 32 (some 46) (tfs true [33, 10]).toArray rfl rfl HT_ ?_
  refine pO 33 (some 47) (tfs true [34, 9]).toArray rfl rfl HT_ ?_
  refine pO 34 (some 48) (tfs true [35, 8]).toArray rfl rfl HT_ ?_
  refine pO 35 (some 49) (tfs true [36, 7]).toArray rfl rfl HT_ ?_
  refine pO 36 (some 50) (tfs true [37, 6]).toArray rfl rfl HT_ ?_
  refine pO 37 (some 51) (tfs true [38, 5]).toArray rfl rfl HT_ ?_
  refine pO 38 (some 52) (tfs true [39, 4]).toArray rfl rfl HT_ ?_
  refine pO 39 (some 53) (tfs true [40, 3]).toArray rfl rfl HT_ ?_
  refine pO 40 (some 54) (tfs true [41, 2]).toArray rfl rfl HT_ ?_
  refine pU 41 55 (tfs true [42, 1]).toArray rfl rfl HT_ ?_
  refine pU 42 4 (tfs true [43]).toArray rfl rfl HT_ ?_
  refine done_ (done_of HT_.out (by kernel_rfl)) ?_
  clear HT_ HW_
  try clear hHeld
  go_wp2
  go_ret
  exact ⟨rfl, HS.out, HB.out⟩

theorem eql_E (Aa Ab : Option Addr) (ca cb : Nat) (la lb : List S52) (pa pb : Nat) (Ka sa : Int) (m : Bool) (hla : la.length ≤ 1000000) (h1 : (sa == sa) = true) (h2 : (Ka == Ka) = true) (h3 : (m == m) = true) {N : Nat} {w : World} {L : List Res} (HS0 : St N w (Blk pa #[.int .i64 Ka, .int .i64 sa, .slice Aa la.length ca, .bool m] 59 :: Row k52 52 (.slice Aa la.length ca) la :: Blk pb #[.int .i64 Ka, .int .i64 sa, .slice Ab lb.length cb, .bool m] 59 :: Row k52 52 (.slice Ab lb.length cb) lb :: L)) :
    Calls Try.prog 27 #[.pointer (some ⟨pa, 0, none⟩), .pointer (some ⟨pb, 0, none⟩)] w fun e w' => e = .returned (.bool (decide (la = lb))) ∧ St N w' (Blk pa #[.int .i64 Ka, .int .i64 sa, .slice Aa la.length ca, .bool m] 59 :: Row k52 52 (.slice Aa la.length ca) la :: Blk pb #[.int .i64 Ka, .int .i64 sa, .slice Ab lb.length cb, .bool m] 59 :: Row k52 52 (.slice Ab lb.length cb) lb :: L) ∧ Below N w w' := by
  have HS := Aside0.mk HS0
  have HB := Aside0.mk (Below.refl N w)
  clear HS0
  go_enter Try.func27, Try.ntmps27
  go_upto_region 3 with (fail)
  have n0_ := Aside0.mk (HS.out.drew); have n1_ := Aside0.mk (HB.out.drew); clear HS HB; have HS := n0_; have HB := n1_; clear n0_ n1_
  refine start_ (n := 43) (S := fun w' => w'.cell? ⟨pa, 0, none⟩ = some (.int .i64 Ka) ∧ w'.cell? ⟨pa, 1, none⟩ = some (.int .i64 sa) ∧ w'.cell? ⟨pa, 2, none⟩ = some (.slice Aa la.length ca) ∧ w'.cell? ⟨pa, 3, none⟩ = some (.bool m) ∧ w'.cell? ⟨pb, 0, none⟩ = some (.int .i64 Ka) ∧ w'.cell? ⟨pb, 1, none⟩ = some (.int .i64 sa) ∧ w'.cell? ⟨pb, 2, none⟩ = some (.slice Ab lb.length cb) ∧ w'.cell? ⟨pb, 3, none⟩ = some (.bool m)) (ds := []) (tfs true [0, 43]).toArray (by kernel_rfl) rfl rfl ⟨((HS.out.pick 0 rfl).cell 0).trans rfl, ((HS.out.pick 0 rfl).cell 1).trans rfl, ((HS.out.pick 0 rfl).cell 2).trans rfl, ((HS.out.pick 0 rfl).cell 3).trans rfl, ((HS.out.pick 2 rfl).cell 0).trans rfl, ((HS.out.pick 2 rfl).cell 1).trans rfl, ((HS.out.pick 2 rfl).cell 2).trans rfl, ((HS.out.pick 2 rfl).cell 3).trans rfl⟩ (fun hHeld => ?_); refine with_tabW eql.tab3 eql.bits3 (fun HT_ HW_ => ?_)
  generalize w.drew = w1 at HS HB hHeld ⊢
  refine pU 0 14 (tfs true [1, 42]).toArray rfl rfl HT_ ?_
  refine pU 1 15 (tfs true [2, 41]).toArray rfl rfl HT_ ?_
  refine pU 2 16 (tfs true [3, 40]).toArray rfl rfl HT_ ?_
  refine pU 4 18 (tfs true [3, 1, 1, 38]).toArray rfl rfl HT_ ?_
  refine pU 5 19 (tfs true [3, 1, 2, 37]).toArray rfl rfl HT_ ?_
  refine pU 6 20 (tfs true [3, 1, 3, 36]).toArray rfl rfl HT_ ?_
  refine tK 3 17 (tfs true [7, 36]).toArray rfl rfl HT_ HW_ hHeld ?_ (by rintro w' ⟨s0, s1, s2, s3, s4, s5, s6, s7⟩; go_simp; with_reducible rfl)
  refine tK 7 21 (tfs true [8, 35]).toArray rfl rfl HT_ HW_ hHeld ?_ (by rintro w' ⟨s0, s1, s2, s3, s4, s5, s6, s7⟩; go_simp; with_reducible rfl)
  refine pU 8 22 (tfs true [9, 34]).toArray rfl rfl HT_ ?_
  refine pU 9 23 (tfs true [10, 33]).toArray rfl rfl HT_ ?_
  refine pU 10 24 (tfs true [11, 32]).toArray rfl rfl HT_ ?_
  refine pU 11 25 (tfs true [12, 31]).toArray rfl rfl HT_ ?_
  refine pU 12 26 (tfs true [13, 30]).toArray rfl rfl HT_ ?_
  refine pU 14 28 (tfs true [13, 1, 1, 28]).toArray rfl rfl HT_ ?_
  refine pU 15 29 (tfs true [13, 1, 2, 27]).toArray rfl rfl HT_ ?_
  refine pU 16 30 (tfs true [13, 1, 3, 26]).toArray rfl rfl HT_ ?_
  refine tK 13 27 (tfs true [17, 26]).toArray rfl rfl HT_ HW_ hHeld ?_ (by rintro w' ⟨s0, s1, s2, s3, s4, s5, s6, s7⟩; go_simp; with_reducible rfl)
  refine tK 17 31 (tfs true [18, 25]).toArray rfl rfl HT_ HW_ hHeld ?_ (by rintro w' ⟨s0, s1, s2, s3, s4, s5, s6, s7⟩; go_simp; with_reducible rfl)
  refine pU 18 32 (tfs true [19, 24]).toArray rfl rfl HT_ ?_
  refine pU 19 33 (tfs true [20, 23]).toArray rfl rfl HT_ ?_
  refine pU 20 34 (tfs true [21, 22]).toArray rfl rfl HT_ ?_
  refine pU 21 35 (tfs true [22, 21]).toArray rfl rfl HT_ ?_
  refine pU 22 36 (tfs true [23, 20]).toArray rfl rfl HT_ ?_
  refine pU 23 37 (tfs true [24, 19]).toArray rfl rfl HT_ ?_
  refine pU 25 39 (tfs true [24, 1, 1, 17]).toArray rfl rfl HT_ ?_
  refine pU 26 40 (tfs true [24, 1, 2, 16]).toArray rfl rfl HT_ ?_
  refine pU 27 41 (tfs true [24, 1, 3, 15]).toArray rfl rfl HT_ ?_
  refine tK 24 38 (tfs true [28, 15]).toArray rfl rfl HT_ HW_ hHeld ?_ (by rintro w' ⟨s0, s1, s2, s3, s4, s5, s6, s7⟩; go_simp; with_reducible rfl)
  refine tK 28 42 (tfs true [29, 14]).toArray rfl rfl HT_ HW_ hHeld ?_ (by rintro w' ⟨s0, s1, s2, s3, s4, s5, s6, s7⟩; go_simp; with_reducible rfl)
  refine pU 29 43 (tfs true [30, 13]).toArray rfl rfl HT_ ?_
  refine pU 30 44 (tfs true [31, 12]).toArray rfl rfl HT_ ?_
  refine pU 31 45 (tfs true [32, 11]).toArray rfl rfl HT_ ?_
  refine pU 32 46 (tfs true [33, 10]).toArray rfl rfl HT_ ?_
  refine pU 33 47 (tfs true [34, 9]).toArray rfl rfl HT_ ?_
  refine pU 34 48 (tfs true [35, 8]).toArray rfl rfl HT_ ?_
  refine pU 36 50 (tfs true [35, 1, 1, 6]).toArray rfl rfl HT_ ?_
  refine pU 37 51 (tfs true [35, 1, 2, 5]).toArray rfl rfl HT_ ?_
  refine pU 38 52 (tfs true [35, 1, 3, 4]).toArray rfl rfl HT_ ?_
  refine tK 35 49 (tfs true [39, 4]).toArray rfl rfl HT_ HW_ hHeld ?_ (by rintro w' ⟨s0, s1, s2, s3, s4, s5, s6, s7⟩; go_simp; with_reducible rfl)
  refine tK 39 53 (tfs true [40, 3]).toArray rfl rfl HT_ HW_ hHeld ?_ (by rintro w' ⟨s0, s1, s2, s3, s4, s5, s6, s7⟩; go_simp; with_reducible rfl)
  refine one_ (i := 40) (N := some 54) (tfs true [41, 2]).toArray rfl rfl (one_of HT_.out (by kernel_rfl)) (by decide) (fun K hK => ?_)
  refine goes_ Try.func47 (by kernel_rfl) rfl #[.slice Aa la.length ca, .slice Ab lb.length cb] (by rfl) rfl rfl (by (try simp only [List.map_toArray, List.map_cons, List.map_nil]); first | done | rfl | (simp only [List.length_drop, List.length_take]; rfl)) ?_
  with_reducible refine (bottomk_Key_47.calls (la.length + 1) Aa ca la Ab cb lb _ _ (HS.out.pick 1 rfl).rowC.2.2 (HS.out.pick 1 rfl).rowC.2.1 (HS.out.pick 3 rfl).rowC.2.2 (HS.out.pick 3 rfl).rowC.2.1 (eqk_ok la lb hla)).mono ?_
  rintro e w2 ⟨rfl, hb0⟩; have hb := hb0.below
  refine ⟨_, rfl, ?_⟩
  have n0_ := Aside0.mk (HS.out.step hb); have n1_ := Aside0.mk (below_step' HB.out HS.out.size hb); clear HS HB; have HS := n0_; have HB := n1_; clear n0_ n1_; (try simp only [List.eraseIdx_cons_succ, List.eraseIdx_cons_zero] at HS)
  clear hb hb0
  refine hK.out _ _ ⟨((HS.out.pick 0 rfl).cell 0).trans rfl, ((HS.out.pick 0 rfl).cell 1).trans rfl, ((HS.out.pick 0 rfl).cell 2).trans rfl, ((HS.out.pick 0 rfl).cell 3).trans rfl, ((HS.out.pick 2 rfl).cell 0).trans rfl, ((HS.out.pick 2 rfl).cell 1).trans rfl, ((HS.out.pick 2 rfl).cell 2).trans rfl, ((HS.out.pick 2 rfl).cell 3).trans rfl⟩ (fun hHeld => ?_)
  clear hK K
  refine norm_ (a' := ?_) ?_ ?_
  rotate_left
  · show Act.put _ (some 54) _ = _
    simp only [Act.put, List.setIfInBounds_toArray, List.set_cons_zero, List.set_cons_succ, i64_w, i32_w]
    rfl
  refine pU 41 55 (tfs true [42, 1]).toArray rfl rfl HT_ ?_
  refine pU 42 4 (tfs true [43]).toArray rfl rfl HT_ ?_
  refine done_ (done_of HT_.out (by kernel_rfl)) ?_
  clear HT_ HW_
  try clear hHeld
  go_wp2
  go_ret
  exact ⟨rfl, HS.out, HB.out⟩

theorem bottomk_Equal.ok (Aa Ab : Option Addr) (ca cb : Nat) (la lb : List S52) (pa pb : Nat) (Ka sa Kb sb : Int) (ma mb : Bool) (hla : la.length ≤ 1000000) {N : Nat} {w : World} {L : List Res} (HS0 : St N w (Blk pa #[.int .i64 Ka, .int .i64 sa, .slice Aa la.length ca, .bool ma] 59 :: Row k52 52 (.slice Aa la.length ca) la :: Blk pb #[.int .i64 Kb, .int .i64 sb, .slice Ab lb.length cb, .bool mb] 59 :: Row k52 52 (.slice Ab lb.length cb) lb :: L)) :
    Calls Try.prog 27 #[.pointer (some ⟨pa, 0, none⟩), .pointer (some ⟨pb, 0, none⟩)] w fun e w' => e = .returned (.bool (decide (Ka = Kb ∧ sa = sb ∧ ma = mb ∧ la = lb))) ∧ St N w' (Blk pa #[.int .i64 Ka, .int .i64 sa, .slice Aa la.length ca, .bool ma] 59 :: Row k52 52 (.slice Aa la.length ca) la :: Blk pb #[.int .i64 Kb, .int .i64 sb, .slice Ab lb.length cb, .bool mb] 59 :: Row k52 52 (.slice Ab lb.length cb) lb :: L) ∧ Below N w w' := by
  by_cases h1 : Ka = Kb
  · subst h1
    by_cases h2 : sa = sb
    · subst h2
      by_cases h3 : ma = mb
      · subst h3
        rw [show decide (Ka = Ka ∧ sa = sa ∧ ma = ma ∧ la = lb) = decide (la = lb) by simp]
        exact eql_E Aa Ab ca cb la lb pa pb Ka sa ma hla (beq_self_eq_true _) (beq_self_eq_true _) (beq_self_eq_true _) HS0
      · rw [decide_eq_false (fun h => h3 h.2.2.1)]
        cases ma <;> cases mb
        · exact absurd rfl h3
        · exact eql_D Aa Ab ca cb la lb pa pb Ka sa (beq_self_eq_true _) (beq_self_eq_true _) HS0
        · exact eql_C Aa Ab ca cb la lb pa pb Ka sa (beq_self_eq_true _) (beq_self_eq_true _) HS0
        · exact absurd rfl h3
    · rw [decide_eq_false (fun h => h2 h.2.1)]
      exact eql_B Aa Ab ca cb la lb pa pb Ka sa sb ma mb (by simpa using h2) (beq_self_eq_true _) HS0
  · rw [decide_eq_false (fun h => h1 h.1)]
    exact eql_A Aa Ab ca cb la lb pa pb Ka sa Kb sb ma mb (by simpa using h1) HS0

/-- Equal of two sketches. -/
theorem Equal_sk (pa pb Ka Kb : Nat) (sa sb : Int) (la lb : List S52) (hKa : Ka ≤ 1024) {N : Nat} {w : World} {L : List Res} (HS0 : St N w (Sk pa Ka sa la :: Sk pb Kb sb lb :: L)) :
    Calls Try.prog 27 #[.pointer (some ⟨pa, 0, none⟩), .pointer (some ⟨pb, 0, none⟩)] w fun e w' => e = .returned (.bool (decide ((Ka : Int) = (Kb : Int) ∧ sa = sb ∧ decide (Ka < la.length) = decide (Kb < lb.length) ∧ la.take Ka = lb.take Kb))) ∧ St N w' (Sk pa Ka sa la :: Sk pb Kb sb lb :: L) ∧ Below N w w' := by
  obtain ⟨va, h1⟩ := Sk_open HS0
  obtain ⟨Aa, ca, ea, _, _⟩ := h1.swap.reads
  subst ea
  have h2 := h1.pick 2 rfl
  simp only [List.eraseIdx_cons_succ, List.eraseIdx_cons_zero] at h2
  obtain ⟨vb, h3⟩ := Sk_open h2
  obtain ⟨Ab, cb, eb, _, _⟩ := h3.swap.reads
  subst eb
  have h4 := (h3.pick 3 rfl).pick 3 rfl
  simp only [List.eraseIdx_cons_succ, List.eraseIdx_cons_zero] at h4
  refine (bottomk_Equal.ok Aa Ab ca cb (la.take Ka) (lb.take Kb) pa pb Ka sa Kb sb _ _ (by rw [List.length_take]; omega) h4).mono ?_
  rintro e w' ⟨rfl, hs, hb⟩
  refine ⟨rfl, ?_, hb⟩
  have h5 := Sk_shut hs
  have h6 := (h5.pick 1 rfl)
  simp only [List.eraseIdx_cons_succ, List.eraseIdx_cons_zero] at h6
  have h7 := h6.pick 2 rfl
  simp only [List.eraseIdx_cons_succ, List.eraseIdx_cons_zero] at h7
  exact (Sk_shut h7.swap).swap
theorem Equal_same (pa pb Kn : Nat) (sd : Int) (l : List S52) (hK : Kn ≤ 1024) {N : Nat} {w : World} {L : List Res} (HS0 : St N w (Sk pa Kn sd l :: Sk pb Kn sd l :: L)) :
    Calls Try.prog 27 #[.pointer (some ⟨pa, 0, none⟩), .pointer (some ⟨pb, 0, none⟩)] w fun e w' => e = .returned (.bool true) ∧ St N w' (Sk pa Kn sd l :: Sk pb Kn sd l :: L) ∧ Below N w w' := by
  have := Equal_sk pa pb Kn Kn sd sd l l hK HS0
  rwa [decide_eq_true ⟨rfl, rfl, rfl, rfl⟩] at this

end Go.Proofs.Ytddhpkobingmhaa.PB
end
