/- The law's own record of keys: with. -/
import Derived.Test.YtddhpkobingmhaaJ5
import Derived.Test.YtddhpkobingmhaaJ3
namespace Go.Proofs.Ytddhpkobingmhaa.PB
open Go.RowKit Go.Proofs.YtddhpkobingmhaaW.PrintWords Go.Proofs.YtddhpkobingmhaaW.PrintLast Go.Proofs.YtddhpkobingmhaaW.PrintMore Go.Proofs.Ytddhpkobingmhaa.Sep
set_option linter.unusedVariables false
set_option linter.unusedSimpArgs false
set_option maxHeartbeats 8000000
set_option maxRecDepth 100000

theorem before_ok (a b : S52) : sleuthlaw23_before.f a.f0 a.f1 b.f0 b.f1 = some (decide (Bf a b)) := by
  unfold sleuthlaw23_before.f
  have := bf_iff a b
  by_cases h1 : a.f0 < b.f0
  · rw [if_pos h1, decide_eq_true (this.mpr (.inl h1))]
  · rw [if_neg h1]
    by_cases h2 : a.f0 = b.f0
    · rw [if_pos h2]
      by_cases h3 : Op.bytesLess a.f1.toList b.f1.toList = true
      · rw [h3, decide_eq_true (this.mpr (.inr ⟨h2, h3⟩))]
      · rw [decide_eq_false (fun h => by rcases this.mp h with h | h; exact h1 h; exact h3 h.2)]; simp [h3]
    · rw [if_neg h2, decide_eq_false (fun h => by rcases this.mp h with h | h; exact h1 h; exact h2 h.1)]
theorem bf_of_lt (x : S52) (l : List S52) (j : Nat) (h : j < plc x l) : Bf (rd_T52 l j) x := plc_lo x l j h
theorem plc_of (x : S52) (l : List S52) (hI : Inc l) (j : Nat) (hj : j < l.length) (hle : j ≤ plc x l) (h : ¬ Bf (rd_T52 l j) x) : j = plc x l := by
  by_cases h2 : j < plc x l
  · exact absurd (plc_lo x l j h2) h
  · omega
theorem plc_gt (x : S52) (l : List S52) (hI : Inc l) (j : Nat) (hj : j < l.length) (h : Bf (rd_T52 l j) x) : j < plc x l := by
  by_cases h2 : j < plc x l
  · exact h2
  · have := plc_hi x l hI j (by omega) hj
    unfold Bf at h; omega
theorem hit_eq (x : S52) (l : List S52) (h : plc x l < l.length) : (((rd_T52 l (plc x l)).f0 == x.f0) && ((rd_T52 l (plc x l)).f1.toList == x.f1.toList)) = hit x l := by
  unfold hit
  rw [decide_eq_true h, Bool.true_and]
  generalize rd_T52 l (plc x l) = y
  by_cases h1 : kcmp y x = 0
  · have := (kz_iff y x).mp h1
    subst this
    simp [h1]
  · have h2 : ¬ y = x := fun e => h1 ((kz_iff y x).mpr e)
    rw [show (kcmp y x == 0) = false by simpa using h1]
    by_cases h3 : y.f0 = x.f0
    · by_cases h4 : y.f1.toList = x.f1.toList
      · exfalso
        apply h2
        have := bytes_ext _ _ h4
        obtain ⟨a, b⟩ := y
        obtain ⟨a', b'⟩ := x
        simp only at h3 this
        rw [h3, this]
      · simp [h4]
    · simp [h3]
theorem C_takeN {w : World} {A : Option Addr} {l : List S52} (h : k52.C w A l.length l) (j : Nat) (hj : j ≤ l.length) : k52.C w A j (l.take j) := by
  have := Kd.C_take (m := j) h hj
  rwa [List.length_take, Nat.min_eq_left hj] at this
theorem C_dropA {w : World} {A : Option Addr} {l : List S52} {c : Nat} (h : k52.C w A l.length l) (j : Nat) (hj : j ≤ l.length) (hc : l.length ≤ c) (hcj : c = j) : k52.C w A (l.length - j) (l.drop j) := by
  have := Kd.C_drop (c := c) (m := j) h hj hc
  rwa [if_pos hcj, List.length_drop] at this
theorem C_dropB {w : World} {A : Option Addr} {l : List S52} {c : Nat} (h : k52.C w A l.length l) (j : Nat) (hj : j ≤ l.length) (hc : l.length ≤ c) (hcj : ¬ c = j) : k52.C w (A.map (·.add (j * 2))) (l.length - j) (l.drop j) := by
  have := Kd.C_drop (c := c) (m := j) h hj hc
  rwa [if_neg hcj, List.length_drop] at this

def wth.T3 : Bool × List (List Nat × List Nat) := (true, [([], []), ([], []), ([1], [1]), ([2], [2]), ([0, 3], [0, 3]), ([4], [4]), ([5], [5]), ([6, 5], [5, 6]), ([5], [5]), ([7, 8, 5], [5, 7, 8]), ([9, 5], [5, 9]), ([5], [5]), ([10, 11, 5, 5], [5, 10, 11]), ([5, 12], [5, 12])])
def wth.B3 : List Nat := [0, 0, 2, 6, 15, 31, 63, 127, 63, 511, 1023, 63, 4095, 8191]
theorem wth.tab3 : rtab .any (opsOf Try.f46 3) = wth.T3 := by kernel_rfl
theorem wth.bits3 : waitsOk wth.T3.2 wth.B3 = true := by kernel_rfl
def wth.T5 : Bool × List (List Nat × List Nat) := (true, [([], []), ([], []), ([1], [1]), ([2], [2]), ([0, 3], [0, 3]), ([4], [4]), ([5], [5]), ([6, 5], [5, 6]), ([5], [5]), ([7, 8, 5], [5, 7, 8]), ([9, 5], [5, 9]), ([5], [5]), ([10, 11, 5], [5, 10, 11]), ([5, 12], [5, 12])])
def wth.B5 : List Nat := [0, 0, 2, 6, 15, 31, 63, 127, 63, 511, 1023, 63, 4095, 8191]
theorem wth.tab5 : rtab .any (opsOf Try.f46 5) = wth.T5 := by kernel_rfl
theorem wth.bits5 : waitsOk wth.T5.2 wth.B5 = true := by kernel_rfl
def wth.T7 : Bool × List (List Nat × List Nat) := (true, [([], []), ([], []), ([1], [1]), ([], []), ([2, 3], [2, 3]), ([0, 4], [0, 4]), ([], []), ([6], [6]), ([5, 7, 5], [5, 7]), ([], []), ([9], [9]), ([], []), ([10, 11], [10, 11]), ([8, 12, 8], [8, 12]), ([0, 1, 2, 3, 4, 5, 6, 7, 8, 9, 10, 11, 12, 13], []), ([14, 13, 13, 0, 1, 2, 3, 4, 5, 6, 7, 8, 9, 10, 11, 12, 13], [13, 14])])
def wth.B7 : List Nat := [0, 0, 2, 0, 14, 31, 0, 64, 255, 0, 512, 0, 3584, 8191, 16383, 32767]
theorem wth.tab7 : rtab .any (opsOf Try.f46 7) = wth.T7 := by kernel_rfl
theorem wth.bits7 : waitsOk wth.T7.2 wth.B7 = true := by kernel_rfl
theorem with_ok (sz sd : Int) (k2 : Nat) (s : ByteArray) (h : Int) (htx0 : checksum_Text.f k2 sd s = some h) (l : List S52) (hI : Inc l) (hl : l.length ≤ 100000) (v : Value) {N : Nat} {w : World} {L : List Res} (HS0 : St N w (Row k52 52 v l :: L)) :
    Calls Try.prog 46 #[.agg #[.int .i64 sz, .int .i64 sd, v], .string s] w fun e w' => ∃ v', e = .returned (.agg #[.int .i64 sz, .int .i64 sd, v']) ∧ St N w' (Row k52 52 v' (ins ⟨h, s⟩ l) :: L) ∧ Below N w w' := by
  obtain ⟨A, c, hv, hc, _⟩ := HS0.reads
  subst hv
  have HS := Aside0.mk HS0
  have HB := Aside0.mk (Below.refl N w)
  have htx := Aside0.mk htx0
  have hI := Aside0.mk hI
  clear HS0 htx0
  go_enter Try.func46, Try.ntmps46
  go_wp2_with (first | ((with_reducible refine gate_dst (N := 2) rfl ?_); refine box_event ?hg (N := 2) ?hd (cs := #[.int .i64 sz, .int .i64 sd, .slice A l.length c]) (t := 28) ?hr ?_; (case hd => rfl); (case hg => rfl); (case hr => first | (go_simp; done) | (go_simp; rfl)); intro b hg w1 hbox hb; have n0_ := Aside0.mk (HS.out.box hg hbox hb); have n1_ := Aside0.mk (below_step' HB.out HS.out.size hb); clear HS HB; have HS := n0_; have HB := n1_; clear n0_ n1_; (try simp only [List.eraseIdx_cons_succ, List.eraseIdx_cons_zero] at HS); clear hb hbox hg) | ((with_reducible refine gate_dst (N := 4) rfl ?_); refine box_event ?hg (N := 4) ?hd (cs := #[.int .i64 0, .int .i64 0, .slice none 0 0]) (t := 28) ?hr ?_; (case hd => rfl); (case hg => rfl); (case hr => first | (go_simp; done) | (go_simp; rfl)); intro r hg w2 hbox hb; have n0_ := Aside0.mk (HS.out.box hg hbox hb); have n1_ := Aside0.mk (below_step' HB.out HS.out.size hb); clear HS HB; have HS := n0_; have HB := n1_; clear n0_ n1_; (try simp only [List.eraseIdx_cons_succ, List.eraseIdx_cons_zero] at HS); clear hb hbox hg; have hc1_1 := ((HS.out.pick 1 rfl).cell 1).trans (show _ = some (.int .i64 sd) from rfl)) | ((with_reducible refine gate_callee (f := 45) rfl ?_); refine goesL_ (some 10) rfl rfl Try.func45 (by kernel_rfl) rfl #[.int .i64 sd, .string s] rfl (by (try simp only [List.map_toArray, List.map_cons, List.map_nil]); first | done | rfl | (simp only [List.length_drop, List.length_take]; rfl)) ?_; (with_reducible refine (checksum_Text.calls k2 sd s h _ htx.out).mono ?_); rintro e w3 ⟨rfl, hb0⟩; have hb := hb0.below; clear hb0 hc1_1; refine ⟨_, rfl, ?_⟩; have n0_ := Aside0.mk (HS.out.step hb); have n1_ := Aside0.mk (below_step' HB.out HS.out.size hb); clear HS HB; have HS := n0_; have HB := n1_; clear n0_ n1_; (try simp only [List.eraseIdx_cons_succ, List.eraseIdx_cons_zero] at HS); clear hb) | ((with_reducible refine gate_dst (N := 5) rfl ?_); refine box_event ?hg (N := 5) ?hd (cs := #[.int .i64 0, .string ⟨#[]⟩]) (t := 52) ?hr ?_; (case hd => rfl); (case hg => rfl); (case hr => first | (go_simp; done) | (go_simp; rfl)); intro kk hg w4 hbox hb; have n0_ := Aside0.mk (HS.out.box hg hbox hb); have n1_ := Aside0.mk (below_step' HB.out HS.out.size hb); clear HS HB; have HS := n0_; have HB := n1_; clear n0_ n1_; (try simp only [List.eraseIdx_cons_succ, List.eraseIdx_cons_zero] at HS); clear hb hbox hg; have hc0_0 := ((HS.out.pick 0 rfl).cell 0).trans (show _ = some (.int .i64 0) from rfl); have hc0_1 := ((HS.out.pick 0 rfl).cell 1).trans (show _ = some (.string ⟨#[]⟩) from rfl); have hf0_0 := (HS.out.pick 0 rfl).frozen 0; have hf0_1 := (HS.out.pick 0 rfl).frozen 1) | ((with_reducible refine gate_store (t := 52) (p := 5) rfl ?_); refine store_event (t := 52) (p := 5) (v := .tmp 12) (w1 := ?_) rfl rfl rfl ?_ ?_; rotate_left; (focus (first | (go_simp; done) | (go_simp; rfl))); intro w5 hw; have n0_ := Aside0.mk (HS.out.set2 hw); have n1_ := Aside0.mk (HS.out.below_set2 HB.out hw); clear HS HB; have HS := n0_; have HB := n1_; clear n0_ n1_; (try simp only [List.eraseIdx_cons_succ, List.eraseIdx_cons_zero] at HS); clear hw; clear hc0_0 hc0_1 hf0_0 hf0_1))
  go_loopw [6] (fun v6 wc => ∃ j : Nat, j ≤ plc ⟨h, s⟩ l ∧ v6 = .int .i64 j ∧ Aside0 (St N wc (Blk kk #[.int .i64 h, .string s] 52 :: Blk r #[.int .i64 0, .int .i64 0, .slice none 0 0] 28 :: Blk b #[.int .i64 sz, .int .i64 sd, .slice A l.length c] 28 :: Row k52 52 (.slice A l.length c) l :: L)) ∧ Aside0 (Below N w wc)) (fun v6 _ => (l.length - intOf v6).toNat)
  case atStart => exact ⟨0, Nat.zero_le _, rfl, HS, HB⟩
  case round =>
    clear HS HB
    obtain ⟨j, hjp, rfl, HS, HB⟩ := hrel
    have hpl := plc_le ⟨h, s⟩ l
    by_cases hlt : j < l.length
    ·
      obtain ⟨ad, e, hx0, hx1⟩ := at_T52 (HS.out.pick 3 rfl).rowC.2.2 (j : Int) (by omega) (by omega)
      cases e
      rw [Int.toNat_natCast] at hx0 hx1
      replace hx0 := Aside0.mk hx0
      replace hx1 := Aside0.mk hx1
      have q7 : (0 : Int) ≤ (j : Int) := by omega
      have q8 : (j : Int) < (l.length : Int) := by omega
      have q9 : decide ((j : Int) < (l.length : Int)) = true := decide_eq_true q8
      by_cases hk : Bf (rd_T52 l (j : Int)) ⟨h, s⟩
      · have hk1 := decide_eq_true hk
        have hk2 := plc_gt _ _ hI.out j hlt hk
        clear hk
        go_upto_region 3 with (fail)
        have n2_ := Aside0.mk (show wr.drew.cell? _ = _ from hx0.out); have n3_ := Aside0.mk (show wr.drew.cell? _ = _ from hx1.out); clear hx0 hx1; have hx0 := n2_; have hx1 := n3_; clear n2_ n3_
        have n0_ := Aside0.mk (HS.out.drew); have n1_ := Aside0.mk (HB.out.drew); clear HS HB; have HS := n0_; have HB := n1_; clear n0_ n1_
        refine start_ (n := 14) (S := fun w' => w'.cell? ⟨b, 2, none⟩ = some (.slice (some ad) l.length c) ∧ w'.cell? (ad.add (j * 2)) = some (.int .i64 (rd_T52 l (j : Int)).f0) ∧ w'.cell? ⟨(ad.add (j * 2)).block, (ad.add (j * 2)).off + 1, none⟩ = some (.string (rd_T52 l (j : Int)).f1) ∧ w'.cell? ⟨kk, 0, none⟩ = some (.int .i64 h) ∧ w'.cell? ⟨kk, 1, none⟩ = some (.string s)) (ds := []) (tfs true [0, 14]).toArray (by kernel_rfl) rfl rfl ⟨((HS.out.pick 2 rfl).cell 2).trans rfl, hx0.out, hx1.out, ((HS.out.pick 0 rfl).cell 0).trans rfl, ((HS.out.pick 0 rfl).cell 1).trans rfl⟩ (fun hHeld => ?_); refine with_tabW wth.tab3 wth.bits3 (fun HT_ HW_ => ?_)
        generalize wr.drew = w6 at HS HB hx0 hx1 hHeld ⊢
        refine pU 0 13 (tfs true [1, 13]).toArray rfl rfl HT_ ?_
        refine pU 1 14 (tfs true [2, 12]).toArray rfl rfl HT_ ?_
        refine tK 2 15 (tfs true [3, 11]).toArray rfl rfl HT_ HW_ hHeld ?_ (by rintro w' ⟨s0, s1, s2, s3, s4⟩; go_simp; with_reducible rfl)
        refine pU 3 16 (tfs true [4, 10]).toArray rfl rfl HT_ ?_
        refine pU 4 17 (tfs true [5, 9]).toArray rfl rfl HT_ ?_
        refine pU 5 18 (tfs true [6, 8]).toArray rfl rfl HT_ ?_
        refine pU 6 19 (tfs true [7, 7]).toArray rfl rfl HT_ ?_
        refine pU 8 21 (tfs true [7, 1, 1, 5]).toArray rfl rfl HT_ ?_
        refine tK 7 20 (tfs true [9, 5]).toArray rfl rfl HT_ HW_ hHeld ?_ (by rintro w' ⟨s0, s1, s2, s3, s4⟩; go_simp; with_reducible rfl)
        refine pU 9 22 (tfs true [10, 4]).toArray rfl rfl HT_ ?_
        refine tK 10 23 (tfs true [11, 3]).toArray rfl rfl HT_ HW_ hHeld ?_ (by rintro w' ⟨s0, s1, s2, s3, s4⟩; go_simp; with_reducible rfl)
        refine tK 11 24 (tfs true [12, 2]).toArray rfl rfl HT_ HW_ hHeld ?_ (by rintro w' ⟨s0, s1, s2, s3, s4⟩; go_simp; with_reducible rfl)
        refine one_ (i := 12) (N := some 25) (tfs true [13, 1]).toArray rfl rfl (one_of HT_.out (by kernel_rfl)) (by decide) (fun K hK => ?_)
        refine goes_ Try.func57 (by kernel_rfl) rfl #[.agg #[.int .i64 (rd_T52 l (j : Int)).f0, .string (rd_T52 l (j : Int)).f1], .agg #[.int .i64 h, .string s]] (by rfl) rfl rfl (by (try simp only [List.map_toArray, List.map_cons, List.map_nil]); first | done | rfl | (simp only [List.length_drop, List.length_take]; rfl)) ?_
        with_reducible refine (sleuthlaw23_before.calls _ _ _ _ _ _ (before_ok (rd_T52 l (j : Int)) ⟨h, s⟩)).mono ?_
        rintro e w7 ⟨rfl, hb⟩
        refine ⟨_, rfl, ?_⟩
        have n0_ := Aside0.mk (HS.out.step hb); have n1_ := Aside0.mk (below_step' HB.out HS.out.size hb); clear HS HB; have HS := n0_; have HB := n1_; clear n0_ n1_; (try simp only [List.eraseIdx_cons_succ, List.eraseIdx_cons_zero] at HS)
        have n2_ := Aside0.mk ((hb.cell (World.block_lt_of_cell? _ _ hx0.out)).trans hx0.out); have n3_ := Aside0.mk ((hb.cell (World.block_lt_of_cell? _ _ hx1.out)).trans hx1.out); clear hx0 hx1 hb; have hx0 := n2_; have hx1 := n3_; clear n2_ n3_
        refine hK.out _ _ ⟨((HS.out.pick 2 rfl).cell 2).trans rfl, hx0.out, hx1.out, ((HS.out.pick 0 rfl).cell 0).trans rfl, ((HS.out.pick 0 rfl).cell 1).trans rfl⟩ (fun hHeld => ?_)
        clear hK K
        refine norm_ (a' := ?_) ?_ ?_
        rotate_left
        · show Act.put _ (some 25) _ = _
          simp only [Act.put, List.setIfInBounds_toArray, List.set_cons_zero, List.set_cons_succ, i64_w, i32_w]
          rfl
        refine pU 13 26 (tfs true [14]).toArray rfl rfl HT_ ?_
        refine done_ (done_of HT_.out (by kernel_rfl)) ?_
        clear HT_ HW_
        try clear hHeld
        rw [hk1]
        go_wp2
        go_roundw
        case rel => exact ⟨j + 1, by omega, by go_num, HS, HB⟩
        case measure => simp [intOf]; omega
      · have hk1 := decide_eq_false hk
        replace hjp := Aside0.mk (plc_of _ _ hI.out j hlt hjp hk)
        have hhe := hit_eq ⟨h, s⟩ l (hjp.out ▸ hlt)
        rw [← hjp.out] at hhe
        replace hhe := Aside0.mk hhe
        clear hk hpl
        go_upto_region 3 with (fail)
        have n2_ := Aside0.mk (show wr.drew.cell? _ = _ from hx0.out); have n3_ := Aside0.mk (show wr.drew.cell? _ = _ from hx1.out); clear hx0 hx1; have hx0 := n2_; have hx1 := n3_; clear n2_ n3_
        have n0_ := Aside0.mk (HS.out.drew); have n1_ := Aside0.mk (HB.out.drew); clear HS HB; have HS := n0_; have HB := n1_; clear n0_ n1_
        refine start_ (n := 14) (S := fun w' => w'.cell? ⟨b, 2, none⟩ = some (.slice (some ad) l.length c) ∧ w'.cell? (ad.add (j * 2)) = some (.int .i64 (rd_T52 l (j : Int)).f0) ∧ w'.cell? ⟨(ad.add (j * 2)).block, (ad.add (j * 2)).off + 1, none⟩ = some (.string (rd_T52 l (j : Int)).f1) ∧ w'.cell? ⟨kk, 0, none⟩ = some (.int .i64 h) ∧ w'.cell? ⟨kk, 1, none⟩ = some (.string s)) (ds := []) (tfs true [0, 14]).toArray (by kernel_rfl) rfl rfl ⟨((HS.out.pick 2 rfl).cell 2).trans rfl, hx0.out, hx1.out, ((HS.out.pick 0 rfl).cell 0).trans rfl, ((HS.out.pick 0 rfl).cell 1).trans rfl⟩ (fun hHeld => ?_); refine with_tabW wth.tab3 wth.bits3 (fun HT_ HW_ => ?_)
        generalize wr.drew = w6 at HS HB hx0 hx1 hHeld ⊢
        refine pU 0 13 (tfs true [1, 13]).toArray rfl rfl HT_ ?_
        refine pU 1 14 (tfs true [2, 12]).toArray rfl rfl HT_ ?_
        refine tK 2 15 (tfs true [3, 11]).toArray rfl rfl HT_ HW_ hHeld ?_ (by rintro w' ⟨s0, s1, s2, s3, s4⟩; go_simp; with_reducible rfl)
        refine pU 3 16 (tfs true [4, 10]).toArray rfl rfl HT_ ?_
        refine pU 4 17 (tfs true [5, 9]).toArray rfl rfl HT_ ?_
        refine pU 5 18 (tfs true [6, 8]).toArray rfl rfl HT_ ?_
        refine pU 6 19 (tfs true [7, 7]).toArray rfl rfl HT_ ?_
        refine pU 8 21 (tfs true [7, 1, 1, 5]).toArray rfl rfl HT_ ?_
        refine tK 7 20 (tfs true [9, 5]).toArray rfl rfl HT_ HW_ hHeld ?_ (by rintro w' ⟨s0, s1, s2, s3, s4⟩; go_simp; with_reducible rfl)
        refine pU 9 22 (tfs true [10, 4]).toArray rfl rfl HT_ ?_
        refine tK 10 23 (tfs true [11, 3]).toArray rfl rfl HT_ HW_ hHeld ?_ (by rintro w' ⟨s0, s1, s2, s3, s4⟩; go_simp; with_reducible rfl)
        refine tK 11 24 (tfs true [12, 2]).toArray rfl rfl HT_ HW_ hHeld ?_ (by rintro w' ⟨s0, s1, s2, s3, s4⟩; go_simp; with_reducible rfl)
        refine one_ (i := 12) (N := some 25) (tfs true [13, 1]).toArray rfl rfl (one_of HT_.out (by kernel_rfl)) (by decide) (fun K hK => ?_)
        refine goes_ Try.func57 (by kernel_rfl) rfl #[.agg #[.int .i64 (rd_T52 l (j : Int)).f0, .string (rd_T52 l (j : Int)).f1], .agg #[.int .i64 h, .string s]] (by rfl) rfl rfl (by (try simp only [List.map_toArray, List.map_cons, List.map_nil]); first | done | rfl | (simp only [List.length_drop, List.length_take]; rfl)) ?_
        with_reducible refine (sleuthlaw23_before.calls _ _ _ _ _ _ (before_ok (rd_T52 l (j : Int)) ⟨h, s⟩)).mono ?_
        rintro e w7 ⟨rfl, hb⟩
        refine ⟨_, rfl, ?_⟩
        have n0_ := Aside0.mk (HS.out.step hb); have n1_ := Aside0.mk (below_step' HB.out HS.out.size hb); clear HS HB; have HS := n0_; have HB := n1_; clear n0_ n1_; (try simp only [List.eraseIdx_cons_succ, List.eraseIdx_cons_zero] at HS)
        have n2_ := Aside0.mk ((hb.cell (World.block_lt_of_cell? _ _ hx0.out)).trans hx0.out); have n3_ := Aside0.mk ((hb.cell (World.block_lt_of_cell? _ _ hx1.out)).trans hx1.out); clear hx0 hx1 hb; have hx0 := n2_; have hx1 := n3_; clear n2_ n3_
        refine hK.out _ _ ⟨((HS.out.pick 2 rfl).cell 2).trans rfl, hx0.out, hx1.out, ((HS.out.pick 0 rfl).cell 0).trans rfl, ((HS.out.pick 0 rfl).cell 1).trans rfl⟩ (fun hHeld => ?_)
        clear hK K
        refine norm_ (a' := ?_) ?_ ?_
        rotate_left
        · show Act.put _ (some 25) _ = _
          simp only [Act.put, List.setIfInBounds_toArray, List.set_cons_zero, List.set_cons_succ, i64_w, i32_w]
          rfl
        refine pU 13 26 (tfs true [14]).toArray rfl rfl HT_ ?_
        refine done_ (done_of HT_.out (by kernel_rfl)) ?_
        clear HT_ HW_
        try clear hHeld
        rw [hk1]
        go_upto_region 5 with (fail)
        by_cases hh : hit ⟨h, s⟩ l = true
        · have e1 : ((rd_T52 l (j : Int)).f0 = h) = True := eq_true (by have := hhe.out; rw [hh] at this; simpa using (Bool.and_eq_true_iff.mp this).1)
          have e2 : ((rd_T52 l (j : Int)).f1.toList = s.toList) = True := eq_true (by have := hhe.out; rw [hh] at this; simpa using (Bool.and_eq_true_iff.mp this).2)
          have n2_ := Aside0.mk (show w7.drew.cell? _ = _ from hx0.out); have n3_ := Aside0.mk (show w7.drew.cell? _ = _ from hx1.out); clear hx0 hx1; have hx0 := n2_; have hx1 := n3_; clear n2_ n3_
          have n0_ := Aside0.mk (HS.out.drew); have n1_ := Aside0.mk (HB.out.drew); clear HS HB; have HS := n0_; have HB := n1_; clear n0_ n1_
          refine start_ (n := 14) (S := fun w' => w'.cell? ⟨b, 2, none⟩ = some (.slice (some ad) l.length c) ∧ w'.cell? (ad.add (j * 2)) = some (.int .i64 (rd_T52 l (j : Int)).f0) ∧ w'.cell? ⟨(ad.add (j * 2)).block, (ad.add (j * 2)).off + 1, none⟩ = some (.string (rd_T52 l (j : Int)).f1) ∧ w'.cell? ⟨kk, 0, none⟩ = some (.int .i64 h) ∧ w'.cell? ⟨kk, 1, none⟩ = some (.string s)) (ds := []) (tfs true [0, 14]).toArray (by kernel_rfl) rfl rfl ⟨((HS.out.pick 2 rfl).cell 2).trans rfl, hx0.out, hx1.out, ((HS.out.pick 0 rfl).cell 0).trans rfl, ((HS.out.pick 0 rfl).cell 1).trans rfl⟩ (fun hHeld => ?_); refine with_tabW wth.tab5 wth.bits5 (fun HT_ HW_ => ?_)
          generalize w7.drew = w8 at HS HB hx0 hx1 hHeld ⊢
          refine pU 0 29 (tfs true [1, 13]).toArray rfl rfl HT_ ?_
          refine pU 1 30 (tfs true [2, 12]).toArray rfl rfl HT_ ?_
          refine tK 2 31 (tfs true [3, 11]).toArray rfl rfl HT_ HW_ hHeld ?_ (by rintro w' ⟨s0, s1, s2, s3, s4⟩; go_simp; with_reducible rfl)
          refine pU 3 32 (tfs true [4, 10]).toArray rfl rfl HT_ ?_
          refine pU 4 33 (tfs true [5, 9]).toArray rfl rfl HT_ ?_
          refine pU 5 34 (tfs true [6, 8]).toArray rfl rfl HT_ ?_
          refine pU 6 35 (tfs true [7, 7]).toArray rfl rfl HT_ ?_
          refine pU 8 37 (tfs true [7, 1, 1, 5]).toArray rfl rfl HT_ ?_
          refine tK 7 36 (tfs true [9, 5]).toArray rfl rfl HT_ HW_ hHeld ?_ (by rintro w' ⟨s0, s1, s2, s3, s4⟩; go_simp; with_reducible rfl)
          refine pU 9 38 (tfs true [10, 4]).toArray rfl rfl HT_ ?_
          refine tK 10 39 (tfs true [11, 3]).toArray rfl rfl HT_ HW_ hHeld ?_ (by rintro w' ⟨s0, s1, s2, s3, s4⟩; go_simp; with_reducible rfl)
          refine tK 11 40 (tfs true [12, 2]).toArray rfl rfl HT_ HW_ hHeld ?_ (by rintro w' ⟨s0, s1, s2, s3, s4⟩; go_simp; with_reducible rfl)
          refine pU 12 41 (tfs true [13, 1]).toArray rfl rfl HT_ ?_
          refine pU 13 42 (tfs true [14]).toArray rfl rfl HT_ ?_
          refine done_ (done_of HT_.out (by kernel_rfl)) ?_
          clear HT_ HW_
          try clear hHeld
          have q0 := ((HS.out.pick 2 rfl).cell 0).trans (show _ = some (.int .i64 sz) from rfl)
          have q1 := ((HS.out.pick 2 rfl).cell 1).trans (show _ = some (.int .i64 sd) from rfl)
          have q2 := ((HS.out.pick 2 rfl).cell 2).trans (show _ = some (.slice (some ad) l.length c) from rfl)
          have q3 := ((HS.out.pick 1 rfl).cell 0).trans (show _ = some (.int .i64 0) from rfl)
          have q4 := ((HS.out.pick 1 rfl).cell 1).trans (show _ = some (.int .i64 0) from rfl)
          have q5 := ((HS.out.pick 1 rfl).cell 2).trans (show _ = some (.slice none 0 0) from rfl)
          have f0 := (HS.out.pick 1 rfl).frozen 0
          have f1 := (HS.out.pick 1 rfl).frozen 1
          have f2 := (HS.out.pick 1 rfl).frozen 2
          go_wp2_with (first | ((with_reducible refine gate_store (t := 28) (p := 4) rfl ?_); refine store_event (t := 28) (p := 4) (v := .tmp 43) (w1 := ?_) rfl rfl rfl ?_ ?_; rotate_left; (focus (first | (go_simp; done) | (go_simp; rfl))); intro w16 hw; have n0_ := Aside0.mk ((HS.out.pick 1 rfl).set3 hw); have n1_ := Aside0.mk ((HS.out.pick 1 rfl).below_set3 HB.out hw); clear HS HB; have HS := n0_; have HB := n1_; clear n0_ n1_; (try simp only [List.eraseIdx_cons_succ, List.eraseIdx_cons_zero] at HS); clear hw))
          (try simp only [Exit.inBlock, Exit.then])
          refine bodyPost_ret (results_cell_row rfl _ _ r 28 _ (0, 0) _ rfl HS.out.blk Try.underlying28 rfl (by kernel_rfl)) rfl ?_
          refine ⟨.slice (some ad) l.length c, rfl, ?_, HB.out⟩
          rw [ins_hit _ _ hh]
          exact (HS.out.pick 3 rfl).swap.drop.swap.drop.swap.drop
        · replace hh : hit ⟨h, s⟩ l = false := by simpa using hh
          have e3 : ∀ {α : Type} (A B : α), (if (rd_T52 l (j : Int)).f0 = h then (if (rd_T52 l (j : Int)).f1.toList = s.toList then A else B) else B) = B := by
            intro α A B
            have := hhe.out
            rw [hh] at this
            by_cases h1 : (rd_T52 l (j : Int)).f0 = h
            · have h2 : ¬ (rd_T52 l (j : Int)).f1.toList = s.toList := fun h2 => by simp [h1, h2] at this
              rw [if_pos h1, if_neg h2]
            · rw [if_neg h1]
          have n2_ := Aside0.mk (show w7.drew.cell? _ = _ from hx0.out); have n3_ := Aside0.mk (show w7.drew.cell? _ = _ from hx1.out); clear hx0 hx1; have hx0 := n2_; have hx1 := n3_; clear n2_ n3_
          have n0_ := Aside0.mk (HS.out.drew); have n1_ := Aside0.mk (HB.out.drew); clear HS HB; have HS := n0_; have HB := n1_; clear n0_ n1_
          refine start_ (n := 14) (S := fun w' => w'.cell? ⟨b, 2, none⟩ = some (.slice (some ad) l.length c) ∧ w'.cell? (ad.add (j * 2)) = some (.int .i64 (rd_T52 l (j : Int)).f0) ∧ w'.cell? ⟨(ad.add (j * 2)).block, (ad.add (j * 2)).off + 1, none⟩ = some (.string (rd_T52 l (j : Int)).f1) ∧ w'.cell? ⟨kk, 0, none⟩ = some (.int .i64 h) ∧ w'.cell? ⟨kk, 1, none⟩ = some (.string s)) (ds := []) (tfs true [0, 14]).toArray (by kernel_rfl) rfl rfl ⟨((HS.out.pick 2 rfl).cell 2).trans rfl, hx0.out, hx1.out, ((HS.out.pick 0 rfl).cell 0).trans rfl, ((HS.out.pick 0 rfl).cell 1).trans rfl⟩ (fun hHeld => ?_); refine with_tabW wth.tab5 wth.bits5 (fun HT_ HW_ => ?_)
          generalize w7.drew = w8 at HS HB hx0 hx1 hHeld ⊢
          refine pU 0 29 (tfs true [1, 13]).toArray rfl rfl HT_ ?_
          refine pU 1 30 (tfs true [2, 12]).toArray rfl rfl HT_ ?_
          refine tK 2 31 (tfs true [3, 11]).toArray rfl rfl HT_ HW_ hHeld ?_ (by rintro w' ⟨s0, s1, s2, s3, s4⟩; go_simp; with_reducible rfl)
          refine pU 3 32 (tfs true [4, 10]).toArray rfl rfl HT_ ?_
          refine pU 4 33 (tfs true [5, 9]).toArray rfl rfl HT_ ?_
          refine pU 5 34 (tfs true [6, 8]).toArray rfl rfl HT_ ?_
          refine pU 6 35 (tfs true [7, 7]).toArray rfl rfl HT_ ?_
          refine pU 8 37 (tfs true [7, 1, 1, 5]).toArray rfl rfl HT_ ?_
          refine tK 7 36 (tfs true [9, 5]).toArray rfl rfl HT_ HW_ hHeld ?_ (by rintro w' ⟨s0, s1, s2, s3, s4⟩; go_simp; with_reducible rfl)
          refine pU 9 38 (tfs true [10, 4]).toArray rfl rfl HT_ ?_
          refine tK 10 39 (tfs true [11, 3]).toArray rfl rfl HT_ HW_ hHeld ?_ (by rintro w' ⟨s0, s1, s2, s3, s4⟩; go_simp; with_reducible rfl)
          refine tK 11 40 (tfs true [12, 2]).toArray rfl rfl HT_ HW_ hHeld ?_ (by rintro w' ⟨s0, s1, s2, s3, s4⟩; go_simp; with_reducible rfl)
          refine pU 12 41 (tfs true [13, 1]).toArray rfl rfl HT_ ?_
          refine pU 13 42 (tfs true [14]).toArray rfl rfl HT_ ?_
          refine done_ (done_of HT_.out (by kernel_rfl)) ?_
          clear HT_ HW_
          try clear hHeld
          have r1 : (j : Int) ≤ (c : Int) := by omega
          have r2 : (j : Int) ≤ (l.length : Int) := by omega
          have r3 : j ≤ l.length := by omega
          have hcj : ¬ c = j := by omega
          go_upto_region 7 with (fail)
          have n0_ := Aside0.mk (HS.out.drew); have n1_ := Aside0.mk (HB.out.drew); clear HS HB; have HS := n0_; have HB := n1_; clear n0_ n1_
          refine start_ (n := 16) (S := fun w' => w'.cell? ⟨b, 2, none⟩ = some (.slice (some ad) l.length c) ∧ w'.cell? ⟨kk, 0, none⟩ = some (.int .i64 h) ∧ w'.cell? ⟨kk, 1, none⟩ = some (.string s)) (ds := [15]) (tfs true [0, 16]).toArray (by kernel_rfl) rfl rfl ⟨((HS.out.pick 2 rfl).cell 2).trans rfl, ((HS.out.pick 0 rfl).cell 0).trans rfl, ((HS.out.pick 0 rfl).cell 1).trans rfl⟩ (fun hHeld => ?_); refine with_tabW wth.tab7 wth.bits7 (fun HT_ HW_ => ?_)
          generalize w8.drew = w9 at HS HB hHeld ⊢
          refine pU 1 45 (tfs true [0, 1, 1, 14]).toArray rfl rfl HT_ ?_
          refine pU 3 47 (tfs true [0, 1, 1, 1, 1, 12]).toArray rfl rfl HT_ ?_
          refine pU 9 53 (tfs true [0, 1, 1, 1, 1, 5, 1, 6]).toArray rfl rfl HT_ ?_
          refine pU 11 55 (tfs true [0, 1, 1, 1, 1, 5, 1, 1, 1, 4]).toArray rfl rfl HT_ ?_
          refine tK 2 46 (tfs true [0, 1, 3, 5, 1, 1, 1, 4]).toArray rfl rfl HT_ HW_ hHeld ?_ (by rintro w' ⟨s0, s1, s2⟩; go_simp; with_reducible rfl)
          refine pU 4 48 (tfs true [0, 1, 4, 4, 1, 1, 1, 4]).toArray rfl rfl HT_ ?_
          refine tK 6 50 (tfs true [0, 1, 4, 1, 1, 2, 1, 1, 1, 4]).toArray rfl rfl HT_ HW_ hHeld ?_ (by rintro w' ⟨s0, s1, s2⟩; go_simp; with_reducible rfl)
          refine tK 10 54 (tfs true [0, 1, 4, 1, 1, 2, 3, 4]).toArray rfl rfl HT_ HW_ hHeld ?_ (by rintro w' ⟨s0, s1, s2⟩; go_simp; with_reducible rfl)
          refine pU 12 56 (tfs true [0, 1, 4, 1, 1, 2, 4, 3]).toArray rfl rfl HT_ ?_
          refine two_ (i := 0) (j := 7) (Ni := some 44) (Nj := some 51) (tfs true [5, 1, 1, 2, 4, 3]).toArray (tfs true [0, 1, 4, 1, 2, 1, 4, 3]).toArray rfl rfl rfl rfl (two_of HT_.out (by kernel_rfl)) (by decide) (by decide) (fun K hK => ?_) (fun K hK => ?_)
          ·
            refine S_lit_step k52 52 (by rfl) (Nt := 44) rfl (xs := ([] : List S52)) (inner := []) ?hr ?hp HS.out (by simp) ?_
            (case hr => first | (go_simp; done) | (go_simp; rfl))
            (case hp => exact Reps.none _ _)
            intro u44 w10 hs hb
            have n0_ := Aside0.mk (((((hs.pick 4 rfl).pick 4 rfl).pick 4 rfl).pick 4 rfl)); have n1_ := Aside0.mk (below_step' HB.out HS.out.size hb); clear HS HB; have HS := n0_; have HB := n1_; clear n0_ n1_; (try simp only [List.eraseIdx_cons_succ, List.eraseIdx_cons_zero] at HS)
            clear hs hb
            refine hK.out _ _ ⟨((HS.out.pick 2 rfl).cell 2).trans rfl, ((HS.out.pick 0 rfl).cell 0).trans rfl, ((HS.out.pick 0 rfl).cell 1).trans rfl⟩ (fun hHeld => ?_)
            clear hK K
            refine norm_ (a' := ?_) ?_ ?_
            rotate_left
            · show Act.put _ (some 44) _ = _
              simp only [Act.put, List.setIfInBounds_toArray, List.set_cons_zero, List.set_cons_succ, i64_w, i32_w]
              rfl
            refine two_ (i := 5) (j := 7) (Ni := some 49) (Nj := some 51) (tfs true [7, 2, 4, 3]).toArray (tfs true [5, 1, 2, 1, 4, 3]).toArray rfl rfl rfl rfl (two_of HT_.out (by kernel_rfl)) (by decide) (by decide) (fun K hK => ?_) (fun K hK => ?_)
            ·
              refine S_append_rows_step k52 (by rfl) (.tmp 44) (.tmp 48) 26 52 (.agg #[(.int .i64 0), (.string ⟨#[]⟩)]) 24 rfl Try.underlying26 info52 rfl (by decide) (by omega) u44 ([]) (l.take j) ((some ad)) (j) c rfl ?hx (flat52 _ _) (HS.out.pick 4 rfl) ?hC HB.out ?hl ?_
              (case hx => rfl)
              (case hC => exact C_takeN (HS.out.pick 3 rfl).rowC.2.2 j (by omega))
              (case hl => (simp; omega))
              intro u49 w11 hs hb
              have n0_ := Aside0.mk (((((hs.pick 4 rfl).pick 4 rfl).pick 4 rfl).pick 4 rfl)); have n1_ := Aside0.mk (hb); clear HS HB; have HS := n0_; have HB := n1_; clear n0_ n1_; (try simp only [List.eraseIdx_cons_succ, List.eraseIdx_cons_zero] at HS)
              clear hs hb
              refine hK.out _ _ ⟨((HS.out.pick 2 rfl).cell 2).trans rfl, ((HS.out.pick 0 rfl).cell 0).trans rfl, ((HS.out.pick 0 rfl).cell 1).trans rfl⟩ (fun hHeld => ?_)
              clear hK K
              refine norm_ (a' := ?_) ?_ ?_
              rotate_left
              · show Act.put _ (some 49) _ = _
                simp only [Act.put, List.setIfInBounds_toArray, List.set_cons_zero, List.set_cons_succ, i64_w, i32_w]
                rfl
              refine one_ (i := 7) (N := some 51) (tfs true [8, 1, 4, 3]).toArray rfl rfl (one_of HT_.out (by kernel_rfl)) (by decide) (fun K hK => ?_)
              refine S_lit_step k52 52 (by rfl) (Nt := 51) rfl (xs := ([⟨h, s⟩] : List S52)) (inner := [.int .i64 h, .string s]) ?hr ?hp HS.out (by simp) ?_
              (case hr => first | (go_simp; done) | (go_simp; rfl))
              (case hp => exact reps_encs flatK (fun y => flatK.M _ _ _ y) _)
              intro u51 w10 hs hb
              have n0_ := Aside0.mk ((((((hs.pick 5 rfl).pick 5 rfl).pick 5 rfl).pick 5 rfl).pick 5 rfl)); have n1_ := Aside0.mk (below_step' HB.out HS.out.size hb); clear HS HB; have HS := n0_; have HB := n1_; clear n0_ n1_; (try simp only [List.eraseIdx_cons_succ, List.eraseIdx_cons_zero] at HS)
              clear hs hb
              obtain ⟨A51, c51, e51, _, _⟩ := (HS.out.pick 5 rfl).reads
              subst e51
              refine hK.out _ _ ⟨((HS.out.pick 2 rfl).cell 2).trans rfl, ((HS.out.pick 0 rfl).cell 0).trans rfl, ((HS.out.pick 0 rfl).cell 1).trans rfl⟩ (fun hHeld => ?_)
              clear hK K
              refine norm_ (a' := ?_) ?_ ?_
              rotate_left
              · show Act.put _ (some 51) _ = _
                simp only [Act.put, List.setIfInBounds_toArray, List.set_cons_zero, List.set_cons_succ, i64_w, i32_w]
                rfl
              refine one_ (i := 8) (N := some 52) (tfs true [13, 3]).toArray rfl rfl (one_of HT_.out (by kernel_rfl)) (by decide) (fun K hK => ?_)
              refine S_append_rows_step k52 (by rfl) (.tmp 49) (.tmp 51) 26 52 (.agg #[(.int .i64 0), (.string ⟨#[]⟩)]) 24 rfl Try.underlying26 info52 rfl (by decide) (by omega) u49 ([] ++ l.take j) ([⟨h, s⟩]) (A51) (1) c51 rfl ?hx (flat52 _ _) (HS.out.pick 4 rfl) ?hC HB.out ?hl ?_
              (case hx => rfl)
              (case hC => exact (HS.out.pick 5 rfl).rowC.2.2)
              (case hl => (simp; omega))
              intro u52 w11 hs hb
              have n0_ := Aside0.mk ((((((hs.pick 5 rfl).pick 5 rfl).pick 5 rfl).pick 5 rfl).pick 5 rfl)); have n1_ := Aside0.mk (hb); clear HS HB; have HS := n0_; have HB := n1_; clear n0_ n1_; (try simp only [List.eraseIdx_cons_succ, List.eraseIdx_cons_zero] at HS)
              clear hs hb
              refine hK.out _ _ ⟨((HS.out.pick 2 rfl).cell 2).trans rfl, ((HS.out.pick 0 rfl).cell 0).trans rfl, ((HS.out.pick 0 rfl).cell 1).trans rfl⟩ (fun hHeld => ?_)
              clear hK K
              refine norm_ (a' := ?_) ?_ ?_
              rotate_left
              · show Act.put _ (some 52) _ = _
                simp only [Act.put, List.setIfInBounds_toArray, List.set_cons_zero, List.set_cons_succ, i64_w, i32_w]
                rfl
              refine one_ (i := 13) (N := some 57) (tfs true [14, 2]).toArray rfl rfl (one_of HT_.out (by kernel_rfl)) (by decide) (fun K hK => ?_)
              refine S_append_rows_step k52 (by rfl) (.tmp 52) (.tmp 56) 26 52 (.agg #[(.int .i64 0), (.string ⟨#[]⟩)]) 24 rfl Try.underlying26 info52 rfl (by decide) (by omega) u52 (([] ++ l.take j) ++ [⟨h, s⟩]) (l.drop j) ((some ad).map (·.add (j * 2))) (l.length - j) (c - j) rfl ?hx (flat52 _ _) (HS.out.pick 5 rfl) ?hC HB.out ?hl ?_
              (case hx => rfl)
              (case hC => exact C_dropB (HS.out.pick 3 rfl).rowC.2.2 j (by omega) hc hcj)
              (case hl => (simp; omega))
              intro u57 w11 hs hb
              have n0_ := Aside0.mk ((((((hs.pick 5 rfl).pick 5 rfl).pick 5 rfl).pick 5 rfl).pick 5 rfl)); have n1_ := Aside0.mk (hb); clear HS HB; have HS := n0_; have HB := n1_; clear n0_ n1_; (try simp only [List.eraseIdx_cons_succ, List.eraseIdx_cons_zero] at HS)
              clear hs hb
              obtain ⟨A57, n57, c57, rfl⟩ : ∃ (A : Option Addr) (n c : Nat), u57 = .slice A n c := by obtain ⟨A, c, e, _, _⟩ := (HS.out.pick 5 rfl).reads; exact ⟨A, _, c, e⟩
              have q5 := ((HS.out.pick 2 rfl).cell 2).trans (show _ = some (.slice (some ad) l.length c) from rfl)
              have q6 := (HS.out.pick 2 rfl).frozen 2
              refine hK.out _ _ ⟨((HS.out.pick 2 rfl).cell 2).trans rfl, ((HS.out.pick 0 rfl).cell 0).trans rfl, ((HS.out.pick 0 rfl).cell 1).trans rfl⟩ (fun hHeld => ?_)
              clear hK K
              refine norm_ (a' := ?_) ?_ ?_
              rotate_left
              · show Act.put _ (some 57) _ = _
                simp only [Act.put, List.setIfInBounds_toArray, List.set_cons_zero, List.set_cons_succ, i64_w, i32_w]
                rfl
              refine pU 14 58 (tfs true [15, 1]).toArray rfl rfl HT_ ?_
              refine last_ (i := 15) (N := none) (tfs true [16]).toArray rfl rfl (one_of HT_.out (by kernel_rfl)) (by decide) (fun K hK => ?_)
              refine skip_ (w1 := ?_) (by rfl) rfl ?_ ?_
              rotate_left
              · go_simp
                rfl
              clear q5 q6
              have n0_ := Aside0.mk ((HS.out.pick 2 rfl).set 2 (.slice A57 n57 c57) #[.int .i64 sz, .int .i64 sd, .slice A57 n57 c57] rfl); have n1_ := Aside0.mk ((HS.out.pick 2 rfl).below_set (i := 2) (u := .slice A57 n57 c57) HB.out); clear HS HB; have HS := n0_; have HB := n1_; clear n0_ n1_; (try simp only [List.eraseIdx_cons_succ, List.eraseIdx_cons_zero] at HS)
              refine hK.out _ _ ?_
              clear hK K
              refine done_ (done_of HT_.out (by kernel_rfl)) ?_
              clear HT_ HW_
              try clear hHeld
              generalize (World.setCell _ _ _) = w15 at HS HB ⊢
              have q0 := ((HS.out.pick 0 rfl).cell 0).trans (show _ = some (.int .i64 sz) from rfl)
              have q1 := ((HS.out.pick 0 rfl).cell 1).trans (show _ = some (.int .i64 sd) from rfl)
              have q2 := ((HS.out.pick 0 rfl).cell 2).trans (show _ = some (.slice A57 n57 c57) from rfl)
              have q13 := ((HS.out.pick 2 rfl).cell 0).trans (show _ = some (.int .i64 0) from rfl)
              have q14 := ((HS.out.pick 2 rfl).cell 1).trans (show _ = some (.int .i64 0) from rfl)
              have q15 := ((HS.out.pick 2 rfl).cell 2).trans (show _ = some (.slice none 0 0) from rfl)
              have f0 := (HS.out.pick 2 rfl).frozen 0
              have f1 := (HS.out.pick 2 rfl).frozen 1
              have f2 := (HS.out.pick 2 rfl).frozen 2
              go_wp2_with (first | ((with_reducible refine gate_store (t := 28) (p := 4) rfl ?_); refine store_event (t := 28) (p := 4) (v := .tmp 59) (w1 := ?_) rfl rfl rfl ?_ ?_; rotate_left; (focus (first | (go_simp; done) | (go_simp; rfl))); intro w16 hw; have n0_ := Aside0.mk ((HS.out.pick 2 rfl).set3 hw); have n1_ := Aside0.mk ((HS.out.pick 2 rfl).below_set3 HB.out hw); clear HS HB; have HS := n0_; have HB := n1_; clear n0_ n1_; (try simp only [List.eraseIdx_cons_succ, List.eraseIdx_cons_zero] at HS); clear hw))
              (try simp only [Exit.inBlock, Exit.then])
              refine bodyPost_ret (results_cell_row rfl _ _ r 28 _ (0, 0) _ rfl HS.out.blk Try.underlying28 rfl (by kernel_rfl)) rfl ?_
              refine ⟨.slice A57 n57 c57, rfl, ?_, HB.out⟩
              rw [ins_miss _ _ hh, ← hjp.out]
              have := (HS.out.pick 5 rfl).swap.drop.swap.drop.swap.drop.swap.drop.swap.drop
              simpa using this
            ·
              refine S_lit_step k52 52 (by rfl) (Nt := 51) rfl (xs := ([⟨h, s⟩] : List S52)) (inner := [.int .i64 h, .string s]) ?hr ?hp HS.out (by simp) ?_
              (case hr => first | (go_simp; done) | (go_simp; rfl))
              (case hp => exact reps_encs flatK (fun y => flatK.M _ _ _ y) _)
              intro u51 w10 hs hb
              have n0_ := Aside0.mk ((((((hs.pick 5 rfl).pick 5 rfl).pick 5 rfl).pick 5 rfl).pick 5 rfl)); have n1_ := Aside0.mk (below_step' HB.out HS.out.size hb); clear HS HB; have HS := n0_; have HB := n1_; clear n0_ n1_; (try simp only [List.eraseIdx_cons_succ, List.eraseIdx_cons_zero] at HS)
              clear hs hb
              obtain ⟨A51, c51, e51, _, _⟩ := (HS.out.pick 5 rfl).reads
              subst e51
              refine hK.out _ _ ⟨((HS.out.pick 2 rfl).cell 2).trans rfl, ((HS.out.pick 0 rfl).cell 0).trans rfl, ((HS.out.pick 0 rfl).cell 1).trans rfl⟩ (fun hHeld => ?_)
              clear hK K
              refine norm_ (a' := ?_) ?_ ?_
              rotate_left
              · show Act.put _ (some 51) _ = _
                simp only [Act.put, List.setIfInBounds_toArray, List.set_cons_zero, List.set_cons_succ, i64_w, i32_w]
                rfl
              refine one_ (i := 5) (N := some 49) (tfs true [8, 1, 4, 3]).toArray rfl rfl (one_of HT_.out (by kernel_rfl)) (by decide) (fun K hK => ?_)
              refine S_append_rows_step k52 (by rfl) (.tmp 44) (.tmp 48) 26 52 (.agg #[(.int .i64 0), (.string ⟨#[]⟩)]) 24 rfl Try.underlying26 info52 rfl (by decide) (by omega) u44 ([]) (l.take j) ((some ad)) (j) c rfl ?hx (flat52 _ _) (HS.out.pick 4 rfl) ?hC HB.out ?hl ?_
              (case hx => rfl)
              (case hC => exact C_takeN (HS.out.pick 3 rfl).rowC.2.2 j (by omega))
              (case hl => (simp; omega))
              intro u49 w11 hs hb
              have n0_ := Aside0.mk ((((((hs.pick 5 rfl).pick 5 rfl).pick 5 rfl).pick 5 rfl).pick 5 rfl)); have n1_ := Aside0.mk (hb); clear HS HB; have HS := n0_; have HB := n1_; clear n0_ n1_; (try simp only [List.eraseIdx_cons_succ, List.eraseIdx_cons_zero] at HS)
              clear hs hb
              refine hK.out _ _ ⟨((HS.out.pick 2 rfl).cell 2).trans rfl, ((HS.out.pick 0 rfl).cell 0).trans rfl, ((HS.out.pick 0 rfl).cell 1).trans rfl⟩ (fun hHeld => ?_)
              clear hK K
              refine norm_ (a' := ?_) ?_ ?_
              rotate_left
              · show Act.put _ (some 49) _ = _
                simp only [Act.put, List.setIfInBounds_toArray, List.set_cons_zero, List.set_cons_succ, i64_w, i32_w]
                rfl
              refine one_ (i := 8) (N := some 52) (tfs true [13, 3]).toArray rfl rfl (one_of HT_.out (by kernel_rfl)) (by decide) (fun K hK => ?_)
              refine S_append_rows_step k52 (by rfl) (.tmp 49) (.tmp 51) 26 52 (.agg #[(.int .i64 0), (.string ⟨#[]⟩)]) 24 rfl Try.underlying26 info52 rfl (by decide) (by omega) u49 ([] ++ l.take j) ([⟨h, s⟩]) (A51) (1) c51 rfl ?hx (flat52 _ _) (HS.out.pick 5 rfl) ?hC HB.out ?hl ?_
              (case hx => rfl)
              (case hC => exact (HS.out.pick 4 rfl).rowC.2.2)
              (case hl => (simp; omega))
              intro u52 w11 hs hb
              have n0_ := Aside0.mk ((((((hs.pick 5 rfl).pick 5 rfl).pick 5 rfl).pick 5 rfl).pick 5 rfl)); have n1_ := Aside0.mk (hb); clear HS HB; have HS := n0_; have HB := n1_; clear n0_ n1_; (try simp only [List.eraseIdx_cons_succ, List.eraseIdx_cons_zero] at HS)
              clear hs hb
              refine hK.out _ _ ⟨((HS.out.pick 2 rfl).cell 2).trans rfl, ((HS.out.pick 0 rfl).cell 0).trans rfl, ((HS.out.pick 0 rfl).cell 1).trans rfl⟩ (fun hHeld => ?_)
              clear hK K
              refine norm_ (a' := ?_) ?_ ?_
              rotate_left
              · show Act.put _ (some 52) _ = _
                simp only [Act.put, List.setIfInBounds_toArray, List.set_cons_zero, List.set_cons_succ, i64_w, i32_w]
                rfl
              refine one_ (i := 13) (N := some 57) (tfs true [14, 2]).toArray rfl rfl (one_of HT_.out (by kernel_rfl)) (by decide) (fun K hK => ?_)
              refine S_append_rows_step k52 (by rfl) (.tmp 52) (.tmp 56) 26 52 (.agg #[(.int .i64 0), (.string ⟨#[]⟩)]) 24 rfl Try.underlying26 info52 rfl (by decide) (by omega) u52 (([] ++ l.take j) ++ [⟨h, s⟩]) (l.drop j) ((some ad).map (·.add (j * 2))) (l.length - j) (c - j) rfl ?hx (flat52 _ _) (HS.out.pick 5 rfl) ?hC HB.out ?hl ?_
              (case hx => rfl)
              (case hC => exact C_dropB (HS.out.pick 3 rfl).rowC.2.2 j (by omega) hc hcj)
              (case hl => (simp; omega))
              intro u57 w11 hs hb
              have n0_ := Aside0.mk ((((((hs.pick 5 rfl).pick 5 rfl).pick 5 rfl).pick 5 rfl).pick 5 rfl)); have n1_ := Aside0.mk (hb); clear HS HB; have HS := n0_; have HB := n1_; clear n0_ n1_; (try simp only [List.eraseIdx_cons_succ, List.eraseIdx_cons_zero] at HS)
              clear hs hb
              obtain ⟨A57, n57, c57, rfl⟩ : ∃ (A : Option Addr) (n c : Nat), u57 = .slice A n c := by obtain ⟨A, c, e, _, _⟩ := (HS.out.pick 5 rfl).reads; exact ⟨A, _, c, e⟩
              have q5 := ((HS.out.pick 2 rfl).cell 2).trans (show _ = some (.slice (some ad) l.length c) from rfl)
              have q6 := (HS.out.pick 2 rfl).frozen 2
              refine hK.out _ _ ⟨((HS.out.pick 2 rfl).cell 2).trans rfl, ((HS.out.pick 0 rfl).cell 0).trans rfl, ((HS.out.pick 0 rfl).cell 1).trans rfl⟩ (fun hHeld => ?_)
              clear hK K
              refine norm_ (a' := ?_) ?_ ?_
              rotate_left
              · show Act.put _ (some 57) _ = _
                simp only [Act.put, List.setIfInBounds_toArray, List.set_cons_zero, List.set_cons_succ, i64_w, i32_w]
                rfl
              refine pU 14 58 (tfs true [15, 1]).toArray rfl rfl HT_ ?_
              refine last_ (i := 15) (N := none) (tfs true [16]).toArray rfl rfl (one_of HT_.out (by kernel_rfl)) (by decide) (fun K hK => ?_)
              refine skip_ (w1 := ?_) (by rfl) rfl ?_ ?_
              rotate_left
              · go_simp
                rfl
              clear q5 q6
              have n0_ := Aside0.mk ((HS.out.pick 2 rfl).set 2 (.slice A57 n57 c57) #[.int .i64 sz, .int .i64 sd, .slice A57 n57 c57] rfl); have n1_ := Aside0.mk ((HS.out.pick 2 rfl).below_set (i := 2) (u := .slice A57 n57 c57) HB.out); clear HS HB; have HS := n0_; have HB := n1_; clear n0_ n1_; (try simp only [List.eraseIdx_cons_succ, List.eraseIdx_cons_zero] at HS)
              refine hK.out _ _ ?_
              clear hK K
              refine done_ (done_of HT_.out (by kernel_rfl)) ?_
              clear HT_ HW_
              try clear hHeld
              generalize (World.setCell _ _ _) = w15 at HS HB ⊢
              have q0 := ((HS.out.pick 0 rfl).cell 0).trans (show _ = some (.int .i64 sz) from rfl)
              have q1 := ((HS.out.pick 0 rfl).cell 1).trans (show _ = some (.int .i64 sd) from rfl)
              have q2 := ((HS.out.pick 0 rfl).cell 2).trans (show _ = some (.slice A57 n57 c57) from rfl)
              have q13 := ((HS.out.pick 2 rfl).cell 0).trans (show _ = some (.int .i64 0) from rfl)
              have q14 := ((HS.out.pick 2 rfl).cell 1).trans (show _ = some (.int .i64 0) from rfl)
              have q15 := ((HS.out.pick 2 rfl).cell 2).trans (show _ = some (.slice none 0 0) from rfl)
              have f0 := (HS.out.pick 2 rfl).frozen 0
              have f1 := (HS.out.pick 2 rfl).frozen 1
              have f2 := (HS.out.pick 2 rfl).frozen 2
              go_wp2_with (first | ((with_reducible refine gate_store (t := 28) (p := 4) rfl ?_); refine store_event (t := 28) (p := 4) (v := .tmp 59) (w1 := ?_) rfl rfl rfl ?_ ?_; rotate_left; (focus (first | (go_simp; done) | (go_simp; rfl))); intro w16 hw; have n0_ := Aside0.mk ((HS.out.pick 2 rfl).set3 hw); have n1_ := Aside0.mk ((HS.out.pick 2 rfl).below_set3 HB.out hw); clear HS HB; have HS := n0_; have HB := n1_; clear n0_ n1_; (try simp only [List.eraseIdx_cons_succ, List.eraseIdx_cons_zero] at HS); clear hw))
              (try simp only [Exit.inBlock, Exit.then])
              refine bodyPost_ret (results_cell_row rfl _ _ r 28 _ (0, 0) _ rfl HS.out.blk Try.underlying28 rfl (by kernel_rfl)) rfl ?_
              refine ⟨.slice A57 n57 c57, rfl, ?_, HB.out⟩
              rw [ins_miss _ _ hh, ← hjp.out]
              have := (HS.out.pick 5 rfl).swap.drop.swap.drop.swap.drop.swap.drop.swap.drop
              simpa using this
          ·
            refine S_lit_step k52 52 (by rfl) (Nt := 51) rfl (xs := ([⟨h, s⟩] : List S52)) (inner := [.int .i64 h, .string s]) ?hr ?hp HS.out (by simp) ?_
            (case hr => first | (go_simp; done) | (go_simp; rfl))
            (case hp => exact reps_encs flatK (fun y => flatK.M _ _ _ y) _)
            intro u51 w10 hs hb
            have n0_ := Aside0.mk (((((hs.pick 4 rfl).pick 4 rfl).pick 4 rfl).pick 4 rfl)); have n1_ := Aside0.mk (below_step' HB.out HS.out.size hb); clear HS HB; have HS := n0_; have HB := n1_; clear n0_ n1_; (try simp only [List.eraseIdx_cons_succ, List.eraseIdx_cons_zero] at HS)
            clear hs hb
            obtain ⟨A51, c51, e51, _, _⟩ := (HS.out.pick 4 rfl).reads
            subst e51
            refine hK.out _ _ ⟨((HS.out.pick 2 rfl).cell 2).trans rfl, ((HS.out.pick 0 rfl).cell 0).trans rfl, ((HS.out.pick 0 rfl).cell 1).trans rfl⟩ (fun hHeld => ?_)
            clear hK K
            refine norm_ (a' := ?_) ?_ ?_
            rotate_left
            · show Act.put _ (some 51) _ = _
              simp only [Act.put, List.setIfInBounds_toArray, List.set_cons_zero, List.set_cons_succ, i64_w, i32_w]
              rfl
            refine one_ (i := 0) (N := some 44) (tfs true [5, 1, 2, 1, 4, 3]).toArray rfl rfl (one_of HT_.out (by kernel_rfl)) (by decide) (fun K hK => ?_)
            refine S_lit_step k52 52 (by rfl) (Nt := 44) rfl (xs := ([] : List S52)) (inner := []) ?hr ?hp HS.out (by simp) ?_
            (case hr => first | (go_simp; done) | (go_simp; rfl))
            (case hp => exact Reps.none _ _)
            intro u44 w10 hs hb
            have n0_ := Aside0.mk ((((((hs.pick 5 rfl).pick 5 rfl).pick 5 rfl).pick 5 rfl).pick 5 rfl)); have n1_ := Aside0.mk (below_step' HB.out HS.out.size hb); clear HS HB; have HS := n0_; have HB := n1_; clear n0_ n1_; (try simp only [List.eraseIdx_cons_succ, List.eraseIdx_cons_zero] at HS)
            clear hs hb
            refine hK.out _ _ ⟨((HS.out.pick 2 rfl).cell 2).trans rfl, ((HS.out.pick 0 rfl).cell 0).trans rfl, ((HS.out.pick 0 rfl).cell 1).trans rfl⟩ (fun hHeld => ?_)
            clear hK K
            refine norm_ (a' := ?_) ?_ ?_
            rotate_left
            · show Act.put _ (some 44) _ = _
              simp only [Act.put, List.setIfInBounds_toArray, List.set_cons_zero, List.set_cons_succ, i64_w, i32_w]
              rfl
            refine one_ (i := 5) (N := some 49) (tfs true [8, 1, 4, 3]).toArray rfl rfl (one_of HT_.out (by kernel_rfl)) (by decide) (fun K hK => ?_)
            refine S_append_rows_step k52 (by rfl) (.tmp 44) (.tmp 48) 26 52 (.agg #[(.int .i64 0), (.string ⟨#[]⟩)]) 24 rfl Try.underlying26 info52 rfl (by decide) (by omega) u44 ([]) (l.take j) ((some ad)) (j) c rfl ?hx (flat52 _ _) (HS.out.pick 5 rfl) ?hC HB.out ?hl ?_
            (case hx => rfl)
            (case hC => exact C_takeN (HS.out.pick 3 rfl).rowC.2.2 j (by omega))
            (case hl => (simp; omega))
            intro u49 w11 hs hb
            have n0_ := Aside0.mk ((((((hs.pick 5 rfl).pick 5 rfl).pick 5 rfl).pick 5 rfl).pick 5 rfl)); have n1_ := Aside0.mk (hb); clear HS HB; have HS := n0_; have HB := n1_; clear n0_ n1_; (try simp only [List.eraseIdx_cons_succ, List.eraseIdx_cons_zero] at HS)
            clear hs hb
            refine hK.out _ _ ⟨((HS.out.pick 2 rfl).cell 2).trans rfl, ((HS.out.pick 0 rfl).cell 0).trans rfl, ((HS.out.pick 0 rfl).cell 1).trans rfl⟩ (fun hHeld => ?_)
            clear hK K
            refine norm_ (a' := ?_) ?_ ?_
            rotate_left
            · show Act.put _ (some 49) _ = _
              simp only [Act.put, List.setIfInBounds_toArray, List.set_cons_zero, List.set_cons_succ, i64_w, i32_w]
              rfl
            refine one_ (i := 8) (N := some 52) (tfs true [13, 3]).toArray rfl rfl (one_of HT_.out (by kernel_rfl)) (by decide) (fun K hK => ?_)
            refine S_append_rows_step k52 (by rfl) (.tmp 49) (.tmp 51) 26 52 (.agg #[(.int .i64 0), (.string ⟨#[]⟩)]) 24 rfl Try.underlying26 info52 rfl (by decide) (by omega) u49 ([] ++ l.take j) ([⟨h, s⟩]) (A51) (1) c51 rfl ?hx (flat52 _ _) (HS.out.pick 5 rfl) ?hC HB.out ?hl ?_
            (case hx => rfl)
            (case hC => exact (HS.out.pick 4 rfl).rowC.2.2)
            (case hl => (simp; omega))
            intro u52 w11 hs hb
            have n0_ := Aside0.mk ((((((hs.pick 5 rfl).pick 5 rfl).pick 5 rfl).pick 5 rfl).pick 5 rfl)); have n1_ := Aside0.mk (hb); clear HS HB; have HS := n0_; have HB := n1_; clear n0_ n1_; (try simp only [List.eraseIdx_cons_succ, List.eraseIdx_cons_zero] at HS)
            clear hs hb
            refine hK.out _ _ ⟨((HS.out.pick 2 rfl).cell 2).trans rfl, ((HS.out.pick 0 rfl).cell 0).trans rfl, ((HS.out.pick 0 rfl).cell 1).trans rfl⟩ (fun hHeld => ?_)
            clear hK K
            refine norm_ (a' := ?_) ?_ ?_
            rotate_left
            · show Act.put _ (some 52) _ = _
              simp only [Act.put, List.setIfInBounds_toArray, List.set_cons_zero, List.set_cons_succ, i64_w, i32_w]
              rfl
            refine one_ (i := 13) (N := some 57) (tfs true [14, 2]).toArray rfl rfl (one_of HT_.out (by kernel_rfl)) (by decide) (fun K hK => ?_)
            refine S_append_rows_step k52 (by rfl) (.tmp 52) (.tmp 56) 26 52 (.agg #[(.int .i64 0), (.string ⟨#[]⟩)]) 24 rfl Try.underlying26 info52 rfl (by decide) (by omega) u52 (([] ++ l.take j) ++ [⟨h, s⟩]) (l.drop j) ((some ad).map (·.add (j * 2))) (l.length - j) (c - j) rfl ?hx (flat52 _ _) (HS.out.pick 5 rfl) ?hC HB.out ?hl ?_
            (case hx => rfl)
            (case hC => exact C_dropB (HS.out.pick 3 rfl).rowC.2.2 j (by omega) hc hcj)
            (case hl => (simp; omega))
            intro u57 w11 hs hb
            have n0_ := Aside0.mk ((((((hs.pick 5 rfl).pick 5 rfl).pick 5 rfl).pick 5 rfl).pick 5 rfl)); have n1_ := Aside0.mk (hb); clear HS HB; have HS := n0_; have HB := n1_; clear n0_ n1_; (try simp only [List.eraseIdx_cons_succ, List.eraseIdx_cons_zero] at HS)
            clear hs hb
            obtain ⟨A57, n57, c57, rfl⟩ : ∃ (A : Option Addr) (n c : Nat), u57 = .slice A n c := by obtain ⟨A, c, e, _, _⟩ := (HS.out.pick 5 rfl).reads; exact ⟨A, _, c, e⟩
            have q5 := ((HS.out.pick 2 rfl).cell 2).trans (show _ = some (.slice (some ad) l.length c) from rfl)
            have q6 := (HS.out.pick 2 rfl).frozen 2
            refine hK.out _ _ ⟨((HS.out.pick 2 rfl).cell 2).trans rfl, ((HS.out.pick 0 rfl).cell 0).trans rfl, ((HS.out.pick 0 rfl).cell 1).trans rfl⟩ (fun hHeld => ?_)
            clear hK K
            refine norm_ (a' := ?_) ?_ ?_
            rotate_left
            · show Act.put _ (some 57) _ = _
              simp only [Act.put, List.setIfInBounds_toArray, List.set_cons_zero, List.set_cons_succ, i64_w, i32_w]
              rfl
            refine pU 14 58 (tfs true [15, 1]).toArray rfl rfl HT_ ?_
            refine last_ (i := 15) (N := none) (tfs true [16]).toArray rfl rfl (one_of HT_.out (by kernel_rfl)) (by decide) (fun K hK => ?_)
            refine skip_ (w1 := ?_) (by rfl) rfl ?_ ?_
            rotate_left
            · go_simp
              rfl
            clear q5 q6
            have n0_ := Aside0.mk ((HS.out.pick 2 rfl).set 2 (.slice A57 n57 c57) #[.int .i64 sz, .int .i64 sd, .slice A57 n57 c57] rfl); have n1_ := Aside0.mk ((HS.out.pick 2 rfl).below_set (i := 2) (u := .slice A57 n57 c57) HB.out); clear HS HB; have HS := n0_; have HB := n1_; clear n0_ n1_; (try simp only [List.eraseIdx_cons_succ, List.eraseIdx_cons_zero] at HS)
            refine hK.out _ _ ?_
            clear hK K
            refine done_ (done_of HT_.out (by kernel_rfl)) ?_
            clear HT_ HW_
            try clear hHeld
            generalize (World.setCell _ _ _) = w15 at HS HB ⊢
            have q0 := ((HS.out.pick 0 rfl).cell 0).trans (show _ = some (.int .i64 sz) from rfl)
            have q1 := ((HS.out.pick 0 rfl).cell 1).trans (show _ = some (.int .i64 sd) from rfl)
            have q2 := ((HS.out.pick 0 rfl).cell 2).trans (show _ = some (.slice A57 n57 c57) from rfl)
            have q13 := ((HS.out.pick 2 rfl).cell 0).trans (show _ = some (.int .i64 0) from rfl)
            have q14 := ((HS.out.pick 2 rfl).cell 1).trans (show _ = some (.int .i64 0) from rfl)
            have q15 := ((HS.out.pick 2 rfl).cell 2).trans (show _ = some (.slice none 0 0) from rfl)
            have f0 := (HS.out.pick 2 rfl).frozen 0
            have f1 := (HS.out.pick 2 rfl).frozen 1
            have f2 := (HS.out.pick 2 rfl).frozen 2
            go_wp2_with (first | ((with_reducible refine gate_store (t := 28) (p := 4) rfl ?_); refine store_event (t := 28) (p := 4) (v := .tmp 59) (w1 := ?_) rfl rfl rfl ?_ ?_; rotate_left; (focus (first | (go_simp; done) | (go_simp; rfl))); intro w16 hw; have n0_ := Aside0.mk ((HS.out.pick 2 rfl).set3 hw); have n1_ := Aside0.mk ((HS.out.pick 2 rfl).below_set3 HB.out hw); clear HS HB; have HS := n0_; have HB := n1_; clear n0_ n1_; (try simp only [List.eraseIdx_cons_succ, List.eraseIdx_cons_zero] at HS); clear hw))
            (try simp only [Exit.inBlock, Exit.then])
            refine bodyPost_ret (results_cell_row rfl _ _ r 28 _ (0, 0) _ rfl HS.out.blk Try.underlying28 rfl (by kernel_rfl)) rfl ?_
            refine ⟨.slice A57 n57 c57, rfl, ?_, HB.out⟩
            rw [ins_miss _ _ hh, ← hjp.out]
            have := (HS.out.pick 5 rfl).swap.drop.swap.drop.swap.drop.swap.drop.swap.drop
            simpa using this
    · have hj := Aside0.mk (show j = l.length by omega)
      replace hjp := Aside0.mk (show j = plc ⟨h, s⟩ l by omega)
      have hh : hit ⟨h, s⟩ l = false := by unfold hit; rw [← hjp.out, hj.out]; simp
      have q9 : decide ((j : Int) < (l.length : Int)) = false := decide_eq_false (by omega)
      clear hpl
      go_upto_region 3 with (fail)
      have n0_ := Aside0.mk (HS.out.drew); have n1_ := Aside0.mk (HB.out.drew); clear HS HB; have HS := n0_; have HB := n1_; clear n0_ n1_
      refine start_ (n := 14) (S := fun w' => w'.cell? ⟨b, 2, none⟩ = some (.slice A l.length c)) (ds := []) (tfs true [0, 14]).toArray (by kernel_rfl) rfl rfl (((HS.out.pick 2 rfl).cell 2).trans rfl) (fun hHeld => ?_); refine with_tabW wth.tab3 wth.bits3 (fun HT_ HW_ => ?_)
      generalize wr.drew = w6 at HS HB hHeld ⊢
      refine pU 0 13 (tfs true [1, 13]).toArray rfl rfl HT_ ?_
      refine pU 1 14 (tfs true [2, 12]).toArray rfl rfl HT_ ?_
      refine tK 2 15 (tfs true [3, 11]).toArray rfl rfl HT_ HW_ hHeld ?_ (by rintro w' s0; go_simp; with_reducible rfl)
      refine pU 3 16 (tfs true [4, 10]).toArray rfl rfl HT_ ?_
      refine pU 4 17 (tfs true [5, 9]).toArray rfl rfl HT_ ?_
      refine pU 5 18 (tfs true [6, 8]).toArray rfl rfl HT_ ?_
      refine pO 6 (some 19) (tfs true [7, 7]).toArray rfl rfl HT_ ?_
      refine pO 7 (some 20) (tfs true [8, 6]).toArray rfl rfl HT_ ?_
      refine pO 8 (some 21) (tfs true [9, 5]).toArray rfl rfl HT_ ?_
      refine pO 9 (some 22) (tfs true [10, 4]).toArray rfl rfl HT_ ?_
      refine pO 10 (some 23) (tfs true [11, 3]).toArray rfl rfl HT_ ?_
      refine pO 11 (some 24) (tfs true [12, 2]).toArray rfl rfl HT_ ?_
      refine pO 12 (some 25) (tfs true [13, 1]).toArray rfl rfl HT_ ?_
      refine pU 13 26 (tfs true [14]).toArray rfl rfl HT_ ?_
      refine done_ (done_of HT_.out (by kernel_rfl)) ?_
      clear HT_ HW_
      try clear hHeld
      go_upto_region 5 with (fail)
      have n0_ := Aside0.mk (HS.out.drew); have n1_ := Aside0.mk (HB.out.drew); clear HS HB; have HS := n0_; have HB := n1_; clear n0_ n1_
      refine start_ (n := 14) (S := fun w' => w'.cell? ⟨b, 2, none⟩ = some (.slice A l.length c)) (ds := []) (tfs true [0, 14]).toArray (by kernel_rfl) rfl rfl (((HS.out.pick 2 rfl).cell 2).trans rfl) (fun hHeld => ?_); refine with_tabW wth.tab5 wth.bits5 (fun HT_ HW_ => ?_)
      generalize w6.drew = w8 at HS HB hHeld ⊢
      refine pU 0 29 (tfs true [1, 13]).toArray rfl rfl HT_ ?_
      refine pU 1 30 (tfs true [2, 12]).toArray rfl rfl HT_ ?_
      refine tK 2 31 (tfs true [3, 11]).toArray rfl rfl HT_ HW_ hHeld ?_ (by rintro w' s0; go_simp; with_reducible rfl)
      refine pU 3 32 (tfs true [4, 10]).toArray rfl rfl HT_ ?_
      refine pU 4 33 (tfs true [5, 9]).toArray rfl rfl HT_ ?_
      refine pU 5 34 (tfs true [6, 8]).toArray rfl rfl HT_ ?_
      refine pO 6 (some 35) (tfs true [7, 7]).toArray rfl rfl HT_ ?_
      refine pO 7 (some 36) (tfs true [8, 6]).toArray rfl rfl HT_ ?_
      refine pO 8 (some 37) (tfs true [9, 5]).toArray rfl rfl HT_ ?_
      refine pO 9 (some 38) (tfs true [10, 4]).toArray rfl rfl HT_ ?_
      refine pO 10 (some 39) (tfs true [11, 3]).toArray rfl rfl HT_ ?_
      refine pO 11 (some 40) (tfs true [12, 2]).toArray rfl rfl HT_ ?_
      refine pO 12 (some 41) (tfs true [13, 1]).toArray rfl rfl HT_ ?_
      refine pU 13 42 (tfs true [14]).toArray rfl rfl HT_ ?_
      refine done_ (done_of HT_.out (by kernel_rfl)) ?_
      clear HT_ HW_
      try clear hHeld
      by_cases hcj : c = j
      · obtain rfl : j = c := hcj.symm
        have hjl := hj.out
        have r1 : (j : Int) ≤ (j : Int) := by omega
        have r2 : (j : Int) ≤ (l.length : Int) := by omega
        have r3 : j ≤ l.length := by omega
        clear hjl
        go_upto_region 7 with (fail)
        have n0_ := Aside0.mk (HS.out.drew); have n1_ := Aside0.mk (HB.out.drew); clear HS HB; have HS := n0_; have HB := n1_; clear n0_ n1_
        refine start_ (n := 16) (S := fun w' => w'.cell? ⟨b, 2, none⟩ = some (.slice A l.length j) ∧ w'.cell? ⟨kk, 0, none⟩ = some (.int .i64 h) ∧ w'.cell? ⟨kk, 1, none⟩ = some (.string s)) (ds := [15]) (tfs true [0, 16]).toArray (by kernel_rfl) rfl rfl ⟨((HS.out.pick 2 rfl).cell 2).trans rfl, ((HS.out.pick 0 rfl).cell 0).trans rfl, ((HS.out.pick 0 rfl).cell 1).trans rfl⟩ (fun hHeld => ?_); refine with_tabW wth.tab7 wth.bits7 (fun HT_ HW_ => ?_)
        generalize w8.drew = w9 at HS HB hHeld ⊢
        refine pU 1 45 (tfs true [0, 1, 1, 14]).toArray rfl rfl HT_ ?_
        refine pU 3 47 (tfs true [0, 1, 1, 1, 1, 12]).toArray rfl rfl HT_ ?_
        refine pU 9 53 (tfs true [0, 1, 1, 1, 1, 5, 1, 6]).toArray rfl rfl HT_ ?_
        refine pU 11 55 (tfs true [0, 1, 1, 1, 1, 5, 1, 1, 1, 4]).toArray rfl rfl HT_ ?_
        refine tK 2 46 (tfs true [0, 1, 3, 5, 1, 1, 1, 4]).toArray rfl rfl HT_ HW_ hHeld ?_ (by rintro w' ⟨s0, s1, s2⟩; go_simp; with_reducible rfl)
        refine pU 4 48 (tfs true [0, 1, 4, 4, 1, 1, 1, 4]).toArray rfl rfl HT_ ?_
        refine tK 6 50 (tfs true [0, 1, 4, 1, 1, 2, 1, 1, 1, 4]).toArray rfl rfl HT_ HW_ hHeld ?_ (by rintro w' ⟨s0, s1, s2⟩; go_simp; with_reducible rfl)
        refine tK 10 54 (tfs true [0, 1, 4, 1, 1, 2, 3, 4]).toArray rfl rfl HT_ HW_ hHeld ?_ (by rintro w' ⟨s0, s1, s2⟩; go_simp; with_reducible rfl)
        refine pU 12 56 (tfs true [0, 1, 4, 1, 1, 2, 4, 3]).toArray rfl rfl HT_ ?_
        refine two_ (i := 0) (j := 7) (Ni := some 44) (Nj := some 51) (tfs true [5, 1, 1, 2, 4, 3]).toArray (tfs true [0, 1, 4, 1, 2, 1, 4, 3]).toArray rfl rfl rfl rfl (two_of HT_.out (by kernel_rfl)) (by decide) (by decide) (fun K hK => ?_) (fun K hK => ?_)
        ·
          refine S_lit_step k52 52 (by rfl) (Nt := 44) rfl (xs := ([] : List S52)) (inner := []) ?hr ?hp HS.out (by simp) ?_
          (case hr => first | (go_simp; done) | (go_simp; rfl))
          (case hp => exact Reps.none _ _)
          intro u44 w10 hs hb
          have n0_ := Aside0.mk (((((hs.pick 4 rfl).pick 4 rfl).pick 4 rfl).pick 4 rfl)); have n1_ := Aside0.mk (below_step' HB.out HS.out.size hb); clear HS HB; have HS := n0_; have HB := n1_; clear n0_ n1_; (try simp only [List.eraseIdx_cons_succ, List.eraseIdx_cons_zero] at HS)
          clear hs hb
          refine hK.out _ _ ⟨((HS.out.pick 2 rfl).cell 2).trans rfl, ((HS.out.pick 0 rfl).cell 0).trans rfl, ((HS.out.pick 0 rfl).cell 1).trans rfl⟩ (fun hHeld => ?_)
          clear hK K
          refine norm_ (a' := ?_) ?_ ?_
          rotate_left
          · show Act.put _ (some 44) _ = _
            simp only [Act.put, List.setIfInBounds_toArray, List.set_cons_zero, List.set_cons_succ, i64_w, i32_w]
            rfl
          refine two_ (i := 5) (j := 7) (Ni := some 49) (Nj := some 51) (tfs true [7, 2, 4, 3]).toArray (tfs true [5, 1, 2, 1, 4, 3]).toArray rfl rfl rfl rfl (two_of HT_.out (by kernel_rfl)) (by decide) (by decide) (fun K hK => ?_) (fun K hK => ?_)
          ·
            refine S_append_rows_step k52 (by rfl) (.tmp 44) (.tmp 48) 26 52 (.agg #[(.int .i64 0), (.string ⟨#[]⟩)]) 24 rfl Try.underlying26 info52 rfl (by decide) (by omega) u44 ([]) (l.take j) (A) (j) j rfl ?hx (flat52 _ _) (HS.out.pick 4 rfl) ?hC HB.out ?hl ?_
            (case hx => rfl)
            (case hC => exact C_takeN (HS.out.pick 3 rfl).rowC.2.2 j (by omega))
            (case hl => (simp; omega))
            intro u49 w11 hs hb
            have n0_ := Aside0.mk (((((hs.pick 4 rfl).pick 4 rfl).pick 4 rfl).pick 4 rfl)); have n1_ := Aside0.mk (hb); clear HS HB; have HS := n0_; have HB := n1_; clear n0_ n1_; (try simp only [List.eraseIdx_cons_succ, List.eraseIdx_cons_zero] at HS)
            clear hs hb
            refine hK.out _ _ ⟨((HS.out.pick 2 rfl).cell 2).trans rfl, ((HS.out.pick 0 rfl).cell 0).trans rfl, ((HS.out.pick 0 rfl).cell 1).trans rfl⟩ (fun hHeld => ?_)
            clear hK K
            refine norm_ (a' := ?_) ?_ ?_
            rotate_left
            · show Act.put _ (some 49) _ = _
              simp only [Act.put, List.setIfInBounds_toArray, List.set_cons_zero, List.set_cons_succ, i64_w, i32_w]
              rfl
            refine one_ (i := 7) (N := some 51) (tfs true [8, 1, 4, 3]).toArray rfl rfl (one_of HT_.out (by kernel_rfl)) (by decide) (fun K hK => ?_)
            refine S_lit_step k52 52 (by rfl) (Nt := 51) rfl (xs := ([⟨h, s⟩] : List S52)) (inner := [.int .i64 h, .string s]) ?hr ?hp HS.out (by simp) ?_
            (case hr => first | (go_simp; done) | (go_simp; rfl))
            (case hp => exact reps_encs flatK (fun y => flatK.M _ _ _ y) _)
            intro u51 w10 hs hb
            have n0_ := Aside0.mk ((((((hs.pick 5 rfl).pick 5 rfl).pick 5 rfl).pick 5 rfl).pick 5 rfl)); have n1_ := Aside0.mk (below_step' HB.out HS.out.size hb); clear HS HB; have HS := n0_; have HB := n1_; clear n0_ n1_; (try simp only [List.eraseIdx_cons_succ, List.eraseIdx_cons_zero] at HS)
            clear hs hb
            obtain ⟨A51, c51, e51, _, _⟩ := (HS.out.pick 5 rfl).reads
            subst e51
            refine hK.out _ _ ⟨((HS.out.pick 2 rfl).cell 2).trans rfl, ((HS.out.pick 0 rfl).cell 0).trans rfl, ((HS.out.pick 0 rfl).cell 1).trans rfl⟩ (fun hHeld => ?_)
            clear hK K
            refine norm_ (a' := ?_) ?_ ?_
            rotate_left
            · show Act.put _ (some 51) _ = _
              simp only [Act.put, List.setIfInBounds_toArray, List.set_cons_zero, List.set_cons_succ, i64_w, i32_w]
              rfl
            refine one_ (i := 8) (N := some 52) (tfs true [13, 3]).toArray rfl rfl (one_of HT_.out (by kernel_rfl)) (by decide) (fun K hK => ?_)
            refine S_append_rows_step k52 (by rfl) (.tmp 49) (.tmp 51) 26 52 (.agg #[(.int .i64 0), (.string ⟨#[]⟩)]) 24 rfl Try.underlying26 info52 rfl (by decide) (by omega) u49 ([] ++ l.take j) ([⟨h, s⟩]) (A51) (1) c51 rfl ?hx (flat52 _ _) (HS.out.pick 4 rfl) ?hC HB.out ?hl ?_
            (case hx => rfl)
            (case hC => exact (HS.out.pick 5 rfl).rowC.2.2)
            (case hl => (simp; omega))
            intro u52 w11 hs hb
            have n0_ := Aside0.mk ((((((hs.pick 5 rfl).pick 5 rfl).pick 5 rfl).pick 5 rfl).pick 5 rfl)); have n1_ := Aside0.mk (hb); clear HS HB; have HS := n0_; have HB := n1_; clear n0_ n1_; (try simp only [List.eraseIdx_cons_succ, List.eraseIdx_cons_zero] at HS)
            clear hs hb
            refine hK.out _ _ ⟨((HS.out.pick 2 rfl).cell 2).trans rfl, ((HS.out.pick 0 rfl).cell 0).trans rfl, ((HS.out.pick 0 rfl).cell 1).trans rfl⟩ (fun hHeld => ?_)
            clear hK K
            refine norm_ (a' := ?_) ?_ ?_
            rotate_left
            · show Act.put _ (some 52) _ = _
              simp only [Act.put, List.setIfInBounds_toArray, List.set_cons_zero, List.set_cons_succ, i64_w, i32_w]
              rfl
            refine one_ (i := 13) (N := some 57) (tfs true [14, 2]).toArray rfl rfl (one_of HT_.out (by kernel_rfl)) (by decide) (fun K hK => ?_)
            refine S_append_rows_step k52 (by rfl) (.tmp 52) (.tmp 56) 26 52 (.agg #[(.int .i64 0), (.string ⟨#[]⟩)]) 24 rfl Try.underlying26 info52 rfl (by decide) (by omega) u52 (([] ++ l.take j) ++ [⟨h, s⟩]) (l.drop j) (A) (0) 0 rfl ?hx (flat52 _ _) (HS.out.pick 5 rfl) ?hC HB.out ?hl ?_
            (case hx => rfl)
            (case hC => exact (by have h9 := C_dropA (HS.out.pick 3 rfl).rowC.2.2 j (by have := hj.out; omega) hc rfl; rwa [show l.length - j = 0 by have := hj.out; omega] at h9))
            (case hl => (simp; omega))
            intro u57 w11 hs hb
            have n0_ := Aside0.mk ((((((hs.pick 5 rfl).pick 5 rfl).pick 5 rfl).pick 5 rfl).pick 5 rfl)); have n1_ := Aside0.mk (hb); clear HS HB; have HS := n0_; have HB := n1_; clear n0_ n1_; (try simp only [List.eraseIdx_cons_succ, List.eraseIdx_cons_zero] at HS)
            clear hs hb
            obtain ⟨A57, n57, c57, rfl⟩ : ∃ (A : Option Addr) (n c : Nat), u57 = .slice A n c := by obtain ⟨A, c, e, _, _⟩ := (HS.out.pick 5 rfl).reads; exact ⟨A, _, c, e⟩
            have q5 := ((HS.out.pick 2 rfl).cell 2).trans (show _ = some (.slice A l.length j) from rfl)
            have q6 := (HS.out.pick 2 rfl).frozen 2
            refine hK.out _ _ ⟨((HS.out.pick 2 rfl).cell 2).trans rfl, ((HS.out.pick 0 rfl).cell 0).trans rfl, ((HS.out.pick 0 rfl).cell 1).trans rfl⟩ (fun hHeld => ?_)
            clear hK K
            refine norm_ (a' := ?_) ?_ ?_
            rotate_left
            · show Act.put _ (some 57) _ = _
              simp only [Act.put, List.setIfInBounds_toArray, List.set_cons_zero, List.set_cons_succ, i64_w, i32_w]
              rfl
            refine pU 14 58 (tfs true [15, 1]).toArray rfl rfl HT_ ?_
            refine last_ (i := 15) (N := none) (tfs true [16]).toArray rfl rfl (one_of HT_.out (by kernel_rfl)) (by decide) (fun K hK => ?_)
            refine skip_ (w1 := ?_) (by rfl) rfl ?_ ?_
            rotate_left
            · go_simp
              rfl
            clear q5 q6
            have n0_ := Aside0.mk ((HS.out.pick 2 rfl).set 2 (.slice A57 n57 c57) #[.int .i64 sz, .int .i64 sd, .slice A57 n57 c57] rfl); have n1_ := Aside0.mk ((HS.out.pick 2 rfl).below_set (i := 2) (u := .slice A57 n57 c57) HB.out); clear HS HB; have HS := n0_; have HB := n1_; clear n0_ n1_; (try simp only [List.eraseIdx_cons_succ, List.eraseIdx_cons_zero] at HS)
            refine hK.out _ _ ?_
            clear hK K
            refine done_ (done_of HT_.out (by kernel_rfl)) ?_
            clear HT_ HW_
            try clear hHeld
            generalize (World.setCell _ _ _) = w15 at HS HB ⊢
            have q0 := ((HS.out.pick 0 rfl).cell 0).trans (show _ = some (.int .i64 sz) from rfl)
            have q1 := ((HS.out.pick 0 rfl).cell 1).trans (show _ = some (.int .i64 sd) from rfl)
            have q2 := ((HS.out.pick 0 rfl).cell 2).trans (show _ = some (.slice A57 n57 c57) from rfl)
            have q13 := ((HS.out.pick 2 rfl).cell 0).trans (show _ = some (.int .i64 0) from rfl)
            have q14 := ((HS.out.pick 2 rfl).cell 1).trans (show _ = some (.int .i64 0) from rfl)
            have q15 := ((HS.out.pick 2 rfl).cell 2).trans (show _ = some (.slice none 0 0) from rfl)
            have f0 := (HS.out.pick 2 rfl).frozen 0
            have f1 := (HS.out.pick 2 rfl).frozen 1
            have f2 := (HS.out.pick 2 rfl).frozen 2
            go_wp2_with (first | ((with_reducible refine gate_store (t := 28) (p := 4) rfl ?_); refine store_event (t := 28) (p := 4) (v := .tmp 59) (w1 := ?_) rfl rfl rfl ?_ ?_; rotate_left; (focus (first | (go_simp; done) | (go_simp; rfl))); intro w16 hw; have n0_ := Aside0.mk ((HS.out.pick 2 rfl).set3 hw); have n1_ := Aside0.mk ((HS.out.pick 2 rfl).below_set3 HB.out hw); clear HS HB; have HS := n0_; have HB := n1_; clear n0_ n1_; (try simp only [List.eraseIdx_cons_succ, List.eraseIdx_cons_zero] at HS); clear hw))
            (try simp only [Exit.inBlock, Exit.then])
            refine bodyPost_ret (results_cell_row rfl _ _ r 28 _ (0, 0) _ rfl HS.out.blk Try.underlying28 rfl (by kernel_rfl)) rfl ?_
            refine ⟨.slice A57 n57 c57, rfl, ?_, HB.out⟩
            rw [ins_miss _ _ hh, ← hjp.out]
            have := (HS.out.pick 5 rfl).swap.drop.swap.drop.swap.drop.swap.drop.swap.drop
            simpa using this
          ·
            refine S_lit_step k52 52 (by rfl) (Nt := 51) rfl (xs := ([⟨h, s⟩] : List S52)) (inner := [.int .i64 h, .string s]) ?hr ?hp HS.out (by simp) ?_
            (case hr => first | (go_simp; done) | (go_simp; rfl))
            (case hp => exact reps_encs flatK (fun y => flatK.M _ _ _ y) _)
            intro u51 w10 hs hb
            have n0_ := Aside0.mk ((((((hs.pick 5 rfl).pick 5 rfl).pick 5 rfl).pick 5 rfl).pick 5 rfl)); have n1_ := Aside0.mk (below_step' HB.out HS.out.size hb); clear HS HB; have HS := n0_; have HB := n1_; clear n0_ n1_; (try simp only [List.eraseIdx_cons_succ, List.eraseIdx_cons_zero] at HS)
            clear hs hb
            obtain ⟨A51, c51, e51, _, _⟩ := (HS.out.pick 5 rfl).reads
            subst e51
            refine hK.out _ _ ⟨((HS.out.pick 2 rfl).cell 2).trans rfl, ((HS.out.pick 0 rfl).cell 0).trans rfl, ((HS.out.pick 0 rfl).cell 1).trans rfl⟩ (fun hHeld => ?_)
            clear hK K
            refine norm_ (a' := ?_) ?_ ?_
            rotate_left
            · show Act.put _ (some 51) _ = _
              simp only [Act.put, List.setIfInBounds_toArray, List.set_cons_zero, List.set_cons_succ, i64_w, i32_w]
              rfl
            refine one_ (i := 5) (N := some 49) (tfs true [8, 1, 4, 3]).toArray rfl rfl (one_of HT_.out (by kernel_rfl)) (by decide) (fun K hK => ?_)
            refine S_append_rows_step k52 (by rfl) (.tmp 44) (.tmp 48) 26 52 (.agg #[(.int .i64 0), (.string ⟨#[]⟩)]) 24 rfl Try.underlying26 info52 rfl (by decide) (by omega) u44 ([]) (l.take j) (A) (j) j rfl ?hx (flat52 _ _) (HS.out.pick 4 rfl) ?hC HB.out ?hl ?_
            (case hx => rfl)
            (case hC => exact C_takeN (HS.out.pick 3 rfl).rowC.2.2 j (by omega))
            (case hl => (simp; omega))
            intro u49 w11 hs hb
            have n0_ := Aside0.mk ((((((hs.pick 5 rfl).pick 5 rfl).pick 5 rfl).pick 5 rfl).pick 5 rfl)); have n1_ := Aside0.mk (hb); clear HS HB; have HS := n0_; have HB := n1_; clear n0_ n1_; (try simp only [List.eraseIdx_cons_succ, List.eraseIdx_cons_zero] at HS)
            clear hs hb
            refine hK.out _ _ ⟨((HS.out.pick 2 rfl).cell 2).trans rfl, ((HS.out.pick 0 rfl).cell 0).trans rfl, ((HS.out.pick 0 rfl).cell 1).trans rfl⟩ (fun hHeld => ?_)
            clear hK K
            refine norm_ (a' := ?_) ?_ ?_
            rotate_left
            · show Act.put _ (some 49) _ = _
              simp only [Act.put, List.setIfInBounds_toArray, List.set_cons_zero, List.set_cons_succ, i64_w, i32_w]
              rfl
            refine one_ (i := 8) (N := some 52) (tfs true [13, 3]).toArray rfl rfl (one_of HT_.out (by kernel_rfl)) (by decide) (fun K hK => ?_)
            refine S_append_rows_step k52 (by rfl) (.tmp 49) (.tmp 51) 26 52 (.agg #[(.int .i64 0), (.string ⟨#[]⟩)]) 24 rfl Try.underlying26 info52 rfl (by decide) (by omega) u49 ([] ++ l.take j) ([⟨h, s⟩]) (A51) (1) c51 rfl ?hx (flat52 _ _) (HS.out.pick 5 rfl) ?hC HB.out ?hl ?_
            (case hx => rfl)
            (case hC => exact (HS.out.pick 4 rfl).rowC.2.2)
            (case hl => (simp; omega))
            intro u52 w11 hs hb
            have n0_ := Aside0.mk ((((((hs.pick 5 rfl).pick 5 rfl).pick 5 rfl).pick 5 rfl).pick 5 rfl)); have n1_ := Aside0.mk (hb); clear HS HB; have HS := n0_; have HB := n1_; clear n0_ n1_; (try simp only [List.eraseIdx_cons_succ, List.eraseIdx_cons_zero] at HS)
            clear hs hb
            refine hK.out _ _ ⟨((HS.out.pick 2 rfl).cell 2).trans rfl, ((HS.out.pick 0 rfl).cell 0).trans rfl, ((HS.out.pick 0 rfl).cell 1).trans rfl⟩ (fun hHeld => ?_)
            clear hK K
            refine norm_ (a' := ?_) ?_ ?_
            rotate_left
            · show Act.put _ (some 52) _ = _
              simp only [Act.put, List.setIfInBounds_toArray, List.set_cons_zero, List.set_cons_succ, i64_w, i32_w]
              rfl
            refine one_ (i := 13) (N := some 57) (tfs true [14, 2]).toArray rfl rfl (one_of HT_.out (by kernel_rfl)) (by decide) (fun K hK => ?_)
            refine S_append_rows_step k52 (by rfl) (.tmp 52) (.tmp 56) 26 52 (.agg #[(.int .i64 0), (.string ⟨#[]⟩)]) 24 rfl Try.underlying26 info52 rfl (by decide) (by omega) u52 (([] ++ l.take j) ++ [⟨h, s⟩]) (l.drop j) (A) (0) 0 rfl ?hx (flat52 _ _) (HS.out.pick 5 rfl) ?hC HB.out ?hl ?_
            (case hx => rfl)
            (case hC => exact (by have h9 := C_dropA (HS.out.pick 3 rfl).rowC.2.2 j (by have := hj.out; omega) hc rfl; rwa [show l.length - j = 0 by have := hj.out; omega] at h9))
            (case hl => (simp; omega))
            intro u57 w11 hs hb
            have n0_ := Aside0.mk ((((((hs.pick 5 rfl).pick 5 rfl).pick 5 rfl).pick 5 rfl).pick 5 rfl)); have n1_ := Aside0.mk (hb); clear HS HB; have HS := n0_; have HB := n1_; clear n0_ n1_; (try simp only [List.eraseIdx_cons_succ, List.eraseIdx_cons_zero] at HS)
            clear hs hb
            obtain ⟨A57, n57, c57, rfl⟩ : ∃ (A : Option Addr) (n c : Nat), u57 = .slice A n c := by obtain ⟨A, c, e, _, _⟩ := (HS.out.pick 5 rfl).reads; exact ⟨A, _, c, e⟩
            have q5 := ((HS.out.pick 2 rfl).cell 2).trans (show _ = some (.slice A l.length j) from rfl)
            have q6 := (HS.out.pick 2 rfl).frozen 2
            refine hK.out _ _ ⟨((HS.out.pick 2 rfl).cell 2).trans rfl, ((HS.out.pick 0 rfl).cell 0).trans rfl, ((HS.out.pick 0 rfl).cell 1).trans rfl⟩ (fun hHeld => ?_)
            clear hK K
            refine norm_ (a' := ?_) ?_ ?_
            rotate_left
            · show Act.put _ (some 57) _ = _
              simp only [Act.put, List.setIfInBounds_toArray, List.set_cons_zero, List.set_cons_succ, i64_w, i32_w]
              rfl
            refine pU 14 58 (tfs true [15, 1]).toArray rfl rfl HT_ ?_
            refine last_ (i := 15) (N := none) (tfs true [16]).toArray rfl rfl (one_of HT_.out (by kernel_rfl)) (by decide) (fun K hK => ?_)
            refine skip_ (w1 := ?_) (by rfl) rfl ?_ ?_
            rotate_left
            · go_simp
              rfl
            clear q5 q6
            have n0_ := Aside0.mk ((HS.out.pick 2 rfl).set 2 (.slice A57 n57 c57) #[.int .i64 sz, .int .i64 sd, .slice A57 n57 c57] rfl); have n1_ := Aside0.mk ((HS.out.pick 2 rfl).below_set (i := 2) (u := .slice A57 n57 c57) HB.out); clear HS HB; have HS := n0_; have HB := n1_; clear n0_ n1_; (try simp only [List.eraseIdx_cons_succ, List.eraseIdx_cons_zero] at HS)
            refine hK.out _ _ ?_
            clear hK K
            refine done_ (done_of HT_.out (by kernel_rfl)) ?_
            clear HT_ HW_
            try clear hHeld
            generalize (World.setCell _ _ _) = w15 at HS HB ⊢
            have q0 := ((HS.out.pick 0 rfl).cell 0).trans (show _ = some (.int .i64 sz) from rfl)
            have q1 := ((HS.out.pick 0 rfl).cell 1).trans (show _ = some (.int .i64 sd) from rfl)
            have q2 := ((HS.out.pick 0 rfl).cell 2).trans (show _ = some (.slice A57 n57 c57) from rfl)
            have q13 := ((HS.out.pick 2 rfl).cell 0).trans (show _ = some (.int .i64 0) from rfl)
            have q14 := ((HS.out.pick 2 rfl).cell 1).trans (show _ = some (.int .i64 0) from rfl)
            have q15 := ((HS.out.pick 2 rfl).cell 2).trans (show _ = some (.slice none 0 0) from rfl)
            have f0 := (HS.out.pick 2 rfl).frozen 0
            have f1 := (HS.out.pick 2 rfl).frozen 1
            have f2 := (HS.out.pick 2 rfl).frozen 2
            go_wp2_with (first | ((with_reducible refine gate_store (t := 28) (p := 4) rfl ?_); refine store_event (t := 28) (p := 4) (v := .tmp 59) (w1 := ?_) rfl rfl rfl ?_ ?_; rotate_left; (focus (first | (go_simp; done) | (go_simp; rfl))); intro w16 hw; have n0_ := Aside0.mk ((HS.out.pick 2 rfl).set3 hw); have n1_ := Aside0.mk ((HS.out.pick 2 rfl).below_set3 HB.out hw); clear HS HB; have HS := n0_; have HB := n1_; clear n0_ n1_; (try simp only [List.eraseIdx_cons_succ, List.eraseIdx_cons_zero] at HS); clear hw))
            (try simp only [Exit.inBlock, Exit.then])
            refine bodyPost_ret (results_cell_row rfl _ _ r 28 _ (0, 0) _ rfl HS.out.blk Try.underlying28 rfl (by kernel_rfl)) rfl ?_
            refine ⟨.slice A57 n57 c57, rfl, ?_, HB.out⟩
            rw [ins_miss _ _ hh, ← hjp.out]
            have := (HS.out.pick 5 rfl).swap.drop.swap.drop.swap.drop.swap.drop.swap.drop
            simpa using this
        ·
          refine S_lit_step k52 52 (by rfl) (Nt := 51) rfl (xs := ([⟨h, s⟩] : List S52)) (inner := [.int .i64 h, .string s]) ?hr ?hp HS.out (by simp) ?_
          (case hr => first | (go_simp; done) | (go_simp; rfl))
          (case hp => exact reps_encs flatK (fun y => flatK.M _ _ _ y) _)
          intro u51 w10 hs hb
          have n0_ := Aside0.mk (((((hs.pick 4 rfl).pick 4 rfl).pick 4 rfl).pick 4 rfl)); have n1_ := Aside0.mk (below_step' HB.out HS.out.size hb); clear HS HB; have HS := n0_; have HB := n1_; clear n0_ n1_; (try simp only [List.eraseIdx_cons_succ, List.eraseIdx_cons_zero] at HS)
          clear hs hb
          obtain ⟨A51, c51, e51, _, _⟩ := (HS.out.pick 4 rfl).reads
          subst e51
          refine hK.out _ _ ⟨((HS.out.pick 2 rfl).cell 2).trans rfl, ((HS.out.pick 0 rfl).cell 0).trans rfl, ((HS.out.pick 0 rfl).cell 1).trans rfl⟩ (fun hHeld => ?_)
          clear hK K
          refine norm_ (a' := ?_) ?_ ?_
          rotate_left
          · show Act.put _ (some 51) _ = _
            simp only [Act.put, List.setIfInBounds_toArray, List.set_cons_zero, List.set_cons_succ, i64_w, i32_w]
            rfl
          refine one_ (i := 0) (N := some 44) (tfs true [5, 1, 2, 1, 4, 3]).toArray rfl rfl (one_of HT_.out (by kernel_rfl)) (by decide) (fun K hK => ?_)
          refine S_lit_step k52 52 (by rfl) (Nt := 44) rfl (xs := ([] : List S52)) (inner := []) ?hr ?hp HS.out (by simp) ?_
          (case hr => first | (go_simp; done) | (go_simp; rfl))
          (case hp => exact Reps.none _ _)
          intro u44 w10 hs hb
          have n0_ := Aside0.mk ((((((hs.pick 5 rfl).pick 5 rfl).pick 5 rfl).pick 5 rfl).pick 5 rfl)); have n1_ := Aside0.mk (below_step' HB.out HS.out.size hb); clear HS HB; have HS := n0_; have HB := n1_; clear n0_ n1_; (try simp only [List.eraseIdx_cons_succ, List.eraseIdx_cons_zero] at HS)
          clear hs hb
          refine hK.out _ _ ⟨((HS.out.pick 2 rfl).cell 2).trans rfl, ((HS.out.pick 0 rfl).cell 0).trans rfl, ((HS.out.pick 0 rfl).cell 1).trans rfl⟩ (fun hHeld => ?_)
          clear hK K
          refine norm_ (a' := ?_) ?_ ?_
          rotate_left
          · show Act.put _ (some 44) _ = _
            simp only [Act.put, List.setIfInBounds_toArray, List.set_cons_zero, List.set_cons_succ, i64_w, i32_w]
            rfl
          refine one_ (i := 5) (N := some 49) (tfs true [8, 1, 4, 3]).toArray rfl rfl (one_of HT_.out (by kernel_rfl)) (by decide) (fun K hK => ?_)
          refine S_append_rows_step k52 (by rfl) (.tmp 44) (.tmp 48) 26 52 (.agg #[(.int .i64 0), (.string ⟨#[]⟩)]) 24 rfl Try.underlying26 info52 rfl (by decide) (by omega) u44 ([]) (l.take j) (A) (j) j rfl ?hx (flat52 _ _) (HS.out.pick 5 rfl) ?hC HB.out ?hl ?_
          (case hx => rfl)
          (case hC => exact C_takeN (HS.out.pick 3 rfl).rowC.2.2 j (by omega))
          (case hl => (simp; omega))
          intro u49 w11 hs hb
          have n0_ := Aside0.mk ((((((hs.pick 5 rfl).pick 5 rfl).pick 5 rfl).pick 5 rfl).pick 5 rfl)); have n1_ := Aside0.mk (hb); clear HS HB; have HS := n0_; have HB := n1_; clear n0_ n1_; (try simp only [List.eraseIdx_cons_succ, List.eraseIdx_cons_zero] at HS)
          clear hs hb
          refine hK.out _ _ ⟨((HS.out.pick 2 rfl).cell 2).trans rfl, ((HS.out.pick 0 rfl).cell 0).trans rfl, ((HS.out.pick 0 rfl).cell 1).trans rfl⟩ (fun hHeld => ?_)
          clear hK K
          refine norm_ (a' := ?_) ?_ ?_
          rotate_left
          · show Act.put _ (some 49) _ = _
            simp only [Act.put, List.setIfInBounds_toArray, List.set_cons_zero, List.set_cons_succ, i64_w, i32_w]
            rfl
          refine one_ (i := 8) (N := some 52) (tfs true [13, 3]).toArray rfl rfl (one_of HT_.out (by kernel_rfl)) (by decide) (fun K hK => ?_)
          refine S_append_rows_step k52 (by rfl) (.tmp 49) (.tmp 51) 26 52 (.agg #[(.int .i64 0), (.string ⟨#[]⟩)]) 24 rfl Try.underlying26 info52 rfl (by decide) (by omega) u49 ([] ++ l.take j) ([⟨h, s⟩]) (A51) (1) c51 rfl ?hx (flat52 _ _) (HS.out.pick 5 rfl) ?hC HB.out ?hl ?_
          (case hx => rfl)
          (case hC => exact (HS.out.pick 4 rfl).rowC.2.2)
          (case hl => (simp; omega))
          intro u52 w11 hs hb
          have n0_ := Aside0.mk ((((((hs.pick 5 rfl).pick 5 rfl).pick 5 rfl).pick 5 rfl).pick 5 rfl)); have n1_ := Aside0.mk (hb); clear HS HB; have HS := n0_; have HB := n1_; clear n0_ n1_; (try simp only [List.eraseIdx_cons_succ, List.eraseIdx_cons_zero] at HS)
          clear hs hb
          refine hK.out _ _ ⟨((HS.out.pick 2 rfl).cell 2).trans rfl, ((HS.out.pick 0 rfl).cell 0).trans rfl, ((HS.out.pick 0 rfl).cell 1).trans rfl⟩ (fun hHeld => ?_)
          clear hK K
          refine norm_ (a' := ?_) ?_ ?_
          rotate_left
          · show Act.put _ (some 52) _ = _
            simp only [Act.put, List.setIfInBounds_toArray, List.set_cons_zero, List.set_cons_succ, i64_w, i32_w]
            rfl
          refine one_ (i := 13) (N := some 57) (tfs true [14, 2]).toArray rfl rfl (one_of HT_.out (by kernel_rfl)) (by decide) (fun K hK => ?_)
          refine S_append_rows_step k52 (by rfl) (.tmp 52) (.tmp 56) 26 52 (.agg #[(.int .i64 0), (.string ⟨#[]⟩)]) 24 rfl Try.underlying26 info52 rfl (by decide) (by omega) u52 (([] ++ l.take j) ++ [⟨h, s⟩]) (l.drop j) (A) (0) 0 rfl ?hx (flat52 _ _) (HS.out.pick 5 rfl) ?hC HB.out ?hl ?_
          (case hx => rfl)
          (case hC => exact (by have h9 := C_dropA (HS.out.pick 3 rfl).rowC.2.2 j (by have := hj.out; omega) hc rfl; rwa [show l.length - j = 0 by have := hj.out; omega] at h9))
          (case hl => (simp; omega))
          intro u57 w11 hs hb
          have n0_ := Aside0.mk ((((((hs.pick 5 rfl).pick 5 rfl).pick 5 rfl).pick 5 rfl).pick 5 rfl)); have n1_ := Aside0.mk (hb); clear HS HB; have HS := n0_; have HB := n1_; clear n0_ n1_; (try simp only [List.eraseIdx_cons_succ, List.eraseIdx_cons_zero] at HS)
          clear hs hb
          obtain ⟨A57, n57, c57, rfl⟩ : ∃ (A : Option Addr) (n c : Nat), u57 = .slice A n c := by obtain ⟨A, c, e, _, _⟩ := (HS.out.pick 5 rfl).reads; exact ⟨A, _, c, e⟩
          have q5 := ((HS.out.pick 2 rfl).cell 2).trans (show _ = some (.slice A l.length j) from rfl)
          have q6 := (HS.out.pick 2 rfl).frozen 2
          refine hK.out _ _ ⟨((HS.out.pick 2 rfl).cell 2).trans rfl, ((HS.out.pick 0 rfl).cell 0).trans rfl, ((HS.out.pick 0 rfl).cell 1).trans rfl⟩ (fun hHeld => ?_)
          clear hK K
          refine norm_ (a' := ?_) ?_ ?_
          rotate_left
          · show Act.put _ (some 57) _ = _
            simp only [Act.put, List.setIfInBounds_toArray, List.set_cons_zero, List.set_cons_succ, i64_w, i32_w]
            rfl
          refine pU 14 58 (tfs true [15, 1]).toArray rfl rfl HT_ ?_
          refine last_ (i := 15) (N := none) (tfs true [16]).toArray rfl rfl (one_of HT_.out (by kernel_rfl)) (by decide) (fun K hK => ?_)
          refine skip_ (w1 := ?_) (by rfl) rfl ?_ ?_
          rotate_left
          · go_simp
            rfl
          clear q5 q6
          have n0_ := Aside0.mk ((HS.out.pick 2 rfl).set 2 (.slice A57 n57 c57) #[.int .i64 sz, .int .i64 sd, .slice A57 n57 c57] rfl); have n1_ := Aside0.mk ((HS.out.pick 2 rfl).below_set (i := 2) (u := .slice A57 n57 c57) HB.out); clear HS HB; have HS := n0_; have HB := n1_; clear n0_ n1_; (try simp only [List.eraseIdx_cons_succ, List.eraseIdx_cons_zero] at HS)
          refine hK.out _ _ ?_
          clear hK K
          refine done_ (done_of HT_.out (by kernel_rfl)) ?_
          clear HT_ HW_
          try clear hHeld
          generalize (World.setCell _ _ _) = w15 at HS HB ⊢
          have q0 := ((HS.out.pick 0 rfl).cell 0).trans (show _ = some (.int .i64 sz) from rfl)
          have q1 := ((HS.out.pick 0 rfl).cell 1).trans (show _ = some (.int .i64 sd) from rfl)
          have q2 := ((HS.out.pick 0 rfl).cell 2).trans (show _ = some (.slice A57 n57 c57) from rfl)
          have q13 := ((HS.out.pick 2 rfl).cell 0).trans (show _ = some (.int .i64 0) from rfl)
          have q14 := ((HS.out.pick 2 rfl).cell 1).trans (show _ = some (.int .i64 0) from rfl)
          have q15 := ((HS.out.pick 2 rfl).cell 2).trans (show _ = some (.slice none 0 0) from rfl)
          have f0 := (HS.out.pick 2 rfl).frozen 0
          have f1 := (HS.out.pick 2 rfl).frozen 1
          have f2 := (HS.out.pick 2 rfl).frozen 2
          go_wp2_with (first | ((with_reducible refine gate_store (t := 28) (p := 4) rfl ?_); refine store_event (t := 28) (p := 4) (v := .tmp 59) (w1 := ?_) rfl rfl rfl ?_ ?_; rotate_left; (focus (first | (go_simp; done) | (go_simp; rfl))); intro w16 hw; have n0_ := Aside0.mk ((HS.out.pick 2 rfl).set3 hw); have n1_ := Aside0.mk ((HS.out.pick 2 rfl).below_set3 HB.out hw); clear HS HB; have HS := n0_; have HB := n1_; clear n0_ n1_; (try simp only [List.eraseIdx_cons_succ, List.eraseIdx_cons_zero] at HS); clear hw))
          (try simp only [Exit.inBlock, Exit.then])
          refine bodyPost_ret (results_cell_row rfl _ _ r 28 _ (0, 0) _ rfl HS.out.blk Try.underlying28 rfl (by kernel_rfl)) rfl ?_
          refine ⟨.slice A57 n57 c57, rfl, ?_, HB.out⟩
          rw [ins_miss _ _ hh, ← hjp.out]
          have := (HS.out.pick 5 rfl).swap.drop.swap.drop.swap.drop.swap.drop.swap.drop
          simpa using this
      ·
        have hjl := hj.out
        have r1 : (j : Int) ≤ (c : Int) := by omega
        have r2 : (j : Int) ≤ (l.length : Int) := by omega
        have r3 : j ≤ l.length := by omega
        clear hjl
        go_upto_region 7 with (fail)
        have n0_ := Aside0.mk (HS.out.drew); have n1_ := Aside0.mk (HB.out.drew); clear HS HB; have HS := n0_; have HB := n1_; clear n0_ n1_
        refine start_ (n := 16) (S := fun w' => w'.cell? ⟨b, 2, none⟩ = some (.slice A l.length c) ∧ w'.cell? ⟨kk, 0, none⟩ = some (.int .i64 h) ∧ w'.cell? ⟨kk, 1, none⟩ = some (.string s)) (ds := [15]) (tfs true [0, 16]).toArray (by kernel_rfl) rfl rfl ⟨((HS.out.pick 2 rfl).cell 2).trans rfl, ((HS.out.pick 0 rfl).cell 0).trans rfl, ((HS.out.pick 0 rfl).cell 1).trans rfl⟩ (fun hHeld => ?_); refine with_tabW wth.tab7 wth.bits7 (fun HT_ HW_ => ?_)
        generalize w8.drew = w9 at HS HB hHeld ⊢
        refine pU 1 45 (tfs true [0, 1, 1, 14]).toArray rfl rfl HT_ ?_
        refine pU 3 47 (tfs true [0, 1, 1, 1, 1, 12]).toArray rfl rfl HT_ ?_
        refine pU 9 53 (tfs true [0, 1, 1, 1, 1, 5, 1, 6]).toArray rfl rfl HT_ ?_
        refine pU 11 55 (tfs true [0, 1, 1, 1, 1, 5, 1, 1, 1, 4]).toArray rfl rfl HT_ ?_
        refine tK 2 46 (tfs true [0, 1, 3, 5, 1, 1, 1, 4]).toArray rfl rfl HT_ HW_ hHeld ?_ (by rintro w' ⟨s0, s1, s2⟩; go_simp; with_reducible rfl)
        refine pU 4 48 (tfs true [0, 1, 4, 4, 1, 1, 1, 4]).toArray rfl rfl HT_ ?_
        refine tK 6 50 (tfs true [0, 1, 4, 1, 1, 2, 1, 1, 1, 4]).toArray rfl rfl HT_ HW_ hHeld ?_ (by rintro w' ⟨s0, s1, s2⟩; go_simp; with_reducible rfl)
        refine tK 10 54 (tfs true [0, 1, 4, 1, 1, 2, 3, 4]).toArray rfl rfl HT_ HW_ hHeld ?_ (by rintro w' ⟨s0, s1, s2⟩; go_simp; with_reducible rfl)
        refine pU 12 56 (tfs true [0, 1, 4, 1, 1, 2, 4, 3]).toArray rfl rfl HT_ ?_
        refine two_ (i := 0) (j := 7) (Ni := some 44) (Nj := some 51) (tfs true [5, 1, 1, 2, 4, 3]).toArray (tfs true [0, 1, 4, 1, 2, 1, 4, 3]).toArray rfl rfl rfl rfl (two_of HT_.out (by kernel_rfl)) (by decide) (by decide) (fun K hK => ?_) (fun K hK => ?_)
        ·
          refine S_lit_step k52 52 (by rfl) (Nt := 44) rfl (xs := ([] : List S52)) (inner := []) ?hr ?hp HS.out (by simp) ?_
          (case hr => first | (go_simp; done) | (go_simp; rfl))
          (case hp => exact Reps.none _ _)
          intro u44 w10 hs hb
          have n0_ := Aside0.mk (((((hs.pick 4 rfl).pick 4 rfl).pick 4 rfl).pick 4 rfl)); have n1_ := Aside0.mk (below_step' HB.out HS.out.size hb); clear HS HB; have HS := n0_; have HB := n1_; clear n0_ n1_; (try simp only [List.eraseIdx_cons_succ, List.eraseIdx_cons_zero] at HS)
          clear hs hb
          refine hK.out _ _ ⟨((HS.out.pick 2 rfl).cell 2).trans rfl, ((HS.out.pick 0 rfl).cell 0).trans rfl, ((HS.out.pick 0 rfl).cell 1).trans rfl⟩ (fun hHeld => ?_)
          clear hK K
          refine norm_ (a' := ?_) ?_ ?_
          rotate_left
          · show Act.put _ (some 44) _ = _
            simp only [Act.put, List.setIfInBounds_toArray, List.set_cons_zero, List.set_cons_succ, i64_w, i32_w]
            rfl
          refine two_ (i := 5) (j := 7) (Ni := some 49) (Nj := some 51) (tfs true [7, 2, 4, 3]).toArray (tfs true [5, 1, 2, 1, 4, 3]).toArray rfl rfl rfl rfl (two_of HT_.out (by kernel_rfl)) (by decide) (by decide) (fun K hK => ?_) (fun K hK => ?_)
          ·
            refine S_append_rows_step k52 (by rfl) (.tmp 44) (.tmp 48) 26 52 (.agg #[(.int .i64 0), (.string ⟨#[]⟩)]) 24 rfl Try.underlying26 info52 rfl (by decide) (by omega) u44 ([]) (l.take j) (A) (j) c rfl ?hx (flat52 _ _) (HS.out.pick 4 rfl) ?hC HB.out ?hl ?_
            (case hx => rfl)
            (case hC => exact C_takeN (HS.out.pick 3 rfl).rowC.2.2 j (by omega))
            (case hl => (simp; omega))
            intro u49 w11 hs hb
            have n0_ := Aside0.mk (((((hs.pick 4 rfl).pick 4 rfl).pick 4 rfl).pick 4 rfl)); have n1_ := Aside0.mk (hb); clear HS HB; have HS := n0_; have HB := n1_; clear n0_ n1_; (try simp only [List.eraseIdx_cons_succ, List.eraseIdx_cons_zero] at HS)
            clear hs hb
            refine hK.out _ _ ⟨((HS.out.pick 2 rfl).cell 2).trans rfl, ((HS.out.pick 0 rfl).cell 0).trans rfl, ((HS.out.pick 0 rfl).cell 1).trans rfl⟩ (fun hHeld => ?_)
            clear hK K
            refine norm_ (a' := ?_) ?_ ?_
            rotate_left
            · show Act.put _ (some 49) _ = _
              simp only [Act.put, List.setIfInBounds_toArray, List.set_cons_zero, List.set_cons_succ, i64_w, i32_w]
              rfl
            refine one_ (i := 7) (N := some 51) (tfs true [8, 1, 4, 3]).toArray rfl rfl (one_of HT_.out (by kernel_rfl)) (by decide) (fun K hK => ?_)
            refine S_lit_step k52 52 (by rfl) (Nt := 51) rfl (xs := ([⟨h, s⟩] : List S52)) (inner := [.int .i64 h, .string s]) ?hr ?hp HS.out (by simp) ?_
            (case hr => first | (go_simp; done) | (go_simp; rfl))
            (case hp => exact reps_encs flatK (fun y => flatK.M _ _ _ y) _)
            intro u51 w10 hs hb
            have n0_ := Aside0.mk ((((((hs.pick 5 rfl).pick 5 rfl).pick 5 rfl).pick 5 rfl).pick 5 rfl)); have n1_ := Aside0.mk (below_step' HB.out HS.out.size hb); clear HS HB; have HS := n0_; have HB := n1_; clear n0_ n1_; (try simp only [List.eraseIdx_cons_succ, List.eraseIdx_cons_zero] at HS)
            clear hs hb
            obtain ⟨A51, c51, e51, _, _⟩ := (HS.out.pick 5 rfl).reads
            subst e51
            refine hK.out _ _ ⟨((HS.out.pick 2 rfl).cell 2).trans rfl, ((HS.out.pick 0 rfl).cell 0).trans rfl, ((HS.out.pick 0 rfl).cell 1).trans rfl⟩ (fun hHeld => ?_)
            clear hK K
            refine norm_ (a' := ?_) ?_ ?_
            rotate_left
            · show Act.put _ (some 51) _ = _
              simp only [Act.put, List.setIfInBounds_toArray, List.set_cons_zero, List.set_cons_succ, i64_w, i32_w]
              rfl
            refine one_ (i := 8) (N := some 52) (tfs true [13, 3]).toArray rfl rfl (one_of HT_.out (by kernel_rfl)) (by decide) (fun K hK => ?_)
            refine S_append_rows_step k52 (by rfl) (.tmp 49) (.tmp 51) 26 52 (.agg #[(.int .i64 0), (.string ⟨#[]⟩)]) 24 rfl Try.underlying26 info52 rfl (by decide) (by omega) u49 ([] ++ l.take j) ([⟨h, s⟩]) (A51) (1) c51 rfl ?hx (flat52 _ _) (HS.out.pick 4 rfl) ?hC HB.out ?hl ?_
            (case hx => rfl)
            (case hC => exact (HS.out.pick 5 rfl).rowC.2.2)
            (case hl => (simp; omega))
            intro u52 w11 hs hb
            have n0_ := Aside0.mk ((((((hs.pick 5 rfl).pick 5 rfl).pick 5 rfl).pick 5 rfl).pick 5 rfl)); have n1_ := Aside0.mk (hb); clear HS HB; have HS := n0_; have HB := n1_; clear n0_ n1_; (try simp only [List.eraseIdx_cons_succ, List.eraseIdx_cons_zero] at HS)
            clear hs hb
            refine hK.out _ _ ⟨((HS.out.pick 2 rfl).cell 2).trans rfl, ((HS.out.pick 0 rfl).cell 0).trans rfl, ((HS.out.pick 0 rfl).cell 1).trans rfl⟩ (fun hHeld => ?_)
            clear hK K
            refine norm_ (a' := ?_) ?_ ?_
            rotate_left
            · show Act.put _ (some 52) _ = _
              simp only [Act.put, List.setIfInBounds_toArray, List.set_cons_zero, List.set_cons_succ, i64_w, i32_w]
              rfl
            refine one_ (i := 13) (N := some 57) (tfs true [14, 2]).toArray rfl rfl (one_of HT_.out (by kernel_rfl)) (by decide) (fun K hK => ?_)
            refine S_append_rows_step k52 (by rfl) (.tmp 52) (.tmp 56) 26 52 (.agg #[(.int .i64 0), (.string ⟨#[]⟩)]) 24 rfl Try.underlying26 info52 rfl (by decide) (by omega) u52 (([] ++ l.take j) ++ [⟨h, s⟩]) (l.drop j) (A.map (·.add (j * 2))) (l.length - j) (c - j) rfl ?hx (flat52 _ _) (HS.out.pick 5 rfl) ?hC HB.out ?hl ?_
            (case hx => rfl)
            (case hC => exact C_dropB (HS.out.pick 3 rfl).rowC.2.2 j (by omega) hc hcj)
            (case hl => (simp; omega))
            intro u57 w11 hs hb
            have n0_ := Aside0.mk ((((((hs.pick 5 rfl).pick 5 rfl).pick 5 rfl).pick 5 rfl).pick 5 rfl)); have n1_ := Aside0.mk (hb); clear HS HB; have HS := n0_; have HB := n1_; clear n0_ n1_; (try simp only [List.eraseIdx_cons_succ, List.eraseIdx_cons_zero] at HS)
            clear hs hb
            obtain ⟨A57, n57, c57, rfl⟩ : ∃ (A : Option Addr) (n c : Nat), u57 = .slice A n c := by obtain ⟨A, c, e, _, _⟩ := (HS.out.pick 5 rfl).reads; exact ⟨A, _, c, e⟩
            have q5 := ((HS.out.pick 2 rfl).cell 2).trans (show _ = some (.slice A l.length c) from rfl)
            have q6 := (HS.out.pick 2 rfl).frozen 2
            refine hK.out _ _ ⟨((HS.out.pick 2 rfl).cell 2).trans rfl, ((HS.out.pick 0 rfl).cell 0).trans rfl, ((HS.out.pick 0 rfl).cell 1).trans rfl⟩ (fun hHeld => ?_)
            clear hK K
            refine norm_ (a' := ?_) ?_ ?_
            rotate_left
            · show Act.put _ (some 57) _ = _
              simp only [Act.put, List.setIfInBounds_toArray, List.set_cons_zero, List.set_cons_succ, i64_w, i32_w]
              rfl
            refine pU 14 58 (tfs true [15, 1]).toArray rfl rfl HT_ ?_
            refine last_ (i := 15) (N := none) (tfs true [16]).toArray rfl rfl (one_of HT_.out (by kernel_rfl)) (by decide) (fun K hK => ?_)
            refine skip_ (w1 := ?_) (by rfl) rfl ?_ ?_
            rotate_left
            · go_simp
              rfl
            clear q5 q6
            have n0_ := Aside0.mk ((HS.out.pick 2 rfl).set 2 (.slice A57 n57 c57) #[.int .i64 sz, .int .i64 sd, .slice A57 n57 c57] rfl); have n1_ := Aside0.mk ((HS.out.pick 2 rfl).below_set (i := 2) (u := .slice A57 n57 c57) HB.out); clear HS HB; have HS := n0_; have HB := n1_; clear n0_ n1_; (try simp only [List.eraseIdx_cons_succ, List.eraseIdx_cons_zero] at HS)
            refine hK.out _ _ ?_
            clear hK K
            refine done_ (done_of HT_.out (by kernel_rfl)) ?_
            clear HT_ HW_
            try clear hHeld
            generalize (World.setCell _ _ _) = w15 at HS HB ⊢
            have q0 := ((HS.out.pick 0 rfl).cell 0).trans (show _ = some (.int .i64 sz) from rfl)
            have q1 := ((HS.out.pick 0 rfl).cell 1).trans (show _ = some (.int .i64 sd) from rfl)
            have q2 := ((HS.out.pick 0 rfl).cell 2).trans (show _ = some (.slice A57 n57 c57) from rfl)
            have q13 := ((HS.out.pick 2 rfl).cell 0).trans (show _ = some (.int .i64 0) from rfl)
            have q14 := ((HS.out.pick 2 rfl).cell 1).trans (show _ = some (.int .i64 0) from rfl)
            have q15 := ((HS.out.pick 2 rfl).cell 2).trans (show _ = some (.slice none 0 0) from rfl)
            have f0 := (HS.out.pick 2 rfl).frozen 0
            have f1 := (HS.out.pick 2 rfl).frozen 1
            have f2 := (HS.out.pick 2 rfl).frozen 2
            go_wp2_with (first | ((with_reducible refine gate_store (t := 28) (p := 4) rfl ?_); refine store_event (t := 28) (p := 4) (v := .tmp 59) (w1 := ?_) rfl rfl rfl ?_ ?_; rotate_left; (focus (first | (go_simp; done) | (go_simp; rfl))); intro w16 hw; have n0_ := Aside0.mk ((HS.out.pick 2 rfl).set3 hw); have n1_ := Aside0.mk ((HS.out.pick 2 rfl).below_set3 HB.out hw); clear HS HB; have HS := n0_; have HB := n1_; clear n0_ n1_; (try simp only [List.eraseIdx_cons_succ, List.eraseIdx_cons_zero] at HS); clear hw))
            (try simp only [Exit.inBlock, Exit.then])
            refine bodyPost_ret (results_cell_row rfl _ _ r 28 _ (0, 0) _ rfl HS.out.blk Try.underlying28 rfl (by kernel_rfl)) rfl ?_
            refine ⟨.slice A57 n57 c57, rfl, ?_, HB.out⟩
            rw [ins_miss _ _ hh, ← hjp.out]
            have := (HS.out.pick 5 rfl).swap.drop.swap.drop.swap.drop.swap.drop.swap.drop
            simpa using this
          ·
            refine S_lit_step k52 52 (by rfl) (Nt := 51) rfl (xs := ([⟨h, s⟩] : List S52)) (inner := [.int .i64 h, .string s]) ?hr ?hp HS.out (by simp) ?_
            (case hr => first | (go_simp; done) | (go_simp; rfl))
            (case hp => exact reps_encs flatK (fun y => flatK.M _ _ _ y) _)
            intro u51 w10 hs hb
            have n0_ := Aside0.mk ((((((hs.pick 5 rfl).pick 5 rfl).pick 5 rfl).pick 5 rfl).pick 5 rfl)); have n1_ := Aside0.mk (below_step' HB.out HS.out.size hb); clear HS HB; have HS := n0_; have HB := n1_; clear n0_ n1_; (try simp only [List.eraseIdx_cons_succ, List.eraseIdx_cons_zero] at HS)
            clear hs hb
            obtain ⟨A51, c51, e51, _, _⟩ := (HS.out.pick 5 rfl).reads
            subst e51
            refine hK.out _ _ ⟨((HS.out.pick 2 rfl).cell 2).trans rfl, ((HS.out.pick 0 rfl).cell 0).trans rfl, ((HS.out.pick 0 rfl).cell 1).trans rfl⟩ (fun hHeld => ?_)
            clear hK K
            refine norm_ (a' := ?_) ?_ ?_
            rotate_left
            · show Act.put _ (some 51) _ = _
              simp only [Act.put, List.setIfInBounds_toArray, List.set_cons_zero, List.set_cons_succ, i64_w, i32_w]
              rfl
            refine one_ (i := 5) (N := some 49) (tfs true [8, 1, 4, 3]).toArray rfl rfl (one_of HT_.out (by kernel_rfl)) (by decide) (fun K hK => ?_)
            refine S_append_rows_step k52 (by rfl) (.tmp 44) (.tmp 48) 26 52 (.agg #[(.int .i64 0), (.string ⟨#[]⟩)]) 24 rfl Try.underlying26 info52 rfl (by decide) (by omega) u44 ([]) (l.take j) (A) (j) c rfl ?hx (flat52 _ _) (HS.out.pick 4 rfl) ?hC HB.out ?hl ?_
            (case hx => rfl)
            (case hC => exact C_takeN (HS.out.pick 3 rfl).rowC.2.2 j (by omega))
            (case hl => (simp; omega))
            intro u49 w11 hs hb
            have n0_ := Aside0.mk ((((((hs.pick 5 rfl).pick 5 rfl).pick 5 rfl).pick 5 rfl).pick 5 rfl)); have n1_ := Aside0.mk (hb); clear HS HB; have HS := n0_; have HB := n1_; clear n0_ n1_; (try simp only [List.eraseIdx_cons_succ, List.eraseIdx_cons_zero] at HS)
            clear hs hb
            refine hK.out _ _ ⟨((HS.out.pick 2 rfl).cell 2).trans rfl, ((HS.out.pick 0 rfl).cell 0).trans rfl, ((HS.out.pick 0 rfl).cell 1).trans rfl⟩ (fun hHeld => ?_)
            clear hK K
            refine norm_ (a' := ?_) ?_ ?_
            rotate_left
            · show Act.put _ (some 49) _ = _
              simp only [Act.put, List.setIfInBounds_toArray, List.set_cons_zero, List.set_cons_succ, i64_w, i32_w]
              rfl
            refine one_ (i := 8) (N := some 52) (tfs true [13, 3]).toArray rfl rfl (one_of HT_.out (by kernel_rfl)) (by decide) (fun K hK => ?_)
            refine S_append_rows_step k52 (by rfl) (.tmp 49) (.tmp 51) 26 52 (.agg #[(.int .i64 0), (.string ⟨#[]⟩)]) 24 rfl Try.underlying26 info52 rfl (by decide) (by omega) u49 ([] ++ l.take j) ([⟨h, s⟩]) (A51) (1) c51 rfl ?hx (flat52 _ _) (HS.out.pick 5 rfl) ?hC HB.out ?hl ?_
            (case hx => rfl)
            (case hC => exact (HS.out.pick 4 rfl).rowC.2.2)
            (case hl => (simp; omega))
            intro u52 w11 hs hb
            have n0_ := Aside0.mk ((((((hs.pick 5 rfl).pick 5 rfl).pick 5 rfl).pick 5 rfl).pick 5 rfl)); have n1_ := Aside0.mk (hb); clear HS HB; have HS := n0_; have HB := n1_; clear n0_ n1_; (try simp only [List.eraseIdx_cons_succ, List.eraseIdx_cons_zero] at HS)
            clear hs hb
            refine hK.out _ _ ⟨((HS.out.pick 2 rfl).cell 2).trans rfl, ((HS.out.pick 0 rfl).cell 0).trans rfl, ((HS.out.pick 0 rfl).cell 1).trans rfl⟩ (fun hHeld => ?_)
            clear hK K
            refine norm_ (a' := ?_) ?_ ?_
            rotate_left
            · show Act.put _ (some 52) _ = _
              simp only [Act.put, List.setIfInBounds_toArray, List.set_cons_zero, List.set_cons_succ, i64_w, i32_w]
              rfl
            refine one_ (i := 13) (N := some 57) (tfs true [14, 2]).toArray rfl rfl (one_of HT_.out (by kernel_rfl)) (by decide) (fun K hK => ?_)
            refine S_append_rows_step k52 (by rfl) (.tmp 52) (.tmp 56) 26 52 (.agg #[(.int .i64 0), (.string ⟨#[]⟩)]) 24 rfl Try.underlying26 info52 rfl (by decide) (by omega) u52 (([] ++ l.take j) ++ [⟨h, s⟩]) (l.drop j) (A.map (·.add (j * 2))) (l.length - j) (c - j) rfl ?hx (flat52 _ _) (HS.out.pick 5 rfl) ?hC HB.out ?hl ?_
            (case hx => rfl)
            (case hC => exact C_dropB (HS.out.pick 3 rfl).rowC.2.2 j (by omega) hc hcj)
            (case hl => (simp; omega))
            intro u57 w11 hs hb
            have n0_ := Aside0.mk ((((((hs.pick 5 rfl).pick 5 rfl).pick 5 rfl).pick 5 rfl).pick 5 rfl)); have n1_ := Aside0.mk (hb); clear HS HB; have HS := n0_; have HB := n1_; clear n0_ n1_; (try simp only [List.eraseIdx_cons_succ, List.eraseIdx_cons_zero] at HS)
            clear hs hb
            obtain ⟨A57, n57, c57, rfl⟩ : ∃ (A : Option Addr) (n c : Nat), u57 = .slice A n c := by obtain ⟨A, c, e, _, _⟩ := (HS.out.pick 5 rfl).reads; exact ⟨A, _, c, e⟩
            have q5 := ((HS.out.pick 2 rfl).cell 2).trans (show _ = some (.slice A l.length c) from rfl)
            have q6 := (HS.out.pick 2 rfl).frozen 2
            refine hK.out _ _ ⟨((HS.out.pick 2 rfl).cell 2).trans rfl, ((HS.out.pick 0 rfl).cell 0).trans rfl, ((HS.out.pick 0 rfl).cell 1).trans rfl⟩ (fun hHeld => ?_)
            clear hK K
            refine norm_ (a' := ?_) ?_ ?_
            rotate_left
            · show Act.put _ (some 57) _ = _
              simp only [Act.put, List.setIfInBounds_toArray, List.set_cons_zero, List.set_cons_succ, i64_w, i32_w]
              rfl
            refine pU 14 58 (tfs true [15, 1]).toArray rfl rfl HT_ ?_
            refine last_ (i := 15) (N := none) (tfs true [16]).toArray rfl rfl (one_of HT_.out (by kernel_rfl)) (by decide) (fun K hK => ?_)
            refine skip_ (w1 := ?_) (by rfl) rfl ?_ ?_
            rotate_left
            · go_simp
              rfl
            clear q5 q6
            have n0_ := Aside0.mk ((HS.out.pick 2 rfl).set 2 (.slice A57 n57 c57) #[.int .i64 sz, .int .i64 sd, .slice A57 n57 c57] rfl); have n1_ := Aside0.mk ((HS.out.pick 2 rfl).below_set (i := 2) (u := .slice A57 n57 c57) HB.out); clear HS HB; have HS := n0_; have HB := n1_; clear n0_ n1_; (try simp only [List.eraseIdx_cons_succ, List.eraseIdx_cons_zero] at HS)
            refine hK.out _ _ ?_
            clear hK K
            refine done_ (done_of HT_.out (by kernel_rfl)) ?_
            clear HT_ HW_
            try clear hHeld
            generalize (World.setCell _ _ _) = w15 at HS HB ⊢
            have q0 := ((HS.out.pick 0 rfl).cell 0).trans (show _ = some (.int .i64 sz) from rfl)
            have q1 := ((HS.out.pick 0 rfl).cell 1).trans (show _ = some (.int .i64 sd) from rfl)
            have q2 := ((HS.out.pick 0 rfl).cell 2).trans (show _ = some (.slice A57 n57 c57) from rfl)
            have q13 := ((HS.out.pick 2 rfl).cell 0).trans (show _ = some (.int .i64 0) from rfl)
            have q14 := ((HS.out.pick 2 rfl).cell 1).trans (show _ = some (.int .i64 0) from rfl)
            have q15 := ((HS.out.pick 2 rfl).cell 2).trans (show _ = some (.slice none 0 0) from rfl)
            have f0 := (HS.out.pick 2 rfl).frozen 0
            have f1 := (HS.out.pick 2 rfl).frozen 1
            have f2 := (HS.out.pick 2 rfl).frozen 2
            go_wp2_with (first | ((with_reducible refine gate_store (t := 28) (p := 4) rfl ?_); refine store_event (t := 28) (p := 4) (v := .tmp 59) (w1 := ?_) rfl rfl rfl ?_ ?_; rotate_left; (focus (first | (go_simp; done) | (go_simp; rfl))); intro w16 hw; have n0_ := Aside0.mk ((HS.out.pick 2 rfl).set3 hw); have n1_ := Aside0.mk ((HS.out.pick 2 rfl).below_set3 HB.out hw); clear HS HB; have HS := n0_; have HB := n1_; clear n0_ n1_; (try simp only [List.eraseIdx_cons_succ, List.eraseIdx_cons_zero] at HS); clear hw))
            (try simp only [Exit.inBlock, Exit.then])
            refine bodyPost_ret (results_cell_row rfl _ _ r 28 _ (0, 0) _ rfl HS.out.blk Try.underlying28 rfl (by kernel_rfl)) rfl ?_
            refine ⟨.slice A57 n57 c57, rfl, ?_, HB.out⟩
            rw [ins_miss _ _ hh, ← hjp.out]
            have := (HS.out.pick 5 rfl).swap.drop.swap.drop.swap.drop.swap.drop.swap.drop
            simpa using this
        ·
          refine S_lit_step k52 52 (by rfl) (Nt := 51) rfl (xs := ([⟨h, s⟩] : List S52)) (inner := [.int .i64 h, .string s]) ?hr ?hp HS.out (by simp) ?_
          (case hr => first | (go_simp; done) | (go_simp; rfl))
          (case hp => exact reps_encs flatK (fun y => flatK.M _ _ _ y) _)
          intro u51 w10 hs hb
          have n0_ := Aside0.mk (((((hs.pick 4 rfl).pick 4 rfl).pick 4 rfl).pick 4 rfl)); have n1_ := Aside0.mk (below_step' HB.out HS.out.size hb); clear HS HB; have HS := n0_; have HB := n1_; clear n0_ n1_; (try simp only [List.eraseIdx_cons_succ, List.eraseIdx_cons_zero] at HS)
          clear hs hb
          obtain ⟨A51, c51, e51, _, _⟩ := (HS.out.pick 4 rfl).reads
          subst e51
          refine hK.out _ _ ⟨((HS.out.pick 2 rfl).cell 2).trans rfl, ((HS.out.pick 0 rfl).cell 0).trans rfl, ((HS.out.pick 0 rfl).cell 1).trans rfl⟩ (fun hHeld => ?_)
          clear hK K
          refine norm_ (a' := ?_) ?_ ?_
          rotate_left
          · show Act.put _ (some 51) _ = _
            simp only [Act.put, List.setIfInBounds_toArray, List.set_cons_zero, List.set_cons_succ, i64_w, i32_w]
            rfl
          refine one_ (i := 0) (N := some 44) (tfs true [5, 1, 2, 1, 4, 3]).toArray rfl rfl (one_of HT_.out (by kernel_rfl)) (by decide) (fun K hK => ?_)
          refine S_lit_step k52 52 (by rfl) (Nt := 44) rfl (xs := ([] : List S52)) (inner := []) ?hr ?hp HS.out (by simp) ?_
          (case hr => first | (go_simp; done) | (go_simp; rfl))
          (case hp => exact Reps.none _ _)
          intro u44 w10 hs hb
          have n0_ := Aside0.mk ((((((hs.pick 5 rfl).pick 5 rfl).pick 5 rfl).pick 5 rfl).pick 5 rfl)); have n1_ := Aside0.mk (below_step' HB.out HS.out.size hb); clear HS HB; have HS := n0_; have HB := n1_; clear n0_ n1_; (try simp only [List.eraseIdx_cons_succ, List.eraseIdx_cons_zero] at HS)
          clear hs hb
          refine hK.out _ _ ⟨((HS.out.pick 2 rfl).cell 2).trans rfl, ((HS.out.pick 0 rfl).cell 0).trans rfl, ((HS.out.pick 0 rfl).cell 1).trans rfl⟩ (fun hHeld => ?_)
          clear hK K
          refine norm_ (a' := ?_) ?_ ?_
          rotate_left
          · show Act.put _ (some 44) _ = _
            simp only [Act.put, List.setIfInBounds_toArray, List.set_cons_zero, List.set_cons_succ, i64_w, i32_w]
            rfl
          refine one_ (i := 5) (N := some 49) (tfs true [8, 1, 4, 3]).toArray rfl rfl (one_of HT_.out (by kernel_rfl)) (by decide) (fun K hK => ?_)
          refine S_append_rows_step k52 (by rfl) (.tmp 44) (.tmp 48) 26 52 (.agg #[(.int .i64 0), (.string ⟨#[]⟩)]) 24 rfl Try.underlying26 info52 rfl (by decide) (by omega) u44 ([]) (l.take j) (A) (j) c rfl ?hx (flat52 _ _) (HS.out.pick 5 rfl) ?hC HB.out ?hl ?_
          (case hx => rfl)
          (case hC => exact C_takeN (HS.out.pick 3 rfl).rowC.2.2 j (by omega))
          (case hl => (simp; omega))
          intro u49 w11 hs hb
          have n0_ := Aside0.mk ((((((hs.pick 5 rfl).pick 5 rfl).pick 5 rfl).pick 5 rfl).pick 5 rfl)); have n1_ := Aside0.mk (hb); clear HS HB; have HS := n0_; have HB := n1_; clear n0_ n1_; (try simp only [List.eraseIdx_cons_succ, List.eraseIdx_cons_zero] at HS)
          clear hs hb
          refine hK.out _ _ ⟨((HS.out.pick 2 rfl).cell 2).trans rfl, ((HS.out.pick 0 rfl).cell 0).trans rfl, ((HS.out.pick 0 rfl).cell 1).trans rfl⟩ (fun hHeld => ?_)
          clear hK K
          refine norm_ (a' := ?_) ?_ ?_
          rotate_left
          · show Act.put _ (some 49) _ = _
            simp only [Act.put, List.setIfInBounds_toArray, List.set_cons_zero, List.set_cons_succ, i64_w, i32_w]
            rfl
          refine one_ (i := 8) (N := some 52) (tfs true [13, 3]).toArray rfl rfl (one_of HT_.out (by kernel_rfl)) (by decide) (fun K hK => ?_)
          refine S_append_rows_step k52 (by rfl) (.tmp 49) (.tmp 51) 26 52 (.agg #[(.int .i64 0), (.string ⟨#[]⟩)]) 24 rfl Try.underlying26 info52 rfl (by decide) (by omega) u49 ([] ++ l.take j) ([⟨h, s⟩]) (A51) (1) c51 rfl ?hx (flat52 _ _) (HS.out.pick 5 rfl) ?hC HB.out ?hl ?_
          (case hx => rfl)
          (case hC => exact (HS.out.pick 4 rfl).rowC.2.2)
          (case hl => (simp; omega))
          intro u52 w11 hs hb
          have n0_ := Aside0.mk ((((((hs.pick 5 rfl).pick 5 rfl).pick 5 rfl).pick 5 rfl).pick 5 rfl)); have n1_ := Aside0.mk (hb); clear HS HB; have HS := n0_; have HB := n1_; clear n0_ n1_; (try simp only [List.eraseIdx_cons_succ, List.eraseIdx_cons_zero] at HS)
          clear hs hb
          refine hK.out _ _ ⟨((HS.out.pick 2 rfl).cell 2).trans rfl, ((HS.out.pick 0 rfl).cell 0).trans rfl, ((HS.out.pick 0 rfl).cell 1).trans rfl⟩ (fun hHeld => ?_)
          clear hK K
          refine norm_ (a' := ?_) ?_ ?_
          rotate_left
          · show Act.put _ (some 52) _ = _
            simp only [Act.put, List.setIfInBounds_toArray, List.set_cons_zero, List.set_cons_succ, i64_w, i32_w]
            rfl
          refine one_ (i := 13) (N := some 57) (tfs true [14, 2]).toArray rfl rfl (one_of HT_.out (by kernel_rfl)) (by decide) (fun K hK => ?_)
          refine S_append_rows_step k52 (by rfl) (.tmp 52) (.tmp 56) 26 52 (.agg #[(.int .i64 0), (.string ⟨#[]⟩)]) 24 rfl Try.underlying26 info52 rfl (by decide) (by omega) u52 (([] ++ l.take j) ++ [⟨h, s⟩]) (l.drop j) (A.map (·.add (j * 2))) (l.length - j) (c - j) rfl ?hx (flat52 _ _) (HS.out.pick 5 rfl) ?hC HB.out ?hl ?_
          (case hx => rfl)
          (case hC => exact C_dropB (HS.out.pick 3 rfl).rowC.2.2 j (by omega) hc hcj)
          (case hl => (simp; omega))
          intro u57 w11 hs hb
          have n0_ := Aside0.mk ((((((hs.pick 5 rfl).pick 5 rfl).pick 5 rfl).pick 5 rfl).pick 5 rfl)); have n1_ := Aside0.mk (hb); clear HS HB; have HS := n0_; have HB := n1_; clear n0_ n1_; (try simp only [List.eraseIdx_cons_succ, List.eraseIdx_cons_zero] at HS)
          clear hs hb
          obtain ⟨A57, n57, c57, rfl⟩ : ∃ (A : Option Addr) (n c : Nat), u57 = .slice A n c := by obtain ⟨A, c, e, _, _⟩ := (HS.out.pick 5 rfl).reads; exact ⟨A, _, c, e⟩
          have q5 := ((HS.out.pick 2 rfl).cell 2).trans (show _ = some (.slice A l.length c) from rfl)
          have q6 := (HS.out.pick 2 rfl).frozen 2
          refine hK.out _ _ ⟨((HS.out.pick 2 rfl).cell 2).trans rfl, ((HS.out.pick 0 rfl).cell 0).trans rfl, ((HS.out.pick 0 rfl).cell 1).trans rfl⟩ (fun hHeld => ?_)
          clear hK K
          refine norm_ (a' := ?_) ?_ ?_
          rotate_left
          · show Act.put _ (some 57) _ = _
            simp only [Act.put, List.setIfInBounds_toArray, List.set_cons_zero, List.set_cons_succ, i64_w, i32_w]
            rfl
          refine pU 14 58 (tfs true [15, 1]).toArray rfl rfl HT_ ?_
          refine last_ (i := 15) (N := none) (tfs true [16]).toArray rfl rfl (one_of HT_.out (by kernel_rfl)) (by decide) (fun K hK => ?_)
          refine skip_ (w1 := ?_) (by rfl) rfl ?_ ?_
          rotate_left
          · go_simp
            rfl
          clear q5 q6
          have n0_ := Aside0.mk ((HS.out.pick 2 rfl).set 2 (.slice A57 n57 c57) #[.int .i64 sz, .int .i64 sd, .slice A57 n57 c57] rfl); have n1_ := Aside0.mk ((HS.out.pick 2 rfl).below_set (i := 2) (u := .slice A57 n57 c57) HB.out); clear HS HB; have HS := n0_; have HB := n1_; clear n0_ n1_; (try simp only [List.eraseIdx_cons_succ, List.eraseIdx_cons_zero] at HS)
          refine hK.out _ _ ?_
          clear hK K
          refine done_ (done_of HT_.out (by kernel_rfl)) ?_
          clear HT_ HW_
          try clear hHeld
          generalize (World.setCell _ _ _) = w15 at HS HB ⊢
          have q0 := ((HS.out.pick 0 rfl).cell 0).trans (show _ = some (.int .i64 sz) from rfl)
          have q1 := ((HS.out.pick 0 rfl).cell 1).trans (show _ = some (.int .i64 sd) from rfl)
          have q2 := ((HS.out.pick 0 rfl).cell 2).trans (show _ = some (.slice A57 n57 c57) from rfl)
          have q13 := ((HS.out.pick 2 rfl).cell 0).trans (show _ = some (.int .i64 0) from rfl)
          have q14 := ((HS.out.pick 2 rfl).cell 1).trans (show _ = some (.int .i64 0) from rfl)
          have q15 := ((HS.out.pick 2 rfl).cell 2).trans (show _ = some (.slice none 0 0) from rfl)
          have f0 := (HS.out.pick 2 rfl).frozen 0
          have f1 := (HS.out.pick 2 rfl).frozen 1
          have f2 := (HS.out.pick 2 rfl).frozen 2
          go_wp2_with (first | ((with_reducible refine gate_store (t := 28) (p := 4) rfl ?_); refine store_event (t := 28) (p := 4) (v := .tmp 59) (w1 := ?_) rfl rfl rfl ?_ ?_; rotate_left; (focus (first | (go_simp; done) | (go_simp; rfl))); intro w16 hw; have n0_ := Aside0.mk ((HS.out.pick 2 rfl).set3 hw); have n1_ := Aside0.mk ((HS.out.pick 2 rfl).below_set3 HB.out hw); clear HS HB; have HS := n0_; have HB := n1_; clear n0_ n1_; (try simp only [List.eraseIdx_cons_succ, List.eraseIdx_cons_zero] at HS); clear hw))
          (try simp only [Exit.inBlock, Exit.then])
          refine bodyPost_ret (results_cell_row rfl _ _ r 28 _ (0, 0) _ rfl HS.out.blk Try.underlying28 rfl (by kernel_rfl)) rfl ?_
          refine ⟨.slice A57 n57 c57, rfl, ?_, HB.out⟩
          rw [ins_miss _ _ hh, ← hjp.out]
          have := (HS.out.pick 5 rfl).swap.drop.swap.drop.swap.drop.swap.drop.swap.drop
          simpa using this

end Go.Proofs.Ytddhpkobingmhaa.PB
