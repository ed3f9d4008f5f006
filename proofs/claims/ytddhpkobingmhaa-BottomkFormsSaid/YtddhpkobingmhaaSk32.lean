/- Encode of a sketch, and the law's own form of its record: the same bytes. -/
import Derived.Test.YtddhpkobingmhaaSk31

namespace Go.Proofs.Ytddhpkobingmhaa.PB
open Go.RowKit Go.Proofs.YtddhpkobingmhaaW.PrintWords Go.Proofs.YtddhpkobingmhaaW.PrintLast Go.Proofs.YtddhpkobingmhaaW.PrintMore Go.Proofs.Ytddhpkobingmhaa.Sep
set_option linter.unusedVariables false
set_option linter.unusedSimpArgs false
set_option maxHeartbeats 8000000
set_option maxRecDepth 100000

/-- The texts of a list of keys, as a Writer has them. -/
def txB (ks : List S52) : List Int := ks.flatMap fun k => textB k.f1
/-- The form of a sketch. -/
def encF (Kn sn : Nat) (ex : Bool) (ks : List S52) : List Int := ((([] ++ numB Kn) ++ numB sn) ++ numB (b2n ex)) ++ numB ks.length ++ txB ks
theorem txB_take (ks : List S52) (i : Nat) (h : i < ks.length) : txB (ks.take (i + 1)) = txB (ks.take i) ++ textB (rd_T52 ks (i : Int)).f1 := by
  have e : rd_T52 ks (i : Int) = ks[i] := by
    unfold rd_T52
    simp [List.getD_eq_getElem?_getD, List.getElem?_eq_getElem h]
  unfold txB
  rw [List.take_add_one, List.getElem?_eq_getElem h, List.flatMap_append, e]
  simp
theorem rd_sz (ks : List S52) (i : Nat) (h : i < ks.length) (hz : ∀ k ∈ ks, k.f1.size ≤ 5000) : (rd_T52 ks (i : Int)).f1.size ≤ 5000 := by
  have e : rd_T52 ks (i : Int) = ks[i] := by
    unfold rd_T52
    simp [List.getD_eq_getElem?_getD, List.getElem?_eq_getElem h]
  rw [e]
  exact hz _ (List.getElem_mem h)
theorem textB_len (s : ByteArray) (h : s.size ≤ 5000) : (textB s).length ≤ 5009 := by
  have := numB_len s.size (by omega)
  rw [textB, List.length_append, bytesOf_length]; omega
theorem txB_len (ks : List S52) (hz : ∀ k ∈ ks, k.f1.size ≤ 5000) : ∀ i, i ≤ ks.length → (txB (ks.take i)).length ≤ i * 5009
  | 0, _ => by simp [txB]
  | i + 1, h => by
    rw [txB_take ks i h, List.length_append]
    have h1 := txB_len ks hz i (by omega)
    have h2 := textB_len _ (rd_sz ks i h hz)
    omega
theorem meas_w (i n : Nat) (h : i < n) : (n - intOf (.int .i64 ((i : Int) + 1))).toNat < ((n : Int) - intOf (.int .i64 (i : Int))).toNat := by
  simp only [intOf]; omega
theorem b2n_le (b : Bool) : b2n b < 4611686018427387904 := by cases b <;> decide


theorem Encode_open (p Kn sn : Nat) (hK : Kn ≤ 1024) (hs : sn ≤ 1048576) (lt : List S52) (hlt : lt.length ≤ 1024) (hz : ∀ k ∈ lt, k.f1.size ≤ 5000) (A : Option Addr) (c : Nat) (m : Bool) {N : Nat} {w : World} {L : List Res} (HS0 : St N w (Blk p #[.int .i64 Kn, .int .i64 sn, .slice A lt.length c, .bool m] 59 :: Row k52 52 (.slice A lt.length c) lt :: L)) :
    Calls Try.prog 30 #[.pointer (some ⟨p, 0, none⟩)] w fun e w' => e = .returned (.string (strOfNums (encF Kn sn (!m) lt))) ∧ St N w' (Blk p #[.int .i64 Kn, .int .i64 sn, .slice A lt.length c, .bool m] 59 :: Row k52 52 (.slice A lt.length c) lt :: L) ∧ Below N w w' := by
  have HS := Aside0.mk HS0
  have HB := Aside0.mk (Below.refl N w)
  have hzz := Aside0.mk hz
  obtain ⟨bs1, h1⟩ : ∃ l, [] ++ numB Kn = l := ⟨_, rfl⟩
  obtain ⟨bs2, h2⟩ : ∃ l, bs1 ++ numB sn = l := ⟨_, rfl⟩
  obtain ⟨bs3, h3⟩ : ∃ l, bs2 ++ numB (b2n (!m)) = l := ⟨_, rfl⟩
  obtain ⟨bs4, h4⟩ : ∃ l, bs3 ++ numB lt.length = l := ⟨_, rfl⟩
  have z1 := numB_len Kn (by omega)
  have z2 := numB_len sn (by omega)
  have z3 := numB_len (b2n (!m)) (b2n_le _)
  have z4 := numB_len lt.length (by omega)
  have l1' : bs1.length ≤ 9 := by rw [← h1, List.nil_append]; exact z1
  have l2' : bs2.length ≤ 18 := by rw [← h2, List.length_append]; omega
  have l3' : bs3.length ≤ 27 := by rw [← h3, List.length_append]; omega
  have l4' : bs4.length ≤ 36 := by rw [← h4, List.length_append]; omega
  have l1 : Aside0 (bs1.length ≤ 1000000000000) := ⟨by omega⟩
  have l2 : Aside0 (bs2.length ≤ 1000000000000) := ⟨by omega⟩
  have l3 : Aside0 (bs3.length ≤ 1000000000000) := ⟨by omega⟩
  have l4 : Aside0 (bs4.length ≤ 36) := ⟨l4'⟩
  have hE : Aside0 (encF Kn sn (!m) lt = bs4 ++ txB lt) := ⟨by unfold encF; rw [h1, h2, h3, h4]⟩
  clear z1 z2 z3 z4 l1' l2' l3' l4'
  replace h1 := Aside0.mk h1
  replace h2 := Aside0.mk h2
  replace h3 := Aside0.mk h3
  replace h4 := Aside0.mk h4

  rw [hE.out]
  clear HS0 hz hE
  go_enter Try.func30, Try.ntmps30
  go_wp2_with (first | ((with_reducible refine gate_dst (N := 3) rfl ?_); refine box_event ?hg (N := 3) ?hd (cs := #[.slice none 0 0]) (t := 77) ?hr ?_; (case hd => rfl); (case hg => rfl); (case hr => first | (go_simp; done) | (go_simp; rfl)); intro g hg w1 hbox hb; have n0_ := Aside0.mk (HS.out.box hg hbox hb); have n1_ := Aside0.mk (below_step' HB.out HS.out.size hb); clear HS HB; have HS := n0_; have HB := n1_; clear n0_ n1_; (try simp only [List.eraseIdx_cons_succ, List.eraseIdx_cons_zero] at HS); clear hb hbox hg; have n0_ := Aside0.mk (Wr_new HS.out); have n1_ := Aside0.mk (HB.out); clear HS HB; have HS := n0_; have HB := n1_; clear n0_ n1_; (try simp only [List.eraseIdx_cons_succ, List.eraseIdx_cons_zero] at HS); have hc1_0 := ((HS.out.pick 1 rfl).cell 0).trans (show _ = some (.int .i64 Kn) from rfl); have hc1_1 := ((HS.out.pick 1 rfl).cell 1).trans (show _ = some (.int .i64 sn) from rfl); have hc1_2 := ((HS.out.pick 1 rfl).cell 2).trans (show _ = some (.slice A lt.length c) from rfl); have hc1_3 := ((HS.out.pick 1 rfl).cell 3).trans (show _ = some (.bool m) from rfl)) | ((with_reducible refine gate_callee (f := 58) rfl ?_); refine goesL_ (some 12) rfl rfl Try.func58 (by kernel_rfl) rfl #[.pointer (some ⟨g, 0, none⟩), .int .i64 Kn] rfl (by (try simp only [List.map_toArray, List.map_cons, List.map_nil]); first | done | rfl | (simp only [List.length_drop, List.length_take]; rfl)) ?_; (with_reducible refine (Writer_Num g Kn Kn rfl (by omega) [] (by decide) HS.out).mono ?_); rintro e w2 ⟨rfl, hs1, hb⟩; rw [h1.out] at hs1; clear hc1_0 hc1_1 hc1_2 hc1_3; refine ⟨_, rfl, ?_⟩; have n0_ := Aside0.mk (hs1); have n1_ := Aside0.mk (HB.out.trans hb); clear HS HB; have HS := n0_; have HB := n1_; clear n0_ n1_; (try simp only [List.eraseIdx_cons_succ, List.eraseIdx_cons_zero] at HS); clear hs1 hb; have hc1_0 := ((HS.out.pick 1 rfl).cell 0).trans (show _ = some (.int .i64 Kn) from rfl); have hc1_1 := ((HS.out.pick 1 rfl).cell 1).trans (show _ = some (.int .i64 sn) from rfl); have hc1_2 := ((HS.out.pick 1 rfl).cell 2).trans (show _ = some (.slice A lt.length c) from rfl); have hc1_3 := ((HS.out.pick 1 rfl).cell 3).trans (show _ = some (.bool m) from rfl)) | ((with_reducible refine gate_callee (f := 58) rfl ?_); refine goesL_ (some 17) rfl rfl Try.func58 (by kernel_rfl) rfl #[.pointer (some ⟨g, 0, none⟩), .int .i64 sn] rfl (by (try simp only [List.map_toArray, List.map_cons, List.map_nil]); first | done | rfl | (simp only [List.length_drop, List.length_take]; rfl)) ?_; (with_reducible refine (Writer_Num g sn sn rfl (by omega) bs1 l1.out HS.out).mono ?_); rintro e w3 ⟨rfl, hs1, hb⟩; rw [h2.out] at hs1; clear hc1_0 hc1_1 hc1_2 hc1_3; refine ⟨_, rfl, ?_⟩; have n0_ := Aside0.mk (hs1); have n1_ := Aside0.mk (HB.out.trans hb); clear HS HB; have HS := n0_; have HB := n1_; clear n0_ n1_; (try simp only [List.eraseIdx_cons_succ, List.eraseIdx_cons_zero] at HS); clear hs1 hb; have hc1_0 := ((HS.out.pick 1 rfl).cell 0).trans (show _ = some (.int .i64 Kn) from rfl); have hc1_1 := ((HS.out.pick 1 rfl).cell 1).trans (show _ = some (.int .i64 sn) from rfl); have hc1_2 := ((HS.out.pick 1 rfl).cell 2).trans (show _ = some (.slice A lt.length c) from rfl); have hc1_3 := ((HS.out.pick 1 rfl).cell 3).trans (show _ = some (.bool m) from rfl)) | ((with_reducible refine gate_callee (f := 59) rfl ?_); refine goesL_ (some 23) rfl rfl Try.func59 (by kernel_rfl) rfl #[.pointer (some ⟨g, 0, none⟩), .bool (!m)] rfl (by (try simp only [List.map_toArray, List.map_cons, List.map_nil]); first | done | rfl | (simp only [List.length_drop, List.length_take]; rfl)) ?_; (with_reducible refine (Writer_Bool g (!m) bs2 l2.out HS.out).mono ?_); rintro e w4 ⟨rfl, hs1, hb⟩; rw [h3.out] at hs1; clear hc1_0 hc1_1 hc1_2 hc1_3; refine ⟨_, rfl, ?_⟩; have n0_ := Aside0.mk (hs1); have n1_ := Aside0.mk (HB.out.trans hb); clear HS HB; have HS := n0_; have HB := n1_; clear n0_ n1_; (try simp only [List.eraseIdx_cons_succ, List.eraseIdx_cons_zero] at HS); clear hs1 hb; have hc1_0 := ((HS.out.pick 1 rfl).cell 0).trans (show _ = some (.int .i64 Kn) from rfl); have hc1_1 := ((HS.out.pick 1 rfl).cell 1).trans (show _ = some (.int .i64 sn) from rfl); have hc1_2 := ((HS.out.pick 1 rfl).cell 2).trans (show _ = some (.slice A lt.length c) from rfl); have hc1_3 := ((HS.out.pick 1 rfl).cell 3).trans (show _ = some (.bool m) from rfl)) | ((with_reducible refine gate_callee (f := 58) rfl ?_); refine goesL_ (some 29) rfl rfl Try.func58 (by kernel_rfl) rfl #[.pointer (some ⟨g, 0, none⟩), .int .i64 lt.length] rfl (by (try simp only [List.map_toArray, List.map_cons, List.map_nil]); first | done | rfl | (simp only [List.length_drop, List.length_take]; rfl)) ?_; (with_reducible refine (Writer_Num g lt.length lt.length rfl (by omega) bs3 l3.out HS.out).mono ?_); rintro e w5 ⟨rfl, hs1, hb⟩; rw [h4.out] at hs1; clear hc1_0 hc1_1 hc1_2 hc1_3; refine ⟨_, rfl, ?_⟩; have n0_ := Aside0.mk (hs1); have n1_ := Aside0.mk (HB.out.trans hb); clear HS HB; have HS := n0_; have HB := n1_; clear n0_ n1_; (try simp only [List.eraseIdx_cons_succ, List.eraseIdx_cons_zero] at HS); clear hs1 hb; have hc1_0 := ((HS.out.pick 1 rfl).cell 0).trans (show _ = some (.int .i64 Kn) from rfl); have hc1_1 := ((HS.out.pick 1 rfl).cell 1).trans (show _ = some (.int .i64 sn) from rfl); have hc1_2 := ((HS.out.pick 1 rfl).cell 2).trans (show _ = some (.slice A lt.length c) from rfl); have hc1_3 := ((HS.out.pick 1 rfl).cell 3).trans (show _ = some (.bool m) from rfl)))
  go_loopw [35] (fun v35 wc => ∃ (i : Nat) (xs : List Int), i ≤ lt.length ∧ v35 = .int .i64 i ∧ xs = bs4 ++ txB (lt.take i) ∧ Aside0 (St N wc (Wr g xs :: Blk p #[.int .i64 Kn, .int .i64 sn, .slice A lt.length c, .bool m] 59 :: Row k52 52 (.slice A lt.length c) lt :: L)) ∧ Aside0 (Below N w wc)) (fun v35 _ => (lt.length - intOf v35).toNat)
  case atStart => exact ⟨0, bs4, Nat.zero_le _, rfl, by simp [txB], HS, HB⟩
  case round =>
    clear HS HB
    obtain ⟨i, xs, hi, rfl, hxs, HS, HB⟩ := hrel
    by_cases hlt2 : i < lt.length
    · obtain ⟨x, hx⟩ : ∃ x, rd_T52 lt (i : Int) = x := ⟨_, rfl⟩
      obtain ⟨ad, e, hx0, hx1⟩ := at_T52 (HS.out.pick 2 rfl).rowC.2.2 (i : Int) (by omega) (by omega)
      cases e
      rw [Int.toNat_natCast, hx] at hx0 hx1
      have hxs' : Aside0 (xs = bs4 ++ txB (lt.take i)) := ⟨hxs⟩
      have hxl : Aside0 (xs.length ≤ 100000000000) := ⟨by
        have h5 := txB_len lt hzz.out i hi
        rw [hxs, List.length_append]; have := l4.out; omega⟩
      have hxz : Aside0 (x.f1.size ≤ 5000) := ⟨hx ▸ rd_sz lt i hlt2 hzz.out⟩
      have hxs : Aside0 (x.f1.size ≤ 1000000) := ⟨by have := hxz.out; omega⟩
      have q1 : (0 : Int) ≤ (i : Int) := by omega
      have q2 : (i : Int) < (lt.length : Int) := by omega
      have q3 : decide ((i : Int) < (lt.length : Int)) = true := decide_eq_true q2
      have q4 : wrap64 ((i : Int) + 1) = (i : Int) + 1 := wrap64_small _ (by omega) (by omega)
      replace hx := Aside0.mk hx
      go_wp2_with (first | ((with_reducible refine gate_dst (N := 5) rfl ?_); refine box_event ?hg (N := 5) ?hd (cs := #[.int .i64 0, .string ⟨#[]⟩]) (t := 52) ?hr ?_; (case hd => rfl); (case hg => rfl); (case hr => first | (go_simp; done) | (go_simp; rfl)); intro k hg w6 hbox hb; have n0_ := Aside0.mk (HS.out.box hg hbox hb); have n1_ := Aside0.mk (below_step' HB.out HS.out.size hb); clear HS HB; have HS := n0_; have HB := n1_; clear n0_ n1_; (try simp only [List.eraseIdx_cons_succ, List.eraseIdx_cons_zero] at HS); clear hb hbox hg; have hc0_0 := ((HS.out.pick 0 rfl).cell 0).trans (show _ = some (.int .i64 0) from rfl); have hc0_1 := ((HS.out.pick 0 rfl).cell 1).trans (show _ = some (.string ⟨#[]⟩) from rfl); have hf0_0 := (HS.out.pick 0 rfl).frozen 0; have hf0_1 := (HS.out.pick 0 rfl).frozen 1) | ((with_reducible refine gate_store (t := 52) (p := 5) rfl ?_); refine store_event (t := 52) (p := 5) (v := .tmp 38) (w1 := ?_) rfl rfl rfl ?_ ?_; rotate_left; (focus (first | (go_simp; done) | (go_simp; rfl))); intro w7 hw; have n0_ := Aside0.mk (HS.out.set2 hw); have n1_ := Aside0.mk (HS.out.below_set2 HB.out hw); clear HS HB; have HS := n0_; have HB := n1_; clear n0_ n1_; (try simp only [List.eraseIdx_cons_succ, List.eraseIdx_cons_zero] at HS); clear hw; clear hc0_0 hc0_1 hf0_0 hf0_1; have hc0_1 := ((HS.out.pick 0 rfl).cell 1).trans (show _ = some (.string x.f1) from rfl)) | ((with_reducible refine gate_callee (f := 60) rfl ?_); refine goesL_ (some 41) rfl rfl Try.func60 (by kernel_rfl) rfl #[.pointer (some ⟨g, 0, none⟩), .string x.f1] rfl (by (try simp only [List.map_toArray, List.map_cons, List.map_nil]); first | done | rfl | (simp only [List.length_drop, List.length_take]; rfl)) ?_; (with_reducible refine (Writer_Text g x.f1 hxs.out xs hxl.out HS.out.swap).mono ?_); rintro e w8 ⟨rfl, hs1, hb⟩; clear hc0_1; refine ⟨_, rfl, ?_⟩; have n0_ := Aside0.mk (hs1.swap.drop); have n1_ := Aside0.mk (HB.out.trans hb); clear HS HB; have HS := n0_; have HB := n1_; clear n0_ n1_; (try simp only [List.eraseIdx_cons_succ, List.eraseIdx_cons_zero] at HS); clear hs1 hb))
      refine ⟨⟨i + 1, xs ++ textB x.f1, by omega, by go_num, by rw [hxs'.out, txB_take lt i hlt2, hx.out, List.append_assoc], HS, HB⟩, meas_w i lt.length hlt2⟩
    · obtain rfl : i = lt.length := by omega
      have q3 : decide ((lt.length : Int) < (lt.length : Int)) = false := decide_eq_false (by omega)
      rw [List.take_of_length_le (Nat.le_refl _)] at hxs
      subst hxs
      go_wp2_with (first | ((with_reducible refine gate_callee (f := 61) rfl ?_); refine goesL_ (some 43) rfl rfl Try.func61 (by kernel_rfl) rfl #[.pointer (some ⟨g, 0, none⟩)] rfl (by (try simp only [List.map_toArray, List.map_cons, List.map_nil]); first | done | rfl | (simp only [List.length_drop, List.length_take]; rfl)) ?_; (with_reducible refine (Writer_Bytes g _ HS.out).mono ?_); rintro e w9 ⟨rfl, rfl⟩; refine ⟨_, rfl, ?_⟩; have n0_ := Aside0.mk (HS.out); have n1_ := Aside0.mk (HB.out); clear HS HB; have HS := n0_; have HB := n1_; clear n0_ n1_; (try simp only [List.eraseIdx_cons_succ, List.eraseIdx_cons_zero] at HS); skip))
      go_ret
      exact ⟨rfl, HS.out.drop, HB.out⟩

theorem Encode_sk (p Kn sn : Nat) (hK : Kn ≤ 1024) (hs : sn ≤ 1048576) (l : List S52) (hz : ∀ k ∈ l, k.f1.size ≤ 5000) {N : Nat} {w : World} {L : List Res} (HS0 : St N w (Sk p Kn sn l :: L)) :
    Calls Try.prog 30 #[.pointer (some ⟨p, 0, none⟩)] w fun e w' => e = .returned (.string (strOfNums (encF Kn sn (!(decide (Kn < l.length))) (l.take Kn)))) ∧ St N w' (Sk p Kn sn l :: L) ∧ Below N w w' := by
  obtain ⟨v, h1⟩ := Sk_open HS0
  obtain ⟨A, c, e1, _, _⟩ := h1.swap.reads
  subst e1
  refine (Encode_open p Kn sn hK hs (l.take Kn) (by rw [List.length_take]; omega) (fun k hk => hz k (List.mem_of_mem_take hk)) A c _ h1).mono ?_
  rintro e w' ⟨rfl, hs1, hb⟩
  exact ⟨rfl, Sk_shut hs1, hb⟩

theorem kept_to2 (Kn : Nat) (sd : Int) (A : Option Addr) (n c : Nat) (hn : n ≤ c) (hb : n ≤ 1000000) (k : Nat) (hk : min Kn n = k) (w : World) :
    Calls Try.prog 14 #[.agg #[.int .i64 Kn, .int .i64 sd, .slice A n c]] w fun e w' => e = .returned (.slice A k c) ∧ Below w.heap.size w w' := by
  have := kept_ok Kn sd A n c hn hb w
  rwa [hk] at this
theorem rd_tk (l : List S52) (K j : Nat) (h : j < K) : rd_T52 (l.take K) (j : Int) = rd_T52 l (j : Int) := by
  unfold rd_T52
  simp [List.getD_eq_getElem?_getD, List.getElem?_take, h]
theorem form_ok (Kn sn : Nat) (hK : Kn ≤ 1024) (hs : sn ≤ 1048576) (l : List S52) (hl0 : l.length ≤ 1000000) (hz0 : ∀ k ∈ l, k.f1.size ≤ 5000) (A : Option Addr) (c : Nat) {N : Nat} {w : World} {L : List Res} (HS0 : St N w (Row k52 52 (.slice A l.length c) l :: L)) :
    Calls Try.prog 31 #[.agg #[.int .i64 Kn, .int .i64 sn, .slice A l.length c]] w fun e w' => e = .returned (.string (strOfNums (encF Kn sn (!(decide (Kn < l.length))) (l.take Kn)))) ∧ St N w' (Row k52 52 (.slice A l.length c) l :: L) ∧ Below N w w' := by
  have HS := Aside0.mk HS0
  have HB := Aside0.mk (Below.refl N w)
  have hc := Aside0.mk HS0.rowC.2.1
  have hl := Aside0.mk hl0
  obtain ⟨m, hm⟩ : ∃ b, decide (Kn < l.length) = b := ⟨_, rfl⟩
  have hex : Aside0 (sleuthlaw23_state_exact.f (Kn : Int) sn l = some (!m)) := ⟨by
    unfold sleuthlaw23_state_exact.f
    rw [← hm]
    by_cases h : Kn < l.length
    · rw [decide_eq_true h, decide_eq_false (by omega)]; rfl
    · rw [decide_eq_false h, decide_eq_true (by omega)]; rfl⟩
  obtain ⟨lt, hlt'⟩ : ∃ t, l.take Kn = t := ⟨_, rfl⟩
  have hlt : lt.length ≤ 1024 := by rw [← hlt', List.length_take]; omega
  have hk : Aside0 (min Kn l.length = lt.length) := ⟨by rw [← hlt', List.length_take]⟩
  have hz : ∀ k ∈ lt, k.f1.size ≤ 5000 := fun k hk => hz0 k (List.mem_of_mem_take (hlt' ▸ hk))
  have hrd : ∀ i, i < lt.length → rd_T52 l (i : Int) = rd_T52 lt (i : Int) := fun i hi => by rw [← hlt', List.length_take] at hi; rw [← hlt', rd_tk _ _ _ (by omega)]
  have hlt1 : lt.length ≤ l.length := by have := hk.out; omega
  rw [hm, hlt']
  have hzz := Aside0.mk hz
  have hrdd := Aside0.mk hrd
  have hlt2' := Aside0.mk hlt1
  obtain ⟨bs1, h1⟩ : ∃ l, [] ++ numB Kn = l := ⟨_, rfl⟩
  obtain ⟨bs2, h2⟩ : ∃ l, bs1 ++ numB sn = l := ⟨_, rfl⟩
  obtain ⟨bs3, h3⟩ : ∃ l, bs2 ++ numB (b2n (!m)) = l := ⟨_, rfl⟩
  obtain ⟨bs4, h4⟩ : ∃ l, bs3 ++ numB lt.length = l := ⟨_, rfl⟩
  have z1 := numB_len Kn (by omega)
  have z2 := numB_len sn (by omega)
  have z3 := numB_len (b2n (!m)) (b2n_le _)
  have z4 := numB_len lt.length (by omega)
  have l1' : bs1.length ≤ 9 := by rw [← h1, List.nil_append]; exact z1
  have l2' : bs2.length ≤ 18 := by rw [← h2, List.length_append]; omega
  have l3' : bs3.length ≤ 27 := by rw [← h3, List.length_append]; omega
  have l4' : bs4.length ≤ 36 := by rw [← h4, List.length_append]; omega
  have l1 : Aside0 (bs1.length ≤ 1000000000000) := ⟨by omega⟩
  have l2 : Aside0 (bs2.length ≤ 1000000000000) := ⟨by omega⟩
  have l3 : Aside0 (bs3.length ≤ 1000000000000) := ⟨by omega⟩
  have l4 : Aside0 (bs4.length ≤ 36) := ⟨l4'⟩
  have hE : Aside0 (encF Kn sn (!m) lt = bs4 ++ txB lt) := ⟨by unfold encF; rw [h1, h2, h3, h4]⟩
  clear z1 z2 z3 z4 l1' l2' l3' l4'
  replace h1 := Aside0.mk h1
  replace h2 := Aside0.mk h2
  replace h3 := Aside0.mk h3
  replace h4 := Aside0.mk h4

  rw [hE.out]
  clear HS0 hz hE hl0 hz0 hm hlt' hrd hlt1
  go_enter Try.func31, Try.ntmps31
  go_wp2_with (first | ((with_reducible refine gate_dst (N := 1) rfl ?_); refine box_event ?hg (N := 1) ?hd (cs := #[.int .i64 Kn, .int .i64 sn, .slice A l.length c]) (t := 28) ?hr ?_; (case hd => rfl); (case hg => rfl); (case hr => first | (go_simp; done) | (go_simp; rfl)); intro b hg w1 hbox hb; have n0_ := Aside0.mk (HS.out.box hg hbox hb); have n1_ := Aside0.mk (below_step' HB.out HS.out.size hb); clear HS HB; have HS := n0_; have HB := n1_; clear n0_ n1_; (try simp only [List.eraseIdx_cons_succ, List.eraseIdx_cons_zero] at HS); clear hb hbox hg) | ((with_reducible refine gate_dst (N := 3) rfl ?_); refine box_event ?hg (N := 3) ?hd (cs := #[.slice none 0 0]) (t := 77) ?hr ?_; (case hd => rfl); (case hg => rfl); (case hr => first | (go_simp; done) | (go_simp; rfl)); intro g hg w2 hbox hb; have n0_ := Aside0.mk (HS.out.box hg hbox hb); have n1_ := Aside0.mk (below_step' HB.out HS.out.size hb); clear HS HB; have HS := n0_; have HB := n1_; clear n0_ n1_; (try simp only [List.eraseIdx_cons_succ, List.eraseIdx_cons_zero] at HS); clear hb hbox hg; have n0_ := Aside0.mk (Wr_new HS.out); have n1_ := Aside0.mk (HB.out); clear HS HB; have HS := n0_; have HB := n1_; clear n0_ n1_; (try simp only [List.eraseIdx_cons_succ, List.eraseIdx_cons_zero] at HS); have hc1_0 := ((HS.out.pick 1 rfl).cell 0).trans (show _ = some (.int .i64 Kn) from rfl); have hc1_1 := ((HS.out.pick 1 rfl).cell 1).trans (show _ = some (.int .i64 sn) from rfl); have hc1_2 := ((HS.out.pick 1 rfl).cell 2).trans (show _ = some (.slice A l.length c) from rfl)) | ((with_reducible refine gate_callee (f := 14) rfl ?_); refine goesL_ (some 7) rfl rfl Try.func14 (by kernel_rfl) rfl #[.agg #[.int .i64 Kn, .int .i64 sn, .slice A l.length c]] rfl (by (try simp only [List.map_toArray, List.map_cons, List.map_nil]); first | done | rfl | (simp only [List.length_drop, List.length_take]; rfl)) ?_; (with_reducible refine (kept_to2 Kn sn A l.length c hc.out hl.out lt.length hk.out _).mono ?_); rintro e w3 ⟨rfl, hb⟩; clear hc1_0 hc1_1 hc1_2; refine ⟨_, rfl, ?_⟩; have n0_ := Aside0.mk (HS.out.step hb); have n1_ := Aside0.mk (below_step' HB.out HS.out.size hb); clear HS HB; have HS := n0_; have HB := n1_; clear n0_ n1_; (try simp only [List.eraseIdx_cons_succ, List.eraseIdx_cons_zero] at HS); clear hb; have hc1_0 := ((HS.out.pick 1 rfl).cell 0).trans (show _ = some (.int .i64 Kn) from rfl); have hc1_1 := ((HS.out.pick 1 rfl).cell 1).trans (show _ = some (.int .i64 sn) from rfl); have hc1_2 := ((HS.out.pick 1 rfl).cell 2).trans (show _ = some (.slice A l.length c) from rfl)) | ((with_reducible refine gate_callee (f := 58) rfl ?_); refine goesL_ (some 10) rfl rfl Try.func58 (by kernel_rfl) rfl #[.pointer (some ⟨g, 0, none⟩), .int .i64 Kn] rfl (by (try simp only [List.map_toArray, List.map_cons, List.map_nil]); first | done | rfl | (simp only [List.length_drop, List.length_take]; rfl)) ?_; (with_reducible refine (Writer_Num g Kn Kn rfl (by omega) [] (by decide) HS.out).mono ?_); rintro e w4 ⟨rfl, hs1, hb⟩; rw [h1.out] at hs1; (try clear hc1_0 hc1_1 hc1_2); refine ⟨_, rfl, ?_⟩; have n0_ := Aside0.mk (hs1); have n1_ := Aside0.mk (HB.out.trans hb); clear HS HB; have HS := n0_; have HB := n1_; clear n0_ n1_; (try simp only [List.eraseIdx_cons_succ, List.eraseIdx_cons_zero] at HS); clear hs1 hb; have hc1_0 := ((HS.out.pick 1 rfl).cell 0).trans (show _ = some (.int .i64 Kn) from rfl); have hc1_1 := ((HS.out.pick 1 rfl).cell 1).trans (show _ = some (.int .i64 sn) from rfl); have hc1_2 := ((HS.out.pick 1 rfl).cell 2).trans (show _ = some (.slice A l.length c) from rfl)) | ((with_reducible refine gate_callee (f := 58) rfl ?_); refine goesL_ (some 13) rfl rfl Try.func58 (by kernel_rfl) rfl #[.pointer (some ⟨g, 0, none⟩), .int .i64 sn] rfl (by (try simp only [List.map_toArray, List.map_cons, List.map_nil]); first | done | rfl | (simp only [List.length_drop, List.length_take]; rfl)) ?_; (with_reducible refine (Writer_Num g sn sn rfl (by omega) bs1 l1.out HS.out).mono ?_); rintro e w5 ⟨rfl, hs1, hb⟩; rw [h2.out] at hs1; (try clear hc1_0 hc1_1 hc1_2); refine ⟨_, rfl, ?_⟩; have n0_ := Aside0.mk (hs1); have n1_ := Aside0.mk (HB.out.trans hb); clear HS HB; have HS := n0_; have HB := n1_; clear n0_ n1_; (try simp only [List.eraseIdx_cons_succ, List.eraseIdx_cons_zero] at HS); clear hs1 hb; have hc1_0 := ((HS.out.pick 1 rfl).cell 0).trans (show _ = some (.int .i64 Kn) from rfl); have hc1_1 := ((HS.out.pick 1 rfl).cell 1).trans (show _ = some (.int .i64 sn) from rfl); have hc1_2 := ((HS.out.pick 1 rfl).cell 2).trans (show _ = some (.slice A l.length c) from rfl)) | ((with_reducible refine gate_callee (f := 15) rfl ?_); refine goesL_ (some 15) rfl rfl Try.func15 (by kernel_rfl) rfl #[.agg #[.int .i64 Kn, .int .i64 sn, .slice A l.length c]] rfl (by (try simp only [List.map_toArray, List.map_cons, List.map_nil]); first | done | rfl | (simp only [List.length_drop, List.length_take]; rfl)) ?_; (with_reducible refine (sleuthlaw23_state_exact.calls _ _ A c l (!m) _ (HS.out.pick 2 rfl).rowC.2.2 hc.out hex.out).mono ?_); rintro e w6 ⟨rfl, hb⟩; clear hc1_0 hc1_1 hc1_2; refine ⟨_, rfl, ?_⟩; have n0_ := Aside0.mk (HS.out.step hb); have n1_ := Aside0.mk (below_step' HB.out HS.out.size hb); clear HS HB; have HS := n0_; have HB := n1_; clear n0_ n1_; (try simp only [List.eraseIdx_cons_succ, List.eraseIdx_cons_zero] at HS); clear hb) | ((with_reducible refine gate_callee (f := 59) rfl ?_); refine goesL_ (some 16) rfl rfl Try.func59 (by kernel_rfl) rfl #[.pointer (some ⟨g, 0, none⟩), .bool (!m)] rfl (by (try simp only [List.map_toArray, List.map_cons, List.map_nil]); first | done | rfl | (simp only [List.length_drop, List.length_take]; rfl)) ?_; (with_reducible refine (Writer_Bool g (!m) bs2 l2.out HS.out).mono ?_); rintro e w7 ⟨rfl, hs1, hb⟩; rw [h3.out] at hs1; refine ⟨_, rfl, ?_⟩; have n0_ := Aside0.mk (hs1); have n1_ := Aside0.mk (HB.out.trans hb); clear HS HB; have HS := n0_; have HB := n1_; clear n0_ n1_; (try simp only [List.eraseIdx_cons_succ, List.eraseIdx_cons_zero] at HS); clear hs1 hb; have hc1_0 := ((HS.out.pick 1 rfl).cell 0).trans (show _ = some (.int .i64 Kn) from rfl); have hc1_1 := ((HS.out.pick 1 rfl).cell 1).trans (show _ = some (.int .i64 sn) from rfl); have hc1_2 := ((HS.out.pick 1 rfl).cell 2).trans (show _ = some (.slice A l.length c) from rfl)) | ((with_reducible refine gate_callee (f := 58) rfl ?_); refine goesL_ (some 19) rfl rfl Try.func58 (by kernel_rfl) rfl #[.pointer (some ⟨g, 0, none⟩), .int .i64 lt.length] rfl (by (try simp only [List.map_toArray, List.map_cons, List.map_nil]); first | done | rfl | (simp only [List.length_drop, List.length_take]; rfl)) ?_; (with_reducible refine (Writer_Num g lt.length lt.length rfl (by omega) bs3 l3.out HS.out).mono ?_); rintro e w8 ⟨rfl, hs1, hb⟩; rw [h4.out] at hs1; (try clear hc1_0 hc1_1 hc1_2); refine ⟨_, rfl, ?_⟩; have n0_ := Aside0.mk (hs1); have n1_ := Aside0.mk (HB.out.trans hb); clear HS HB; have HS := n0_; have HB := n1_; clear n0_ n1_; (try simp only [List.eraseIdx_cons_succ, List.eraseIdx_cons_zero] at HS); clear hs1 hb; have hc1_0 := ((HS.out.pick 1 rfl).cell 0).trans (show _ = some (.int .i64 Kn) from rfl); have hc1_1 := ((HS.out.pick 1 rfl).cell 1).trans (show _ = some (.int .i64 sn) from rfl); have hc1_2 := ((HS.out.pick 1 rfl).cell 2).trans (show _ = some (.slice A l.length c) from rfl)))
  go_loopw [5] (fun v5 wc => ∃ (i : Nat) (xs : List Int), i ≤ lt.length ∧ v5 = .int .i64 i ∧ xs = bs4 ++ txB (lt.take i) ∧ Aside0 (St N wc (Wr g xs :: Blk b #[.int .i64 Kn, .int .i64 sn, .slice A l.length c] 28 :: Row k52 52 (.slice A l.length c) l :: L)) ∧ Aside0 (Below N w wc)) (fun v5 _ => (lt.length - intOf v5).toNat)
  case atStart => exact ⟨0, bs4, Nat.zero_le _, rfl, by simp [txB], HS, HB⟩
  case round =>
    clear HS HB
    obtain ⟨i, xs, hi, rfl, hxs, HS, HB⟩ := hrel
    by_cases hlt2 : i < lt.length
    · obtain ⟨x, hx⟩ : ∃ x, rd_T52 lt (i : Int) = x := ⟨_, rfl⟩
      obtain ⟨ad, e, hx0, hx1⟩ := at_T52 (HS.out.pick 2 rfl).rowC.2.2 (i : Int) (by omega) (by have := hlt2'.out; omega)
      cases e
      rw [Int.toNat_natCast, hrdd.out i hlt2, hx] at hx0 hx1
      have hxs' : Aside0 (xs = bs4 ++ txB (lt.take i)) := ⟨hxs⟩
      have hxl : Aside0 (xs.length ≤ 100000000000) := ⟨by
        have h5 := txB_len lt hzz.out i hi
        rw [hxs, List.length_append]; have := l4.out; omega⟩
      have hxz : Aside0 (x.f1.size ≤ 5000) := ⟨hx ▸ rd_sz lt i hlt2 hzz.out⟩
      have hxs : Aside0 (x.f1.size ≤ 1000000) := ⟨by have := hxz.out; omega⟩
      have q1 : (0 : Int) ≤ (i : Int) := by omega
      have q2 : (i : Int) < (lt.length : Int) := by omega
      have q3 : decide ((i : Int) < (lt.length : Int)) = true := decide_eq_true q2
      have q4 : wrap64 ((i : Int) + 1) = (i : Int) + 1 := wrap64_small _ (by omega) (by omega)
      replace hx := Aside0.mk hx
      go_wp2_with (first | ((with_reducible refine gate_callee (f := 60) rfl ?_); refine goesL_ (some 31) rfl rfl Try.func60 (by kernel_rfl) rfl #[.pointer (some ⟨g, 0, none⟩), .string x.f1] rfl (by (try simp only [List.map_toArray, List.map_cons, List.map_nil]); first | done | rfl | (simp only [List.length_drop, List.length_take]; rfl)) ?_; (with_reducible refine (Writer_Text g x.f1 hxs.out xs hxl.out HS.out).mono ?_); rintro e w9 ⟨rfl, hs1, hb⟩; refine ⟨_, rfl, ?_⟩; have n0_ := Aside0.mk (hs1); have n1_ := Aside0.mk (HB.out.trans hb); clear HS HB; have HS := n0_; have HB := n1_; clear n0_ n1_; (try simp only [List.eraseIdx_cons_succ, List.eraseIdx_cons_zero] at HS); clear hs1 hb))
      refine ⟨⟨i + 1, xs ++ textB x.f1, by omega, by go_num, by rw [hxs'.out, txB_take lt i hlt2, hx.out, List.append_assoc], HS, HB⟩, meas_w i lt.length hlt2⟩
    · obtain rfl : i = lt.length := by omega
      have q3 : decide ((lt.length : Int) < (lt.length : Int)) = false := decide_eq_false (by omega)
      rw [List.take_of_length_le (Nat.le_refl _)] at hxs
      subst hxs
      go_wp2_with (first | ((with_reducible refine gate_callee (f := 61) rfl ?_); refine goesL_ (some 32) rfl rfl Try.func61 (by kernel_rfl) rfl #[.pointer (some ⟨g, 0, none⟩)] rfl (by (try simp only [List.map_toArray, List.map_cons, List.map_nil]); first | done | rfl | (simp only [List.length_drop, List.length_take]; rfl)) ?_; (with_reducible refine (Writer_Bytes g _ HS.out).mono ?_); rintro e w9 ⟨rfl, rfl⟩; refine ⟨_, rfl, ?_⟩; have n0_ := Aside0.mk (HS.out); have n1_ := Aside0.mk (HB.out); clear HS HB; have HS := n0_; have HB := n1_; clear n0_ n1_; (try simp only [List.eraseIdx_cons_succ, List.eraseIdx_cons_zero] at HS); skip))
      go_ret
      exact ⟨rfl, HS.out.drop.drop, HB.out⟩

end Go.Proofs.Ytddhpkobingmhaa.PB
