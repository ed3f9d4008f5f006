/- The law's own decode, walked: the first error of a form. -/
import Derived.Test.YtddhpkobingmhaaSk36

namespace Go.Proofs.Ytddhpkobingmhaa.PB
open Go.RowKit Go.Proofs.YtddhpkobingmhaaW.PrintWords Go.Proofs.YtddhpkobingmhaaW.PrintLast Go.Proofs.YtddhpkobingmhaaW.PrintMore Go.Proofs.Ytddhpkobingmhaa.Sep
set_option linter.unusedVariables false
set_option linter.unusedSimpArgs false
set_option maxHeartbeats 16000000
set_option maxRecDepth 100000

theorem End_to (g : Nat) (s : ByteArray) (hs : s.size ≤ 140737488355328) (a : Nat) (er v : Int) (h : (if er = 0 then (if a < s.size then (3 : Int) else 0) else er) = v) {N : Nat} {w : World} {L : List Res} (HS0 : St N w (Blk g #[.string s, .int .i64 a, .int .i64 er] 98 :: L)) :
    Calls Try.prog 56 #[.pointer (some ⟨g, 0, none⟩)] w fun e w' => e = .returned (.int .i64 v) ∧ St N w' (Blk g #[.string s, .int .i64 a, .int .i64 er] 98 :: L) ∧ Below N w w' := by
  have := Rd_End g s hs a er HS0
  rwa [h] at this

theorem share {T G : Prop} (main : Aside0 T → G) (key : T) : G := main ⟨key⟩
theorem before_to (x y : S52) (b : Bool) (h : decide (Bf x y) = b) (w : World) : Calls Try.prog 57 #[.agg #[.int .i64 x.f0, .string x.f1], .agg #[.int .i64 y.f0, .string y.f1]] w fun e w' => e = .returned (.bool b) ∧ Below w.heap.size w w' :=
  sleuthlaw23_before.calls _ _ _ _ _ _ (by rw [before_ok, h])
theorem ord_step1 (xs : List S52) (m m1 : Nat) (u v : S52) (h1 : m + 1 = m1) (hom : ordN xs m1 = true) (hu : rd_T52 xs (m : Int) = u) (hv : rd_T52 xs (m1 : Int) = v) (h : Bf u v) : ordN xs (m1 + 1) = true := by
  subst h1
  exact ord_step xs m u v hom hu hv h
theorem m_lt {m m1 n : Nat} (h1 : m + 1 = m1) (h : m1 < n) : m < n := by omega
theorem m1_facts (m m1 n : Nat) (h1 : m + 1 = m1) (h : m1 < n) (hn : n ≤ 1024) : decide ((m1 : Int) < (n : Int)) = true ∧ wrap64 ((m1 : Int) - 1) = (m : Int) ∧ wrap64 (m : Int) = (m : Int) ∧ (0 : Int) ≤ (m : Int) ∧ (m : Int) < (n : Int) ∧ (m1 : Int) < (n : Int) :=
  ⟨decide_eq_true (by omega), by rw [wrap64_small _ (by omega) (by omega)]; omega, wrap64_small _ (by omega) (by omega), by omega, by omega, by omega⟩
theorem map_rd (k2 : List ByteArray) (sd : Int) (m : Nat) (t : ByteArray) (h : m < k2.length) (e : rdOf ByteArray.empty k2 (m : Int) = t) : rd_T52 (k2.map (kyOf sd)) (m : Int) = kyOf sd t := by
  rw [← e, rdOf_at k2 m h]
  unfold rd_T52
  simp [List.getD_eq_getElem?_getD, List.getElem?_eq_getElem h]

def lde.T24 : Bool × List (List Nat × List Nat) := (true, [([], []), ([0], [0]), ([], []), ([], []), ([3], [3]), ([2, 4], [2, 4]), ([5], [5]), ([1, 6], [1, 6]), ([], []), ([], []), ([9], [9]), ([8, 10], [8, 10]), ([11], [11]), ([7, 12], [7, 12]), ([], []), ([14], [14]), ([], []), ([], []), ([16, 17], [16, 17]), ([18], [18]), ([15, 19, 7], [15, 19]), ([], []), ([], []), ([21, 22], [21, 22]), ([23], [23]), ([20, 24], [20, 24]), ([], []), ([], []), ([26, 13, 20, 0, 1, 2, 3, 4, 5, 6, 7, 8, 9, 10, 11, 12, 13, 26, 27], [13, 26]), ([27, 25, 28, 0, 1, 2, 3, 4, 5, 6, 7, 8, 9, 10, 11, 12, 13, 14, 15, 16, 17, 18, 19, 20, 21, 22, 23, 24, 25, 26, 27, 28], [25, 27])])
def lde.B24 : List Nat := [0, 1, 0, 0, 8, 28, 60, 127, 0, 0, 512, 1792, 3840, 8191, 0, 16384, 0, 0, 196608, 458752, 1032447, 0, 0, 6291456, 14680064, 33538303, 0, 0, 203423743, 536870911]
theorem lde.tab24 : rtab .any (opsOf Try.f29 24) = lde.T24 := by kernel_rfl
theorem lde.bits24 : waitsOk lde.T24.2 lde.B24 = true := by kernel_rfl
theorem decode_law (s : ByteArray) (hs0 : s.size ≤ 140737488355328) (sz sd : Int) (ex : Bool) (a1 a2 a3 a4 : Nat) (x1 x2 x3 x4 n : Int) (H10 : numS s 0 0 = (sz, a1, x1)) (H20 : numS s a1 x1 = (sd, a2, x2)) (H30 : boolS s a2 x2 = (ex, a3, x3)) (H40 : cntS s a3 x3 1024 = (n, a4, x4)) (ks : List ByteArray) (af : Nat) (ef : Int) (HT0 : rdT s n.toNat a4 x4 = (ks, af, ef)) (E : Int) (hE0 : decR s sz sd ex ks af ef = E) {N : Nat} {w : World} {L : List Res} (HS0 : St N w L) :
    Calls Try.prog 29 #[.string s] w fun e w' => e = .returned (.int .i64 E) ∧ St N w' L ∧ Below N w w' := by
  have HS := Aside0.mk HS0
  have HB := Aside0.mk (Below.refl N w)
  have l1 : a1 ≤ s.size := by have := numS_le s 0 0 (Nat.zero_le _); rwa [H10] at this
  have l2 : a2 ≤ s.size := by have := numS_le s a1 x1 l1; rwa [H20] at this
  have l3 : a3 ≤ s.size := by have := boolS_le s a2 x2 l2; rwa [H30] at this
  have l4 := cntS_le s a3 x3 l3
  rw [H40] at l4
  obtain ⟨l4, ln0, ln1, lnx⟩ := l4
  simp only at l4 ln0 ln1 lnx
  obtain ⟨n', rfl⟩ : ∃ k : Nat, n = (k : Int) := ⟨n.toNat, by omega⟩
  rw [Int.toNat_natCast] at HT0
  have H1 := Aside0.mk H10
  have H2 := Aside0.mk H20
  have H3 := Aside0.mk H30
  have H4 := Aside0.mk H40
  have HT := Aside0.mk HT0
  have hE := Aside0.mk hE0
  have hs := Aside0.mk hs0
  have ln1' : n' ≤ 1024 := by omega
  have lnx' : x4 ≠ 0 → n' = 0 := fun h => by have := lnx h; omega
  clear HS0 H10 H20 H30 H40 HT0 hE0 hs0 l1 l2 l3 ln0 ln1 lnx
  go_enter Try.func29, Try.ntmps29
  go_wp2_with (first | ((with_reducible refine gate_callee (f := 48) rfl ?_); refine goesL_ (some 16) rfl rfl Try.func48 (by kernel_rfl) rfl #[.string s] rfl (by (try simp only [List.map_toArray, List.map_cons, List.map_nil]); first | done | rfl | (simp only [List.length_drop, List.length_take]; rfl)) ?_; (with_reducible refine (Rd_New s HS.out).mono ?_); rintro e w1 ⟨g, rfl, hs1, hb⟩; refine ⟨_, rfl, ?_⟩; have n0_ := Aside0.mk (hs1); have n1_ := Aside0.mk (HB.out.trans hb); clear HS HB; have HS := n0_; have HB := n1_; clear n0_ n1_; (try simp only [List.eraseIdx_cons_succ, List.eraseIdx_cons_zero] at HS); clear hs1 hb) | ((with_reducible refine gate_callee (f := 49) rfl ?_); refine goesL_ (some 18) rfl rfl Try.func49 (by kernel_rfl) rfl #[.pointer (some ⟨g, 0, none⟩)] rfl (by (try simp only [List.map_toArray, List.map_cons, List.map_nil]); first | done | rfl | (simp only [List.length_drop, List.length_take]; rfl)) ?_; (with_reducible refine (Number_to g s hs.out 0 0 sz a1 x1 H1.out HS.out).mono ?_); rintro e w2 ⟨rfl, hs1, hb⟩; refine ⟨_, rfl, ?_⟩; have n0_ := Aside0.mk (hs1); have n1_ := Aside0.mk (HB.out.trans hb); clear HS HB; have HS := n0_; have HB := n1_; clear n0_ n1_; (try simp only [List.eraseIdx_cons_succ, List.eraseIdx_cons_zero] at HS); clear hs1 hb) | ((with_reducible refine gate_callee (f := 49) rfl ?_); refine goesL_ (some 20) rfl rfl Try.func49 (by kernel_rfl) rfl #[.pointer (some ⟨g, 0, none⟩)] rfl (by (try simp only [List.map_toArray, List.map_cons, List.map_nil]); first | done | rfl | (simp only [List.length_drop, List.length_take]; rfl)) ?_; (with_reducible refine (Number_to g s hs.out a1 x1 sd a2 x2 H2.out HS.out).mono ?_); rintro e w3 ⟨rfl, hs1, hb⟩; refine ⟨_, rfl, ?_⟩; have n0_ := Aside0.mk (hs1); have n1_ := Aside0.mk (HB.out.trans hb); clear HS HB; have HS := n0_; have HB := n1_; clear n0_ n1_; (try simp only [List.eraseIdx_cons_succ, List.eraseIdx_cons_zero] at HS); clear hs1 hb) | ((with_reducible refine gate_dst (N := 4) rfl ?_); refine box_event ?hg (N := 4) ?hd (cs := #[.int .i64 0, .int .i64 0, .slice none 0 0]) (t := 28) ?hr ?_; (case hd => rfl); (case hg => rfl); (case hr => first | (go_simp; done) | (go_simp; rfl)); intro q hg w4 hbox hb; have n0_ := Aside0.mk (HS.out.box hg hbox hb); have n1_ := Aside0.mk (below_step' HB.out HS.out.size hb); clear HS HB; have HS := n0_; have HB := n1_; clear n0_ n1_; (try simp only [List.eraseIdx_cons_succ, List.eraseIdx_cons_zero] at HS); clear hb hbox hg; have hc0_0 := ((HS.out.pick 0 rfl).cell 0).trans (show _ = some (.int .i64 0) from rfl); have hc0_1 := ((HS.out.pick 0 rfl).cell 1).trans (show _ = some (.int .i64 0) from rfl); have hc0_2 := ((HS.out.pick 0 rfl).cell 2).trans (show _ = some (.slice none 0 0) from rfl); have hf0_0 := (HS.out.pick 0 rfl).frozen 0; have hf0_1 := (HS.out.pick 0 rfl).frozen 1; have hf0_2 := (HS.out.pick 0 rfl).frozen 2) | ((with_reducible refine gate_store (t := 28) (p := 4) rfl ?_); refine store_event (t := 28) (p := 4) (v := .tmp 21) (w1 := ?_) rfl rfl rfl ?_ ?_; rotate_left; (focus (first | (go_simp; done) | (go_simp; rfl))); intro w5 hw; have n0_ := Aside0.mk ((HS.out.set3 hw).swap); have n1_ := Aside0.mk (HS.out.below_set3 HB.out hw); clear HS HB; have HS := n0_; have HB := n1_; clear n0_ n1_; (try simp only [List.eraseIdx_cons_succ, List.eraseIdx_cons_zero] at HS); clear hw; clear hc0_0 hc0_1 hc0_2 hf0_0 hf0_1 hf0_2) | ((with_reducible refine gate_callee (f := 50) rfl ?_); refine goesL_ (some 23) rfl rfl Try.func50 (by kernel_rfl) rfl #[.pointer (some ⟨g, 0, none⟩)] rfl (by (try simp only [List.map_toArray, List.map_cons, List.map_nil]); first | done | rfl | (simp only [List.length_drop, List.length_take]; rfl)) ?_; (with_reducible refine (Bool_to g s hs.out a2 x2 ex a3 x3 H3.out HS.out).mono ?_); rintro e w6 ⟨rfl, hs1, hb⟩; refine ⟨_, rfl, ?_⟩; have n0_ := Aside0.mk (hs1); have n1_ := Aside0.mk (HB.out.trans hb); clear HS HB; have HS := n0_; have HB := n1_; clear n0_ n1_; (try simp only [List.eraseIdx_cons_succ, List.eraseIdx_cons_zero] at HS); clear hs1 hb) | ((with_reducible refine gate_callee (f := 51) rfl ?_); refine goesL_ (some 25) rfl rfl Try.func51 (by kernel_rfl) rfl #[.pointer (some ⟨g, 0, none⟩), .int .i64 1024] rfl (by (try simp only [List.map_toArray, List.map_cons, List.map_nil]); first | done | rfl | (simp only [List.length_drop, List.length_take]; rfl)) ?_; (with_reducible refine (Count_to g s hs.out a3 x3 _ a4 x4 H4.out HS.out).mono ?_); rintro e w7 ⟨rfl, hs1, hb⟩; refine ⟨_, rfl, ?_⟩; have n0_ := Aside0.mk (hs1); have n1_ := Aside0.mk (HB.out.trans hb); clear HS HB; have HS := n0_; have HB := n1_; clear n0_ n1_; (try simp only [List.eraseIdx_cons_succ, List.eraseIdx_cons_zero] at HS); clear hs1 hb))
  go_loopw [7, 8] (fun v7 v8 wc => ∃ (i : Nat) (k2 : List ByteArray) (a : Nat) (e : Int) (A : Option Addr) (c : Nat), i ≤ n' ∧ v8 = .int .i64 i ∧ v7 = .slice A k2.length c ∧ k2.length = i ∧ (∀ t ∈ k2, t.size ≤ 4096) ∧ a ≤ s.size ∧ ((e = 0 ∧ (k2 ++ (rdT s (n' - i) a e).1, (rdT s (n' - i) a e).2) = (ks, af, ef)) ∨ (e ≠ 0 ∧ ef = e)) ∧ Aside0 (St N wc (Blk g #[.string s, .int .i64 a, .int .i64 e] 98 :: Blk q #[.int .i64 sz, .int .i64 sd, .slice none 0 0] 28 :: Row Kd.string 9 (.slice A k2.length c) k2 :: L)) ∧ Aside0 (Below N w wc)) (fun _ v8 _ => (n' - intOf v8).toNat)
  case atStart =>
    refine ⟨0, [], a4, x4, none, 0, Nat.zero_le _, rfl, rfl, rfl, fun _ h => absurd h List.not_mem_nil, l4, ?_, ⟨(HS.out.rowNil.pick 2 rfl).pick 2 rfl⟩, HB⟩
    have hT := HT.out
    by_cases hx : x4 = 0
    · exact .inl ⟨hx, by rw [Nat.sub_zero, List.nil_append]; exact hT⟩
    · rw [lnx' hx, rdT] at hT
      exact .inr ⟨hx, (congrArg (fun z => z.2.2) hT).symm⟩
  case round =>
    clear HS HB
    obtain ⟨i, k2, a, e, A, c, hi, rfl, rfl, hkl, hkz, hal, hst, HS, HB⟩ := hrel
    replace hkz := Aside0.mk hkz
    replace hkl := Aside0.mk hkl
    by_cases he : e = 0
    · subst he
      obtain ⟨_, hTT⟩ : (0 : Int) = 0 ∧ (k2 ++ (rdT s (n' - i) a 0).1, (rdT s (n' - i) a 0).2) = (ks, af, ef) := hst.elim id (fun h => absurd rfl h.1)
      by_cases hlt : i < n'
      · obtain ⟨t, a', e', ht⟩ : ∃ t a' e', txtS s a 0 4096 = (t, a', e') := ⟨_, _, _, rfl⟩
        have hal' := txtS_le s a 0 hal
        rw [ht] at hal'
        obtain ⟨hal', hts⟩ := hal'
        simp only at hal' hts
        have q4 : wrap64 ((i : Int) + 1) = (i : Int) + 1 := inc_sm hlt ln1'
        rw [show n' - i = (n' - (i + 1)) + 1 by omega] at hTT
        obtain ⟨k3, hk2⟩ : ∃ l, k2 ++ [t] = l := ⟨_, rfl⟩
        have hk3 : Aside0 (k3.length = i + 1) := ⟨by rw [← hk2, List.length_append, hkl.out]; rfl⟩
        have hkz3 : Aside0 (∀ t ∈ k3, t.size ≤ 4096) := ⟨by rw [← hk2]; exact all_snoc hkz.out hts⟩
        have hkl' : Aside0 ((k2.length + 1) * 16 ≤ 140737488355328) := ⟨by rw [hkl.out]; omega⟩
        have hlt' := Aside0.mk hlt
        have haa := Aside0.mk hal'
        have hst3 : Aside0 ((e' = 0 ∧ (k3 ++ (rdT s (n' - (i + 1)) a' e').1, (rdT s (n' - (i + 1)) a' e').2) = (ks, af, ef)) ∨ (e' ≠ 0 ∧ ef = e')) := ⟨by
          by_cases he' : e' = 0
          · subst he'
            have := rdT_ok s (n' - (i + 1)) a t a' ht k2 _ hTT
            rw [hk2] at this
            exact .inl ⟨rfl, this⟩
          · have := rdT_bad s (n' - (i + 1)) a t a' e' he' ht k2 _ hTT
            simp only [Prod.mk.injEq] at this
            exact .inr ⟨he', this.2.2.symm⟩⟩
        replace hk2 := Aside0.mk hk2
        replace ht := Aside0.mk ht
        clear hTT hal hts hal' hst hi lnx'
        go_wp2_with (first | (go_at_call 53; (with_reducible refine (Rd_Err g s hs.out a 0 HS.out).mono ?_); rintro e wz ⟨rfl, rfl⟩) | ((with_reducible refine gate_callee (f := 52) rfl ?_); refine goesL_ (some 38) rfl rfl Try.func52 (by kernel_rfl) rfl #[.pointer (some ⟨g, 0, none⟩), .int .i64 4096] rfl (by (try simp only [List.map_toArray, List.map_cons, List.map_nil]); first | done | rfl | (simp only [List.length_drop, List.length_take]; rfl)) ?_; (with_reducible refine (Text_to g s hs.out a 0 _ _ _ ht.out HS.out).mono ?_); rintro e w8 ⟨rfl, hs1, hb⟩; refine ⟨_, rfl, ?_⟩; have n0_ := Aside0.mk (hs1); have n1_ := Aside0.mk (HB.out.trans hb); clear HS HB; have HS := n0_; have HB := n1_; clear n0_ n1_; (try simp only [List.eraseIdx_cons_succ, List.eraseIdx_cons_zero] at HS); clear hs1 hb) | ((with_reducible refine gate_dst (N := 39) rfl ?_); refine S_lit Kd.string 9 ?hg39 (Nt := 39) ?hd39 (xs := ([t] : List ByteArray)) (inner := [.string t]) ?hr39 ?hp39 HS.out (by simp) ?_; (case hd39 => rfl); (case hg39 => rfl); (case hr39 => first | (go_simp; done) | (go_simp; rfl)); (case hp39 => exact Reps.one (show Kd.M Kd.string _ _ _ t [.string t] from rfl) (Reps.none _ _)); intro vl w9 hs hb; have n0_ := Aside0.mk (hs); have n1_ := Aside0.mk (below_step' HB.out HS.out.size hb); clear HS HB; have HS := n0_; have HB := n1_; clear n0_ n1_; (try simp only [List.eraseIdx_cons_succ, List.eraseIdx_cons_zero] at HS); clear hs hb; obtain ⟨Al, cl, e_⟩ : ∃ (A : Option Addr) (c : Nat), vl = .slice A ([t] : List ByteArray).length c := (by obtain ⟨A, c, e, _, _⟩ := HS.out.reads; exact ⟨A, c, e⟩); subst e_) | ((with_reducible refine gate_builtin (b := .append) (xs := #[.tmp 36, .tmp 39]) rfl ?_); at_builtin; refine S_append_rows Kd.string rfl (.tmp 36) (.tmp 39) 39 9 (.string ⟨#[]⟩) 16 rfl Try.underlying39 info9 rfl (by decide) (by omega) _ k2 [t] Al 1 cl rfl rfl (fun _ _ h => h) (HS.out.pick 3 rfl) ?hC HB.out ?hl ?_; (case hC => exact (HS.out.pick 0 rfl).rowC.2.2); (case hl => exact hkl'.out); intro v w10 hs1 hb; rw [hk2.out] at hs1; have n0_ := Aside0.mk (((hs1.swap.drop).pick 2 rfl).pick 2 rfl); have n1_ := Aside0.mk (hb); clear HS HB; have HS := n0_; have HB := n1_; clear n0_ n1_; (try simp only [List.eraseIdx_cons_succ, List.eraseIdx_cons_zero] at HS); clear hs1 hb; obtain ⟨A2, c2, e_⟩ : ∃ (A : Option Addr) (c : Nat), v = .slice A k3.length c := (by obtain ⟨A, c, e, _, _⟩ := (HS.out.pick 2 rfl).reads; exact ⟨A, c, e⟩); subst e_))
        exact ⟨⟨i + 1, k3, a', e', A2, c2, hlt'.out, by rw [Int.natCast_add]; rfl, rfl, hk3.out, hkz3.out, haa.out, hst3.out, HS, HB⟩, meas_w i n' hlt'.out⟩
      · obtain rfl : i = n' := Nat.le_antisymm hi (Nat.le_of_not_lt hlt)
        rw [Nat.sub_self, rdT, List.append_nil] at hTT
        simp only [Prod.mk.injEq] at hTT
        obtain ⟨rfl, rfl, rfl⟩ := hTT
        have q3 : decide ((i : Int) < (i : Int)) = false := decide_eq_false (Int.lt_irrefl _)
        clear hst hi hlt lnx'
        by_cases hl : a < s.size
        · have hE2 := hE.out
          rw [decR_left _ _ _ _ _ _ hl] at hE2
          subst hE2
          have en : (if (0 : Int) = 0 then (if a < s.size then (3 : Int) else 0) else 0) = 3 := by rw [if_pos rfl, if_pos hl]
          replace en := Aside0.mk en
          clear hl hal
          go_wp2_with (first | ((with_reducible refine gate_callee (f := 56) rfl ?_); refine goesL_ (some 42) rfl rfl Try.func56 (by kernel_rfl) rfl #[.pointer (some ⟨g, 0, none⟩)] rfl (by (try simp only [List.map_toArray, List.map_cons, List.map_nil]); first | done | rfl | (simp only [List.length_drop, List.length_take]; rfl)) ?_; (with_reducible refine (End_to g s hs.out a 0 3 en.out HS.out).mono ?_); rintro e_ w11 ⟨rfl, hs1, hb⟩; refine ⟨_, rfl, ?_⟩; have n0_ := Aside0.mk (hs1); have n1_ := Aside0.mk (HB.out.trans hb); clear HS HB; have HS := n0_; have HB := n1_; clear n0_ n1_; (try simp only [List.eraseIdx_cons_succ, List.eraseIdx_cons_zero] at HS); clear hs1 hb))
          go_ret
          exact ⟨rfl, HS.out.drop.drop.drop, HB.out⟩
        · have en : (if (0 : Int) = 0 then (if a < s.size then (3 : Int) else 0) else 0) = 0 := by rw [if_pos rfl, if_neg hl]
          replace en := Aside0.mk en
          have hl' := Aside0.mk hl
          clear hl hal
          go_upto_region 13 with (first | ((with_reducible refine gate_callee (f := 56) rfl ?_); refine goesL_ (some 42) rfl rfl Try.func56 (by kernel_rfl) rfl #[.pointer (some ⟨g, 0, none⟩)] rfl (by (try simp only [List.map_toArray, List.map_cons, List.map_nil]); first | done | rfl | (simp only [List.length_drop, List.length_take]; rfl)) ?_; (with_reducible refine (End_to g s hs.out a 0 0 en.out HS.out).mono ?_); rintro e_ w11 ⟨rfl, hs1, hb⟩; refine ⟨_, rfl, ?_⟩; have n0_ := Aside0.mk (hs1); have n1_ := Aside0.mk (HB.out.trans hb); clear HS HB; have HS := n0_; have HB := n1_; clear n0_ n1_; (try simp only [List.eraseIdx_cons_succ, List.eraseIdx_cons_zero] at HS); clear hs1 hb))
          have h1_ := HS.out.drop
          clear HS
          have HS := Aside0.mk h1_
          clear h1_
          have hc0_0 := (HS.out.cell 0).trans (show _ = some (.int .i64 sz) from rfl)
          have hc0_1 := (HS.out.cell 1).trans (show _ = some (.int .i64 sd) from rfl)
          have fin2 : (sz < 1 ∨ 1024 < sz ∨ sd < 0 ∨ 1048576 < sd) → E = 2 := fun h2 => by
            have hE2 := hE.out
            rw [decR_range _ _ _ _ _ _ hl'.out h2] at hE2
            exact hE2.symm
          replace fin2 := Aside0.mk fin2
          by_cases c1 : sz < 1
          · have r1 : decide (sz < 1) = true := decide_eq_true c1
            have r1' : (sz < 1) = True := eq_true c1
            obtain rfl : E = 2 := fin2.out (.inl c1)
            clear c1
            go_wp2
            go_ret
            exact ⟨rfl, HS.out.drop.drop, HB.out⟩
          have r1 : decide (sz < 1) = false := decide_eq_false c1
          have r1' : (sz < 1) = False := eq_false c1
          by_cases c2 : 1024 < sz
          · have r2 : decide (sz > 1024) = true := decide_eq_true c2
            have r2' : (1024 < sz) = True := eq_true c2
            obtain rfl : E = 2 := fin2.out (.inr (.inl c2))
            clear c1 c2
            go_wp2
            go_ret
            exact ⟨rfl, HS.out.drop.drop, HB.out⟩
          have r2 : decide (sz > 1024) = false := decide_eq_false c2
          have r2' : (1024 < sz) = False := eq_false c2
          by_cases c3 : sd < 0
          · have r3 : decide (sd < 0) = true := decide_eq_true c3
            have r3' : (sd < 0) = True := eq_true c3
            obtain rfl : E = 2 := fin2.out (.inr (.inr (.inl c3)))
            clear c1 c2 c3
            go_wp2
            go_ret
            exact ⟨rfl, HS.out.drop.drop, HB.out⟩
          have r3 : decide (sd < 0) = false := decide_eq_false c3
          have r3' : (sd < 0) = False := eq_false c3
          by_cases c4 : 1048576 < sd
          · have r4 : decide (sd > 1048576) = true := decide_eq_true c4
            have r4' : (1048576 < sd) = True := eq_true c4
            obtain rfl : E = 2 := fin2.out (.inr (.inr (.inr c4)))
            clear c1 c2 c3 c4
            go_wp2
            go_ret
            exact ⟨rfl, HS.out.drop.drop, HB.out⟩
          have r4 : decide (sd > 1048576) = false := decide_eq_false c4
          have r4' : (1048576 < sd) = False := eq_false c4
          have h2' : Aside0 (¬ (sz < 1 ∨ 1024 < sz ∨ sd < 0 ∨ 1048576 < sd)) := ⟨fun h => by rcases h with h | h | h | h; exact c1 h; exact c2 h; exact c3 h; exact c4 h⟩
          clear c1 c2 c3 c4 fin2
          go_wp2
          clear r1 r1' r2 r2' r3 r3' r4 r4' hc0_0 hc0_1
          have hk24 : k2.length ≤ 1024 := by rw [hkl.out]; exact ln1'
          go_loopw [10] (fun v10 wc => ∃ j : Nat, j ≤ k2.length ∧ v10 = .int .i64 j ∧ chkF k2 = chkF (k2.drop j) ∧ Aside0 (St N wc (Blk q #[.int .i64 sz, .int .i64 sd, .slice none 0 0] 28 :: Row Kd.string 9 (.slice A k2.length c) k2 :: L)) ∧ Aside0 (Below N w wc)) (fun v10 _ => (k2.length - intOf v10).toNat)
          case atStart => exact ⟨0, Nat.zero_le _, rfl, rfl, HS, HB⟩
          case round =>
            clear HS HB
            obtain ⟨j, hj, rfl, hck, HS, HB⟩ := hrel
            replace hck := Aside0.mk hck
            by_cases hjl : j < k2.length
            · obtain ⟨ad, e_, ht0⟩ := Kd.at_string (HS.out.pick 1 rfl).rowC.2.2 (j : Int) (Int.natCast_nonneg _) (lt_cst hjl)
              cases e_
              rw [Int.toNat_natCast] at ht0
              obtain ⟨t, ht⟩ : ∃ t, rdOf ByteArray.empty k2 (j : Int) = t := ⟨_, rfl⟩
              have hts : t.size ≤ 4096 := hkz.out t (rdOf_in k2 j t hjl ht)
              rw [ht] at ht0
              have hd1 := Aside0.mk (drop_at k2 j t hjl ht)
              obtain ⟨r, hr⟩ : ∃ r, chk t = r := ⟨_, rfl⟩
              have hch := Aside0.mk ((chk_ok t (Nat.le_trans hts (by decide)) (t.size + 2) (Nat.le_refl _)).2)
              rw [hr] at hch
              have p1 : decide ((j : Int) < (k2.length : Int)) = true := decide_eq_true (lt_cst hjl)
              have p2 : (0 : Int) ≤ (j : Int) := Int.natCast_nonneg _
              have p3 := lt_cst hjl
              have p4 : wrap64 ((j : Int) + 1) = (j : Int) + 1 := inc_sm hjl hk24
              have hjl' := Aside0.mk hjl
              replace hr := Aside0.mk hr
              by_cases hr0 : r = 0
              · subst hr0
                have hck2 : Aside0 (chkF k2 = chkF (k2.drop (j + 1))) := ⟨by rw [hck.out, hd1.out, chkF, if_pos hr.out]⟩
                clear hjl hts
                go_wp2_with (first | ((with_reducible refine gate_callee (f := 26) rfl ?_); refine goesL_ (some 74) rfl rfl Try.func26 (by kernel_rfl) rfl #[.string t] rfl (by (try simp only [List.map_toArray, List.map_cons, List.map_nil]); first | done | rfl | (simp only [List.length_drop, List.length_take]; rfl)) ?_; (with_reducible refine (sleuthlaw23_check.calls (t.size + 2) t _ _ hch.out).mono ?_); rintro e w12 ⟨rfl, hb0⟩; have hb := hb0.below; clear hb0; refine ⟨_, rfl, ?_⟩; have n0_ := Aside0.mk (HS.out.step hb); have n1_ := Aside0.mk (below_step' HB.out HS.out.size hb); clear HS HB; have HS := n0_; have HB := n1_; clear n0_ n1_; (try simp only [List.eraseIdx_cons_succ, List.eraseIdx_cons_zero] at HS); clear hb))
                exact ⟨⟨j + 1, hjl'.out, by first | (rw [p4, Int.natCast_add]; rfl) | (rw [Int.natCast_add]; rfl), hck2.out, HS, HB⟩, by (try rw [p4]); exact meas_w j k2.length hjl'.out⟩
              · have hcr : chkF k2 = r := by rw [hck.out, hd1.out, chkF, if_neg (by rw [hr.out]; exact hr0), hr.out]
                have hE2 := hE.out
                rw [decR_chk _ _ _ _ _ _ hl'.out h2'.out (by rw [hcr]; exact hr0), hcr] at hE2
                subst hE2
                have q9 : (r != 0) = true := by simpa using hr0
                clear hjl hts hcr
                go_wp2_with (first | ((with_reducible refine gate_callee (f := 26) rfl ?_); refine goesL_ (some 74) rfl rfl Try.func26 (by kernel_rfl) rfl #[.string t] rfl (by (try simp only [List.map_toArray, List.map_cons, List.map_nil]); first | done | rfl | (simp only [List.length_drop, List.length_take]; rfl)) ?_; (with_reducible refine (sleuthlaw23_check.calls (t.size + 2) t _ _ hch.out).mono ?_); rintro e w12 ⟨rfl, hb0⟩; have hb := hb0.below; clear hb0; refine ⟨_, rfl, ?_⟩; have n0_ := Aside0.mk (HS.out.step hb); have n1_ := Aside0.mk (below_step' HB.out HS.out.size hb); clear HS HB; have HS := n0_; have HB := n1_; clear n0_ n1_; (try simp only [List.eraseIdx_cons_succ, List.eraseIdx_cons_zero] at HS); clear hb))
                go_ret
                exact ⟨rfl, HS.out.drop.drop, HB.out⟩
            · obtain rfl : j = k2.length := Nat.le_antisymm hj (Nat.le_of_not_lt hjl)
              have p1 : decide ((k2.length : Int) < (k2.length : Int)) = false := decide_eq_false (Int.lt_irrefl _)
              have hck2 : Aside0 (chkF k2 = 0) := ⟨by rw [hck.out, List.drop_length, chkF]⟩
              clear hj hjl hck
              go_wp2
              go_loopw [12] (fun v12 wc => ∃ m : Nat, (m + 1 ≤ k2.length ∨ m = 0) ∧ v12 = .int .i64 ((m + 1 : Nat) : Int) ∧ ordN (k2.map (kyOf sd)) (m + 1) = true ∧ Aside0 (St N wc (Blk q #[.int .i64 sz, .int .i64 sd, .slice none 0 0] 28 :: Row Kd.string 9 (.slice A k2.length c) k2 :: L)) ∧ Aside0 (Below N w wc)) (fun v12 _ => (k2.length - intOf v12).toNat)
              case atStart => exact ⟨0, .inr rfl, rfl, by simp [ordN], HS, HB⟩
              case round =>
                clear HS HB
                obtain ⟨m, hm, rfl, hom, HS, HB⟩ := hrel
                replace hom := Aside0.mk hom
                replace hm := Aside0.mk hm
                by_cases hml : m + 1 < k2.length
                · obtain ⟨m1, hm1⟩ : ∃ k, m + 1 = k := ⟨_, rfl⟩
                  rw [hm1] at hml hom ⊢
                  obtain ⟨p1, p2, p3, p4, p5, p6⟩ := m1_facts m m1 k2.length hm1 hml hk24
                  have hml' := Aside0.mk hml
                  obtain ⟨ad, e_, ht0⟩ := Kd.at_string (HS.out.pick 1 rfl).rowC.2.2 (m : Int) (Int.natCast_nonneg _) p5
                  cases e_
                  obtain ⟨ad2, e_, ht1⟩ := Kd.at_string (HS.out.pick 1 rfl).rowC.2.2 (m1 : Int) (Int.natCast_nonneg _) (lt_cst hml)
                  cases e_
                  rw [Int.toNat_natCast] at ht0 ht1
                  obtain ⟨t0, hq0⟩ : ∃ t, rdOf ByteArray.empty k2 (m : Int) = t := ⟨_, rfl⟩
                  obtain ⟨t1, hq1⟩ : ∃ t, rdOf ByteArray.empty k2 (m1 : Int) = t := ⟨_, rfl⟩
                  have hz0 : t0.size ≤ 4096 := hkz.out t0 (rdOf_in k2 m t0 (m_lt hm1 hml) hq0)
                  have hz1 : t1.size ≤ 4096 := hkz.out t1 (rdOf_in k2 m1 t1 hml hq1)
                  rw [hq0] at ht0
                  rw [hq1] at ht1
                  have hh0 := hash_ok sd t0 (Nat.le_trans hz0 (by decide)) (t0.size + 1) (Nat.le_refl _)
                  have hh1 := hash_ok sd t1 (Nat.le_trans hz1 (by decide)) (t1.size + 1) (Nat.le_refl _)
                  have hu := map_rd k2 sd m t0 (m_lt hm1 hml) hq0
                  have hv := map_rd k2 sd m1 t1 hml hq1
                  obtain ⟨g0, hg0⟩ : ∃ h, hashT sd t0 = h := ⟨_, rfl⟩
                  obtain ⟨g1, hg1⟩ : ∃ h, hashT sd t1 = h := ⟨_, rfl⟩
                  rw [hg0] at hh0
                  rw [hg1] at hh1
                  unfold kyOf at hu hv
                  rw [hg0] at hu
                  rw [hg1] at hv
                  replace hh0 := Aside0.mk hh0
                  replace hh1 := Aside0.mk hh1
                  replace hu := Aside0.mk hu
                  replace hv := Aside0.mk hv
                  replace hq0 := Aside0.mk hq0
                  replace hq1 := Aside0.mk hq1
                  replace hg0 := Aside0.mk hg0
                  replace hg1 := Aside0.mk hg1
                  replace ht0 := Aside0.mk ht0
                  replace ht1 := Aside0.mk ht1
                  replace hm1 := Aside0.mk hm1
                  clear hml hz0 hz1
                  go_upto_region 24 with (fail)
                  have HSo := HS
                  have HBo := HB
                  have hto0 := ht0
                  have hto1 := ht1
                  clear HS HB ht0 ht1
                  apply share
                  case main =>
                    intro key
                    have HS := HSo
                    have HB := HBo
                    have ht0 := hto0
                    have ht1 := hto1
                    have n2_ := Aside0.mk (show wr.drew.cell? _ = _ from ht0.out); clear ht0; have ht0 := n2_; clear n2_
                    have n2_ := Aside0.mk (show wr.drew.cell? _ = _ from ht1.out); clear ht1; have ht1 := n2_; clear n2_
                    have n0_ := Aside0.mk (HS.out.drew); have n1_ := Aside0.mk (HB.out.drew); clear HS HB; have HS := n0_; have HB := n1_; clear n0_ n1_
                    refine start_ (n := 30) (S := fun w' => w'.cell? ⟨q, 1, none⟩ = some (.int .i64 sd) ∧ w'.cell? (ad.add m) = some (.string t0) ∧ w'.cell? (ad.add m1) = some (.string t1)) (ds := [29]) (tfs true [0, 30]).toArray (by kernel_rfl) rfl rfl ⟨((HS.out.pick 0 rfl).cell 1).trans rfl, ht0.out, ht1.out⟩ (fun hHeld => ?_); refine with_tabW lde.tab24 lde.bits24 (fun HT_ HW_ => ?_)
                    generalize wr.drew = w20 at HS HB ht0 ht1 hHeld ⊢
                    refine pU 0 84 (tfs true [1, 29]).toArray rfl rfl HT_ ?_
                    refine pU 2 86 (tfs true [1, 1, 1, 27]).toArray rfl rfl HT_ ?_
                    refine pU 3 87 (tfs true [1, 1, 2, 26]).toArray rfl rfl HT_ ?_
                    refine pU 4 88 (tfs true [1, 1, 3, 25]).toArray rfl rfl HT_ ?_
                    refine pU 5 89 (tfs true [1, 1, 4, 24]).toArray rfl rfl HT_ ?_
                    refine pU 8 92 (tfs true [1, 1, 4, 2, 1, 21]).toArray rfl rfl HT_ ?_
                    refine pU 9 93 (tfs true [1, 1, 4, 2, 2, 20]).toArray rfl rfl HT_ ?_
                    refine pU 10 94 (tfs true [1, 1, 4, 2, 3, 19]).toArray rfl rfl HT_ ?_
                    refine pU 11 95 (tfs true [1, 1, 4, 2, 4, 18]).toArray rfl rfl HT_ ?_
                    refine pU 14 98 (tfs true [1, 1, 4, 2, 4, 2, 1, 15]).toArray rfl rfl HT_ ?_
                    refine pU 16 100 (tfs true [1, 1, 4, 2, 4, 2, 1, 1, 1, 13]).toArray rfl rfl HT_ ?_
                    refine pU 17 101 (tfs true [1, 1, 4, 2, 4, 2, 1, 1, 2, 12]).toArray rfl rfl HT_ ?_
                    refine pU 18 102 (tfs true [1, 1, 4, 2, 4, 2, 1, 1, 3, 11]).toArray rfl rfl HT_ ?_
                    refine pU 21 105 (tfs true [1, 1, 4, 2, 4, 2, 1, 1, 3, 2, 1, 8]).toArray rfl rfl HT_ ?_
                    refine pU 22 106 (tfs true [1, 1, 4, 2, 4, 2, 1, 1, 3, 2, 2, 7]).toArray rfl rfl HT_ ?_
                    refine pU 23 107 (tfs true [1, 1, 4, 2, 4, 2, 1, 1, 3, 2, 3, 6]).toArray rfl rfl HT_ ?_
                    refine tK 1 85 (tfs true [6, 2, 4, 2, 1, 1, 3, 2, 3, 6]).toArray rfl rfl HT_ HW_ hHeld ?_ (by rintro w' ⟨s0, s1, s2⟩; go_simp; with_reducible rfl)
                    refine tK 6 90 (tfs true [7, 1, 4, 2, 1, 1, 3, 2, 3, 6]).toArray rfl rfl HT_ HW_ hHeld ?_ (by rintro w' ⟨s0, s1, s2⟩; go_simp; with_reducible rfl)
                    refine tK 12 96 (tfs true [7, 1, 5, 1, 1, 1, 3, 2, 3, 6]).toArray rfl rfl HT_ HW_ hHeld ?_ (by rintro w' ⟨s0, s1, s2⟩; go_simp; with_reducible rfl)
                    refine tK 15 99 (tfs true [7, 1, 5, 1, 5, 2, 3, 6]).toArray rfl rfl HT_ HW_ hHeld ?_ (by rintro w' ⟨s0, s1, s2⟩; go_simp; with_reducible rfl)
                    refine tK 19 103 (tfs true [7, 1, 5, 1, 6, 1, 3, 6]).toArray rfl rfl HT_ HW_ hHeld ?_ (by rintro w' ⟨s0, s1, s2⟩; go_simp; with_reducible rfl)
                    refine tK 24 108 (tfs true [7, 1, 5, 1, 6, 1, 4, 5]).toArray rfl rfl HT_ HW_ hHeld ?_ (by rintro w' ⟨s0, s1, s2⟩; go_simp; with_reducible rfl)
                    refine three_ (i := 7) (j := 26) (k := 27) (Ni := some 91) (Nj := some 13) (Nk := some 14) (tfs true [13, 1, 6, 1, 4, 5]).toArray (tfs true [7, 1, 5, 1, 6, 1, 4, 1, 1, 3]).toArray (tfs true [7, 1, 5, 1, 6, 1, 4, 2, 1, 2]).toArray rfl rfl rfl rfl rfl rfl (three_of HT_.out (by kernel_rfl)) (by decide) (by decide) (by decide) (fun K hK => ?_) (fun K hK => ?_) (fun K hK => ?_)
                    ·
                      refine goes_ Try.func45 (by kernel_rfl) rfl #[.int .i64 sd, .string t0] (by rfl) rfl rfl (by (try simp only [List.map_toArray, List.map_cons, List.map_nil]); first | done | rfl | (simp only [List.length_drop, List.length_take]; rfl)) ?_
                      with_reducible refine (checksum_Text.calls (t0.size + 1) sd t0 g0 _ hh0.out).mono ?_
                      rintro e w21 ⟨rfl, hb0⟩; have hb := hb0.below; clear hb0
                      refine ⟨_, rfl, ?_⟩
                      have n0_ := Aside0.mk (HS.out.step hb); have n1_ := Aside0.mk (below_step' HB.out HS.out.size hb); clear HS HB; have HS := n0_; have HB := n1_; clear n0_ n1_; (try simp only [List.eraseIdx_cons_succ, List.eraseIdx_cons_zero] at HS)
                      have n2_ := Aside0.mk ((hb.cell (World.block_lt_of_cell? _ _ ht0.out)).trans ht0.out); have n3_ := Aside0.mk ((hb.cell (World.block_lt_of_cell? _ _ ht1.out)).trans ht1.out); clear ht0 ht1; have ht0 := n2_; have ht1 := n3_; clear n2_ n3_; clear hb
                      refine hK.out _ _ ⟨((HS.out.pick 0 rfl).cell 1).trans rfl, ht0.out, ht1.out⟩ (fun hHeld => ?_)
                      clear hK K
                      refine norm_ (a' := ?_) ?_ ?_
                      rotate_left
                      · show Act.put _ (some 91) _ = _
                        simp only [Act.put, List.setIfInBounds_toArray, List.set_cons_zero, List.set_cons_succ, i64_w, i32_w]
                        rfl
                      refine pU 13 97 (tfs true [20, 1, 4, 5]).toArray rfl rfl HT_ ?_
                      refine three_ (i := 20) (j := 26) (k := 27) (Ni := some 104) (Nj := some 13) (Nk := some 14) (tfs true [25, 5]).toArray (tfs true [20, 1, 4, 1, 1, 3]).toArray (tfs true [20, 1, 4, 2, 1, 2]).toArray rfl rfl rfl rfl rfl rfl (three_of HT_.out (by kernel_rfl)) (by decide) (by decide) (by decide) (fun K hK => ?_) (fun K hK => ?_) (fun K hK => ?_)
                      ·
                        refine goes_ Try.func45 (by kernel_rfl) rfl #[.int .i64 sd, .string t1] (by rfl) rfl rfl (by (try simp only [List.map_toArray, List.map_cons, List.map_nil]); first | done | rfl | (simp only [List.length_drop, List.length_take]; rfl)) ?_
                        with_reducible refine (checksum_Text.calls (t1.size + 1) sd t1 g1 _ hh1.out).mono ?_
                        rintro e w22 ⟨rfl, hb0⟩; have hb := hb0.below; clear hb0
                        refine ⟨_, rfl, ?_⟩
                        have n0_ := Aside0.mk (HS.out.step hb); have n1_ := Aside0.mk (below_step' HB.out HS.out.size hb); clear HS HB; have HS := n0_; have HB := n1_; clear n0_ n1_; (try simp only [List.eraseIdx_cons_succ, List.eraseIdx_cons_zero] at HS)
                        have n2_ := Aside0.mk ((hb.cell (World.block_lt_of_cell? _ _ ht0.out)).trans ht0.out); have n3_ := Aside0.mk ((hb.cell (World.block_lt_of_cell? _ _ ht1.out)).trans ht1.out); clear ht0 ht1; have ht0 := n2_; have ht1 := n3_; clear n2_ n3_; clear hb
                        refine hK.out _ _ ⟨((HS.out.pick 0 rfl).cell 1).trans rfl, ht0.out, ht1.out⟩ (fun hHeld => ?_)
                        clear hK K
                        refine norm_ (a' := ?_) ?_ ?_
                        rotate_left
                        · show Act.put _ (some 104) _ = _
                          simp only [Act.put, List.setIfInBounds_toArray, List.set_cons_zero, List.set_cons_succ, i64_w, i32_w]
                          rfl
                        refine pU 25 109 (tfs true [26, 4]).toArray rfl rfl HT_ ?_
                        refine two_ (i := 26) (j := 27) (Ni := some 13) (Nj := some 14) (tfs true [27, 3]).toArray (tfs true [26, 1, 1, 2]).toArray rfl rfl rfl rfl (two_of HT_.out (by kernel_rfl)) (by decide) (by decide) (fun K hK => ?_) (fun K hK => ?_)
                        ·
                          refine box_step (by rfl) (Nt := 13) rfl (cs := #[.int .i64 0, .string ⟨#[]⟩]) (t := 52) ?hrw23 ?_
                          (case hrw23 => first | (go_simp; done) | (go_simp; rfl))
                          intro X hg w23 hbox hb
                          have n0_ := Aside0.mk ((((HS.out.box hg hbox hb).pick 2 rfl).pick 2 rfl)); have n1_ := Aside0.mk (below_step' HB.out HS.out.size hb); clear HS HB; have HS := n0_; have HB := n1_; clear n0_ n1_; (try simp only [List.eraseIdx_cons_succ, List.eraseIdx_cons_zero] at HS)
                          have n2_ := Aside0.mk ((hb.cell (World.block_lt_of_cell? _ _ ht0.out)).trans ht0.out); have n3_ := Aside0.mk ((hb.cell (World.block_lt_of_cell? _ _ ht1.out)).trans ht1.out); clear ht0 ht1; have ht0 := n2_; have ht1 := n3_; clear n2_ n3_
                          clear hb hbox hg
                          refine hK.out _ _ ⟨((HS.out.pick 0 rfl).cell 1).trans rfl, ht0.out, ht1.out⟩ (fun hHeld => ?_)
                          clear hK K
                          refine norm_ (a' := ?_) ?_ ?_
                          rotate_left
                          · show Act.put _ (some 13) _ = _
                            simp only [Act.put, List.setIfInBounds_toArray, List.set_cons_zero, List.set_cons_succ, i64_w, i32_w]
                            rfl
                          refine one_ (i := 27) (N := some 14) (tfs true [28, 2]).toArray rfl rfl (one_of HT_.out (by kernel_rfl)) (by decide) (fun K hK => ?_)
                          refine box_step (by rfl) (Nt := 14) rfl (cs := #[.int .i64 0, .string ⟨#[]⟩]) (t := 52) ?hrw24 ?_
                          (case hrw24 => first | (go_simp; done) | (go_simp; rfl))
                          intro Y hg w24 hbox hb
                          have n0_ := Aside0.mk (((((HS.out.box hg hbox hb).pick 3 rfl).pick 3 rfl).pick 3 rfl)); have n1_ := Aside0.mk (below_step' HB.out HS.out.size hb); clear HS HB; have HS := n0_; have HB := n1_; clear n0_ n1_; (try simp only [List.eraseIdx_cons_succ, List.eraseIdx_cons_zero] at HS)
                          have n2_ := Aside0.mk ((hb.cell (World.block_lt_of_cell? _ _ ht0.out)).trans ht0.out); have n3_ := Aside0.mk ((hb.cell (World.block_lt_of_cell? _ _ ht1.out)).trans ht1.out); clear ht0 ht1; have ht0 := n2_; have ht1 := n3_; clear n2_ n3_
                          clear hb hbox hg
                          refine hK.out _ _ ⟨((HS.out.pick 0 rfl).cell 1).trans rfl, ht0.out, ht1.out⟩ (fun hHeld => ?_)
                          clear hK K
                          refine norm_ (a' := ?_) ?_ ?_
                          rotate_left
                          · show Act.put _ (some 14) _ = _
                            simp only [Act.put, List.setIfInBounds_toArray, List.set_cons_zero, List.set_cons_succ, i64_w, i32_w]
                            rfl
                          refine one_ (i := 28) (N := none) (tfs true [29, 1]).toArray rfl rfl (one_of HT_.out (by kernel_rfl)) (by decide) (fun K hK => ?_)
                          have q0 := ((HS.out.pick 2 rfl).cell 0).trans (show _ = some (.int .i64 0) from rfl); have f0 := (HS.out.pick 2 rfl).frozen 0; have q1 := ((HS.out.pick 2 rfl).cell 1).trans (show _ = some (.string ⟨#[]⟩) from rfl); have f1 := (HS.out.pick 2 rfl).frozen 1
                          refine skip_ (w1 := ?_) (by rfl) rfl ?_ ?_
                          rotate_left
                          · go_simp
                            rfl
                          clear q0 q1 f0 f1
                          have n0_ := Aside0.mk ((((((HS.out.pick 2 rfl).set 0 (.int .i64 g0) #[.int .i64 g0, .string ⟨#[]⟩] rfl).set 1 (.string t0) #[.int .i64 g0, .string t0] rfl).pick 2 rfl).pick 2 rfl)); have n1_ := Aside0.mk (((HS.out.pick 2 rfl).set 0 (.int .i64 g0) #[.int .i64 g0, .string ⟨#[]⟩] rfl).below_set (i := 1) (u := .string t0) ((HS.out.pick 2 rfl).below_set (i := 0) (u := .int .i64 g0) HB.out)); clear HS HB; have HS := n0_; have HB := n1_; clear n0_ n1_; (try simp only [List.eraseIdx_cons_succ, List.eraseIdx_cons_zero] at HS)
                          clear ht0 ht1
                          obtain ⟨ad3, e_, ht0⟩ := Kd.at_string (HS.out.pick 1 rfl).rowC.2.2 (m : Int) (Int.natCast_nonneg _) p5; cases e_
                          obtain ⟨ad4, e_, ht1⟩ := Kd.at_string (HS.out.pick 1 rfl).rowC.2.2 (m1 : Int) (Int.natCast_nonneg _) (lt_cst hml'.out); cases e_
                          rw [Int.toNat_natCast, hq0.out] at ht0; rw [Int.toNat_natCast, hq1.out] at ht1; replace ht0 := Aside0.mk ht0; replace ht1 := Aside0.mk ht1
                          refine hK.out _ _ ⟨((HS.out.pick 0 rfl).cell 1).trans rfl, ht0.out, ht1.out⟩ (fun hHeld => ?_)
                          clear hK K
                          refine last_ (i := 29) (N := none) (tfs true [30]).toArray rfl rfl (one_of HT_.out (by kernel_rfl)) (by decide) (fun K hK => ?_)
                          have q0 := ((HS.out.pick 3 rfl).cell 0).trans (show _ = some (.int .i64 0) from rfl); have f0 := (HS.out.pick 3 rfl).frozen 0; have q1 := ((HS.out.pick 3 rfl).cell 1).trans (show _ = some (.string ⟨#[]⟩) from rfl); have f1 := (HS.out.pick 3 rfl).frozen 1
                          refine skip_ (w1 := ?_) (by rfl) rfl ?_ ?_
                          rotate_left
                          · go_simp
                            rfl
                          clear q0 q1 f0 f1
                          have n0_ := Aside0.mk ((((((HS.out.pick 3 rfl).set 0 (.int .i64 g1) #[.int .i64 g1, .string ⟨#[]⟩] rfl).set 1 (.string t1) #[.int .i64 g1, .string t1] rfl).pick 2 rfl).pick 2 rfl)); have n1_ := Aside0.mk (((HS.out.pick 3 rfl).set 0 (.int .i64 g1) #[.int .i64 g1, .string ⟨#[]⟩] rfl).below_set (i := 1) (u := .string t1) ((HS.out.pick 3 rfl).below_set (i := 0) (u := .int .i64 g1) HB.out)); clear HS HB; have HS := n0_; have HB := n1_; clear n0_ n1_; (try simp only [List.eraseIdx_cons_succ, List.eraseIdx_cons_zero] at HS)
                          refine hK.out _ _ ?_
                          clear hK K
                          refine done_ (done_of HT_.out (by kernel_rfl)) ?_
                          clear HT_ HW_
                          try clear hHeld
                          clear ht0 ht1
                          generalize (World.setCell _ _ _) = w40 at HS HB ⊢
                          have n0_ := Aside0.mk (((((HS.out.pick 1 rfl).pick 1 rfl).pick 2 rfl).pick 3 rfl)); have n1_ := Aside0.mk (HB.out); clear HS HB; have HS := n0_; have HB := n1_; clear n0_ n1_; (try simp only [List.eraseIdx_cons_succ, List.eraseIdx_cons_zero] at HS)
                          revert HB
                          revert HS
                          revert w40
                          revert Y
                          revert X
                          exact key.out
                        ·
                          refine box_step (by rfl) (Nt := 14) rfl (cs := #[.int .i64 0, .string ⟨#[]⟩]) (t := 52) ?hrw25 ?_
                          (case hrw25 => first | (go_simp; done) | (go_simp; rfl))
                          intro Y hg w25 hbox hb
                          have n0_ := Aside0.mk ((((HS.out.box hg hbox hb).pick 2 rfl).pick 2 rfl)); have n1_ := Aside0.mk (below_step' HB.out HS.out.size hb); clear HS HB; have HS := n0_; have HB := n1_; clear n0_ n1_; (try simp only [List.eraseIdx_cons_succ, List.eraseIdx_cons_zero] at HS)
                          have n2_ := Aside0.mk ((hb.cell (World.block_lt_of_cell? _ _ ht0.out)).trans ht0.out); have n3_ := Aside0.mk ((hb.cell (World.block_lt_of_cell? _ _ ht1.out)).trans ht1.out); clear ht0 ht1; have ht0 := n2_; have ht1 := n3_; clear n2_ n3_
                          clear hb hbox hg
                          refine hK.out _ _ ⟨((HS.out.pick 0 rfl).cell 1).trans rfl, ht0.out, ht1.out⟩ (fun hHeld => ?_)
                          clear hK K
                          refine norm_ (a' := ?_) ?_ ?_
                          rotate_left
                          · show Act.put _ (some 14) _ = _
                            simp only [Act.put, List.setIfInBounds_toArray, List.set_cons_zero, List.set_cons_succ, i64_w, i32_w]
                            rfl
                          refine one_ (i := 26) (N := some 13) (tfs true [28, 2]).toArray rfl rfl (one_of HT_.out (by kernel_rfl)) (by decide) (fun K hK => ?_)
                          refine box_step (by rfl) (Nt := 13) rfl (cs := #[.int .i64 0, .string ⟨#[]⟩]) (t := 52) ?hrw26 ?_
                          (case hrw26 => first | (go_simp; done) | (go_simp; rfl))
                          intro X hg w26 hbox hb
                          have n0_ := Aside0.mk (((((HS.out.box hg hbox hb).pick 3 rfl).pick 3 rfl).pick 3 rfl)); have n1_ := Aside0.mk (below_step' HB.out HS.out.size hb); clear HS HB; have HS := n0_; have HB := n1_; clear n0_ n1_; (try simp only [List.eraseIdx_cons_succ, List.eraseIdx_cons_zero] at HS)
                          have n2_ := Aside0.mk ((hb.cell (World.block_lt_of_cell? _ _ ht0.out)).trans ht0.out); have n3_ := Aside0.mk ((hb.cell (World.block_lt_of_cell? _ _ ht1.out)).trans ht1.out); clear ht0 ht1; have ht0 := n2_; have ht1 := n3_; clear n2_ n3_
                          clear hb hbox hg
                          refine hK.out _ _ ⟨((HS.out.pick 0 rfl).cell 1).trans rfl, ht0.out, ht1.out⟩ (fun hHeld => ?_)
                          clear hK K
                          refine norm_ (a' := ?_) ?_ ?_
                          rotate_left
                          · show Act.put _ (some 13) _ = _
                            simp only [Act.put, List.setIfInBounds_toArray, List.set_cons_zero, List.set_cons_succ, i64_w, i32_w]
                            rfl
                          refine one_ (i := 28) (N := none) (tfs true [29, 1]).toArray rfl rfl (one_of HT_.out (by kernel_rfl)) (by decide) (fun K hK => ?_)
                          have q0 := ((HS.out.pick 3 rfl).cell 0).trans (show _ = some (.int .i64 0) from rfl); have f0 := (HS.out.pick 3 rfl).frozen 0; have q1 := ((HS.out.pick 3 rfl).cell 1).trans (show _ = some (.string ⟨#[]⟩) from rfl); have f1 := (HS.out.pick 3 rfl).frozen 1
                          refine skip_ (w1 := ?_) (by rfl) rfl ?_ ?_
                          rotate_left
                          · go_simp
                            rfl
                          clear q0 q1 f0 f1
                          have n0_ := Aside0.mk ((((((HS.out.pick 3 rfl).set 0 (.int .i64 g0) #[.int .i64 g0, .string ⟨#[]⟩] rfl).set 1 (.string t0) #[.int .i64 g0, .string t0] rfl).pick 2 rfl).pick 2 rfl)); have n1_ := Aside0.mk (((HS.out.pick 3 rfl).set 0 (.int .i64 g0) #[.int .i64 g0, .string ⟨#[]⟩] rfl).below_set (i := 1) (u := .string t0) ((HS.out.pick 3 rfl).below_set (i := 0) (u := .int .i64 g0) HB.out)); clear HS HB; have HS := n0_; have HB := n1_; clear n0_ n1_; (try simp only [List.eraseIdx_cons_succ, List.eraseIdx_cons_zero] at HS)
                          clear ht0 ht1
                          obtain ⟨ad3, e_, ht0⟩ := Kd.at_string (HS.out.pick 1 rfl).rowC.2.2 (m : Int) (Int.natCast_nonneg _) p5; cases e_
                          obtain ⟨ad4, e_, ht1⟩ := Kd.at_string (HS.out.pick 1 rfl).rowC.2.2 (m1 : Int) (Int.natCast_nonneg _) (lt_cst hml'.out); cases e_
                          rw [Int.toNat_natCast, hq0.out] at ht0; rw [Int.toNat_natCast, hq1.out] at ht1; replace ht0 := Aside0.mk ht0; replace ht1 := Aside0.mk ht1
                          refine hK.out _ _ ⟨((HS.out.pick 0 rfl).cell 1).trans rfl, ht0.out, ht1.out⟩ (fun hHeld => ?_)
                          clear hK K
                          refine last_ (i := 29) (N := none) (tfs true [30]).toArray rfl rfl (one_of HT_.out (by kernel_rfl)) (by decide) (fun K hK => ?_)
                          have q0 := ((HS.out.pick 3 rfl).cell 0).trans (show _ = some (.int .i64 0) from rfl); have f0 := (HS.out.pick 3 rfl).frozen 0; have q1 := ((HS.out.pick 3 rfl).cell 1).trans (show _ = some (.string ⟨#[]⟩) from rfl); have f1 := (HS.out.pick 3 rfl).frozen 1
                          refine skip_ (w1 := ?_) (by rfl) rfl ?_ ?_
                          rotate_left
                          · go_simp
                            rfl
                          clear q0 q1 f0 f1
                          have n0_ := Aside0.mk ((((((HS.out.pick 3 rfl).set 0 (.int .i64 g1) #[.int .i64 g1, .string ⟨#[]⟩] rfl).set 1 (.string t1) #[.int .i64 g1, .string t1] rfl).pick 2 rfl).pick 2 rfl)); have n1_ := Aside0.mk (((HS.out.pick 3 rfl).set 0 (.int .i64 g1) #[.int .i64 g1, .string ⟨#[]⟩] rfl).below_set (i := 1) (u := .string t1) ((HS.out.pick 3 rfl).below_set (i := 0) (u := .int .i64 g1) HB.out)); clear HS HB; have HS := n0_; have HB := n1_; clear n0_ n1_; (try simp only [List.eraseIdx_cons_succ, List.eraseIdx_cons_zero] at HS)
                          refine hK.out _ _ ?_
                          clear hK K
                          refine done_ (done_of HT_.out (by kernel_rfl)) ?_
                          clear HT_ HW_
                          try clear hHeld
                          clear ht0 ht1
                          generalize (World.setCell _ _ _) = w40 at HS HB ⊢
                          have n0_ := Aside0.mk (((((HS.out.pick 1 rfl).pick 1 rfl).pick 2 rfl).pick 3 rfl)); have n1_ := Aside0.mk (HB.out); clear HS HB; have HS := n0_; have HB := n1_; clear n0_ n1_; (try simp only [List.eraseIdx_cons_succ, List.eraseIdx_cons_zero] at HS)
                          revert HB
                          revert HS
                          revert w40
                          revert Y
                          revert X
                          exact key.out
                      ·
                        refine box_step (by rfl) (Nt := 13) rfl (cs := #[.int .i64 0, .string ⟨#[]⟩]) (t := 52) ?hrw27 ?_
                        (case hrw27 => first | (go_simp; done) | (go_simp; rfl))
                        intro X hg w27 hbox hb
                        have n0_ := Aside0.mk ((((HS.out.box hg hbox hb).pick 2 rfl).pick 2 rfl)); have n1_ := Aside0.mk (below_step' HB.out HS.out.size hb); clear HS HB; have HS := n0_; have HB := n1_; clear n0_ n1_; (try simp only [List.eraseIdx_cons_succ, List.eraseIdx_cons_zero] at HS)
                        have n2_ := Aside0.mk ((hb.cell (World.block_lt_of_cell? _ _ ht0.out)).trans ht0.out); have n3_ := Aside0.mk ((hb.cell (World.block_lt_of_cell? _ _ ht1.out)).trans ht1.out); clear ht0 ht1; have ht0 := n2_; have ht1 := n3_; clear n2_ n3_
                        clear hb hbox hg
                        refine hK.out _ _ ⟨((HS.out.pick 0 rfl).cell 1).trans rfl, ht0.out, ht1.out⟩ (fun hHeld => ?_)
                        clear hK K
                        refine norm_ (a' := ?_) ?_ ?_
                        rotate_left
                        · show Act.put _ (some 13) _ = _
                          simp only [Act.put, List.setIfInBounds_toArray, List.set_cons_zero, List.set_cons_succ, i64_w, i32_w]
                          rfl
                        refine two_ (i := 20) (j := 27) (Ni := some 104) (Nj := some 14) (tfs true [25, 1, 1, 3]).toArray (tfs true [20, 1, 4, 1, 2, 2]).toArray rfl rfl rfl rfl (two_of HT_.out (by kernel_rfl)) (by decide) (by decide) (fun K hK => ?_) (fun K hK => ?_)
                        ·
                          refine goes_ Try.func45 (by kernel_rfl) rfl #[.int .i64 sd, .string t1] (by rfl) rfl rfl (by (try simp only [List.map_toArray, List.map_cons, List.map_nil]); first | done | rfl | (simp only [List.length_drop, List.length_take]; rfl)) ?_
                          with_reducible refine (checksum_Text.calls (t1.size + 1) sd t1 g1 _ hh1.out).mono ?_
                          rintro e w28 ⟨rfl, hb0⟩; have hb := hb0.below; clear hb0
                          refine ⟨_, rfl, ?_⟩
                          have n0_ := Aside0.mk (HS.out.step hb); have n1_ := Aside0.mk (below_step' HB.out HS.out.size hb); clear HS HB; have HS := n0_; have HB := n1_; clear n0_ n1_; (try simp only [List.eraseIdx_cons_succ, List.eraseIdx_cons_zero] at HS)
                          have n2_ := Aside0.mk ((hb.cell (World.block_lt_of_cell? _ _ ht0.out)).trans ht0.out); have n3_ := Aside0.mk ((hb.cell (World.block_lt_of_cell? _ _ ht1.out)).trans ht1.out); clear ht0 ht1; have ht0 := n2_; have ht1 := n3_; clear n2_ n3_; clear hb
                          refine hK.out _ _ ⟨((HS.out.pick 0 rfl).cell 1).trans rfl, ht0.out, ht1.out⟩ (fun hHeld => ?_)
                          clear hK K
                          refine norm_ (a' := ?_) ?_ ?_
                          rotate_left
                          · show Act.put _ (some 104) _ = _
                            simp only [Act.put, List.setIfInBounds_toArray, List.set_cons_zero, List.set_cons_succ, i64_w, i32_w]
                            rfl
                          refine pU 25 109 (tfs true [27, 3]).toArray rfl rfl HT_ ?_
                          refine one_ (i := 27) (N := some 14) (tfs true [28, 2]).toArray rfl rfl (one_of HT_.out (by kernel_rfl)) (by decide) (fun K hK => ?_)
                          refine box_step (by rfl) (Nt := 14) rfl (cs := #[.int .i64 0, .string ⟨#[]⟩]) (t := 52) ?hrw29 ?_
                          (case hrw29 => first | (go_simp; done) | (go_simp; rfl))
                          intro Y hg w29 hbox hb
                          have n0_ := Aside0.mk (((((HS.out.box hg hbox hb).pick 3 rfl).pick 3 rfl).pick 3 rfl)); have n1_ := Aside0.mk (below_step' HB.out HS.out.size hb); clear HS HB; have HS := n0_; have HB := n1_; clear n0_ n1_; (try simp only [List.eraseIdx_cons_succ, List.eraseIdx_cons_zero] at HS)
                          have n2_ := Aside0.mk ((hb.cell (World.block_lt_of_cell? _ _ ht0.out)).trans ht0.out); have n3_ := Aside0.mk ((hb.cell (World.block_lt_of_cell? _ _ ht1.out)).trans ht1.out); clear ht0 ht1; have ht0 := n2_; have ht1 := n3_; clear n2_ n3_
                          clear hb hbox hg
                          refine hK.out _ _ ⟨((HS.out.pick 0 rfl).cell 1).trans rfl, ht0.out, ht1.out⟩ (fun hHeld => ?_)
                          clear hK K
                          refine norm_ (a' := ?_) ?_ ?_
                          rotate_left
                          · show Act.put _ (some 14) _ = _
                            simp only [Act.put, List.setIfInBounds_toArray, List.set_cons_zero, List.set_cons_succ, i64_w, i32_w]
                            rfl
                          refine one_ (i := 28) (N := none) (tfs true [29, 1]).toArray rfl rfl (one_of HT_.out (by kernel_rfl)) (by decide) (fun K hK => ?_)
                          have q0 := ((HS.out.pick 2 rfl).cell 0).trans (show _ = some (.int .i64 0) from rfl); have f0 := (HS.out.pick 2 rfl).frozen 0; have q1 := ((HS.out.pick 2 rfl).cell 1).trans (show _ = some (.string ⟨#[]⟩) from rfl); have f1 := (HS.out.pick 2 rfl).frozen 1
                          refine skip_ (w1 := ?_) (by rfl) rfl ?_ ?_
                          rotate_left
                          · go_simp
                            rfl
                          clear q0 q1 f0 f1
                          have n0_ := Aside0.mk ((((((HS.out.pick 2 rfl).set 0 (.int .i64 g0) #[.int .i64 g0, .string ⟨#[]⟩] rfl).set 1 (.string t0) #[.int .i64 g0, .string t0] rfl).pick 2 rfl).pick 2 rfl)); have n1_ := Aside0.mk (((HS.out.pick 2 rfl).set 0 (.int .i64 g0) #[.int .i64 g0, .string ⟨#[]⟩] rfl).below_set (i := 1) (u := .string t0) ((HS.out.pick 2 rfl).below_set (i := 0) (u := .int .i64 g0) HB.out)); clear HS HB; have HS := n0_; have HB := n1_; clear n0_ n1_; (try simp only [List.eraseIdx_cons_succ, List.eraseIdx_cons_zero] at HS)
                          clear ht0 ht1
                          obtain ⟨ad3, e_, ht0⟩ := Kd.at_string (HS.out.pick 1 rfl).rowC.2.2 (m : Int) (Int.natCast_nonneg _) p5; cases e_
                          obtain ⟨ad4, e_, ht1⟩ := Kd.at_string (HS.out.pick 1 rfl).rowC.2.2 (m1 : Int) (Int.natCast_nonneg _) (lt_cst hml'.out); cases e_
                          rw [Int.toNat_natCast, hq0.out] at ht0; rw [Int.toNat_natCast, hq1.out] at ht1; replace ht0 := Aside0.mk ht0; replace ht1 := Aside0.mk ht1
                          refine hK.out _ _ ⟨((HS.out.pick 0 rfl).cell 1).trans rfl, ht0.out, ht1.out⟩ (fun hHeld => ?_)
                          clear hK K
                          refine last_ (i := 29) (N := none) (tfs true [30]).toArray rfl rfl (one_of HT_.out (by kernel_rfl)) (by decide) (fun K hK => ?_)
                          have q0 := ((HS.out.pick 3 rfl).cell 0).trans (show _ = some (.int .i64 0) from rfl); have f0 := (HS.out.pick 3 rfl).frozen 0; have q1 := ((HS.out.pick 3 rfl).cell 1).trans (show _ = some (.string ⟨#[]⟩) from rfl); have f1 := (HS.out.pick 3 rfl).frozen 1
                          refine skip_ (w1 := ?_) (by rfl) rfl ?_ ?_
                          rotate_left
                          · go_simp
                            rfl
                          clear q0 q1 f0 f1
                          have n0_ := Aside0.mk ((((((HS.out.pick 3 rfl).set 0 (.int .i64 g1) #[.int .i64 g1, .string ⟨#[]⟩] rfl).set 1 (.string t1) #[.int .i64 g1, .string t1] rfl).pick 2 rfl).pick 2 rfl)); have n1_ := Aside0.mk (((HS.out.pick 3 rfl).set 0 (.int .i64 g1) #[.int .i64 g1, .string ⟨#[]⟩] rfl).below_set (i := 1) (u := .string t1) ((HS.out.pick 3 rfl).below_set (i := 0) (u := .int .i64 g1) HB.out)); clear HS HB; have HS := n0_; have HB := n1_; clear n0_ n1_; (try simp only [List.eraseIdx_cons_succ, List.eraseIdx_cons_zero] at HS)
                          refine hK.out _ _ ?_
                          clear hK K
                          refine done_ (done_of HT_.out (by kernel_rfl)) ?_
                          clear HT_ HW_
                          try clear hHeld
                          clear ht0 ht1
                          generalize (World.setCell _ _ _) = w40 at HS HB ⊢
                          have n0_ := Aside0.mk (((((HS.out.pick 1 rfl).pick 1 rfl).pick 2 rfl).pick 3 rfl)); have n1_ := Aside0.mk (HB.out); clear HS HB; have HS := n0_; have HB := n1_; clear n0_ n1_; (try simp only [List.eraseIdx_cons_succ, List.eraseIdx_cons_zero] at HS)
                          revert HB
                          revert HS
                          revert w40
                          revert Y
                          revert X
                          exact key.out
                        ·
                          refine box_step (by rfl) (Nt := 14) rfl (cs := #[.int .i64 0, .string ⟨#[]⟩]) (t := 52) ?hrw30 ?_
                          (case hrw30 => first | (go_simp; done) | (go_simp; rfl))
                          intro Y hg w30 hbox hb
                          have n0_ := Aside0.mk (((((HS.out.box hg hbox hb).pick 3 rfl).pick 3 rfl).pick 3 rfl)); have n1_ := Aside0.mk (below_step' HB.out HS.out.size hb); clear HS HB; have HS := n0_; have HB := n1_; clear n0_ n1_; (try simp only [List.eraseIdx_cons_succ, List.eraseIdx_cons_zero] at HS)
                          have n2_ := Aside0.mk ((hb.cell (World.block_lt_of_cell? _ _ ht0.out)).trans ht0.out); have n3_ := Aside0.mk ((hb.cell (World.block_lt_of_cell? _ _ ht1.out)).trans ht1.out); clear ht0 ht1; have ht0 := n2_; have ht1 := n3_; clear n2_ n3_
                          clear hb hbox hg
                          refine hK.out _ _ ⟨((HS.out.pick 0 rfl).cell 1).trans rfl, ht0.out, ht1.out⟩ (fun hHeld => ?_)
                          clear hK K
                          refine norm_ (a' := ?_) ?_ ?_
                          rotate_left
                          · show Act.put _ (some 14) _ = _
                            simp only [Act.put, List.setIfInBounds_toArray, List.set_cons_zero, List.set_cons_succ, i64_w, i32_w]
                            rfl
                          refine one_ (i := 20) (N := some 104) (tfs true [25, 1, 2, 2]).toArray rfl rfl (one_of HT_.out (by kernel_rfl)) (by decide) (fun K hK => ?_)
                          refine goes_ Try.func45 (by kernel_rfl) rfl #[.int .i64 sd, .string t1] (by rfl) rfl rfl (by (try simp only [List.map_toArray, List.map_cons, List.map_nil]); first | done | rfl | (simp only [List.length_drop, List.length_take]; rfl)) ?_
                          with_reducible refine (checksum_Text.calls (t1.size + 1) sd t1 g1 _ hh1.out).mono ?_
                          rintro e w31 ⟨rfl, hb0⟩; have hb := hb0.below; clear hb0
                          refine ⟨_, rfl, ?_⟩
                          have n0_ := Aside0.mk (HS.out.step hb); have n1_ := Aside0.mk (below_step' HB.out HS.out.size hb); clear HS HB; have HS := n0_; have HB := n1_; clear n0_ n1_; (try simp only [List.eraseIdx_cons_succ, List.eraseIdx_cons_zero] at HS)
                          have n2_ := Aside0.mk ((hb.cell (World.block_lt_of_cell? _ _ ht0.out)).trans ht0.out); have n3_ := Aside0.mk ((hb.cell (World.block_lt_of_cell? _ _ ht1.out)).trans ht1.out); clear ht0 ht1; have ht0 := n2_; have ht1 := n3_; clear n2_ n3_; clear hb
                          refine hK.out _ _ ⟨((HS.out.pick 0 rfl).cell 1).trans rfl, ht0.out, ht1.out⟩ (fun hHeld => ?_)
                          clear hK K
                          refine norm_ (a' := ?_) ?_ ?_
                          rotate_left
                          · show Act.put _ (some 104) _ = _
                            simp only [Act.put, List.setIfInBounds_toArray, List.set_cons_zero, List.set_cons_succ, i64_w, i32_w]
                            rfl
                          refine pU 25 109 (tfs true [28, 2]).toArray rfl rfl HT_ ?_
                          refine one_ (i := 28) (N := none) (tfs true [29, 1]).toArray rfl rfl (one_of HT_.out (by kernel_rfl)) (by decide) (fun K hK => ?_)
                          have q0 := ((HS.out.pick 2 rfl).cell 0).trans (show _ = some (.int .i64 0) from rfl); have f0 := (HS.out.pick 2 rfl).frozen 0; have q1 := ((HS.out.pick 2 rfl).cell 1).trans (show _ = some (.string ⟨#[]⟩) from rfl); have f1 := (HS.out.pick 2 rfl).frozen 1
                          refine skip_ (w1 := ?_) (by rfl) rfl ?_ ?_
                          rotate_left
                          · go_simp
                            rfl
                          clear q0 q1 f0 f1
                          have n0_ := Aside0.mk ((((((HS.out.pick 2 rfl).set 0 (.int .i64 g0) #[.int .i64 g0, .string ⟨#[]⟩] rfl).set 1 (.string t0) #[.int .i64 g0, .string t0] rfl).pick 2 rfl).pick 2 rfl)); have n1_ := Aside0.mk (((HS.out.pick 2 rfl).set 0 (.int .i64 g0) #[.int .i64 g0, .string ⟨#[]⟩] rfl).below_set (i := 1) (u := .string t0) ((HS.out.pick 2 rfl).below_set (i := 0) (u := .int .i64 g0) HB.out)); clear HS HB; have HS := n0_; have HB := n1_; clear n0_ n1_; (try simp only [List.eraseIdx_cons_succ, List.eraseIdx_cons_zero] at HS)
                          clear ht0 ht1
                          obtain ⟨ad3, e_, ht0⟩ := Kd.at_string (HS.out.pick 1 rfl).rowC.2.2 (m : Int) (Int.natCast_nonneg _) p5; cases e_
                          obtain ⟨ad4, e_, ht1⟩ := Kd.at_string (HS.out.pick 1 rfl).rowC.2.2 (m1 : Int) (Int.natCast_nonneg _) (lt_cst hml'.out); cases e_
                          rw [Int.toNat_natCast, hq0.out] at ht0; rw [Int.toNat_natCast, hq1.out] at ht1; replace ht0 := Aside0.mk ht0; replace ht1 := Aside0.mk ht1
                          refine hK.out _ _ ⟨((HS.out.pick 0 rfl).cell 1).trans rfl, ht0.out, ht1.out⟩ (fun hHeld => ?_)
                          clear hK K
                          refine last_ (i := 29) (N := none) (tfs true [30]).toArray rfl rfl (one_of HT_.out (by kernel_rfl)) (by decide) (fun K hK => ?_)
                          have q0 := ((HS.out.pick 3 rfl).cell 0).trans (show _ = some (.int .i64 0) from rfl); have f0 := (HS.out.pick 3 rfl).frozen 0; have q1 := ((HS.out.pick 3 rfl).cell 1).trans (show _ = some (.string ⟨#[]⟩) from rfl); have f1 := (HS.out.pick 3 rfl).frozen 1
                          refine skip_ (w1 := ?_) (by rfl) rfl ?_ ?_
                          rotate_left
                          · go_simp
                            rfl
                          clear q0 q1 f0 f1
                          have n0_ := Aside0.mk ((((((HS.out.pick 3 rfl).set 0 (.int .i64 g1) #[.int .i64 g1, .string ⟨#[]⟩] rfl).set 1 (.string t1) #[.int .i64 g1, .string t1] rfl).pick 2 rfl).pick 2 rfl)); have n1_ := Aside0.mk (((HS.out.pick 3 rfl).set 0 (.int .i64 g1) #[.int .i64 g1, .string ⟨#[]⟩] rfl).below_set (i := 1) (u := .string t1) ((HS.out.pick 3 rfl).below_set (i := 0) (u := .int .i64 g1) HB.out)); clear HS HB; have HS := n0_; have HB := n1_; clear n0_ n1_; (try simp only [List.eraseIdx_cons_succ, List.eraseIdx_cons_zero] at HS)
                          refine hK.out _ _ ?_
                          clear hK K
                          refine done_ (done_of HT_.out (by kernel_rfl)) ?_
                          clear HT_ HW_
                          try clear hHeld
                          clear ht0 ht1
                          generalize (World.setCell _ _ _) = w40 at HS HB ⊢
                          have n0_ := Aside0.mk (((((HS.out.pick 1 rfl).pick 1 rfl).pick 2 rfl).pick 3 rfl)); have n1_ := Aside0.mk (HB.out); clear HS HB; have HS := n0_; have HB := n1_; clear n0_ n1_; (try simp only [List.eraseIdx_cons_succ, List.eraseIdx_cons_zero] at HS)
                          revert HB
                          revert HS
                          revert w40
                          revert Y
                          revert X
                          exact key.out
                      ·
                        refine box_step (by rfl) (Nt := 14) rfl (cs := #[.int .i64 0, .string ⟨#[]⟩]) (t := 52) ?hrw32 ?_
                        (case hrw32 => first | (go_simp; done) | (go_simp; rfl))
                        intro Y hg w32 hbox hb
                        have n0_ := Aside0.mk ((((HS.out.box hg hbox hb).pick 2 rfl).pick 2 rfl)); have n1_ := Aside0.mk (below_step' HB.out HS.out.size hb); clear HS HB; have HS := n0_; have HB := n1_; clear n0_ n1_; (try simp only [List.eraseIdx_cons_succ, List.eraseIdx_cons_zero] at HS)
                        have n2_ := Aside0.mk ((hb.cell (World.block_lt_of_cell? _ _ ht0.out)).trans ht0.out); have n3_ := Aside0.mk ((hb.cell (World.block_lt_of_cell? _ _ ht1.out)).trans ht1.out); clear ht0 ht1; have ht0 := n2_; have ht1 := n3_; clear n2_ n3_
                        clear hb hbox hg
                        refine hK.out _ _ ⟨((HS.out.pick 0 rfl).cell 1).trans rfl, ht0.out, ht1.out⟩ (fun hHeld => ?_)
                        clear hK K
                        refine norm_ (a' := ?_) ?_ ?_
                        rotate_left
                        · show Act.put _ (some 14) _ = _
                          simp only [Act.put, List.setIfInBounds_toArray, List.set_cons_zero, List.set_cons_succ, i64_w, i32_w]
                          rfl
                        refine two_ (i := 20) (j := 26) (Ni := some 104) (Nj := some 13) (tfs true [25, 2, 1, 2]).toArray (tfs true [20, 1, 4, 1, 2, 2]).toArray rfl rfl rfl rfl (two_of HT_.out (by kernel_rfl)) (by decide) (by decide) (fun K hK => ?_) (fun K hK => ?_)
                        ·
                          refine goes_ Try.func45 (by kernel_rfl) rfl #[.int .i64 sd, .string t1] (by rfl) rfl rfl (by (try simp only [List.map_toArray, List.map_cons, List.map_nil]); first | done | rfl | (simp only [List.length_drop, List.length_take]; rfl)) ?_
                          with_reducible refine (checksum_Text.calls (t1.size + 1) sd t1 g1 _ hh1.out).mono ?_
                          rintro e w33 ⟨rfl, hb0⟩; have hb := hb0.below; clear hb0
                          refine ⟨_, rfl, ?_⟩
                          have n0_ := Aside0.mk (HS.out.step hb); have n1_ := Aside0.mk (below_step' HB.out HS.out.size hb); clear HS HB; have HS := n0_; have HB := n1_; clear n0_ n1_; (try simp only [List.eraseIdx_cons_succ, List.eraseIdx_cons_zero] at HS)
                          have n2_ := Aside0.mk ((hb.cell (World.block_lt_of_cell? _ _ ht0.out)).trans ht0.out); have n3_ := Aside0.mk ((hb.cell (World.block_lt_of_cell? _ _ ht1.out)).trans ht1.out); clear ht0 ht1; have ht0 := n2_; have ht1 := n3_; clear n2_ n3_; clear hb
                          refine hK.out _ _ ⟨((HS.out.pick 0 rfl).cell 1).trans rfl, ht0.out, ht1.out⟩ (fun hHeld => ?_)
                          clear hK K
                          refine norm_ (a' := ?_) ?_ ?_
                          rotate_left
                          · show Act.put _ (some 104) _ = _
                            simp only [Act.put, List.setIfInBounds_toArray, List.set_cons_zero, List.set_cons_succ, i64_w, i32_w]
                            rfl
                          refine pU 25 109 (tfs true [26, 1, 1, 2]).toArray rfl rfl HT_ ?_
                          refine one_ (i := 26) (N := some 13) (tfs true [28, 2]).toArray rfl rfl (one_of HT_.out (by kernel_rfl)) (by decide) (fun K hK => ?_)
                          refine box_step (by rfl) (Nt := 13) rfl (cs := #[.int .i64 0, .string ⟨#[]⟩]) (t := 52) ?hrw34 ?_
                          (case hrw34 => first | (go_simp; done) | (go_simp; rfl))
                          intro X hg w34 hbox hb
                          have n0_ := Aside0.mk (((((HS.out.box hg hbox hb).pick 3 rfl).pick 3 rfl).pick 3 rfl)); have n1_ := Aside0.mk (below_step' HB.out HS.out.size hb); clear HS HB; have HS := n0_; have HB := n1_; clear n0_ n1_; (try simp only [List.eraseIdx_cons_succ, List.eraseIdx_cons_zero] at HS)
                          have n2_ := Aside0.mk ((hb.cell (World.block_lt_of_cell? _ _ ht0.out)).trans ht0.out); have n3_ := Aside0.mk ((hb.cell (World.block_lt_of_cell? _ _ ht1.out)).trans ht1.out); clear ht0 ht1; have ht0 := n2_; have ht1 := n3_; clear n2_ n3_
                          clear hb hbox hg
                          refine hK.out _ _ ⟨((HS.out.pick 0 rfl).cell 1).trans rfl, ht0.out, ht1.out⟩ (fun hHeld => ?_)
                          clear hK K
                          refine norm_ (a' := ?_) ?_ ?_
                          rotate_left
                          · show Act.put _ (some 13) _ = _
                            simp only [Act.put, List.setIfInBounds_toArray, List.set_cons_zero, List.set_cons_succ, i64_w, i32_w]
                            rfl
                          refine one_ (i := 28) (N := none) (tfs true [29, 1]).toArray rfl rfl (one_of HT_.out (by kernel_rfl)) (by decide) (fun K hK => ?_)
                          have q0 := ((HS.out.pick 3 rfl).cell 0).trans (show _ = some (.int .i64 0) from rfl); have f0 := (HS.out.pick 3 rfl).frozen 0; have q1 := ((HS.out.pick 3 rfl).cell 1).trans (show _ = some (.string ⟨#[]⟩) from rfl); have f1 := (HS.out.pick 3 rfl).frozen 1
                          refine skip_ (w1 := ?_) (by rfl) rfl ?_ ?_
                          rotate_left
                          · go_simp
                            rfl
                          clear q0 q1 f0 f1
                          have n0_ := Aside0.mk ((((((HS.out.pick 3 rfl).set 0 (.int .i64 g0) #[.int .i64 g0, .string ⟨#[]⟩] rfl).set 1 (.string t0) #[.int .i64 g0, .string t0] rfl).pick 2 rfl).pick 2 rfl)); have n1_ := Aside0.mk (((HS.out.pick 3 rfl).set 0 (.int .i64 g0) #[.int .i64 g0, .string ⟨#[]⟩] rfl).below_set (i := 1) (u := .string t0) ((HS.out.pick 3 rfl).below_set (i := 0) (u := .int .i64 g0) HB.out)); clear HS HB; have HS := n0_; have HB := n1_; clear n0_ n1_; (try simp only [List.eraseIdx_cons_succ, List.eraseIdx_cons_zero] at HS)
                          clear ht0 ht1
                          obtain ⟨ad3, e_, ht0⟩ := Kd.at_string (HS.out.pick 1 rfl).rowC.2.2 (m : Int) (Int.natCast_nonneg _) p5; cases e_
                          obtain ⟨ad4, e_, ht1⟩ := Kd.at_string (HS.out.pick 1 rfl).rowC.2.2 (m1 : Int) (Int.natCast_nonneg _) (lt_cst hml'.out); cases e_
                          rw [Int.toNat_natCast, hq0.out] at ht0; rw [Int.toNat_natCast, hq1.out] at ht1; replace ht0 := Aside0.mk ht0; replace ht1 := Aside0.mk ht1
                          refine hK.out _ _ ⟨((HS.out.pick 0 rfl).cell 1).trans rfl, ht0.out, ht1.out⟩ (fun hHeld => ?_)
                          clear hK K
                          refine last_ (i := 29) (N := none) (tfs true [30]).toArray rfl rfl (one_of HT_.out (by kernel_rfl)) (by decide) (fun K hK => ?_)
                          have q0 := ((HS.out.pick 3 rfl).cell 0).trans (show _ = some (.int .i64 0) from rfl); have f0 := (HS.out.pick 3 rfl).frozen 0; have q1 := ((HS.out.pick 3 rfl).cell 1).trans (show _ = some (.string ⟨#[]⟩) from rfl); have f1 := (HS.out.pick 3 rfl).frozen 1
                          refine skip_ (w1 := ?_) (by rfl) rfl ?_ ?_
                          rotate_left
                          · go_simp
                            rfl
                          clear q0 q1 f0 f1
                          have n0_ := Aside0.mk ((((((HS.out.pick 3 rfl).set 0 (.int .i64 g1) #[.int .i64 g1, .string ⟨#[]⟩] rfl).set 1 (.string t1) #[.int .i64 g1, .string t1] rfl).pick 2 rfl).pick 2 rfl)); have n1_ := Aside0.mk (((HS.out.pick 3 rfl).set 0 (.int .i64 g1) #[.int .i64 g1, .string ⟨#[]⟩] rfl).below_set (i := 1) (u := .string t1) ((HS.out.pick 3 rfl).below_set (i := 0) (u := .int .i64 g1) HB.out)); clear HS HB; have HS := n0_; have HB := n1_; clear n0_ n1_; (try simp only [List.eraseIdx_cons_succ, List.eraseIdx_cons_zero] at HS)
                          refine hK.out _ _ ?_
                          clear hK K
                          refine done_ (done_of HT_.out (by kernel_rfl)) ?_
                          clear HT_ HW_
                          try clear hHeld
                          clear ht0 ht1
                          generalize (World.setCell _ _ _) = w40 at HS HB ⊢
                          have n0_ := Aside0.mk (((((HS.out.pick 1 rfl).pick 1 rfl).pick 2 rfl).pick 3 rfl)); have n1_ := Aside0.mk (HB.out); clear HS HB; have HS := n0_; have HB := n1_; clear n0_ n1_; (try simp only [List.eraseIdx_cons_succ, List.eraseIdx_cons_zero] at HS)
                          revert HB
                          revert HS
                          revert w40
                          revert Y
                          revert X
                          exact key.out
                        ·
                          refine box_step (by rfl) (Nt := 13) rfl (cs := #[.int .i64 0, .string ⟨#[]⟩]) (t := 52) ?hrw35 ?_
                          (case hrw35 => first | (go_simp; done) | (go_simp; rfl))
                          intro X hg w35 hbox hb
                          have n0_ := Aside0.mk (((((HS.out.box hg hbox hb).pick 3 rfl).pick 3 rfl).pick 3 rfl)); have n1_ := Aside0.mk (below_step' HB.out HS.out.size hb); clear HS HB; have HS := n0_; have HB := n1_; clear n0_ n1_; (try simp only [List.eraseIdx_cons_succ, List.eraseIdx_cons_zero] at HS)
                          have n2_ := Aside0.mk ((hb.cell (World.block_lt_of_cell? _ _ ht0.out)).trans ht0.out); have n3_ := Aside0.mk ((hb.cell (World.block_lt_of_cell? _ _ ht1.out)).trans ht1.out); clear ht0 ht1; have ht0 := n2_; have ht1 := n3_; clear n2_ n3_
                          clear hb hbox hg
                          refine hK.out _ _ ⟨((HS.out.pick 0 rfl).cell 1).trans rfl, ht0.out, ht1.out⟩ (fun hHeld => ?_)
                          clear hK K
                          refine norm_ (a' := ?_) ?_ ?_
                          rotate_left
                          · show Act.put _ (some 13) _ = _
                            simp only [Act.put, List.setIfInBounds_toArray, List.set_cons_zero, List.set_cons_succ, i64_w, i32_w]
                            rfl
                          refine one_ (i := 20) (N := some 104) (tfs true [25, 1, 2, 2]).toArray rfl rfl (one_of HT_.out (by kernel_rfl)) (by decide) (fun K hK => ?_)
                          refine goes_ Try.func45 (by kernel_rfl) rfl #[.int .i64 sd, .string t1] (by rfl) rfl rfl (by (try simp only [List.map_toArray, List.map_cons, List.map_nil]); first | done | rfl | (simp only [List.length_drop, List.length_take]; rfl)) ?_
                          with_reducible refine (checksum_Text.calls (t1.size + 1) sd t1 g1 _ hh1.out).mono ?_
                          rintro e w36 ⟨rfl, hb0⟩; have hb := hb0.below; clear hb0
                          refine ⟨_, rfl, ?_⟩
                          have n0_ := Aside0.mk (HS.out.step hb); have n1_ := Aside0.mk (below_step' HB.out HS.out.size hb); clear HS HB; have HS := n0_; have HB := n1_; clear n0_ n1_; (try simp only [List.eraseIdx_cons_succ, List.eraseIdx_cons_zero] at HS)
                          have n2_ := Aside0.mk ((hb.cell (World.block_lt_of_cell? _ _ ht0.out)).trans ht0.out); have n3_ := Aside0.mk ((hb.cell (World.block_lt_of_cell? _ _ ht1.out)).trans ht1.out); clear ht0 ht1; have ht0 := n2_; have ht1 := n3_; clear n2_ n3_; clear hb
                          refine hK.out _ _ ⟨((HS.out.pick 0 rfl).cell 1).trans rfl, ht0.out, ht1.out⟩ (fun hHeld => ?_)
                          clear hK K
                          refine norm_ (a' := ?_) ?_ ?_
                          rotate_left
                          · show Act.put _ (some 104) _ = _
                            simp only [Act.put, List.setIfInBounds_toArray, List.set_cons_zero, List.set_cons_succ, i64_w, i32_w]
                            rfl
                          refine pU 25 109 (tfs true [28, 2]).toArray rfl rfl HT_ ?_
                          refine one_ (i := 28) (N := none) (tfs true [29, 1]).toArray rfl rfl (one_of HT_.out (by kernel_rfl)) (by decide) (fun K hK => ?_)
                          have q0 := ((HS.out.pick 3 rfl).cell 0).trans (show _ = some (.int .i64 0) from rfl); have f0 := (HS.out.pick 3 rfl).frozen 0; have q1 := ((HS.out.pick 3 rfl).cell 1).trans (show _ = some (.string ⟨#[]⟩) from rfl); have f1 := (HS.out.pick 3 rfl).frozen 1
                          refine skip_ (w1 := ?_) (by rfl) rfl ?_ ?_
                          rotate_left
                          · go_simp
                            rfl
                          clear q0 q1 f0 f1
                          have n0_ := Aside0.mk ((((((HS.out.pick 3 rfl).set 0 (.int .i64 g0) #[.int .i64 g0, .string ⟨#[]⟩] rfl).set 1 (.string t0) #[.int .i64 g0, .string t0] rfl).pick 2 rfl).pick 2 rfl)); have n1_ := Aside0.mk (((HS.out.pick 3 rfl).set 0 (.int .i64 g0) #[.int .i64 g0, .string ⟨#[]⟩] rfl).below_set (i := 1) (u := .string t0) ((HS.out.pick 3 rfl).below_set (i := 0) (u := .int .i64 g0) HB.out)); clear HS HB; have HS := n0_; have HB := n1_; clear n0_ n1_; (try simp only [List.eraseIdx_cons_succ, List.eraseIdx_cons_zero] at HS)
                          clear ht0 ht1
                          obtain ⟨ad3, e_, ht0⟩ := Kd.at_string (HS.out.pick 1 rfl).rowC.2.2 (m : Int) (Int.natCast_nonneg _) p5; cases e_
                          obtain ⟨ad4, e_, ht1⟩ := Kd.at_string (HS.out.pick 1 rfl).rowC.2.2 (m1 : Int) (Int.natCast_nonneg _) (lt_cst hml'.out); cases e_
                          rw [Int.toNat_natCast, hq0.out] at ht0; rw [Int.toNat_natCast, hq1.out] at ht1; replace ht0 := Aside0.mk ht0; replace ht1 := Aside0.mk ht1
                          refine hK.out _ _ ⟨((HS.out.pick 0 rfl).cell 1).trans rfl, ht0.out, ht1.out⟩ (fun hHeld => ?_)
                          clear hK K
                          refine last_ (i := 29) (N := none) (tfs true [30]).toArray rfl rfl (one_of HT_.out (by kernel_rfl)) (by decide) (fun K hK => ?_)
                          have q0 := ((HS.out.pick 3 rfl).cell 0).trans (show _ = some (.int .i64 0) from rfl); have f0 := (HS.out.pick 3 rfl).frozen 0; have q1 := ((HS.out.pick 3 rfl).cell 1).trans (show _ = some (.string ⟨#[]⟩) from rfl); have f1 := (HS.out.pick 3 rfl).frozen 1
                          refine skip_ (w1 := ?_) (by rfl) rfl ?_ ?_
                          rotate_left
                          · go_simp
                            rfl
                          clear q0 q1 f0 f1
                          have n0_ := Aside0.mk ((((((HS.out.pick 3 rfl).set 0 (.int .i64 g1) #[.int .i64 g1, .string ⟨#[]⟩] rfl).set 1 (.string t1) #[.int .i64 g1, .string t1] rfl).pick 2 rfl).pick 2 rfl)); have n1_ := Aside0.mk (((HS.out.pick 3 rfl).set 0 (.int .i64 g1) #[.int .i64 g1, .string ⟨#[]⟩] rfl).below_set (i := 1) (u := .string t1) ((HS.out.pick 3 rfl).below_set (i := 0) (u := .int .i64 g1) HB.out)); clear HS HB; have HS := n0_; have HB := n1_; clear n0_ n1_; (try simp only [List.eraseIdx_cons_succ, List.eraseIdx_cons_zero] at HS)
                          refine hK.out _ _ ?_
                          clear hK K
                          refine done_ (done_of HT_.out (by kernel_rfl)) ?_
                          clear HT_ HW_
                          try clear hHeld
                          clear ht0 ht1
                          generalize (World.setCell _ _ _) = w40 at HS HB ⊢
                          have n0_ := Aside0.mk (((((HS.out.pick 1 rfl).pick 1 rfl).pick 2 rfl).pick 3 rfl)); have n1_ := Aside0.mk (HB.out); clear HS HB; have HS := n0_; have HB := n1_; clear n0_ n1_; (try simp only [List.eraseIdx_cons_succ, List.eraseIdx_cons_zero] at HS)
                          revert HB
                          revert HS
                          revert w40
                          revert Y
                          revert X
                          exact key.out
                    ·
                      refine box_step (by rfl) (Nt := 13) rfl (cs := #[.int .i64 0, .string ⟨#[]⟩]) (t := 52) ?hrw37 ?_
                      (case hrw37 => first | (go_simp; done) | (go_simp; rfl))
                      intro X hg w37 hbox hb
                      have n0_ := Aside0.mk ((((HS.out.box hg hbox hb).pick 2 rfl).pick 2 rfl)); have n1_ := Aside0.mk (below_step' HB.out HS.out.size hb); clear HS HB; have HS := n0_; have HB := n1_; clear n0_ n1_; (try simp only [List.eraseIdx_cons_succ, List.eraseIdx_cons_zero] at HS)
                      have n2_ := Aside0.mk ((hb.cell (World.block_lt_of_cell? _ _ ht0.out)).trans ht0.out); have n3_ := Aside0.mk ((hb.cell (World.block_lt_of_cell? _ _ ht1.out)).trans ht1.out); clear ht0 ht1; have ht0 := n2_; have ht1 := n3_; clear n2_ n3_
                      clear hb hbox hg
                      refine hK.out _ _ ⟨((HS.out.pick 0 rfl).cell 1).trans rfl, ht0.out, ht1.out⟩ (fun hHeld => ?_)
                      clear hK K
                      refine norm_ (a' := ?_) ?_ ?_
                      rotate_left
                      · show Act.put _ (some 13) _ = _
                        simp only [Act.put, List.setIfInBounds_toArray, List.set_cons_zero, List.set_cons_succ, i64_w, i32_w]
                        rfl
                      refine two_ (i := 7) (j := 27) (Ni := some 91) (Nj := some 14) (tfs true [13, 1, 6, 1, 4, 1, 1, 3]).toArray (tfs true [7, 1, 5, 1, 6, 1, 4, 1, 2, 2]).toArray rfl rfl rfl rfl (two_of HT_.out (by kernel_rfl)) (by decide) (by decide) (fun K hK => ?_) (fun K hK => ?_)
                      ·
                        refine goes_ Try.func45 (by kernel_rfl) rfl #[.int .i64 sd, .string t0] (by rfl) rfl rfl (by (try simp only [List.map_toArray, List.map_cons, List.map_nil]); first | done | rfl | (simp only [List.length_drop, List.length_take]; rfl)) ?_
                        with_reducible refine (checksum_Text.calls (t0.size + 1) sd t0 g0 _ hh0.out).mono ?_
                        rintro e w38 ⟨rfl, hb0⟩; have hb := hb0.below; clear hb0
                        refine ⟨_, rfl, ?_⟩
                        have n0_ := Aside0.mk (HS.out.step hb); have n1_ := Aside0.mk (below_step' HB.out HS.out.size hb); clear HS HB; have HS := n0_; have HB := n1_; clear n0_ n1_; (try simp only [List.eraseIdx_cons_succ, List.eraseIdx_cons_zero] at HS)
                        have n2_ := Aside0.mk ((hb.cell (World.block_lt_of_cell? _ _ ht0.out)).trans ht0.out); have n3_ := Aside0.mk ((hb.cell (World.block_lt_of_cell? _ _ ht1.out)).trans ht1.out); clear ht0 ht1; have ht0 := n2_; have ht1 := n3_; clear n2_ n3_; clear hb
                        refine hK.out _ _ ⟨((HS.out.pick 0 rfl).cell 1).trans rfl, ht0.out, ht1.out⟩ (fun hHeld => ?_)
                        clear hK K
                        refine norm_ (a' := ?_) ?_ ?_
                        rotate_left
                        · show Act.put _ (some 91) _ = _
                          simp only [Act.put, List.setIfInBounds_toArray, List.set_cons_zero, List.set_cons_succ, i64_w, i32_w]
                          rfl
                        refine pU 13 97 (tfs true [20, 1, 4, 1, 1, 3]).toArray rfl rfl HT_ ?_
                        refine two_ (i := 20) (j := 27) (Ni := some 104) (Nj := some 14) (tfs true [25, 1, 1, 3]).toArray (tfs true [20, 1, 4, 1, 2, 2]).toArray rfl rfl rfl rfl (two_of HT_.out (by kernel_rfl)) (by decide) (by decide) (fun K hK => ?_) (fun K hK => ?_)
                        ·
                          refine goes_ Try.func45 (by kernel_rfl) rfl #[.int .i64 sd, .string t1] (by rfl) rfl rfl (by (try simp only [List.map_toArray, List.map_cons, List.map_nil]); first | done | rfl | (simp only [List.length_drop, List.length_take]; rfl)) ?_
                          with_reducible refine (checksum_Text.calls (t1.size + 1) sd t1 g1 _ hh1.out).mono ?_
                          rintro e w39 ⟨rfl, hb0⟩; have hb := hb0.below; clear hb0
                          refine ⟨_, rfl, ?_⟩
                          have n0_ := Aside0.mk (HS.out.step hb); have n1_ := Aside0.mk (below_step' HB.out HS.out.size hb); clear HS HB; have HS := n0_; have HB := n1_; clear n0_ n1_; (try simp only [List.eraseIdx_cons_succ, List.eraseIdx_cons_zero] at HS)
                          have n2_ := Aside0.mk ((hb.cell (World.block_lt_of_cell? _ _ ht0.out)).trans ht0.out); have n3_ := Aside0.mk ((hb.cell (World.block_lt_of_cell? _ _ ht1.out)).trans ht1.out); clear ht0 ht1; have ht0 := n2_; have ht1 := n3_; clear n2_ n3_; clear hb
                          refine hK.out _ _ ⟨((HS.out.pick 0 rfl).cell 1).trans rfl, ht0.out, ht1.out⟩ (fun hHeld => ?_)
                          clear hK K
                          refine norm_ (a' := ?_) ?_ ?_
                          rotate_left
                          · show Act.put _ (some 104) _ = _
                            simp only [Act.put, List.setIfInBounds_toArray, List.set_cons_zero, List.set_cons_succ, i64_w, i32_w]
                            rfl
                          refine pU 25 109 (tfs true [27, 3]).toArray rfl rfl HT_ ?_
                          refine one_ (i := 27) (N := some 14) (tfs true [28, 2]).toArray rfl rfl (one_of HT_.out (by kernel_rfl)) (by decide) (fun K hK => ?_)
                          refine box_step (by rfl) (Nt := 14) rfl (cs := #[.int .i64 0, .string ⟨#[]⟩]) (t := 52) ?hrw40 ?_
                          (case hrw40 => first | (go_simp; done) | (go_simp; rfl))
                          intro Y hg w40 hbox hb
                          have n0_ := Aside0.mk (((((HS.out.box hg hbox hb).pick 3 rfl).pick 3 rfl).pick 3 rfl)); have n1_ := Aside0.mk (below_step' HB.out HS.out.size hb); clear HS HB; have HS := n0_; have HB := n1_; clear n0_ n1_; (try simp only [List.eraseIdx_cons_succ, List.eraseIdx_cons_zero] at HS)
                          have n2_ := Aside0.mk ((hb.cell (World.block_lt_of_cell? _ _ ht0.out)).trans ht0.out); have n3_ := Aside0.mk ((hb.cell (World.block_lt_of_cell? _ _ ht1.out)).trans ht1.out); clear ht0 ht1; have ht0 := n2_; have ht1 := n3_; clear n2_ n3_
                          clear hb hbox hg
                          refine hK.out _ _ ⟨((HS.out.pick 0 rfl).cell 1).trans rfl, ht0.out, ht1.out⟩ (fun hHeld => ?_)
                          clear hK K
                          refine norm_ (a' := ?_) ?_ ?_
                          rotate_left
                          · show Act.put _ (some 14) _ = _
                            simp only [Act.put, List.setIfInBounds_toArray, List.set_cons_zero, List.set_cons_succ, i64_w, i32_w]
                            rfl
                          refine one_ (i := 28) (N := none) (tfs true [29, 1]).toArray rfl rfl (one_of HT_.out (by kernel_rfl)) (by decide) (fun K hK => ?_)
                          have q0 := ((HS.out.pick 2 rfl).cell 0).trans (show _ = some (.int .i64 0) from rfl); have f0 := (HS.out.pick 2 rfl).frozen 0; have q1 := ((HS.out.pick 2 rfl).cell 1).trans (show _ = some (.string ⟨#[]⟩) from rfl); have f1 := (HS.out.pick 2 rfl).frozen 1
                          refine skip_ (w1 := ?_) (by rfl) rfl ?_ ?_
                          rotate_left
                          · go_simp
                            rfl
                          clear q0 q1 f0 f1
                          have n0_ := Aside0.mk ((((((HS.out.pick 2 rfl).set 0 (.int .i64 g0) #[.int .i64 g0, .string ⟨#[]⟩] rfl).set 1 (.string t0) #[.int .i64 g0, .string t0] rfl).pick 2 rfl).pick 2 rfl)); have n1_ := Aside0.mk (((HS.out.pick 2 rfl).set 0 (.int .i64 g0) #[.int .i64 g0, .string ⟨#[]⟩] rfl).below_set (i := 1) (u := .string t0) ((HS.out.pick 2 rfl).below_set (i := 0) (u := .int .i64 g0) HB.out)); clear HS HB; have HS := n0_; have HB := n1_; clear n0_ n1_; (try simp only [List.eraseIdx_cons_succ, List.eraseIdx_cons_zero] at HS)
                          clear ht0 ht1
                          obtain ⟨ad3, e_, ht0⟩ := Kd.at_string (HS.out.pick 1 rfl).rowC.2.2 (m : Int) (Int.natCast_nonneg _) p5; cases e_
                          obtain ⟨ad4, e_, ht1⟩ := Kd.at_string (HS.out.pick 1 rfl).rowC.2.2 (m1 : Int) (Int.natCast_nonneg _) (lt_cst hml'.out); cases e_
                          rw [Int.toNat_natCast, hq0.out] at ht0; rw [Int.toNat_natCast, hq1.out] at ht1; replace ht0 := Aside0.mk ht0; replace ht1 := Aside0.mk ht1
                          refine hK.out _ _ ⟨((HS.out.pick 0 rfl).cell 1).trans rfl, ht0.out, ht1.out⟩ (fun hHeld => ?_)
                          clear hK K
                          refine last_ (i := 29) (N := none) (tfs true [30]).toArray rfl rfl (one_of HT_.out (by kernel_rfl)) (by decide) (fun K hK => ?_)
                          have q0 := ((HS.out.pick 3 rfl).cell 0).trans (show _ = some (.int .i64 0) from rfl); have f0 := (HS.out.pick 3 rfl).frozen 0; have q1 := ((HS.out.pick 3 rfl).cell 1).trans (show _ = some (.string ⟨#[]⟩) from rfl); have f1 := (HS.out.pick 3 rfl).frozen 1
                          refine skip_ (w1 := ?_) (by rfl) rfl ?_ ?_
                          rotate_left
                          · go_simp
                            rfl
                          clear q0 q1 f0 f1
                          have n0_ := Aside0.mk ((((((HS.out.pick 3 rfl).set 0 (.int .i64 g1) #[.int .i64 g1, .string ⟨#[]⟩] rfl).set 1 (.string t1) #[.int .i64 g1, .string t1] rfl).pick 2 rfl).pick 2 rfl)); have n1_ := Aside0.mk (((HS.out.pick 3 rfl).set 0 (.int .i64 g1) #[.int .i64 g1, .string ⟨#[]⟩] rfl).below_set (i := 1) (u := .string t1) ((HS.out.pick 3 rfl).below_set (i := 0) (u := .int .i64 g1) HB.out)); clear HS HB; have HS := n0_; have HB := n1_; clear n0_ n1_; (try simp only [List.eraseIdx_cons_succ, List.eraseIdx_cons_zero] at HS)
                          refine hK.out _ _ ?_
                          clear hK K
                          refine done_ (done_of HT_.out (by kernel_rfl)) ?_
                          clear HT_ HW_
                          try clear hHeld
                          clear ht0 ht1
                          generalize (World.setCell _ _ _) = w40 at HS HB ⊢
                          have n0_ := Aside0.mk (((((HS.out.pick 1 rfl).pick 1 rfl).pick 2 rfl).pick 3 rfl)); have n1_ := Aside0.mk (HB.out); clear HS HB; have HS := n0_; have HB := n1_; clear n0_ n1_; (try simp only [List.eraseIdx_cons_succ, List.eraseIdx_cons_zero] at HS)
                          revert HB
                          revert HS
                          revert w40
                          revert Y
                          revert X
                          exact key.out
                        ·
                          refine box_step (by rfl) (Nt := 14) rfl (cs := #[.int .i64 0, .string ⟨#[]⟩]) (t := 52) ?hrw41 ?_
                          (case hrw41 => first | (go_simp; done) | (go_simp; rfl))
                          intro Y hg w41 hbox hb
                          have n0_ := Aside0.mk (((((HS.out.box hg hbox hb).pick 3 rfl).pick 3 rfl).pick 3 rfl)); have n1_ := Aside0.mk (below_step' HB.out HS.out.size hb); clear HS HB; have HS := n0_; have HB := n1_; clear n0_ n1_; (try simp only [List.eraseIdx_cons_succ, List.eraseIdx_cons_zero] at HS)
                          have n2_ := Aside0.mk ((hb.cell (World.block_lt_of_cell? _ _ ht0.out)).trans ht0.out); have n3_ := Aside0.mk ((hb.cell (World.block_lt_of_cell? _ _ ht1.out)).trans ht1.out); clear ht0 ht1; have ht0 := n2_; have ht1 := n3_; clear n2_ n3_
                          clear hb hbox hg
                          refine hK.out _ _ ⟨((HS.out.pick 0 rfl).cell 1).trans rfl, ht0.out, ht1.out⟩ (fun hHeld => ?_)
                          clear hK K
                          refine norm_ (a' := ?_) ?_ ?_
                          rotate_left
                          · show Act.put _ (some 14) _ = _
                            simp only [Act.put, List.setIfInBounds_toArray, List.set_cons_zero, List.set_cons_succ, i64_w, i32_w]
                            rfl
                          refine one_ (i := 20) (N := some 104) (tfs true [25, 1, 2, 2]).toArray rfl rfl (one_of HT_.out (by kernel_rfl)) (by decide) (fun K hK => ?_)
                          refine goes_ Try.func45 (by kernel_rfl) rfl #[.int .i64 sd, .string t1] (by rfl) rfl rfl (by (try simp only [List.map_toArray, List.map_cons, List.map_nil]); first | done | rfl | (simp only [List.length_drop, List.length_take]; rfl)) ?_
                          with_reducible refine (checksum_Text.calls (t1.size + 1) sd t1 g1 _ hh1.out).mono ?_
                          rintro e w42 ⟨rfl, hb0⟩; have hb := hb0.below; clear hb0
                          refine ⟨_, rfl, ?_⟩
                          have n0_ := Aside0.mk (HS.out.step hb); have n1_ := Aside0.mk (below_step' HB.out HS.out.size hb); clear HS HB; have HS := n0_; have HB := n1_; clear n0_ n1_; (try simp only [List.eraseIdx_cons_succ, List.eraseIdx_cons_zero] at HS)
                          have n2_ := Aside0.mk ((hb.cell (World.block_lt_of_cell? _ _ ht0.out)).trans ht0.out); have n3_ := Aside0.mk ((hb.cell (World.block_lt_of_cell? _ _ ht1.out)).trans ht1.out); clear ht0 ht1; have ht0 := n2_; have ht1 := n3_; clear n2_ n3_; clear hb
                          refine hK.out _ _ ⟨((HS.out.pick 0 rfl).cell 1).trans rfl, ht0.out, ht1.out⟩ (fun hHeld => ?_)
                          clear hK K
                          refine norm_ (a' := ?_) ?_ ?_
                          rotate_left
                          · show Act.put _ (some 104) _ = _
                            simp only [Act.put, List.setIfInBounds_toArray, List.set_cons_zero, List.set_cons_succ, i64_w, i32_w]
                            rfl
                          refine pU 25 109 (tfs true [28, 2]).toArray rfl rfl HT_ ?_
                          refine one_ (i := 28) (N := none) (tfs true [29, 1]).toArray rfl rfl (one_of HT_.out (by kernel_rfl)) (by decide) (fun K hK => ?_)
                          have q0 := ((HS.out.pick 2 rfl).cell 0).trans (show _ = some (.int .i64 0) from rfl); have f0 := (HS.out.pick 2 rfl).frozen 0; have q1 := ((HS.out.pick 2 rfl).cell 1).trans (show _ = some (.string ⟨#[]⟩) from rfl); have f1 := (HS.out.pick 2 rfl).frozen 1
                          refine skip_ (w1 := ?_) (by rfl) rfl ?_ ?_
                          rotate_left
                          · go_simp
                            rfl
                          clear q0 q1 f0 f1
                          have n0_ := Aside0.mk ((((((HS.out.pick 2 rfl).set 0 (.int .i64 g0) #[.int .i64 g0, .string ⟨#[]⟩] rfl).set 1 (.string t0) #[.int .i64 g0, .string t0] rfl).pick 2 rfl).pick 2 rfl)); have n1_ := Aside0.mk (((HS.out.pick 2 rfl).set 0 (.int .i64 g0) #[.int .i64 g0, .string ⟨#[]⟩] rfl).below_set (i := 1) (u := .string t0) ((HS.out.pick 2 rfl).below_set (i := 0) (u := .int .i64 g0) HB.out)); clear HS HB; have HS := n0_; have HB := n1_; clear n0_ n1_; (try simp only [List.eraseIdx_cons_succ, List.eraseIdx_cons_zero] at HS)
                          clear ht0 ht1
                          obtain ⟨ad3, e_, ht0⟩ := Kd.at_string (HS.out.pick 1 rfl).rowC.2.2 (m : Int) (Int.natCast_nonneg _) p5; cases e_
                          obtain ⟨ad4, e_, ht1⟩ := Kd.at_string (HS.out.pick 1 rfl).rowC.2.2 (m1 : Int) (Int.natCast_nonneg _) (lt_cst hml'.out); cases e_
                          rw [Int.toNat_natCast, hq0.out] at ht0; rw [Int.toNat_natCast, hq1.out] at ht1; replace ht0 := Aside0.mk ht0; replace ht1 := Aside0.mk ht1
                          refine hK.out _ _ ⟨((HS.out.pick 0 rfl).cell 1).trans rfl, ht0.out, ht1.out⟩ (fun hHeld => ?_)
                          clear hK K
                          refine last_ (i := 29) (N := none) (tfs true [30]).toArray rfl rfl (one_of HT_.out (by kernel_rfl)) (by decide) (fun K hK => ?_)
                          have q0 := ((HS.out.pick 3 rfl).cell 0).trans (show _ = some (.int .i64 0) from rfl); have f0 := (HS.out.pick 3 rfl).frozen 0; have q1 := ((HS.out.pick 3 rfl).cell 1).trans (show _ = some (.string ⟨#[]⟩) from rfl); have f1 := (HS.out.pick 3 rfl).frozen 1
                          refine skip_ (w1 := ?_) (by rfl) rfl ?_ ?_
                          rotate_left
                          · go_simp
                            rfl
                          clear q0 q1 f0 f1
                          have n0_ := Aside0.mk ((((((HS.out.pick 3 rfl).set 0 (.int .i64 g1) #[.int .i64 g1, .string ⟨#[]⟩] rfl).set 1 (.string t1) #[.int .i64 g1, .string t1] rfl).pick 2 rfl).pick 2 rfl)); have n1_ := Aside0.mk (((HS.out.pick 3 rfl).set 0 (.int .i64 g1) #[.int .i64 g1, .string ⟨#[]⟩] rfl).below_set (i := 1) (u := .string t1) ((HS.out.pick 3 rfl).below_set (i := 0) (u := .int .i64 g1) HB.out)); clear HS HB; have HS := n0_; have HB := n1_; clear n0_ n1_; (try simp only [List.eraseIdx_cons_succ, List.eraseIdx_cons_zero] at HS)
                          refine hK.out _ _ ?_
                          clear hK K
                          refine done_ (done_of HT_.out (by kernel_rfl)) ?_
                          clear HT_ HW_
                          try clear hHeld
                          clear ht0 ht1
                          generalize (World.setCell _ _ _) = w40 at HS HB ⊢
                          have n0_ := Aside0.mk (((((HS.out.pick 1 rfl).pick 1 rfl).pick 2 rfl).pick 3 rfl)); have n1_ := Aside0.mk (HB.out); clear HS HB; have HS := n0_; have HB := n1_; clear n0_ n1_; (try simp only [List.eraseIdx_cons_succ, List.eraseIdx_cons_zero] at HS)
                          revert HB
                          revert HS
                          revert w40
                          revert Y
                          revert X
                          exact key.out
                      ·
                        refine box_step (by rfl) (Nt := 14) rfl (cs := #[.int .i64 0, .string ⟨#[]⟩]) (t := 52) ?hrw43 ?_
                        (case hrw43 => first | (go_simp; done) | (go_simp; rfl))
                        intro Y hg w43 hbox hb
                        have n0_ := Aside0.mk (((((HS.out.box hg hbox hb).pick 3 rfl).pick 3 rfl).pick 3 rfl)); have n1_ := Aside0.mk (below_step' HB.out HS.out.size hb); clear HS HB; have HS := n0_; have HB := n1_; clear n0_ n1_; (try simp only [List.eraseIdx_cons_succ, List.eraseIdx_cons_zero] at HS)
                        have n2_ := Aside0.mk ((hb.cell (World.block_lt_of_cell? _ _ ht0.out)).trans ht0.out); have n3_ := Aside0.mk ((hb.cell (World.block_lt_of_cell? _ _ ht1.out)).trans ht1.out); clear ht0 ht1; have ht0 := n2_; have ht1 := n3_; clear n2_ n3_
                        clear hb hbox hg
                        refine hK.out _ _ ⟨((HS.out.pick 0 rfl).cell 1).trans rfl, ht0.out, ht1.out⟩ (fun hHeld => ?_)
                        clear hK K
                        refine norm_ (a' := ?_) ?_ ?_
                        rotate_left
                        · show Act.put _ (some 14) _ = _
                          simp only [Act.put, List.setIfInBounds_toArray, List.set_cons_zero, List.set_cons_succ, i64_w, i32_w]
                          rfl
                        refine one_ (i := 7) (N := some 91) (tfs true [13, 1, 6, 1, 4, 1, 2, 2]).toArray rfl rfl (one_of HT_.out (by kernel_rfl)) (by decide) (fun K hK => ?_)
                        refine goes_ Try.func45 (by kernel_rfl) rfl #[.int .i64 sd, .string t0] (by rfl) rfl rfl (by (try simp only [List.map_toArray, List.map_cons, List.map_nil]); first | done | rfl | (simp only [List.length_drop, List.length_take]; rfl)) ?_
                        with_reducible refine (checksum_Text.calls (t0.size + 1) sd t0 g0 _ hh0.out).mono ?_
                        rintro e w44 ⟨rfl, hb0⟩; have hb := hb0.below; clear hb0
                        refine ⟨_, rfl, ?_⟩
                        have n0_ := Aside0.mk (HS.out.step hb); have n1_ := Aside0.mk (below_step' HB.out HS.out.size hb); clear HS HB; have HS := n0_; have HB := n1_; clear n0_ n1_; (try simp only [List.eraseIdx_cons_succ, List.eraseIdx_cons_zero] at HS)
                        have n2_ := Aside0.mk ((hb.cell (World.block_lt_of_cell? _ _ ht0.out)).trans ht0.out); have n3_ := Aside0.mk ((hb.cell (World.block_lt_of_cell? _ _ ht1.out)).trans ht1.out); clear ht0 ht1; have ht0 := n2_; have ht1 := n3_; clear n2_ n3_; clear hb
                        refine hK.out _ _ ⟨((HS.out.pick 0 rfl).cell 1).trans rfl, ht0.out, ht1.out⟩ (fun hHeld => ?_)
                        clear hK K
                        refine norm_ (a' := ?_) ?_ ?_
                        rotate_left
                        · show Act.put _ (some 91) _ = _
                          simp only [Act.put, List.setIfInBounds_toArray, List.set_cons_zero, List.set_cons_succ, i64_w, i32_w]
                          rfl
                        refine pU 13 97 (tfs true [20, 1, 4, 1, 2, 2]).toArray rfl rfl HT_ ?_
                        refine one_ (i := 20) (N := some 104) (tfs true [25, 1, 2, 2]).toArray rfl rfl (one_of HT_.out (by kernel_rfl)) (by decide) (fun K hK => ?_)
                        refine goes_ Try.func45 (by kernel_rfl) rfl #[.int .i64 sd, .string t1] (by rfl) rfl rfl (by (try simp only [List.map_toArray, List.map_cons, List.map_nil]); first | done | rfl | (simp only [List.length_drop, List.length_take]; rfl)) ?_
                        with_reducible refine (checksum_Text.calls (t1.size + 1) sd t1 g1 _ hh1.out).mono ?_
                        rintro e w45 ⟨rfl, hb0⟩; have hb := hb0.below; clear hb0
                        refine ⟨_, rfl, ?_⟩
                        have n0_ := Aside0.mk (HS.out.step hb); have n1_ := Aside0.mk (below_step' HB.out HS.out.size hb); clear HS HB; have HS := n0_; have HB := n1_; clear n0_ n1_; (try simp only [List.eraseIdx_cons_succ, List.eraseIdx_cons_zero] at HS)
                        have n2_ := Aside0.mk ((hb.cell (World.block_lt_of_cell? _ _ ht0.out)).trans ht0.out); have n3_ := Aside0.mk ((hb.cell (World.block_lt_of_cell? _ _ ht1.out)).trans ht1.out); clear ht0 ht1; have ht0 := n2_; have ht1 := n3_; clear n2_ n3_; clear hb
                        refine hK.out _ _ ⟨((HS.out.pick 0 rfl).cell 1).trans rfl, ht0.out, ht1.out⟩ (fun hHeld => ?_)
                        clear hK K
                        refine norm_ (a' := ?_) ?_ ?_
                        rotate_left
                        · show Act.put _ (some 104) _ = _
                          simp only [Act.put, List.setIfInBounds_toArray, List.set_cons_zero, List.set_cons_succ, i64_w, i32_w]
                          rfl
                        refine pU 25 109 (tfs true [28, 2]).toArray rfl rfl HT_ ?_
                        refine one_ (i := 28) (N := none) (tfs true [29, 1]).toArray rfl rfl (one_of HT_.out (by kernel_rfl)) (by decide) (fun K hK => ?_)
                        have q0 := ((HS.out.pick 2 rfl).cell 0).trans (show _ = some (.int .i64 0) from rfl); have f0 := (HS.out.pick 2 rfl).frozen 0; have q1 := ((HS.out.pick 2 rfl).cell 1).trans (show _ = some (.string ⟨#[]⟩) from rfl); have f1 := (HS.out.pick 2 rfl).frozen 1
                        refine skip_ (w1 := ?_) (by rfl) rfl ?_ ?_
                        rotate_left
                        · go_simp
                          rfl
                        clear q0 q1 f0 f1
                        have n0_ := Aside0.mk ((((((HS.out.pick 2 rfl).set 0 (.int .i64 g0) #[.int .i64 g0, .string ⟨#[]⟩] rfl).set 1 (.string t0) #[.int .i64 g0, .string t0] rfl).pick 2 rfl).pick 2 rfl)); have n1_ := Aside0.mk (((HS.out.pick 2 rfl).set 0 (.int .i64 g0) #[.int .i64 g0, .string ⟨#[]⟩] rfl).below_set (i := 1) (u := .string t0) ((HS.out.pick 2 rfl).below_set (i := 0) (u := .int .i64 g0) HB.out)); clear HS HB; have HS := n0_; have HB := n1_; clear n0_ n1_; (try simp only [List.eraseIdx_cons_succ, List.eraseIdx_cons_zero] at HS)
                        clear ht0 ht1
                        obtain ⟨ad3, e_, ht0⟩ := Kd.at_string (HS.out.pick 1 rfl).rowC.2.2 (m : Int) (Int.natCast_nonneg _) p5; cases e_
                        obtain ⟨ad4, e_, ht1⟩ := Kd.at_string (HS.out.pick 1 rfl).rowC.2.2 (m1 : Int) (Int.natCast_nonneg _) (lt_cst hml'.out); cases e_
                        rw [Int.toNat_natCast, hq0.out] at ht0; rw [Int.toNat_natCast, hq1.out] at ht1; replace ht0 := Aside0.mk ht0; replace ht1 := Aside0.mk ht1
                        refine hK.out _ _ ⟨((HS.out.pick 0 rfl).cell 1).trans rfl, ht0.out, ht1.out⟩ (fun hHeld => ?_)
                        clear hK K
                        refine last_ (i := 29) (N := none) (tfs true [30]).toArray rfl rfl (one_of HT_.out (by kernel_rfl)) (by decide) (fun K hK => ?_)
                        have q0 := ((HS.out.pick 3 rfl).cell 0).trans (show _ = some (.int .i64 0) from rfl); have f0 := (HS.out.pick 3 rfl).frozen 0; have q1 := ((HS.out.pick 3 rfl).cell 1).trans (show _ = some (.string ⟨#[]⟩) from rfl); have f1 := (HS.out.pick 3 rfl).frozen 1
                        refine skip_ (w1 := ?_) (by rfl) rfl ?_ ?_
                        rotate_left
                        · go_simp
                          rfl
                        clear q0 q1 f0 f1
                        have n0_ := Aside0.mk ((((((HS.out.pick 3 rfl).set 0 (.int .i64 g1) #[.int .i64 g1, .string ⟨#[]⟩] rfl).set 1 (.string t1) #[.int .i64 g1, .string t1] rfl).pick 2 rfl).pick 2 rfl)); have n1_ := Aside0.mk (((HS.out.pick 3 rfl).set 0 (.int .i64 g1) #[.int .i64 g1, .string ⟨#[]⟩] rfl).below_set (i := 1) (u := .string t1) ((HS.out.pick 3 rfl).below_set (i := 0) (u := .int .i64 g1) HB.out)); clear HS HB; have HS := n0_; have HB := n1_; clear n0_ n1_; (try simp only [List.eraseIdx_cons_succ, List.eraseIdx_cons_zero] at HS)
                        refine hK.out _ _ ?_
                        clear hK K
                        refine done_ (done_of HT_.out (by kernel_rfl)) ?_
                        clear HT_ HW_
                        try clear hHeld
                        clear ht0 ht1
                        generalize (World.setCell _ _ _) = w40 at HS HB ⊢
                        have n0_ := Aside0.mk (((((HS.out.pick 1 rfl).pick 1 rfl).pick 2 rfl).pick 3 rfl)); have n1_ := Aside0.mk (HB.out); clear HS HB; have HS := n0_; have HB := n1_; clear n0_ n1_; (try simp only [List.eraseIdx_cons_succ, List.eraseIdx_cons_zero] at HS)
                        revert HB
                        revert HS
                        revert w40
                        revert Y
                        revert X
                        exact key.out
                    ·
                      refine box_step (by rfl) (Nt := 14) rfl (cs := #[.int .i64 0, .string ⟨#[]⟩]) (t := 52) ?hrw46 ?_
                      (case hrw46 => first | (go_simp; done) | (go_simp; rfl))
                      intro Y hg w46 hbox hb
                      have n0_ := Aside0.mk ((((HS.out.box hg hbox hb).pick 2 rfl).pick 2 rfl)); have n1_ := Aside0.mk (below_step' HB.out HS.out.size hb); clear HS HB; have HS := n0_; have HB := n1_; clear n0_ n1_; (try simp only [List.eraseIdx_cons_succ, List.eraseIdx_cons_zero] at HS)
                      have n2_ := Aside0.mk ((hb.cell (World.block_lt_of_cell? _ _ ht0.out)).trans ht0.out); have n3_ := Aside0.mk ((hb.cell (World.block_lt_of_cell? _ _ ht1.out)).trans ht1.out); clear ht0 ht1; have ht0 := n2_; have ht1 := n3_; clear n2_ n3_
                      clear hb hbox hg
                      refine hK.out _ _ ⟨((HS.out.pick 0 rfl).cell 1).trans rfl, ht0.out, ht1.out⟩ (fun hHeld => ?_)
                      clear hK K
                      refine norm_ (a' := ?_) ?_ ?_
                      rotate_left
                      · show Act.put _ (some 14) _ = _
                        simp only [Act.put, List.setIfInBounds_toArray, List.set_cons_zero, List.set_cons_succ, i64_w, i32_w]
                        rfl
                      refine two_ (i := 7) (j := 26) (Ni := some 91) (Nj := some 13) (tfs true [13, 1, 6, 1, 4, 2, 1, 2]).toArray (tfs true [7, 1, 5, 1, 6, 1, 4, 1, 2, 2]).toArray rfl rfl rfl rfl (two_of HT_.out (by kernel_rfl)) (by decide) (by decide) (fun K hK => ?_) (fun K hK => ?_)
                      ·
                        refine goes_ Try.func45 (by kernel_rfl) rfl #[.int .i64 sd, .string t0] (by rfl) rfl rfl (by (try simp only [List.map_toArray, List.map_cons, List.map_nil]); first | done | rfl | (simp only [List.length_drop, List.length_take]; rfl)) ?_
                        with_reducible refine (checksum_Text.calls (t0.size + 1) sd t0 g0 _ hh0.out).mono ?_
                        rintro e w47 ⟨rfl, hb0⟩; have hb := hb0.below; clear hb0
                        refine ⟨_, rfl, ?_⟩
                        have n0_ := Aside0.mk (HS.out.step hb); have n1_ := Aside0.mk (below_step' HB.out HS.out.size hb); clear HS HB; have HS := n0_; have HB := n1_; clear n0_ n1_; (try simp only [List.eraseIdx_cons_succ, List.eraseIdx_cons_zero] at HS)
                        have n2_ := Aside0.mk ((hb.cell (World.block_lt_of_cell? _ _ ht0.out)).trans ht0.out); have n3_ := Aside0.mk ((hb.cell (World.block_lt_of_cell? _ _ ht1.out)).trans ht1.out); clear ht0 ht1; have ht0 := n2_; have ht1 := n3_; clear n2_ n3_; clear hb
                        refine hK.out _ _ ⟨((HS.out.pick 0 rfl).cell 1).trans rfl, ht0.out, ht1.out⟩ (fun hHeld => ?_)
                        clear hK K
                        refine norm_ (a' := ?_) ?_ ?_
                        rotate_left
                        · show Act.put _ (some 91) _ = _
                          simp only [Act.put, List.setIfInBounds_toArray, List.set_cons_zero, List.set_cons_succ, i64_w, i32_w]
                          rfl
                        refine pU 13 97 (tfs true [20, 1, 4, 2, 1, 2]).toArray rfl rfl HT_ ?_
                        refine two_ (i := 20) (j := 26) (Ni := some 104) (Nj := some 13) (tfs true [25, 2, 1, 2]).toArray (tfs true [20, 1, 4, 1, 2, 2]).toArray rfl rfl rfl rfl (two_of HT_.out (by kernel_rfl)) (by decide) (by decide) (fun K hK => ?_) (fun K hK => ?_)
                        ·
                          refine goes_ Try.func45 (by kernel_rfl) rfl #[.int .i64 sd, .string t1] (by rfl) rfl rfl (by (try simp only [List.map_toArray, List.map_cons, List.map_nil]); first | done | rfl | (simp only [List.length_drop, List.length_take]; rfl)) ?_
                          with_reducible refine (checksum_Text.calls (t1.size + 1) sd t1 g1 _ hh1.out).mono ?_
                          rintro e w48 ⟨rfl, hb0⟩; have hb := hb0.below; clear hb0
                          refine ⟨_, rfl, ?_⟩
                          have n0_ := Aside0.mk (HS.out.step hb); have n1_ := Aside0.mk (below_step' HB.out HS.out.size hb); clear HS HB; have HS := n0_; have HB := n1_; clear n0_ n1_; (try simp only [List.eraseIdx_cons_succ, List.eraseIdx_cons_zero] at HS)
                          have n2_ := Aside0.mk ((hb.cell (World.block_lt_of_cell? _ _ ht0.out)).trans ht0.out); have n3_ := Aside0.mk ((hb.cell (World.block_lt_of_cell? _ _ ht1.out)).trans ht1.out); clear ht0 ht1; have ht0 := n2_; have ht1 := n3_; clear n2_ n3_; clear hb
                          refine hK.out _ _ ⟨((HS.out.pick 0 rfl).cell 1).trans rfl, ht0.out, ht1.out⟩ (fun hHeld => ?_)
                          clear hK K
                          refine norm_ (a' := ?_) ?_ ?_
                          rotate_left
                          · show Act.put _ (some 104) _ = _
                            simp only [Act.put, List.setIfInBounds_toArray, List.set_cons_zero, List.set_cons_succ, i64_w, i32_w]
                            rfl
                          refine pU 25 109 (tfs true [26, 1, 1, 2]).toArray rfl rfl HT_ ?_
                          refine one_ (i := 26) (N := some 13) (tfs true [28, 2]).toArray rfl rfl (one_of HT_.out (by kernel_rfl)) (by decide) (fun K hK => ?_)
                          refine box_step (by rfl) (Nt := 13) rfl (cs := #[.int .i64 0, .string ⟨#[]⟩]) (t := 52) ?hrw49 ?_
                          (case hrw49 => first | (go_simp; done) | (go_simp; rfl))
                          intro X hg w49 hbox hb
                          have n0_ := Aside0.mk (((((HS.out.box hg hbox hb).pick 3 rfl).pick 3 rfl).pick 3 rfl)); have n1_ := Aside0.mk (below_step' HB.out HS.out.size hb); clear HS HB; have HS := n0_; have HB := n1_; clear n0_ n1_; (try simp only [List.eraseIdx_cons_succ, List.eraseIdx_cons_zero] at HS)
                          have n2_ := Aside0.mk ((hb.cell (World.block_lt_of_cell? _ _ ht0.out)).trans ht0.out); have n3_ := Aside0.mk ((hb.cell (World.block_lt_of_cell? _ _ ht1.out)).trans ht1.out); clear ht0 ht1; have ht0 := n2_; have ht1 := n3_; clear n2_ n3_
                          clear hb hbox hg
                          refine hK.out _ _ ⟨((HS.out.pick 0 rfl).cell 1).trans rfl, ht0.out, ht1.out⟩ (fun hHeld => ?_)
                          clear hK K
                          refine norm_ (a' := ?_) ?_ ?_
                          rotate_left
                          · show Act.put _ (some 13) _ = _
                            simp only [Act.put, List.setIfInBounds_toArray, List.set_cons_zero, List.set_cons_succ, i64_w, i32_w]
                            rfl
                          refine one_ (i := 28) (N := none) (tfs true [29, 1]).toArray rfl rfl (one_of HT_.out (by kernel_rfl)) (by decide) (fun K hK => ?_)
                          have q0 := ((HS.out.pick 3 rfl).cell 0).trans (show _ = some (.int .i64 0) from rfl); have f0 := (HS.out.pick 3 rfl).frozen 0; have q1 := ((HS.out.pick 3 rfl).cell 1).trans (show _ = some (.string ⟨#[]⟩) from rfl); have f1 := (HS.out.pick 3 rfl).frozen 1
                          refine skip_ (w1 := ?_) (by rfl) rfl ?_ ?_
                          rotate_left
                          · go_simp
                            rfl
                          clear q0 q1 f0 f1
                          have n0_ := Aside0.mk ((((((HS.out.pick 3 rfl).set 0 (.int .i64 g0) #[.int .i64 g0, .string ⟨#[]⟩] rfl).set 1 (.string t0) #[.int .i64 g0, .string t0] rfl).pick 2 rfl).pick 2 rfl)); have n1_ := Aside0.mk (((HS.out.pick 3 rfl).set 0 (.int .i64 g0) #[.int .i64 g0, .string ⟨#[]⟩] rfl).below_set (i := 1) (u := .string t0) ((HS.out.pick 3 rfl).below_set (i := 0) (u := .int .i64 g0) HB.out)); clear HS HB; have HS := n0_; have HB := n1_; clear n0_ n1_; (try simp only [List.eraseIdx_cons_succ, List.eraseIdx_cons_zero] at HS)
                          clear ht0 ht1
                          obtain ⟨ad3, e_, ht0⟩ := Kd.at_string (HS.out.pick 1 rfl).rowC.2.2 (m : Int) (Int.natCast_nonneg _) p5; cases e_
                          obtain ⟨ad4, e_, ht1⟩ := Kd.at_string (HS.out.pick 1 rfl).rowC.2.2 (m1 : Int) (Int.natCast_nonneg _) (lt_cst hml'.out); cases e_
                          rw [Int.toNat_natCast, hq0.out] at ht0; rw [Int.toNat_natCast, hq1.out] at ht1; replace ht0 := Aside0.mk ht0; replace ht1 := Aside0.mk ht1
                          refine hK.out _ _ ⟨((HS.out.pick 0 rfl).cell 1).trans rfl, ht0.out, ht1.out⟩ (fun hHeld => ?_)
                          clear hK K
                          refine last_ (i := 29) (N := none) (tfs true [30]).toArray rfl rfl (one_of HT_.out (by kernel_rfl)) (by decide) (fun K hK => ?_)
                          have q0 := ((HS.out.pick 3 rfl).cell 0).trans (show _ = some (.int .i64 0) from rfl); have f0 := (HS.out.pick 3 rfl).frozen 0; have q1 := ((HS.out.pick 3 rfl).cell 1).trans (show _ = some (.string ⟨#[]⟩) from rfl); have f1 := (HS.out.pick 3 rfl).frozen 1
                          refine skip_ (w1 := ?_) (by rfl) rfl ?_ ?_
                          rotate_left
                          · go_simp
                            rfl
                          clear q0 q1 f0 f1
                          have n0_ := Aside0.mk ((((((HS.out.pick 3 rfl).set 0 (.int .i64 g1) #[.int .i64 g1, .string ⟨#[]⟩] rfl).set 1 (.string t1) #[.int .i64 g1, .string t1] rfl).pick 2 rfl).pick 2 rfl)); have n1_ := Aside0.mk (((HS.out.pick 3 rfl).set 0 (.int .i64 g1) #[.int .i64 g1, .string ⟨#[]⟩] rfl).below_set (i := 1) (u := .string t1) ((HS.out.pick 3 rfl).below_set (i := 0) (u := .int .i64 g1) HB.out)); clear HS HB; have HS := n0_; have HB := n1_; clear n0_ n1_; (try simp only [List.eraseIdx_cons_succ, List.eraseIdx_cons_zero] at HS)
                          refine hK.out _ _ ?_
                          clear hK K
                          refine done_ (done_of HT_.out (by kernel_rfl)) ?_
                          clear HT_ HW_
                          try clear hHeld
                          clear ht0 ht1
                          generalize (World.setCell _ _ _) = w40 at HS HB ⊢
                          have n0_ := Aside0.mk (((((HS.out.pick 1 rfl).pick 1 rfl).pick 2 rfl).pick 3 rfl)); have n1_ := Aside0.mk (HB.out); clear HS HB; have HS := n0_; have HB := n1_; clear n0_ n1_; (try simp only [List.eraseIdx_cons_succ, List.eraseIdx_cons_zero] at HS)
                          revert HB
                          revert HS
                          revert w40
                          revert Y
                          revert X
                          exact key.out
                        ·
                          refine box_step (by rfl) (Nt := 13) rfl (cs := #[.int .i64 0, .string ⟨#[]⟩]) (t := 52) ?hrw50 ?_
                          (case hrw50 => first | (go_simp; done) | (go_simp; rfl))
                          intro X hg w50 hbox hb
                          have n0_ := Aside0.mk (((((HS.out.box hg hbox hb).pick 3 rfl).pick 3 rfl).pick 3 rfl)); have n1_ := Aside0.mk (below_step' HB.out HS.out.size hb); clear HS HB; have HS := n0_; have HB := n1_; clear n0_ n1_; (try simp only [List.eraseIdx_cons_succ, List.eraseIdx_cons_zero] at HS)
                          have n2_ := Aside0.mk ((hb.cell (World.block_lt_of_cell? _ _ ht0.out)).trans ht0.out); have n3_ := Aside0.mk ((hb.cell (World.block_lt_of_cell? _ _ ht1.out)).trans ht1.out); clear ht0 ht1; have ht0 := n2_; have ht1 := n3_; clear n2_ n3_
                          clear hb hbox hg
                          refine hK.out _ _ ⟨((HS.out.pick 0 rfl).cell 1).trans rfl, ht0.out, ht1.out⟩ (fun hHeld => ?_)
                          clear hK K
                          refine norm_ (a' := ?_) ?_ ?_
                          rotate_left
                          · show Act.put _ (some 13) _ = _
                            simp only [Act.put, List.setIfInBounds_toArray, List.set_cons_zero, List.set_cons_succ, i64_w, i32_w]
                            rfl
                          refine one_ (i := 20) (N := some 104) (tfs true [25, 1, 2, 2]).toArray rfl rfl (one_of HT_.out (by kernel_rfl)) (by decide) (fun K hK => ?_)
                          refine goes_ Try.func45 (by kernel_rfl) rfl #[.int .i64 sd, .string t1] (by rfl) rfl rfl (by (try simp only [List.map_toArray, List.map_cons, List.map_nil]); first | done | rfl | (simp only [List.length_drop, List.length_take]; rfl)) ?_
                          with_reducible refine (checksum_Text.calls (t1.size + 1) sd t1 g1 _ hh1.out).mono ?_
                          rintro e w51 ⟨rfl, hb0⟩; have hb := hb0.below; clear hb0
                          refine ⟨_, rfl, ?_⟩
                          have n0_ := Aside0.mk (HS.out.step hb); have n1_ := Aside0.mk (below_step' HB.out HS.out.size hb); clear HS HB; have HS := n0_; have HB := n1_; clear n0_ n1_; (try simp only [List.eraseIdx_cons_succ, List.eraseIdx_cons_zero] at HS)
                          have n2_ := Aside0.mk ((hb.cell (World.block_lt_of_cell? _ _ ht0.out)).trans ht0.out); have n3_ := Aside0.mk ((hb.cell (World.block_lt_of_cell? _ _ ht1.out)).trans ht1.out); clear ht0 ht1; have ht0 := n2_; have ht1 := n3_; clear n2_ n3_; clear hb
                          refine hK.out _ _ ⟨((HS.out.pick 0 rfl).cell 1).trans rfl, ht0.out, ht1.out⟩ (fun hHeld => ?_)
                          clear hK K
                          refine norm_ (a' := ?_) ?_ ?_
                          rotate_left
                          · show Act.put _ (some 104) _ = _
                            simp only [Act.put, List.setIfInBounds_toArray, List.set_cons_zero, List.set_cons_succ, i64_w, i32_w]
                            rfl
                          refine pU 25 109 (tfs true [28, 2]).toArray rfl rfl HT_ ?_
                          refine one_ (i := 28) (N := none) (tfs true [29, 1]).toArray rfl rfl (one_of HT_.out (by kernel_rfl)) (by decide) (fun K hK => ?_)
                          have q0 := ((HS.out.pick 3 rfl).cell 0).trans (show _ = some (.int .i64 0) from rfl); have f0 := (HS.out.pick 3 rfl).frozen 0; have q1 := ((HS.out.pick 3 rfl).cell 1).trans (show _ = some (.string ⟨#[]⟩) from rfl); have f1 := (HS.out.pick 3 rfl).frozen 1
                          refine skip_ (w1 := ?_) (by rfl) rfl ?_ ?_
                          rotate_left
                          · go_simp
                            rfl
                          clear q0 q1 f0 f1
                          have n0_ := Aside0.mk ((((((HS.out.pick 3 rfl).set 0 (.int .i64 g0) #[.int .i64 g0, .string ⟨#[]⟩] rfl).set 1 (.string t0) #[.int .i64 g0, .string t0] rfl).pick 2 rfl).pick 2 rfl)); have n1_ := Aside0.mk (((HS.out.pick 3 rfl).set 0 (.int .i64 g0) #[.int .i64 g0, .string ⟨#[]⟩] rfl).below_set (i := 1) (u := .string t0) ((HS.out.pick 3 rfl).below_set (i := 0) (u := .int .i64 g0) HB.out)); clear HS HB; have HS := n0_; have HB := n1_; clear n0_ n1_; (try simp only [List.eraseIdx_cons_succ, List.eraseIdx_cons_zero] at HS)
                          clear ht0 ht1
                          obtain ⟨ad3, e_, ht0⟩ := Kd.at_string (HS.out.pick 1 rfl).rowC.2.2 (m : Int) (Int.natCast_nonneg _) p5; cases e_
                          obtain ⟨ad4, e_, ht1⟩ := Kd.at_string (HS.out.pick 1 rfl).rowC.2.2 (m1 : Int) (Int.natCast_nonneg _) (lt_cst hml'.out); cases e_
                          rw [Int.toNat_natCast, hq0.out] at ht0; rw [Int.toNat_natCast, hq1.out] at ht1; replace ht0 := Aside0.mk ht0; replace ht1 := Aside0.mk ht1
                          refine hK.out _ _ ⟨((HS.out.pick 0 rfl).cell 1).trans rfl, ht0.out, ht1.out⟩ (fun hHeld => ?_)
                          clear hK K
                          refine last_ (i := 29) (N := none) (tfs true [30]).toArray rfl rfl (one_of HT_.out (by kernel_rfl)) (by decide) (fun K hK => ?_)
                          have q0 := ((HS.out.pick 3 rfl).cell 0).trans (show _ = some (.int .i64 0) from rfl); have f0 := (HS.out.pick 3 rfl).frozen 0; have q1 := ((HS.out.pick 3 rfl).cell 1).trans (show _ = some (.string ⟨#[]⟩) from rfl); have f1 := (HS.out.pick 3 rfl).frozen 1
                          refine skip_ (w1 := ?_) (by rfl) rfl ?_ ?_
                          rotate_left
                          · go_simp
                            rfl
                          clear q0 q1 f0 f1
                          have n0_ := Aside0.mk ((((((HS.out.pick 3 rfl).set 0 (.int .i64 g1) #[.int .i64 g1, .string ⟨#[]⟩] rfl).set 1 (.string t1) #[.int .i64 g1, .string t1] rfl).pick 2 rfl).pick 2 rfl)); have n1_ := Aside0.mk (((HS.out.pick 3 rfl).set 0 (.int .i64 g1) #[.int .i64 g1, .string ⟨#[]⟩] rfl).below_set (i := 1) (u := .string t1) ((HS.out.pick 3 rfl).below_set (i := 0) (u := .int .i64 g1) HB.out)); clear HS HB; have HS := n0_; have HB := n1_; clear n0_ n1_; (try simp only [List.eraseIdx_cons_succ, List.eraseIdx_cons_zero] at HS)
                          refine hK.out _ _ ?_
                          clear hK K
                          refine done_ (done_of HT_.out (by kernel_rfl)) ?_
                          clear HT_ HW_
                          try clear hHeld
                          clear ht0 ht1
                          generalize (World.setCell _ _ _) = w40 at HS HB ⊢
                          have n0_ := Aside0.mk (((((HS.out.pick 1 rfl).pick 1 rfl).pick 2 rfl).pick 3 rfl)); have n1_ := Aside0.mk (HB.out); clear HS HB; have HS := n0_; have HB := n1_; clear n0_ n1_; (try simp only [List.eraseIdx_cons_succ, List.eraseIdx_cons_zero] at HS)
                          revert HB
                          revert HS
                          revert w40
                          revert Y
                          revert X
                          exact key.out
                      ·
                        refine box_step (by rfl) (Nt := 13) rfl (cs := #[.int .i64 0, .string ⟨#[]⟩]) (t := 52) ?hrw52 ?_
                        (case hrw52 => first | (go_simp; done) | (go_simp; rfl))
                        intro X hg w52 hbox hb
                        have n0_ := Aside0.mk (((((HS.out.box hg hbox hb).pick 3 rfl).pick 3 rfl).pick 3 rfl)); have n1_ := Aside0.mk (below_step' HB.out HS.out.size hb); clear HS HB; have HS := n0_; have HB := n1_; clear n0_ n1_; (try simp only [List.eraseIdx_cons_succ, List.eraseIdx_cons_zero] at HS)
                        have n2_ := Aside0.mk ((hb.cell (World.block_lt_of_cell? _ _ ht0.out)).trans ht0.out); have n3_ := Aside0.mk ((hb.cell (World.block_lt_of_cell? _ _ ht1.out)).trans ht1.out); clear ht0 ht1; have ht0 := n2_; have ht1 := n3_; clear n2_ n3_
                        clear hb hbox hg
                        refine hK.out _ _ ⟨((HS.out.pick 0 rfl).cell 1).trans rfl, ht0.out, ht1.out⟩ (fun hHeld => ?_)
                        clear hK K
                        refine norm_ (a' := ?_) ?_ ?_
                        rotate_left
                        · show Act.put _ (some 13) _ = _
                          simp only [Act.put, List.setIfInBounds_toArray, List.set_cons_zero, List.set_cons_succ, i64_w, i32_w]
                          rfl
                        refine one_ (i := 7) (N := some 91) (tfs true [13, 1, 6, 1, 4, 1, 2, 2]).toArray rfl rfl (one_of HT_.out (by kernel_rfl)) (by decide) (fun K hK => ?_)
                        refine goes_ Try.func45 (by kernel_rfl) rfl #[.int .i64 sd, .string t0] (by rfl) rfl rfl (by (try simp only [List.map_toArray, List.map_cons, List.map_nil]); first | done | rfl | (simp only [List.length_drop, List.length_take]; rfl)) ?_
                        with_reducible refine (checksum_Text.calls (t0.size + 1) sd t0 g0 _ hh0.out).mono ?_
                        rintro e w53 ⟨rfl, hb0⟩; have hb := hb0.below; clear hb0
                        refine ⟨_, rfl, ?_⟩
                        have n0_ := Aside0.mk (HS.out.step hb); have n1_ := Aside0.mk (below_step' HB.out HS.out.size hb); clear HS HB; have HS := n0_; have HB := n1_; clear n0_ n1_; (try simp only [List.eraseIdx_cons_succ, List.eraseIdx_cons_zero] at HS)
                        have n2_ := Aside0.mk ((hb.cell (World.block_lt_of_cell? _ _ ht0.out)).trans ht0.out); have n3_ := Aside0.mk ((hb.cell (World.block_lt_of_cell? _ _ ht1.out)).trans ht1.out); clear ht0 ht1; have ht0 := n2_; have ht1 := n3_; clear n2_ n3_; clear hb
                        refine hK.out _ _ ⟨((HS.out.pick 0 rfl).cell 1).trans rfl, ht0.out, ht1.out⟩ (fun hHeld => ?_)
                        clear hK K
                        refine norm_ (a' := ?_) ?_ ?_
                        rotate_left
                        · show Act.put _ (some 91) _ = _
                          simp only [Act.put, List.setIfInBounds_toArray, List.set_cons_zero, List.set_cons_succ, i64_w, i32_w]
                          rfl
                        refine pU 13 97 (tfs true [20, 1, 4, 1, 2, 2]).toArray rfl rfl HT_ ?_
                        refine one_ (i := 20) (N := some 104) (tfs true [25, 1, 2, 2]).toArray rfl rfl (one_of HT_.out (by kernel_rfl)) (by decide) (fun K hK => ?_)
                        refine goes_ Try.func45 (by kernel_rfl) rfl #[.int .i64 sd, .string t1] (by rfl) rfl rfl (by (try simp only [List.map_toArray, List.map_cons, List.map_nil]); first | done | rfl | (simp only [List.length_drop, List.length_take]; rfl)) ?_
                        with_reducible refine (checksum_Text.calls (t1.size + 1) sd t1 g1 _ hh1.out).mono ?_
                        rintro e w54 ⟨rfl, hb0⟩; have hb := hb0.below; clear hb0
                        refine ⟨_, rfl, ?_⟩
                        have n0_ := Aside0.mk (HS.out.step hb); have n1_ := Aside0.mk (below_step' HB.out HS.out.size hb); clear HS HB; have HS := n0_; have HB := n1_; clear n0_ n1_; (try simp only [List.eraseIdx_cons_succ, List.eraseIdx_cons_zero] at HS)
                        have n2_ := Aside0.mk ((hb.cell (World.block_lt_of_cell? _ _ ht0.out)).trans ht0.out); have n3_ := Aside0.mk ((hb.cell (World.block_lt_of_cell? _ _ ht1.out)).trans ht1.out); clear ht0 ht1; have ht0 := n2_; have ht1 := n3_; clear n2_ n3_; clear hb
                        refine hK.out _ _ ⟨((HS.out.pick 0 rfl).cell 1).trans rfl, ht0.out, ht1.out⟩ (fun hHeld => ?_)
                        clear hK K
                        refine norm_ (a' := ?_) ?_ ?_
                        rotate_left
                        · show Act.put _ (some 104) _ = _
                          simp only [Act.put, List.setIfInBounds_toArray, List.set_cons_zero, List.set_cons_succ, i64_w, i32_w]
                          rfl
                        refine pU 25 109 (tfs true [28, 2]).toArray rfl rfl HT_ ?_
                        refine one_ (i := 28) (N := none) (tfs true [29, 1]).toArray rfl rfl (one_of HT_.out (by kernel_rfl)) (by decide) (fun K hK => ?_)
                        have q0 := ((HS.out.pick 3 rfl).cell 0).trans (show _ = some (.int .i64 0) from rfl); have f0 := (HS.out.pick 3 rfl).frozen 0; have q1 := ((HS.out.pick 3 rfl).cell 1).trans (show _ = some (.string ⟨#[]⟩) from rfl); have f1 := (HS.out.pick 3 rfl).frozen 1
                        refine skip_ (w1 := ?_) (by rfl) rfl ?_ ?_
                        rotate_left
                        · go_simp
                          rfl
                        clear q0 q1 f0 f1
                        have n0_ := Aside0.mk ((((((HS.out.pick 3 rfl).set 0 (.int .i64 g0) #[.int .i64 g0, .string ⟨#[]⟩] rfl).set 1 (.string t0) #[.int .i64 g0, .string t0] rfl).pick 2 rfl).pick 2 rfl)); have n1_ := Aside0.mk (((HS.out.pick 3 rfl).set 0 (.int .i64 g0) #[.int .i64 g0, .string ⟨#[]⟩] rfl).below_set (i := 1) (u := .string t0) ((HS.out.pick 3 rfl).below_set (i := 0) (u := .int .i64 g0) HB.out)); clear HS HB; have HS := n0_; have HB := n1_; clear n0_ n1_; (try simp only [List.eraseIdx_cons_succ, List.eraseIdx_cons_zero] at HS)
                        clear ht0 ht1
                        obtain ⟨ad3, e_, ht0⟩ := Kd.at_string (HS.out.pick 1 rfl).rowC.2.2 (m : Int) (Int.natCast_nonneg _) p5; cases e_
                        obtain ⟨ad4, e_, ht1⟩ := Kd.at_string (HS.out.pick 1 rfl).rowC.2.2 (m1 : Int) (Int.natCast_nonneg _) (lt_cst hml'.out); cases e_
                        rw [Int.toNat_natCast, hq0.out] at ht0; rw [Int.toNat_natCast, hq1.out] at ht1; replace ht0 := Aside0.mk ht0; replace ht1 := Aside0.mk ht1
                        refine hK.out _ _ ⟨((HS.out.pick 0 rfl).cell 1).trans rfl, ht0.out, ht1.out⟩ (fun hHeld => ?_)
                        clear hK K
                        refine last_ (i := 29) (N := none) (tfs true [30]).toArray rfl rfl (one_of HT_.out (by kernel_rfl)) (by decide) (fun K hK => ?_)
                        have q0 := ((HS.out.pick 3 rfl).cell 0).trans (show _ = some (.int .i64 0) from rfl); have f0 := (HS.out.pick 3 rfl).frozen 0; have q1 := ((HS.out.pick 3 rfl).cell 1).trans (show _ = some (.string ⟨#[]⟩) from rfl); have f1 := (HS.out.pick 3 rfl).frozen 1
                        refine skip_ (w1 := ?_) (by rfl) rfl ?_ ?_
                        rotate_left
                        · go_simp
                          rfl
                        clear q0 q1 f0 f1
                        have n0_ := Aside0.mk ((((((HS.out.pick 3 rfl).set 0 (.int .i64 g1) #[.int .i64 g1, .string ⟨#[]⟩] rfl).set 1 (.string t1) #[.int .i64 g1, .string t1] rfl).pick 2 rfl).pick 2 rfl)); have n1_ := Aside0.mk (((HS.out.pick 3 rfl).set 0 (.int .i64 g1) #[.int .i64 g1, .string ⟨#[]⟩] rfl).below_set (i := 1) (u := .string t1) ((HS.out.pick 3 rfl).below_set (i := 0) (u := .int .i64 g1) HB.out)); clear HS HB; have HS := n0_; have HB := n1_; clear n0_ n1_; (try simp only [List.eraseIdx_cons_succ, List.eraseIdx_cons_zero] at HS)
                        refine hK.out _ _ ?_
                        clear hK K
                        refine done_ (done_of HT_.out (by kernel_rfl)) ?_
                        clear HT_ HW_
                        try clear hHeld
                        clear ht0 ht1
                        generalize (World.setCell _ _ _) = w40 at HS HB ⊢
                        have n0_ := Aside0.mk (((((HS.out.pick 1 rfl).pick 1 rfl).pick 2 rfl).pick 3 rfl)); have n1_ := Aside0.mk (HB.out); clear HS HB; have HS := n0_; have HB := n1_; clear n0_ n1_; (try simp only [List.eraseIdx_cons_succ, List.eraseIdx_cons_zero] at HS)
                        revert HB
                        revert HS
                        revert w40
                        revert Y
                        revert X
                        exact key.out
                  case key =>
                    intro X Y w40 HS HB
                    have hc0_0 := (HS.out.cell 0).trans (show _ = some (.int .i64 g0) from rfl)
                    have hc0_1 := (HS.out.cell 1).trans (show _ = some (.string t0) from rfl)
                    have hc1_0 := ((HS.out.pick 1 rfl).cell 0).trans (show _ = some (.int .i64 g1) from rfl)
                    have hc1_1 := ((HS.out.pick 1 rfl).cell 1).trans (show _ = some (.string t1) from rfl)
                    have p8 : wrap64 ((m1 : Int) + 1) = (m1 : Int) + 1 := inc_sm hml'.out hk24
                    have hlt1 : (m1 : Int) < (k2.length : Int) := lt_cst hml'.out
                    by_cases hbf : Bf ⟨g0, t0⟩ ⟨g1, t1⟩
                    · have hbt := Aside0.mk (decide_eq_true hbf)
                      have hom2 := Aside0.mk (ord_step1 (k2.map (kyOf sd)) m m1 _ _ hm1.out hom.out hu.out hv.out hbf)
                      clear hbf
                      go_wp2_with (first | ((with_reducible refine gate_callee (f := 57) rfl ?_); refine goesL_ (some 112) rfl rfl Try.func57 (by kernel_rfl) rfl #[.agg #[.int .i64 g0, .string t0], .agg #[.int .i64 g1, .string t1]] rfl (by (try simp only [List.map_toArray, List.map_cons, List.map_nil]); first | done | rfl | (simp only [List.length_drop, List.length_take]; rfl)) ?_; (with_reducible refine (before_to ⟨g0, t0⟩ ⟨g1, t1⟩ _ hbt.out _).mono ?_); rintro e w41 ⟨rfl, hb⟩; clear hc0_0 hc0_1 hc1_0 hc1_1; refine ⟨_, rfl, ?_⟩; have n0_ := Aside0.mk (HS.out.step hb); have n1_ := Aside0.mk (below_step' HB.out HS.out.size hb); clear HS HB; have HS := n0_; have HB := n1_; clear n0_ n1_; (try simp only [List.eraseIdx_cons_succ, List.eraseIdx_cons_zero] at HS); clear hb))
                      exact ⟨⟨m1, .inl hml'.out, by first | (rw [p8, Int.natCast_add]; rfl) | (rw [Int.natCast_add]; rfl), hom2.out, ⟨HS.out.drop.drop⟩, HB⟩, by (try rw [p8]); exact meas_w m1 k2.length hml'.out⟩
                    · have hbt := Aside0.mk (decide_eq_false hbf)
                      have hfl := ord_fail (k2.map (kyOf sd)) m ⟨g0, t0⟩ ⟨g1, t1⟩ (by rw [List.length_map, hm1.out]; exact hml'.out) hu.out (by rw [hm1.out]; exact hv.out) hbf
                      rw [List.length_map] at hfl
                      have hE2 := hE.out
                      rw [decR_ord _ _ _ _ _ _ hl'.out h2'.out hck2.out hfl] at hE2
                      subst hE2
                      clear hbf hfl
                      go_wp2_with (first | ((with_reducible refine gate_callee (f := 57) rfl ?_); refine goesL_ (some 112) rfl rfl Try.func57 (by kernel_rfl) rfl #[.agg #[.int .i64 g0, .string t0], .agg #[.int .i64 g1, .string t1]] rfl (by (try simp only [List.map_toArray, List.map_cons, List.map_nil]); first | done | rfl | (simp only [List.length_drop, List.length_take]; rfl)) ?_; (with_reducible refine (before_to ⟨g0, t0⟩ ⟨g1, t1⟩ _ hbt.out _).mono ?_); rintro e w41 ⟨rfl, hb⟩; clear hc0_0 hc0_1 hc1_0 hc1_1; refine ⟨_, rfl, ?_⟩; have n0_ := Aside0.mk (HS.out.step hb); have n1_ := Aside0.mk (below_step' HB.out HS.out.size hb); clear HS HB; have HS := n0_; have HB := n1_; clear n0_ n1_; (try simp only [List.eraseIdx_cons_succ, List.eraseIdx_cons_zero] at HS); clear hb))
                      go_ret
                      exact ⟨rfl, HS.out.drop.drop.drop.drop, HB.out⟩
                · obtain ⟨m1, hm1⟩ : ∃ k, m + 1 = k := ⟨_, rfl⟩
                  rw [hm1] at hml hom ⊢
                  have p10 : decide ((m1 : Int) < (k2.length : Int)) = false := decide_eq_false (fun h => hml (by omega))
                  have hoe := ord_mono (k2.map (kyOf sd)) k2.length m1 (Nat.le_of_not_lt hml) hom.out
                  clear hm1
                  have hE2 := hE.out
                  rw [decR_last _ _ _ _ _ _ hl'.out h2'.out hck2.out hoe] at hE2
                  have hc0_0 := (HS.out.cell 0).trans (show _ = some (.int .i64 sz) from rfl)
                  have p11 : ((m1 : Int) < (k2.length : Int)) = False := eq_false (fun h => hml (by omega))
                  have p12 : (m1 < k2.length) = False := eq_false hml
                  clear hoe
                  by_cases g1 : sz < (k2.length : Int)
                  · have r1 : decide ((k2.length : Int) > sz) = true := decide_eq_true g1
                    have r2 : (sz < (k2.length : Int)) = True := eq_true g1
                    rw [if_pos (.inl g1)] at hE2
                    subst hE2
                    clear g1
                    go_wp2
                    go_ret
                    exact ⟨rfl, HS.out.drop.drop, HB.out⟩
                  · have r1 : decide ((k2.length : Int) > sz) = false := decide_eq_false g1
                    have r2 : (sz < (k2.length : Int)) = False := eq_false g1
                    by_cases g2 : (k2.length : Int) < sz
                    · have r3 : decide ((k2.length : Int) < sz) = true := decide_eq_true g2
                      have r4 : ((k2.length : Int) < sz) = True := eq_true g2
                      cases ex
                      · rw [if_pos (.inr ⟨g2, rfl⟩)] at hE2
                        subst hE2
                        clear g1 g2
                        go_wp2
                        go_ret
                        exact ⟨rfl, HS.out.drop.drop, HB.out⟩
                      · rw [if_neg (fun h => h.elim g1 (fun h => Bool.noConfusion h.2))] at hE2
                        subst hE2
                        clear g1 g2
                        go_wp2
                        go_ret
                        exact ⟨rfl, HS.out.drop.drop, HB.out⟩
                    · have r3 : decide ((k2.length : Int) < sz) = false := decide_eq_false g2
                      have r4 : ((k2.length : Int) < sz) = False := eq_false g2
                      rw [if_neg (fun h => h.elim g1 (fun h => g2 h.1))] at hE2
                      subst hE2
                      clear g1 g2
                      go_wp2
                      go_ret
                      exact ⟨rfl, HS.out.drop.drop, HB.out⟩
    · have hE2 := hE.out
      have hef : ef = e := hst.elim (fun h => absurd h.1 he) (fun h => h.2)
      rw [hef, decR_err _ _ _ _ _ _ _ he] at hE2
      subst hE2
      have q5 : (e != 0) = true := by simpa using he
      have q6 : (e == 0) = false := by simpa using he
      have q7 : (e = 0) = False := eq_false he
      have en : (if e = 0 then (if a < s.size then (3 : Int) else 0) else e) = e := if_neg he
      replace en := Aside0.mk en
      clear hst lnx' hef he
      by_cases hlt : i < n'
      · have q3 : decide ((i : Int) < (n' : Int)) = true := decide_eq_true (lt_cst hlt)
        clear hi
        go_wp2_with (first | (go_at_call 53; (with_reducible refine (Rd_Err g s hs.out a e HS.out).mono ?_); rintro e wz ⟨rfl, rfl⟩) | ((with_reducible refine gate_callee (f := 56) rfl ?_); refine goesL_ (some 42) rfl rfl Try.func56 (by kernel_rfl) rfl #[.pointer (some ⟨g, 0, none⟩)] rfl (by (try simp only [List.map_toArray, List.map_cons, List.map_nil]); first | done | rfl | (simp only [List.length_drop, List.length_take]; rfl)) ?_; (with_reducible refine (End_to g s hs.out a e e en.out HS.out).mono ?_); rintro e_ w11 ⟨rfl, hs1, hb⟩; refine ⟨_, rfl, ?_⟩; have n0_ := Aside0.mk (hs1); have n1_ := Aside0.mk (HB.out.trans hb); clear HS HB; have HS := n0_; have HB := n1_; clear n0_ n1_; (try simp only [List.eraseIdx_cons_succ, List.eraseIdx_cons_zero] at HS); clear hs1 hb))
        go_ret
        exact ⟨rfl, HS.out.drop.drop.drop, HB.out⟩
      · have q3 : decide ((i : Int) < (n' : Int)) = false := decide_eq_false (fun h => hlt (by omega))
        clear hi
        go_wp2_with (first | ((with_reducible refine gate_callee (f := 56) rfl ?_); refine goesL_ (some 42) rfl rfl Try.func56 (by kernel_rfl) rfl #[.pointer (some ⟨g, 0, none⟩)] rfl (by (try simp only [List.map_toArray, List.map_cons, List.map_nil]); first | done | rfl | (simp only [List.length_drop, List.length_take]; rfl)) ?_; (with_reducible refine (End_to g s hs.out a e e en.out HS.out).mono ?_); rintro e_ w11 ⟨rfl, hs1, hb⟩; refine ⟨_, rfl, ?_⟩; have n0_ := Aside0.mk (hs1); have n1_ := Aside0.mk (HB.out.trans hb); clear HS HB; have HS := n0_; have HB := n1_; clear n0_ n1_; (try simp only [List.eraseIdx_cons_succ, List.eraseIdx_cons_zero] at HS); clear hs1 hb))
        go_ret
        exact ⟨rfl, HS.out.drop.drop.drop, HB.out⟩

end Go.Proofs.Ytddhpkobingmhaa.PB
