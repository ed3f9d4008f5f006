/- Decode, walked. -/
import Derived.Test.YtddhpkobingmhaaDecM

namespace Go.Proofs.Ytddhpkobingmhaa.PB
open Go.RowKit Go.Proofs.YtddhpkobingmhaaW.PrintWords Go.Proofs.YtddhpkobingmhaaW.PrintLast Go.Proofs.YtddhpkobingmhaaW.PrintMore Go.Proofs.Ytddhpkobingmhaa.Sep
set_option linter.unusedVariables false
set_option linter.unusedSimpArgs false
set_option maxHeartbeats 16000000
set_option maxRecDepth 100000

theorem Number_to (g : Nat) (s : ByteArray) (hs : s.size ≤ 140737488355328) (a : Nat) (er v : Int) (a' : Nat) (e' : Int) (h : numS s a er = (v, a', e')) {N : Nat} {w : World} {L : List Res} (HS0 : St N w (Blk g #[.string s, .int .i64 a, .int .i64 er] 98 :: L)) :
    Calls Try.prog 49 #[.pointer (some ⟨g, 0, none⟩)] w fun e w' => e = .returned (.int .i64 v) ∧ St N w' (Blk g #[.string s, .int .i64 a', .int .i64 e'] 98 :: L) ∧ Below N w w' := by
  have := Rd_Number g s hs a er HS0
  rwa [h] at this
theorem Bool_to (g : Nat) (s : ByteArray) (hs : s.size ≤ 140737488355328) (a : Nat) (er : Int) (v : Bool) (a' : Nat) (e' : Int) (h : boolS s a er = (v, a', e')) {N : Nat} {w : World} {L : List Res} (HS0 : St N w (Blk g #[.string s, .int .i64 a, .int .i64 er] 98 :: L)) :
    Calls Try.prog 50 #[.pointer (some ⟨g, 0, none⟩)] w fun e w' => e = .returned (.bool v) ∧ St N w' (Blk g #[.string s, .int .i64 a', .int .i64 e'] 98 :: L) ∧ Below N w w' := by
  have := Rd_Bool g s hs a er HS0
  rwa [h] at this
theorem Count_to (g : Nat) (s : ByteArray) (hs : s.size ≤ 140737488355328) (a : Nat) (er : Int) (v : Int) (a' : Nat) (e' : Int) (h : cntS s a er 1024 = (v, a', e')) {N : Nat} {w : World} {L : List Res} (HS0 : St N w (Blk g #[.string s, .int .i64 a, .int .i64 er] 98 :: L)) :
    Calls Try.prog 51 #[.pointer (some ⟨g, 0, none⟩), .int .i64 1024] w fun e w' => e = .returned (.int .i64 v) ∧ St N w' (Blk g #[.string s, .int .i64 a', .int .i64 e'] 98 :: L) ∧ Below N w w' := by
  have := Rd_Count g s hs a er 1024 HS0
  rwa [h] at this
theorem Text_to (g : Nat) (s : ByteArray) (hs : s.size ≤ 140737488355328) (a : Nat) (er : Int) (v : ByteArray) (a' : Nat) (e' : Int) (h : txtS s a er 4096 = (v, a', e')) {N : Nat} {w : World} {L : List Res} (HS0 : St N w (Blk g #[.string s, .int .i64 a, .int .i64 er] 98 :: L)) :
    Calls Try.prog 52 #[.pointer (some ⟨g, 0, none⟩), .int .i64 4096] w fun e w' => e = .returned (.string v) ∧ St N w' (Blk g #[.string s, .int .i64 a', .int .i64 e'] 98 :: L) ∧ Below N w w' := by
  have := Rd_Text g s hs a er 4096 HS0
  rwa [h] at this
theorem m_facts (m n : Nat) (h : m + 1 < n) (hn : n ≤ 1024) : decide (((m + 1 : Nat) : Int) > 0) = true ∧ ((0 : Int) < ((m + 1 : Nat) : Int)) = True ∧ wrap64 (((m + 1 : Nat) : Int) - 1) = (m : Int) ∧ (0 : Int) ≤ (m : Int) ∧ (m : Int) < (n : Int) ∧ (0 : Int) ≤ (m : Int) + 1 ∧ (m : Int) + 1 < (n : Int) ∧ wrap64 ((m : Int) + 1 + 1) = (m : Int) + 1 + 1 ∧ wrap64 (m : Int) = (m : Int) :=
  ⟨decide_eq_true (by omega), eq_true (by omega), by rw [wrap64_small _ (by omega) (by omega)]; omega, by omega, by omega, by omega, by omega, wrap64_small _ (by omega) (by omega), wrap64_small _ (by omega) (by omega)⟩
theorem ord_step (xs : List S52) (m : Nat) (u v : S52) (hom : ordN xs (m + 1) = true) (hu : rd_T52 xs (m : Int) = u) (hv : rd_T52 xs ((m + 1 : Nat) : Int) = v) (h : kcmp u v < 0) : ordN xs (m + 1 + 1) = true := by
  rw [ordN, hom, Bool.true_and, Bool.or_eq_true]
  exact .inr (decide_eq_true (by rw [Nat.add_sub_cancel, hu, hv]; exact h))
theorem ord_mono (xs : List S52) : ∀ (k n : Nat), k ≤ n → ordN xs n = true → ordN xs k = true
  | k, 0, h, hn => by obtain rfl : k = 0 := by omega
                      exact hn
  | k, n + 1, h, hn => by
    by_cases hk : k = n + 1
    · rw [hk]; exact hn
    · rw [ordN, Bool.and_eq_true] at hn
      exact ord_mono xs k n (by omega) hn.1
theorem ord_fail (xs : List S52) (m : Nat) (u v : S52) (hml : m + 1 < xs.length) (hu : rd_T52 xs (m : Int) = u) (hv : rd_T52 xs ((m + 1 : Nat) : Int) = v) (h : ¬ kcmp u v < 0) : ¬ ordN xs xs.length = true := fun ht => by
  have := ord_mono xs (m + 1 + 1) xs.length hml ht
  rw [ordN, Bool.and_eq_true, Bool.or_eq_true] at this
  rcases this.2 with h1 | h1
  · exact absurd (of_decide_eq_true h1) (by omega)
  · have h2 := of_decide_eq_true h1
    rw [Nat.add_sub_cancel, hu, hv] at h2
    exact h h2
theorem len_x {α β : Type} {xs : List α} {k2 : List β} {i j : Nat} (h : xs.length = j) (hj : j < k2.length) (hk : k2.length = i) (hn : i ≤ 1024) : (xs.length + 1) * 24 ≤ 140737488355328 := by omega
theorem lt_cst {i k : Nat} (h : i < k) : (i : Int) < (k : Int) := by omega
theorem rdOf_in (l : List ByteArray) (j : Nat) (t : ByteArray) (h : j < l.length) (e : rdOf ByteArray.empty l (j : Int) = t) : t ∈ l := by rw [← e, rdOf_at l j h]; exact List.getElem_mem h
theorem drop_at (l : List ByteArray) (j : Nat) (t : ByteArray) (h : j < l.length) (e : rdOf ByteArray.empty l (j : Int) = t) : l.drop j = t :: l.drop (j + 1) := by rw [← e, rdOf_at l j h]; exact List.drop_eq_getElem_cons h
theorem take_at (l : List ByteArray) (j : Nat) (t : ByteArray) (h : j < l.length) (e : rdOf ByteArray.empty l (j : Int) = t) : l.take (j + 1) = l.take j ++ [t] := by rw [← e, rdOf_at l j h, List.take_add_one, List.getElem?_eq_getElem h]; rfl
theorem all_snoc {l : List ByteArray} {t : ByteArray} {b : Nat} (h : ∀ x ∈ l, x.size ≤ b) (ht : t.size ≤ b) : ∀ x ∈ l ++ [t], x.size ≤ b := fun x hx => (List.mem_append.mp hx).elim (h x) (fun hx => by rw [List.mem_singleton.mp hx]; exact ht)
theorem inc_sm {i n : Nat} (h : i < n) (hn : n ≤ 1024) : wrap64 ((i : Int) + 1) = (i : Int) + 1 := wrap64_small _ (by omega) (by omega)
theorem rdT_ok (s : ByteArray) (k a : Nat) (t : ByteArray) (a' : Nat) (h : txtS s a 0 4096 = (t, a', 0)) (ks : List ByteArray) (T : List ByteArray × Nat × Int) (hT : (ks ++ (rdT s (k + 1) a 0).1, (rdT s (k + 1) a 0).2) = T) : (((ks ++ [t]) ++ (rdT s k a' 0).1, (rdT s k a' 0).2) : List ByteArray × Nat × Int) = T := by
  rw [rdT, h] at hT
  simpa using hT
theorem rdT_bad (s : ByteArray) (k a : Nat) (t : ByteArray) (a' : Nat) (e' : Int) (he : e' ≠ 0) (h : txtS s a 0 4096 = (t, a', e')) (ks : List ByteArray) (T : List ByteArray × Nat × Int) (hT : (ks ++ (rdT s (k + 1) a 0).1, (rdT s (k + 1) a 0).2) = T) : (ks, a', e') = T := by
  rw [rdT, h] at hT
  simpa [he] using hT
theorem decR_err (s : ByteArray) (sz sd : Int) (ex : Bool) (ks : List ByteArray) (a : Nat) (e : Int) (he : e ≠ 0) : decR s sz sd ex ks a e = e := if_neg he
theorem decR_left (s : ByteArray) (sz sd : Int) (ex : Bool) (ks : List ByteArray) (a : Nat) (h : a < s.size) : decR s sz sd ex ks a 0 = 3 := by unfold decR; rw [if_pos rfl, if_pos h]
theorem decR_range (s : ByteArray) (sz sd : Int) (ex : Bool) (ks : List ByteArray) (a : Nat) (h : ¬ a < s.size) (h2 : sz < 1 ∨ 1024 < sz ∨ sd < 0 ∨ 1048576 < sd) : decR s sz sd ex ks a 0 = 2 := by unfold decR; rw [if_pos rfl, if_neg h, if_pos h2]
theorem decR_chk (s : ByteArray) (sz sd : Int) (ex : Bool) (ks : List ByteArray) (a : Nat) (h : ¬ a < s.size) (h2 : ¬ (sz < 1 ∨ 1024 < sz ∨ sd < 0 ∨ 1048576 < sd)) (h3 : chkF ks ≠ 0) : decR s sz sd ex ks a 0 = chkF ks := by unfold decR; rw [if_pos rfl, if_neg h, if_neg h2, if_neg h3]
theorem decR_ord (s : ByteArray) (sz sd : Int) (ex : Bool) (ks : List ByteArray) (a : Nat) (h : ¬ a < s.size) (h2 : ¬ (sz < 1 ∨ 1024 < sz ∨ sd < 0 ∨ 1048576 < sd)) (h3 : chkF ks = 0) (h4 : ¬ ordN (ks.map (kyOf sd)) ks.length = true) : decR s sz sd ex ks a 0 = 8 := by unfold decR; rw [if_pos rfl, if_neg h, if_neg h2, if_pos h3, if_neg h4]
theorem decR_last (s : ByteArray) (sz sd : Int) (ex : Bool) (ks : List ByteArray) (a : Nat) (h : ¬ a < s.size) (h2 : ¬ (sz < 1 ∨ 1024 < sz ∨ sd < 0 ∨ 1048576 < sd)) (h3 : chkF ks = 0) (h4 : ordN (ks.map (kyOf sd)) ks.length = true) : decR s sz sd ex ks a 0 = if sz < (ks.length : Int) ∨ ((ks.length : Int) < sz ∧ ex = false) then 3 else 0 := by unfold decR; rw [if_pos rfl, if_neg h, if_neg h2, if_pos h3, if_pos h4]

def dcd.T23 : Bool × List (List Nat × List Nat) := (true, [([], []), ([], []), ([1], [1]), ([2], [2]), ([3], [3]), ([], []), ([], []), ([5, 6], [5, 6]), ([], []), ([7, 8], [7, 8]), ([9], [9]), ([4, 10, 7], [4, 10]), ([0, 0, 1, 2, 3, 4, 5, 6, 7, 8, 9, 10, 11], [0]), ([12, 0, 1, 2, 3, 4, 5, 6, 7, 8, 9, 10, 11], [12]), ([13, 11, 11, 0, 1, 2, 3, 4, 5, 6, 7, 8, 9, 10, 11], [11, 13])])
def dcd.B23 : List Nat := [0, 0, 2, 6, 14, 0, 0, 96, 0, 480, 992, 2046, 4095, 8191, 16383]
theorem dcd.tab23 : rtab .any (opsOf Try.f28 23) = dcd.T23 := by kernel_rfl
theorem dcd.bits23 : waitsOk dcd.T23.2 dcd.B23 = true := by kernel_rfl
def dcd.T28 : Bool × List (List Nat × List Nat) := (true, [([], []), ([0], [0]), ([1], [1]), ([2], [2]), ([3, 2], [2, 3]), ([4, 2], [2, 4]), ([5, 2], [2, 5]), ([2], [2]), ([7, 2], [2, 7]), ([6, 8, 2], [2, 6, 8]), ([9, 2], [2, 9]), ([2], [2]), ([11, 2], [2, 11]), ([12, 2], [2, 12]), ([13, 2], [2, 13]), ([2], [2]), ([14, 15, 2], [2, 14, 15]), ([16, 2], [2, 16]), ([10, 17, 2, 2], [2, 10, 17]), ([18, 2], [2, 18]), ([2, 19], [2, 19])])
def dcd.B28 : List Nat := [0, 1, 3, 7, 15, 31, 63, 7, 135, 511, 1023, 7, 2055, 6151, 14343, 7, 63495, 129031, 262143, 524287, 1048575]
theorem dcd.tab28 : rtab .any (opsOf Try.f28 28) = dcd.T28 := by kernel_rfl
theorem dcd.bits28 : waitsOk dcd.T28.2 dcd.B28 = true := by kernel_rfl
theorem Decode_ok (s : ByteArray) (hs0 : s.size ≤ 140737488355328) (sz sd : Int) (ex : Bool) (a1 a2 a3 a4 : Nat) (x1 x2 x3 x4 n : Int) (H10 : numS s 0 0 = (sz, a1, x1)) (H20 : numS s a1 x1 = (sd, a2, x2)) (H30 : boolS s a2 x2 = (ex, a3, x3)) (H40 : cntS s a3 x3 1024 = (n, a4, x4)) (ks : List ByteArray) (af : Nat) (ef : Int) (HT0 : rdT s n.toNat a4 x4 = (ks, af, ef)) (E : Int) (hE0 : decR s sz sd ex ks af ef = E) {N : Nat} {w : World} {L : List Res} (HS0 : St N w L) :
    Calls Try.prog 28 #[.string s] w fun e w' => ((E ≠ 0 ∧ e = .returned (.tuple #[.pointer none, .int .i64 E]) ∧ St N w' L) ∨ (E = 0 ∧ ∃ p : Nat, e = .returned (.tuple #[.pointer (some ⟨p, 0, none⟩), .int .i64 0]) ∧ (∃ V : Value, St N w' (Blk p #[.int .i64 sz, .int .i64 sd, V, .bool (!ex)] 59 :: Row k52 52 V (ks.map (kyOf sd)) :: L)))) ∧ Below N w w' := by
  have HS := Aside0.mk HS0
  have HB := Aside0.mk (Below.refl N w)
  have l1 : a1 ≤ s.size := by have := numS_le s 0 0 (Nat.zero_le _); rwa [H10] at this
  have l2 : a2 ≤ s.size := by have := numS_le s a1 x1 l1; rwa [H20] at this
  have l3 : a3 ≤ s.size := by have := boolS_le s a2 x2 l2; rwa [H30] at this
  have l4 := cntS_le s a3 x3 l3
  rw [H40] at l4
  obtain ⟨l4, ln0, ln1, lnx⟩ := l4
  simp only at l4 ln0 ln1 lnx
  obtain ⟨n', rfl⟩ : ∃ k : Nat, n = (k : Int) := ⟨n.toNat, by omega⟩
  rw [Int.toNat_natCast] at HT0
  have H1 := Aside0.mk H10
  have H2 := Aside0.mk H20
  have H3 := Aside0.mk H30
  have H4 := Aside0.mk H40
  have HT := Aside0.mk HT0
  have hE := Aside0.mk hE0
  have hs := Aside0.mk hs0
  have ln1' : n' ≤ 1024 := by omega
  have lnx' : x4 ≠ 0 → n' = 0 := fun h => by have := lnx h; omega
  clear HS0 H10 H20 H30 H40 HT0 hE0 hs0 l1 l2 l3 ln0 ln1 lnx
  go_enter Try.func28, Try.ntmps28
  go_wp2_with (first | ((with_reducible refine gate_callee (f := 48) rfl ?_); refine goesL_ (some 17) rfl rfl Try.func48 (by kernel_rfl) rfl #[.string s] rfl (by (try simp only [List.map_toArray, List.map_cons, List.map_nil]); first | done | rfl | (simp only [List.length_drop, List.length_take]; rfl)) ?_; (with_reducible refine (Rd_New s HS.out).mono ?_); rintro e w1 ⟨g, rfl, hs1, hb⟩; refine ⟨_, rfl, ?_⟩; have n0_ := Aside0.mk (hs1); have n1_ := Aside0.mk (HB.out.trans hb); clear HS HB; have HS := n0_; have HB := n1_; clear n0_ n1_; (try simp only [List.eraseIdx_cons_succ, List.eraseIdx_cons_zero] at HS); clear hs1 hb) | ((with_reducible refine gate_callee (f := 49) rfl ?_); refine goesL_ (some 19) rfl rfl Try.func49 (by kernel_rfl) rfl #[.pointer (some ⟨g, 0, none⟩)] rfl (by (try simp only [List.map_toArray, List.map_cons, List.map_nil]); first | done | rfl | (simp only [List.length_drop, List.length_take]; rfl)) ?_; (with_reducible refine (Number_to g s hs.out 0 0 sz a1 x1 H1.out HS.out).mono ?_); rintro e w2 ⟨rfl, hs1, hb⟩; refine ⟨_, rfl, ?_⟩; have n0_ := Aside0.mk (hs1); have n1_ := Aside0.mk (HB.out.trans hb); clear HS HB; have HS := n0_; have HB := n1_; clear n0_ n1_; (try simp only [List.eraseIdx_cons_succ, List.eraseIdx_cons_zero] at HS); clear hs1 hb) | ((with_reducible refine gate_callee (f := 49) rfl ?_); refine goesL_ (some 21) rfl rfl Try.func49 (by kernel_rfl) rfl #[.pointer (some ⟨g, 0, none⟩)] rfl (by (try simp only [List.map_toArray, List.map_cons, List.map_nil]); first | done | rfl | (simp only [List.length_drop, List.length_take]; rfl)) ?_; (with_reducible refine (Number_to g s hs.out a1 x1 sd a2 x2 H2.out HS.out).mono ?_); rintro e w3 ⟨rfl, hs1, hb⟩; refine ⟨_, rfl, ?_⟩; have n0_ := Aside0.mk (hs1); have n1_ := Aside0.mk (HB.out.trans hb); clear HS HB; have HS := n0_; have HB := n1_; clear n0_ n1_; (try simp only [List.eraseIdx_cons_succ, List.eraseIdx_cons_zero] at HS); clear hs1 hb) | ((with_reducible refine gate_callee (f := 50) rfl ?_); refine goesL_ (some 23) rfl rfl Try.func50 (by kernel_rfl) rfl #[.pointer (some ⟨g, 0, none⟩)] rfl (by (try simp only [List.map_toArray, List.map_cons, List.map_nil]); first | done | rfl | (simp only [List.length_drop, List.length_take]; rfl)) ?_; (with_reducible refine (Bool_to g s hs.out a2 x2 ex a3 x3 H3.out HS.out).mono ?_); rintro e w4 ⟨rfl, hs1, hb⟩; refine ⟨_, rfl, ?_⟩; have n0_ := Aside0.mk (hs1); have n1_ := Aside0.mk (HB.out.trans hb); clear HS HB; have HS := n0_; have HB := n1_; clear n0_ n1_; (try simp only [List.eraseIdx_cons_succ, List.eraseIdx_cons_zero] at HS); clear hs1 hb) | ((with_reducible refine gate_callee (f := 51) rfl ?_); refine goesL_ (some 25) rfl rfl Try.func51 (by kernel_rfl) rfl #[.pointer (some ⟨g, 0, none⟩), .int .i64 1024] rfl (by (try simp only [List.map_toArray, List.map_cons, List.map_nil]); first | done | rfl | (simp only [List.length_drop, List.length_take]; rfl)) ?_; (with_reducible refine (Count_to g s hs.out a3 x3 _ a4 x4 H4.out HS.out).mono ?_); rintro e w5 ⟨rfl, hs1, hb⟩; refine ⟨_, rfl, ?_⟩; have n0_ := Aside0.mk (hs1); have n1_ := Aside0.mk (HB.out.trans hb); clear HS HB; have HS := n0_; have HB := n1_; clear n0_ n1_; (try simp only [List.eraseIdx_cons_succ, List.eraseIdx_cons_zero] at HS); clear hs1 hb))
  go_loopw [8, 26] (fun v8 v26 wc => ∃ (i : Nat) (k2 : List ByteArray) (a : Nat) (e : Int) (A : Option Addr) (c : Nat), i ≤ n' ∧ v26 = .int .i64 i ∧ v8 = .slice A k2.length c ∧ k2.length = i ∧ (∀ t ∈ k2, t.size ≤ 4096) ∧ a ≤ s.size ∧ (i < n' → e = 0) ∧ (k2 ++ (rdT s (n' - i) a e).1, (rdT s (n' - i) a e).2) = (ks, af, ef) ∧ Aside0 (St N wc (Blk g #[.string s, .int .i64 a, .int .i64 e] 98 :: Row Kd.string 9 (.slice A k2.length c) k2 :: L)) ∧ Aside0 (Below N w wc)) (fun _ v26 _ => (n' - intOf v26).toNat)
  case atStart => exact ⟨0, [], a4, x4, none, 0, Nat.zero_le _, rfl, rfl, rfl, fun _ h => absurd h List.not_mem_nil, l4, fun h => by by_cases hx : x4 = 0; exact hx; have := lnx' hx; omega, by rw [Nat.sub_zero, List.nil_append]; exact HT.out, ⟨HS.out.rowNil.swap⟩, HB⟩
  case round =>
    clear HS HB
    obtain ⟨i, k2, a, e, A, c, hi, rfl, rfl, hkl, hkz, hal, hie, hTT, HS, HB⟩ := hrel
    replace hkz := Aside0.mk hkz
    replace hkl := Aside0.mk hkl
    by_cases hlt : i < n'
    · obtain rfl : e = 0 := hie hlt
      obtain ⟨t, a', e', ht⟩ : ∃ t a' e', txtS s a 0 4096 = (t, a', e') := ⟨_, _, _, rfl⟩
      have hal' := txtS_le s a 0 hal
      rw [ht] at hal'
      obtain ⟨hal', hts⟩ := hal'
      simp only at hal' hts
      have q4 : wrap64 ((i : Int) + 1) = (i : Int) + 1 := inc_sm hlt ln1'
      rw [show n' - i = (n' - (i + 1)) + 1 by omega] at hTT
      by_cases he' : e' = 0
      · subst he'
        have hT2 := Aside0.mk (rdT_ok s (n' - (i + 1)) a t a' ht k2 _ hTT)
        obtain ⟨k3, hk2⟩ : ∃ l, k2 ++ [t] = l := ⟨_, rfl⟩
        have hk3 : Aside0 (k3.length = i + 1) := ⟨by rw [← hk2, List.length_append, hkl.out]; rfl⟩
        have hkz3 : Aside0 (∀ t ∈ k3, t.size ≤ 4096) := ⟨by rw [← hk2]; exact all_snoc hkz.out hts⟩
        have hkl' : Aside0 ((k2.length + 1) * 16 ≤ 140737488355328) := ⟨by rw [hkl.out]; omega⟩
        rw [hk2] at hT2
        replace hk2 := Aside0.mk hk2
        replace ht := Aside0.mk ht
        have hlt' := Aside0.mk hlt
        have haa := Aside0.mk hal'
        clear hTT hal hts hal' hie hkl hi lnx'
        go_wp2_with (first | ((with_reducible refine gate_callee (f := 52) rfl ?_); refine goesL_ (some 29) rfl rfl Try.func52 (by kernel_rfl) rfl #[.pointer (some ⟨g, 0, none⟩), .int .i64 4096] rfl (by (try simp only [List.map_toArray, List.map_cons, List.map_nil]); first | done | rfl | (simp only [List.length_drop, List.length_take]; rfl)) ?_; (with_reducible refine (Text_to g s hs.out a 0 _ _ _ ht.out HS.out).mono ?_); rintro e w7 ⟨rfl, hs1, hb⟩; refine ⟨_, rfl, ?_⟩; have n0_ := Aside0.mk (hs1); have n1_ := Aside0.mk (HB.out.trans hb); clear HS HB; have HS := n0_; have HB := n1_; clear n0_ n1_; (try simp only [List.eraseIdx_cons_succ, List.eraseIdx_cons_zero] at HS); clear hs1 hb) | ((with_reducible refine gate_callee (f := 53) rfl ?_); refine goesL_ (some 31) rfl rfl Try.func53 (by kernel_rfl) rfl #[.pointer (some ⟨g, 0, none⟩)] rfl (by (try simp only [List.map_toArray, List.map_cons, List.map_nil]); first | done | rfl | (simp only [List.length_drop, List.length_take]; rfl)) ?_; (with_reducible refine (Rd_Err g s hs.out a' 0 HS.out).mono ?_); rintro e wz ⟨rfl, rfl⟩; refine ⟨_, rfl, ?_⟩; have n0_ := Aside0.mk (HS.out); have n1_ := Aside0.mk (HB.out); clear HS HB; have HS := n0_; have HB := n1_; clear n0_ n1_; (try simp only [List.eraseIdx_cons_succ, List.eraseIdx_cons_zero] at HS); skip) | ((with_reducible refine gate_dst (N := 35) rfl ?_); refine S_lit Kd.string 9 ?hg35 (Nt := 35) ?hd35 (xs := ([t] : List ByteArray)) (inner := [.string t]) ?hr35 ?hp35 HS.out (by simp) ?_; (case hd35 => rfl); (case hg35 => rfl); (case hr35 => first | (go_simp; done) | (go_simp; rfl)); (case hp35 => exact Reps.one (show Kd.M Kd.string _ _ _ t [.string t] from rfl) (Reps.none _ _)); intro vl w8 hs hb; have n0_ := Aside0.mk (hs); have n1_ := Aside0.mk (below_step' HB.out HS.out.size hb); clear HS HB; have HS := n0_; have HB := n1_; clear n0_ n1_; (try simp only [List.eraseIdx_cons_succ, List.eraseIdx_cons_zero] at HS); clear hs hb; obtain ⟨Al, cl, e_⟩ : ∃ (A : Option Addr) (c : Nat), vl = .slice A ([t] : List ByteArray).length c := (by obtain ⟨A, c, e, _, _⟩ := HS.out.reads; exact ⟨A, c, e⟩); subst e_) | ((with_reducible refine gate_builtin (b := .append) (xs := #[.tmp 33, .tmp 35]) rfl ?_); at_builtin; refine S_append_rows Kd.string rfl (.tmp 33) (.tmp 35) 39 9 (.string ⟨#[]⟩) 16 rfl Try.underlying39 info9 rfl (by decide) (by omega) _ k2 [t] Al 1 cl rfl rfl (fun _ _ h => h) (HS.out.pick 2 rfl) ?hC HB.out ?hl ?_; (case hC => exact (HS.out.pick 0 rfl).rowC.2.2); (case hl => exact hkl'.out); intro v w9 hs1 hb; rw [hk2.out] at hs1; have n0_ := Aside0.mk (((hs1.pick 2 rfl).swap.pick 2 rfl).drop.swap); have n1_ := Aside0.mk (hb); clear HS HB; have HS := n0_; have HB := n1_; clear n0_ n1_; (try simp only [List.eraseIdx_cons_succ, List.eraseIdx_cons_zero] at HS); clear hs1 hb; obtain ⟨A2, c2, e_⟩ : ∃ (A : Option Addr) (c : Nat), v = .slice A k3.length c := (by obtain ⟨A, c, e, _, _⟩ := (HS.out.pick 1 rfl).reads; exact ⟨A, c, e⟩); subst e_))
        exact ⟨⟨i + 1, k3, a', 0, A2, c2, hlt'.out, by rw [Int.natCast_add]; rfl, rfl, hk3.out, hkz3.out, haa.out, fun _ => rfl, hT2.out, HS, HB⟩, meas_w i n' hlt'.out⟩
      · have hT2 := rdT_bad s (n' - (i + 1)) a t a' e' he' ht k2 _ hTT
        simp only [Prod.mk.injEq] at hT2
        obtain ⟨rfl, rfl, rfl⟩ := hT2
        have hE2 := hE.out
        rw [decR_err _ _ _ _ _ _ _ he'] at hE2
        subst hE2
        have q5 : (e' != 0) = true := by simpa using he'
        have he2 := Aside0.mk he'
        replace ht := Aside0.mk ht
        clear hTT hal hts hal' hie hkl hi lnx'
        go_wp2_with (first | ((with_reducible refine gate_callee (f := 52) rfl ?_); refine goesL_ (some 29) rfl rfl Try.func52 (by kernel_rfl) rfl #[.pointer (some ⟨g, 0, none⟩), .int .i64 4096] rfl (by (try simp only [List.map_toArray, List.map_cons, List.map_nil]); first | done | rfl | (simp only [List.length_drop, List.length_take]; rfl)) ?_; (with_reducible refine (Text_to g s hs.out a 0 _ _ _ ht.out HS.out).mono ?_); rintro e w7 ⟨rfl, hs1, hb⟩; refine ⟨_, rfl, ?_⟩; have n0_ := Aside0.mk (hs1); have n1_ := Aside0.mk (HB.out.trans hb); clear HS HB; have HS := n0_; have HB := n1_; clear n0_ n1_; (try simp only [List.eraseIdx_cons_succ, List.eraseIdx_cons_zero] at HS); clear hs1 hb) | ((with_reducible refine gate_callee (f := 53) rfl ?_); refine goesL_ (some 31) rfl rfl Try.func53 (by kernel_rfl) rfl #[.pointer (some ⟨g, 0, none⟩)] rfl (by (try simp only [List.map_toArray, List.map_cons, List.map_nil]); first | done | rfl | (simp only [List.length_drop, List.length_take]; rfl)) ?_; (with_reducible refine (Rd_Err g s hs.out a' e' HS.out).mono ?_); rintro e wz ⟨rfl, rfl⟩; refine ⟨_, rfl, ?_⟩; have n0_ := Aside0.mk (HS.out); have n1_ := Aside0.mk (HB.out); clear HS HB; have HS := n0_; have HB := n1_; clear n0_ n1_; (try simp only [List.eraseIdx_cons_succ, List.eraseIdx_cons_zero] at HS); skip) | ((with_reducible refine gate_callee (f := 53) rfl ?_); refine goesL_ (some 40) rfl rfl Try.func53 (by kernel_rfl) rfl #[.pointer (some ⟨g, 0, none⟩)] rfl (by (try simp only [List.map_toArray, List.map_cons, List.map_nil]); first | done | rfl | (simp only [List.length_drop, List.length_take]; rfl)) ?_; (with_reducible refine (Rd_Err g s hs.out a' e' HS.out).mono ?_); rintro e wz ⟨rfl, rfl⟩; refine ⟨_, rfl, ?_⟩; have n0_ := Aside0.mk (HS.out); have n1_ := Aside0.mk (HB.out); clear HS HB; have HS := n0_; have HB := n1_; clear n0_ n1_; (try simp only [List.eraseIdx_cons_succ, List.eraseIdx_cons_zero] at HS); skip) | ((with_reducible refine gate_callee (f := 53) rfl ?_); refine goesL_ (some 43) rfl rfl Try.func53 (by kernel_rfl) rfl #[.pointer (some ⟨g, 0, none⟩)] rfl (by (try simp only [List.map_toArray, List.map_cons, List.map_nil]); first | done | rfl | (simp only [List.length_drop, List.length_take]; rfl)) ?_; (with_reducible refine (Rd_Err g s hs.out a' e' HS.out).mono ?_); rintro e wz ⟨rfl, rfl⟩; refine ⟨_, rfl, ?_⟩; have n0_ := Aside0.mk (HS.out); have n1_ := Aside0.mk (HB.out); clear HS HB; have HS := n0_; have HB := n1_; clear n0_ n1_; (try simp only [List.eraseIdx_cons_succ, List.eraseIdx_cons_zero] at HS); skip))
        go_ret2
        exact ⟨.inl ⟨he2.out, rfl, HS.out.drop.drop⟩, HB.out⟩
    · obtain rfl : i = n' := Nat.le_antisymm hi (Nat.le_of_not_lt hlt)
      rw [Nat.sub_self, rdT, List.append_nil] at hTT
      simp only [Prod.mk.injEq] at hTT
      obtain ⟨rfl, rfl, rfl⟩ := hTT
      have q3 : decide ((i : Int) < (i : Int)) = false := decide_eq_false (Int.lt_irrefl _)
      clear hie hi hlt lnx'
      by_cases he : e = 0
      · subst he
        by_cases hl : a < s.size
        · have hE2 := hE.out
          rw [decR_left _ _ _ _ _ _ hl] at hE2
          subst hE2
          have q5 : decide ((s.size : Int) - (a : Int) > 0) = true := decide_eq_true (by omega)
          have q6 : ((0 : Int) < (s.size : Int) - (a : Int)) = True := eq_true (by omega)
          have q7 : ((a : Int) < (s.size : Int)) = True := eq_true (by omega)
          have q8 : (a < s.size) = True := eq_true hl
          have hal' := Aside0.mk hal
          have hl' := Aside0.mk hl
          clear hl hal
          go_wp2_with (first | ((with_reducible refine gate_callee (f := 53) rfl ?_); refine goesL_ (some 40) rfl rfl Try.func53 (by kernel_rfl) rfl #[.pointer (some ⟨g, 0, none⟩)] rfl (by (try simp only [List.map_toArray, List.map_cons, List.map_nil]); first | done | rfl | (simp only [List.length_drop, List.length_take]; rfl)) ?_; (with_reducible refine (Rd_Err g s hs.out a 0 HS.out).mono ?_); rintro e wz ⟨rfl, rfl⟩; refine ⟨_, rfl, ?_⟩; have n0_ := Aside0.mk (HS.out); have n1_ := Aside0.mk (HB.out); clear HS HB; have HS := n0_; have HB := n1_; clear n0_ n1_; (try simp only [List.eraseIdx_cons_succ, List.eraseIdx_cons_zero] at HS); skip) | ((with_reducible refine gate_callee (f := 54) rfl ?_); refine goesL_ (some 46) rfl rfl Try.func54 (by kernel_rfl) rfl #[.pointer (some ⟨g, 0, none⟩)] rfl (by (try simp only [List.map_toArray, List.map_cons, List.map_nil]); first | done | rfl | (simp only [List.length_drop, List.length_take]; rfl)) ?_; (with_reducible refine (Rd_Left g s hs.out a 0 hal'.out HS.out).mono ?_); rintro e w10 ⟨rfl, hs1, hb⟩; refine ⟨_, rfl, ?_⟩; have n0_ := Aside0.mk (hs1); have n1_ := Aside0.mk (HB.out.trans hb); clear HS HB; have HS := n0_; have HB := n1_; clear n0_ n1_; (try simp only [List.eraseIdx_cons_succ, List.eraseIdx_cons_zero] at HS); clear hs1 hb))
          go_ret2
          exact ⟨.inl ⟨by decide, rfl, HS.out.drop.drop⟩, HB.out⟩
        · have q5 : decide ((s.size : Int) - (a : Int) > 0) = false := decide_eq_false (by omega)
          have q6 : ((0 : Int) < (s.size : Int) - (a : Int)) = False := eq_false (by omega)
          have q7 : ((a : Int) < (s.size : Int)) = False := eq_false (by omega)
          have q8 : (a < s.size) = False := eq_false hl
          have hal' := Aside0.mk hal
          have hl' := Aside0.mk hl
          clear hl hal
          go_upto_region 14 with (first | ((with_reducible refine gate_callee (f := 53) rfl ?_); refine goesL_ (some 40) rfl rfl Try.func53 (by kernel_rfl) rfl #[.pointer (some ⟨g, 0, none⟩)] rfl (by (try simp only [List.map_toArray, List.map_cons, List.map_nil]); first | done | rfl | (simp only [List.length_drop, List.length_take]; rfl)) ?_; (with_reducible refine (Rd_Err g s hs.out a 0 HS.out).mono ?_); rintro e wz ⟨rfl, rfl⟩; refine ⟨_, rfl, ?_⟩; have n0_ := Aside0.mk (HS.out); have n1_ := Aside0.mk (HB.out); clear HS HB; have HS := n0_; have HB := n1_; clear n0_ n1_; (try simp only [List.eraseIdx_cons_succ, List.eraseIdx_cons_zero] at HS); skip) | ((with_reducible refine gate_callee (f := 54) rfl ?_); refine goesL_ (some 46) rfl rfl Try.func54 (by kernel_rfl) rfl #[.pointer (some ⟨g, 0, none⟩)] rfl (by (try simp only [List.map_toArray, List.map_cons, List.map_nil]); first | done | rfl | (simp only [List.length_drop, List.length_take]; rfl)) ?_; (with_reducible refine (Rd_Left g s hs.out a 0 hal'.out HS.out).mono ?_); rintro e w10 ⟨rfl, hs1, hb⟩; refine ⟨_, rfl, ?_⟩; have n0_ := Aside0.mk (hs1); have n1_ := Aside0.mk (HB.out.trans hb); clear HS HB; have HS := n0_; have HB := n1_; clear n0_ n1_; (try simp only [List.eraseIdx_cons_succ, List.eraseIdx_cons_zero] at HS); clear hs1 hb))
          have h1_ := HS.out.drop
          clear HS
          have HS := Aside0.mk h1_
          clear h1_
          by_cases h2 : sz < 1 ∨ 1024 < sz ∨ sd < 0 ∨ 1048576 < sd
          · have hE2 := hE.out
            rw [decR_range _ _ _ _ _ _ hl'.out h2] at hE2
            subst hE2
            replace h2 := Aside0.mk h2
            go_wp2_with (first | ((with_reducible refine gate_callee (f := 20) rfl ?_); refine goesL_ (some 51) rfl rfl Try.func20 (by kernel_rfl) rfl #[.int .i64 sz, .int .i64 sd] rfl (by (try simp only [List.map_toArray, List.map_cons, List.map_nil]); first | done | rfl | (simp only [List.length_drop, List.length_take]; rfl)) ?_; (with_reducible refine (bottomk_New.bad sz sd h2.out _).mono ?_); rintro e wz ⟨rfl, rfl⟩; refine ⟨_, rfl, ?_⟩; have n0_ := Aside0.mk (HS.out); have n1_ := Aside0.mk (HB.out); clear HS HB; have HS := n0_; have HB := n1_; clear n0_ n1_; (try simp only [List.eraseIdx_cons_succ, List.eraseIdx_cons_zero] at HS); skip))
            go_ret2
            exact ⟨.inl ⟨by decide, rfl, HS.out.drop⟩, HB.out⟩
          have hz1 : 1 ≤ sz := by omega
          have hz2 : sz ≤ 1024 := by omega
          have hz3 : 0 ≤ sd := by omega
          have hz4 : sd ≤ 1048576 := by omega
          have h2' := Aside0.mk h2
          clear h2
          go_wp2_with (first | ((with_reducible refine gate_callee (f := 20) rfl ?_); refine goesL_ (some 51) rfl rfl Try.func20 (by kernel_rfl) rfl #[.int .i64 sz, .int .i64 sd] rfl (by (try simp only [List.map_toArray, List.map_cons, List.map_nil]); first | done | rfl | (simp only [List.length_drop, List.length_take]; rfl)) ?_; (with_reducible refine (bottomk_New.ok sz sd hz1 hz2 hz3 hz4 HS.out).mono ?_); rintro e w11 ⟨p, rfl, hs1, hb⟩; refine ⟨_, rfl, ?_⟩; have n0_ := Aside0.mk (hs1); have n1_ := Aside0.mk (HB.out.trans hb); clear HS HB; have HS := n0_; have HB := n1_; clear n0_ n1_; (try simp only [List.eraseIdx_cons_succ, List.eraseIdx_cons_zero] at HS); clear hs1 hb))
          go_loopw [59] (fun v59 wc => ∃ (j : Nat) (xs : List S52) (A1 : Option Addr) (c1 : Nat), j ≤ k2.length ∧ v59 = .int .i64 j ∧ xs = (k2.take j).map (kyOf sd) ∧ xs.length = j ∧ chkF k2 = chkF (k2.drop j) ∧ Aside0 (St N wc (Blk p #[.int .i64 sz, .int .i64 sd, .slice A1 xs.length c1, .bool false] 59 :: Row k52 52 (.slice A1 xs.length c1) xs :: Row Kd.string 9 (.slice A k2.length c) k2 :: L)) ∧ Aside0 (Below N w wc)) (fun v59 _ => (k2.length - intOf v59).toNat)
          case atStart => exact ⟨0, [], none, 0, Nat.zero_le _, rfl, rfl, rfl, rfl, ⟨HS.out.rowNil.swap⟩, HB⟩
          case round =>
            clear HS HB
            obtain ⟨j, xs, A1, c1, hj, rfl, hxs, hxl, hck, HS, HB⟩ := hrel
            replace hxs := Aside0.mk hxs
            replace hxl := Aside0.mk hxl
            replace hck := Aside0.mk hck
            by_cases hjl : j < k2.length
            · obtain ⟨ad, e_, ht0⟩ := Kd.at_string (HS.out.pick 2 rfl).rowC.2.2 (j : Int) (Int.natCast_nonneg _) (lt_cst hjl)
              cases e_
              rw [Int.toNat_natCast] at ht0
              obtain ⟨t, ht⟩ : ∃ t, rdOf ByteArray.empty k2 (j : Int) = t := ⟨_, rfl⟩
              have htm := rdOf_in k2 j t hjl ht
              have hts : t.size ≤ 4096 := hkz.out t htm
              rw [ht] at ht0
              have hd1 := drop_at k2 j t hjl ht
              have htk := take_at k2 j t hjl ht
              obtain ⟨r, hr⟩ : ∃ r, chk t = r := ⟨_, rfl⟩
              have hch := Aside0.mk ((chk_ok t (Nat.le_trans hts (by decide)) (t.size + 2) (Nat.le_refl _)).1)
              rw [hr] at hch
              have hh := Aside0.mk (hash_ok sd t (Nat.le_trans hts (by decide)) (t.size + 1) (Nat.le_refl _))
              obtain ⟨h_, hh_⟩ : ∃ h, hashT sd t = h := ⟨_, rfl⟩
              rw [hh_] at hh
              have p1 : decide ((j : Int) < (k2.length : Int)) = true := decide_eq_true (lt_cst hjl)
              have p2 : (0 : Int) ≤ (j : Int) := Int.natCast_nonneg _
              have p3 := lt_cst hjl
              have p4 : wrap64 ((j : Int) + 1) = (j : Int) + 1 := inc_sm hjl (by rw [hkl.out]; exact ln1')
              have hk24 : k2.length ≤ 1024 := by rw [hkl.out]; exact ln1'
              replace hd1 := Aside0.mk hd1
              replace htk := Aside0.mk htk
              have hjl' := Aside0.mk hjl
              replace hr := Aside0.mk hr
              replace hh_ := Aside0.mk hh_
              by_cases hr0 : r = 0
              · subst hr0
                have hck2 : Aside0 (chkF k2 = chkF (k2.drop (j + 1))) := ⟨by rw [hck.out, hd1.out, chkF, if_pos hr.out]⟩
                obtain ⟨x2, hx2⟩ : ∃ l, xs ++ [(⟨h_, t⟩ : S52)] = l := ⟨_, rfl⟩
                have hx2m : Aside0 (x2 = (k2.take (j + 1)).map (kyOf sd)) := ⟨by rw [← hx2, hxs.out, htk.out, List.map_append]; show _ = _ ++ [kyOf sd t]; unfold kyOf; rw [hh_.out]⟩
                have hx2l : Aside0 (x2.length = j + 1) := ⟨by rw [← hx2, List.length_append, hxl.out]; rfl⟩
                have hlx : Aside0 ((xs.length + 1) * 24 ≤ 140737488355328) := ⟨len_x hxl.out hjl hkl.out ln1'⟩
                replace hx2 := Aside0.mk hx2
                clear hjl hts htm
                go_upto_region 23 with (first | ((with_reducible refine gate_callee (f := 43) rfl ?_); refine goesL_ (some 64) rfl rfl Try.func43 (by kernel_rfl) rfl #[.string t] rfl (by (try simp only [List.map_toArray, List.map_cons, List.map_nil]); first | done | rfl | (simp only [List.length_drop, List.length_take]; rfl)) ?_; (with_reducible refine (bottomk_check.calls (t.size + 2) t _ _ hch.out).mono ?_); rintro e w12 ⟨rfl, hb⟩; refine ⟨_, rfl, ?_⟩; have n0_ := Aside0.mk (HS.out.step hb); have n1_ := Aside0.mk (below_step' HB.out HS.out.size hb); clear HS HB; have HS := n0_; have HB := n1_; clear n0_ n1_; (try simp only [List.eraseIdx_cons_succ, List.eraseIdx_cons_zero] at HS); clear hb))
                have n0_ := Aside0.mk (HS.out.drew); have n1_ := Aside0.mk (HB.out.drew); clear HS HB; have HS := n0_; have HB := n1_; clear n0_ n1_
                refine start_ (n := 15) (S := fun w' => w'.cell? ⟨p, 2, none⟩ = some (.slice A1 xs.length c1)) (ds := [14]) (tfs true [0, 15]).toArray (by kernel_rfl) rfl rfl (((HS.out.pick 0 rfl).cell 2).trans rfl) (fun hHeld => ?_); refine with_tabW dcd.tab23 dcd.bits23 (fun HT_ HW_ => ?_)
                generalize w12.drew = w13 at HS HB hHeld ⊢
                refine pU 0 68 (tfs true [1, 14]).toArray rfl rfl HT_ ?_
                refine pU 1 69 (tfs true [2, 13]).toArray rfl rfl HT_ ?_
                refine pU 2 70 (tfs true [3, 12]).toArray rfl rfl HT_ ?_
                refine pU 3 71 (tfs true [4, 11]).toArray rfl rfl HT_ ?_
                refine pU 5 73 (tfs true [4, 1, 1, 9]).toArray rfl rfl HT_ ?_
                refine pU 6 74 (tfs true [4, 1, 2, 8]).toArray rfl rfl HT_ ?_
                refine pU 8 76 (tfs true [4, 1, 2, 1, 1, 6]).toArray rfl rfl HT_ ?_
                refine tK 4 72 (tfs true [7, 1, 1, 6]).toArray rfl rfl HT_ HW_ hHeld ?_ (by rintro w' s0; go_simp; with_reducible rfl)
                refine one_ (i := 7) (N := some 75) (tfs true [9, 6]).toArray rfl rfl (one_of HT_.out (by kernel_rfl)) (by decide) (fun K hK => ?_)
                refine goes_ Try.func45 (by kernel_rfl) rfl #[.int .i64 sd, .string t] (by rfl) rfl rfl (by (try simp only [List.map_toArray, List.map_cons, List.map_nil]); first | done | rfl | (simp only [List.length_drop, List.length_take]; rfl)) ?_
                with_reducible refine (checksum_Text.calls (t.size + 1) sd t h_ _ hh.out).mono ?_
                rintro e w14 ⟨rfl, hb0⟩; have hb := hb0.below; clear hb0
                refine ⟨_, rfl, ?_⟩
                have n0_ := Aside0.mk (HS.out.step hb); have n1_ := Aside0.mk (below_step' HB.out HS.out.size hb); clear HS HB; have HS := n0_; have HB := n1_; clear n0_ n1_; (try simp only [List.eraseIdx_cons_succ, List.eraseIdx_cons_zero] at HS)
                clear hb
                refine hK.out _ _ (((HS.out.pick 0 rfl).cell 2).trans rfl) (fun hHeld => ?_)
                clear hK K
                refine norm_ (a' := ?_) ?_ ?_
                rotate_left
                · show Act.put _ (some 75) _ = _
                  simp only [Act.put, List.setIfInBounds_toArray, List.set_cons_zero, List.set_cons_succ, i64_w, i32_w]
                  rfl
                refine pU 9 77 (tfs true [10, 5]).toArray rfl rfl HT_ ?_
                refine one_ (i := 10) (N := some 78) (tfs true [11, 4]).toArray rfl rfl (one_of HT_.out (by kernel_rfl)) (by decide) (fun K hK => ?_)
                refine S_lit_step k52 52 (by rfl) (Nt := 78) rfl (xs := ([(⟨h_, t⟩ : S52)] : List S52)) (inner := [.int .i64 h_, .string t]) ?hr ?hp HS.out (by simp) ?_
                (case hr => first | (go_simp; done) | (go_simp; rfl))
                (case hp => exact reps_encs flatK (fun y => flatK.M _ _ _ y) _)
                intro vl w15 hs hb
                have n0_ := Aside0.mk ((((hs.pick 3 rfl).pick 3 rfl).pick 3 rfl)); have n1_ := Aside0.mk (below_step' HB.out HS.out.size hb); clear HS HB; have HS := n0_; have HB := n1_; clear n0_ n1_; (try simp only [List.eraseIdx_cons_succ, List.eraseIdx_cons_zero] at HS)
                clear hs hb
                obtain ⟨Al, cl, e_⟩ : ∃ (A : Option Addr) (c : Nat), vl = .slice A ([(⟨h_, t⟩ : S52)] : List S52).length c := (by obtain ⟨A, c, e, _, _⟩ := (HS.out.pick 3 rfl).reads; exact ⟨A, c, e⟩); subst e_
                refine hK.out _ _ (((HS.out.pick 0 rfl).cell 2).trans rfl) (fun hHeld => ?_)
                clear hK K
                refine norm_ (a' := ?_) ?_ ?_
                rotate_left
                · show Act.put _ (some 78) _ = _
                  simp only [Act.put, List.setIfInBounds_toArray, List.set_cons_zero, List.set_cons_succ, i64_w, i32_w]
                  rfl
                refine one_ (i := 11) (N := some 79) (tfs true [12, 3]).toArray rfl rfl (one_of HT_.out (by kernel_rfl)) (by decide) (fun K hK => ?_)
                refine S_append_rows_step k52 (by rfl) (.tmp 72) (.tmp 78) 26 52 (.agg #[(.int .i64 0), (.string ⟨#[]⟩)]) 24 rfl Try.underlying26 info52 rfl (by decide) (by omega) _ xs [(⟨h_, t⟩ : S52)] Al 1 cl rfl rfl (flat52 _ _) (HS.out.pick 1 rfl) (HS.out.pick 3 rfl).rowC.2.2 HB.out hlx.out ?_
                intro v w17 hs hb
                rw [hx2.out] at hs
                have n0_ := Aside0.mk ((hs.pick 1 rfl)); have n1_ := Aside0.mk (hb); clear HS HB; have HS := n0_; have HB := n1_; clear n0_ n1_; (try simp only [List.eraseIdx_cons_succ, List.eraseIdx_cons_zero] at HS)
                clear hs hb
                obtain ⟨A3, c3, e_⟩ : ∃ (A : Option Addr) (c : Nat), v = .slice A x2.length c := (by obtain ⟨A, c, e, _, _⟩ := (HS.out.pick 1 rfl).reads; exact ⟨A, c, e⟩); subst e_
                have hc0_2 := (HS.out.cell 2).trans (show _ = some (.slice A1 xs.length c1) from rfl)
                have hf0_2 := HS.out.frozen 2
                refine hK.out _ _ (((HS.out.pick 0 rfl).cell 2).trans rfl) (fun hHeld => ?_)
                clear hK K
                refine norm_ (a' := ?_) ?_ ?_
                rotate_left
                · show Act.put _ (some 79) _ = _
                  simp only [Act.put, List.setIfInBounds_toArray, List.set_cons_zero, List.set_cons_succ, i64_w, i32_w]
                  rfl
                refine pU 12 80 (tfs true [13, 2]).toArray rfl rfl HT_ ?_
                refine pU 13 81 (tfs true [14, 1]).toArray rfl rfl HT_ ?_
                refine last_ (i := 14) (N := none) (tfs true [15]).toArray rfl rfl (one_of HT_.out (by kernel_rfl)) (by decide) (fun K hK => ?_)
                refine skip_ (w1 := ?_) (by rfl) rfl ?_ ?_
                rotate_left
                · go_simp
                  rfl
                clear hc0_2 hf0_2
                have n0_ := Aside0.mk ((HS.out.pick 0 rfl).set 2 (.slice A3 x2.length c3) #[.int .i64 sz, .int .i64 sd, .slice A3 x2.length c3, .bool false] rfl); have n1_ := Aside0.mk ((HS.out.pick 0 rfl).below_set (i := 2) (u := .slice A3 x2.length c3) HB.out); clear HS HB; have HS := n0_; have HB := n1_; clear n0_ n1_; (try simp only [List.eraseIdx_cons_succ, List.eraseIdx_cons_zero] at HS)
                refine hK.out _ _ ?_
                clear hK K
                refine done_ (done_of HT_.out (by kernel_rfl)) ?_
                clear HT_ HW_
                try clear hHeld
                generalize World.setCell _ _ _ = w16 at HS HB ⊢
                have h1_ := HS.out
                clear HS
                have HS := Aside0.mk ((h1_.pick 3 rfl).drop)
                clear h1_
                go_wp2
                exact ⟨⟨j + 1, x2, A3, c3, hjl'.out, by first | (rw [p4, Int.natCast_add]; rfl) | (rw [Int.natCast_add]; rfl), hx2m.out, hx2l.out, hck2.out, HS, HB⟩, by (try rw [p4]); exact meas_w j k2.length hjl'.out⟩
              · have hcr : chkF k2 = r := by rw [hck.out, hd1.out, chkF, if_neg (by rw [hr.out]; exact hr0), hr.out]
                have hE2 := hE.out
                rw [decR_chk _ _ _ _ _ _ hl'.out h2'.out (by rw [hcr]; exact hr0), hcr] at hE2
                subst hE2
                have q9 : (r != 0) = true := by simpa using hr0
                have hr1 := Aside0.mk hr0
                clear hjl hts htm hcr
                go_wp2_with (first | ((with_reducible refine gate_callee (f := 43) rfl ?_); refine goesL_ (some 64) rfl rfl Try.func43 (by kernel_rfl) rfl #[.string t] rfl (by (try simp only [List.map_toArray, List.map_cons, List.map_nil]); first | done | rfl | (simp only [List.length_drop, List.length_take]; rfl)) ?_; (with_reducible refine (bottomk_check.calls (t.size + 2) t _ _ hch.out).mono ?_); rintro e w12 ⟨rfl, hb⟩; refine ⟨_, rfl, ?_⟩; have n0_ := Aside0.mk (HS.out.step hb); have n1_ := Aside0.mk (below_step' HB.out HS.out.size hb); clear HS HB; have HS := n0_; have HB := n1_; clear n0_ n1_; (try simp only [List.eraseIdx_cons_succ, List.eraseIdx_cons_zero] at HS); clear hb))
                go_ret2
                exact ⟨.inl ⟨hr1.out, rfl, HS.out.drop.drop.drop⟩, HB.out⟩
            · obtain rfl : j = k2.length := Nat.le_antisymm hj (Nat.le_of_not_lt hjl)
              have p1 : decide ((k2.length : Int) < (k2.length : Int)) = false := decide_eq_false (Int.lt_irrefl _)
              have hck2 : Aside0 (chkF k2 = 0) := ⟨by rw [hck.out, List.drop_length, chkF]⟩
              rw [List.take_length] at hxs
              clear hj hjl hck
              have hkl2 := hkl
              have hc0_2 := (HS.out.cell 2).trans (show _ = some (.slice A1 xs.length c1) from rfl)
              go_wp2
              go_loopw [88] (fun v88 wc => ∃ m : Nat, m ≤ xs.length ∧ v88 = .int .i64 m ∧ ordN xs m = true ∧ Aside0 (St N wc (Blk p #[.int .i64 sz, .int .i64 sd, .slice A1 xs.length c1, .bool false] 59 :: Row k52 52 (.slice A1 xs.length c1) xs :: Row Kd.string 9 (.slice A k2.length c) k2 :: L)) ∧ Aside0 (Below N w wc)) (fun v88 _ => (xs.length - intOf v88).toNat)
              case atStart => exact ⟨0, Nat.zero_le _, rfl, rfl, HS, HB⟩
              case round =>
                clear HS HB hc0_2
                obtain ⟨m, hm, rfl, hom, HS, HB⟩ := hrel
                replace hom := Aside0.mk hom
                by_cases hml : m < xs.length
                · have p1 : decide ((m : Int) < (xs.length : Int)) = true := decide_eq_true (lt_cst hml)
                  have p2 : (0 : Int) ≤ (m : Int) := Int.natCast_nonneg _
                  have p3 := lt_cst hml
                  have p4 : wrap64 ((m : Int) + 1) = (m : Int) + 1 := inc_sm hml (by rw [hxl.out, hkl2.out]; exact ln1')
                  have hml' := Aside0.mk hml
                  have hx24 : xs.length ≤ 1024 := by rw [hxl.out, hkl.out]; exact ln1'
                  clear hm hml
                  by_cases hm0 : m = 0
                  · subst hm0
                    have p5 : decide (((0 : Nat) : Int) > 0) = false := rfl
                    have hom2 : Aside0 (ordN xs (0 + 1) = true) := ⟨by simp [ordN]⟩
                    go_upto_region 28 with (fail)
                    have n0_ := Aside0.mk (HS.out.drew); have n1_ := Aside0.mk (HB.out.drew); clear HS HB; have HS := n0_; have HB := n1_; clear n0_ n1_
                    refine start_ (n := 21) (S := fun w' => True) (ds := []) (tfs true [0, 21]).toArray (by kernel_rfl) rfl rfl trivial (fun hHeld => ?_); refine with_tabW dcd.tab28 dcd.bits28 (fun HT_ HW_ => ?_)
                    generalize wr.drew = w18 at HS HB hHeld ⊢
                    refine pU 0 91 (tfs true [1, 20]).toArray rfl rfl HT_ ?_
                    refine pU 1 92 (tfs true [2, 19]).toArray rfl rfl HT_ ?_
                    refine pU 2 93 (tfs true [3, 18]).toArray rfl rfl HT_ ?_
                    refine pO 3 (some 94) (tfs true [4, 17]).toArray rfl rfl HT_ ?_
                    refine pO 4 (some 95) (tfs true [5, 16]).toArray rfl rfl HT_ ?_
                    refine pO 5 (some 96) (tfs true [6, 15]).toArray rfl rfl HT_ ?_
                    refine pO 6 (some 97) (tfs true [7, 14]).toArray rfl rfl HT_ ?_
                    refine pO 7 (some 98) (tfs true [8, 13]).toArray rfl rfl HT_ ?_
                    refine pO 8 (some 99) (tfs true [9, 12]).toArray rfl rfl HT_ ?_
                    refine pO 9 (some 100) (tfs true [10, 11]).toArray rfl rfl HT_ ?_
                    refine pO 10 (some 101) (tfs true [11, 10]).toArray rfl rfl HT_ ?_
                    refine pO 11 (some 102) (tfs true [12, 9]).toArray rfl rfl HT_ ?_
                    refine pO 12 (some 103) (tfs true [13, 8]).toArray rfl rfl HT_ ?_
                    refine pO 13 (some 104) (tfs true [14, 7]).toArray rfl rfl HT_ ?_
                    refine pO 14 (some 105) (tfs true [15, 6]).toArray rfl rfl HT_ ?_
                    refine pO 15 (some 106) (tfs true [16, 5]).toArray rfl rfl HT_ ?_
                    refine pO 16 (some 107) (tfs true [17, 4]).toArray rfl rfl HT_ ?_
                    refine pO 17 (some 108) (tfs true [18, 3]).toArray rfl rfl HT_ ?_
                    refine pO 18 (some 109) (tfs true [19, 2]).toArray rfl rfl HT_ ?_
                    refine pO 19 (some 110) (tfs true [20, 1]).toArray rfl rfl HT_ ?_
                    refine pU 20 111 (tfs true [21]).toArray rfl rfl HT_ ?_
                    refine done_ (done_of HT_.out (by kernel_rfl)) ?_
                    clear HT_ HW_
                    try clear hHeld
                    go_wp2
                    exact ⟨⟨0 + 1, hml'.out, rfl, hom2.out, HS, HB⟩, meas_w 0 xs.length hml'.out⟩
                  · obtain ⟨m', rfl⟩ : ∃ k, m = k + 1 := ⟨m - 1, by omega⟩
                    obtain ⟨p5, p6, p7, p8, p9, p10, p11, p12, p13⟩ := m_facts m' xs.length hml'.out hx24
                    obtain ⟨d1, e1, hx0, hx1⟩ := at_T52 (HS.out.pick 1 rfl).rowC.2.2 (m' : Int) p8 p9
                    cases e1
                    obtain ⟨d2, e2, hy0, hy1⟩ := at_T52 (HS.out.pick 1 rfl).rowC.2.2 ((m' + 1 : Nat) : Int) p2 p3
                    cases e2
                    rw [Int.toNat_natCast] at hx0 hx1 hy0 hy1
                    obtain ⟨u, hu⟩ : ∃ x, rd_T52 xs (m' : Int) = x := ⟨_, rfl⟩
                    obtain ⟨v, hv⟩ : ∃ x, rd_T52 xs ((m' + 1 : Nat) : Int) = x := ⟨_, rfl⟩
                    rw [hu] at hx0 hx1
                    rw [hv] at hy0 hy1
                    replace hx0 := Aside0.mk hx0
                    replace hx1 := Aside0.mk hx1
                    replace hy0 := Aside0.mk hy0
                    replace hy1 := Aside0.mk hy1
                    replace hu := Aside0.mk hu
                    replace hv := Aside0.mk hv
                    obtain ⟨z, hz⟩ : ∃ z, kcmp u v = z := ⟨_, rfl⟩
                    have hcmp := Aside0.mk (compare_ok 10 (by decide) u v)
                    rw [hz] at hcmp
                    go_upto_region 28 with (fail)
                    by_cases hzl : z < 0
                    · have r1 : decide (z ≥ 0) = false := decide_eq_false (Int.not_le.mpr hzl)
                      have r2 : ((0 : Int) ≤ z) = False := eq_false (Int.not_le.mpr hzl)
                      have hom2 := Aside0.mk (ord_step xs m' u v hom.out hu.out hv.out (by rw [hz]; exact hzl))
                      replace hz := Aside0.mk hz
                      clear hzl
                      have n2_ := Aside0.mk (show wr.drew.cell? _ = _ from hx0.out); clear hx0; have hx0 := n2_; clear n2_
                      have n2_ := Aside0.mk (show wr.drew.cell? _ = _ from hx1.out); clear hx1; have hx1 := n2_; clear n2_
                      have n2_ := Aside0.mk (show wr.drew.cell? _ = _ from hy0.out); clear hy0; have hy0 := n2_; clear n2_
                      have n2_ := Aside0.mk (show wr.drew.cell? _ = _ from hy1.out); clear hy1; have hy1 := n2_; clear n2_
                      have n0_ := Aside0.mk (HS.out.drew); have n1_ := Aside0.mk (HB.out.drew); clear HS HB; have HS := n0_; have HB := n1_; clear n0_ n1_
                      refine start_ (n := 21) (S := fun w' => w'.cell? ⟨p, 2, none⟩ = some (.slice (some d1) xs.length c1) ∧ w'.cell? (d1.add (m' * 2)) = some (.int .i64 u.f0) ∧ w'.cell? (d1.add ((m' + 1) * 2)) = some (.int .i64 v.f0) ∧ w'.cell? ⟨(d1.add (m' * 2)).block, (d1.add (m' * 2)).off + 1, none⟩ = some (.string u.f1) ∧ w'.cell? ⟨(d1.add ((m' + 1) * 2)).block, (d1.add ((m' + 1) * 2)).off + 1, none⟩ = some (.string v.f1)) (ds := []) (tfs true [0, 21]).toArray (by kernel_rfl) rfl rfl ⟨((HS.out.pick 0 rfl).cell 2).trans rfl, hx0.out, hy0.out, hx1.out, hy1.out⟩ (fun hHeld => ?_); refine with_tabW dcd.tab28 dcd.bits28 (fun HT_ HW_ => ?_)
                      generalize wr.drew = w18 at HS HB hx0 hx1 hy0 hy1 hHeld ⊢
                      refine pU 0 91 (tfs true [1, 20]).toArray rfl rfl HT_ ?_
                      refine pU 1 92 (tfs true [2, 19]).toArray rfl rfl HT_ ?_
                      refine pU 2 93 (tfs true [3, 18]).toArray rfl rfl HT_ ?_
                      refine pU 3 94 (tfs true [4, 17]).toArray rfl rfl HT_ ?_
                      refine pU 4 95 (tfs true [5, 16]).toArray rfl rfl HT_ ?_
                      refine pU 5 96 (tfs true [6, 15]).toArray rfl rfl HT_ ?_
                      refine pU 7 98 (tfs true [6, 1, 1, 13]).toArray rfl rfl HT_ ?_
                      refine pU 8 99 (tfs true [6, 1, 2, 12]).toArray rfl rfl HT_ ?_
                      refine pU 11 102 (tfs true [6, 1, 2, 2, 1, 9]).toArray rfl rfl HT_ ?_
                      refine pU 12 103 (tfs true [6, 1, 2, 2, 2, 8]).toArray rfl rfl HT_ ?_
                      refine pU 13 104 (tfs true [6, 1, 2, 2, 3, 7]).toArray rfl rfl HT_ ?_
                      refine pU 15 106 (tfs true [6, 1, 2, 2, 3, 1, 1, 5]).toArray rfl rfl HT_ ?_
                      refine tK 6 97 (tfs true [9, 2, 3, 1, 1, 5]).toArray rfl rfl HT_ HW_ hHeld ?_ (by rintro w' ⟨s0, s1, s2, s3, s4⟩; go_simp; with_reducible rfl)
                      refine pU 9 100 (tfs true [10, 1, 3, 1, 1, 5]).toArray rfl rfl HT_ ?_
                      refine tK 10 101 (tfs true [14, 1, 1, 5]).toArray rfl rfl HT_ HW_ hHeld ?_ (by rintro w' ⟨s0, s1, s2, s3, s4⟩; go_simp; with_reducible rfl)
                      refine tK 14 105 (tfs true [16, 5]).toArray rfl rfl HT_ HW_ hHeld ?_ (by rintro w' ⟨s0, s1, s2, s3, s4⟩; go_simp; with_reducible rfl)
                      refine pU 16 107 (tfs true [17, 4]).toArray rfl rfl HT_ ?_
                      refine tK 17 108 (tfs true [18, 3]).toArray rfl rfl HT_ HW_ hHeld ?_ (by rintro w' ⟨s0, s1, s2, s3, s4⟩; go_simp; with_reducible rfl)
                      refine one_ (i := 18) (N := some 109) (tfs true [19, 2]).toArray rfl rfl (one_of HT_.out (by kernel_rfl)) (by decide) (fun K hK => ?_)
                      refine goes_ Try.func55 (by kernel_rfl) rfl #[.agg #[.int .i64 u.f0, .string u.f1], .agg #[.int .i64 v.f0, .string v.f1]] (by rfl) rfl rfl (by (try simp only [List.map_toArray, List.map_cons, List.map_nil]); first | done | rfl | (simp only [List.length_drop, List.length_take]; rfl)) ?_
                      with_reducible refine (bottomk_compare.calls 10 u.f0 u.f1 v.f0 v.f1 z _ hcmp.out).mono ?_
                      rintro e w20 ⟨rfl, hb⟩
                      refine ⟨_, rfl, ?_⟩
                      have n0_ := Aside0.mk (HS.out.step hb); have n1_ := Aside0.mk (below_step' HB.out HS.out.size hb); clear HS HB; have HS := n0_; have HB := n1_; clear n0_ n1_; (try simp only [List.eraseIdx_cons_succ, List.eraseIdx_cons_zero] at HS)
                      have n2_ := Aside0.mk ((hb.cell (World.block_lt_of_cell? _ _ hx0.out)).trans hx0.out); have n3_ := Aside0.mk ((hb.cell (World.block_lt_of_cell? _ _ hx1.out)).trans hx1.out); have n4_ := Aside0.mk ((hb.cell (World.block_lt_of_cell? _ _ hy0.out)).trans hy0.out); have n5_ := Aside0.mk ((hb.cell (World.block_lt_of_cell? _ _ hy1.out)).trans hy1.out); clear hx0 hx1 hy0 hy1 hb; have hx0 := n2_; have hx1 := n3_; have hy0 := n4_; have hy1 := n5_; clear n2_ n3_ n4_ n5_
                      refine hK.out _ _ ⟨((HS.out.pick 0 rfl).cell 2).trans rfl, hx0.out, hy0.out, hx1.out, hy1.out⟩ (fun hHeld => ?_)
                      clear hK K
                      refine norm_ (a' := ?_) ?_ ?_
                      rotate_left
                      · show Act.put _ (some 109) _ = _
                        simp only [Act.put, List.setIfInBounds_toArray, List.set_cons_zero, List.set_cons_succ, i64_w, i32_w]
                        rfl
                      refine pU 19 110 (tfs true [20, 1]).toArray rfl rfl HT_ ?_
                      refine pU 20 111 (tfs true [21]).toArray rfl rfl HT_ ?_
                      refine done_ (done_of HT_.out (by kernel_rfl)) ?_
                      clear HT_ HW_
                      try clear hHeld
                      clear hx0 hx1 hy0 hy1
                      go_wp2
                      exact ⟨⟨m' + 1 + 1, hml'.out, by first | (rw [p12]; rfl) | rfl, hom2.out, HS, HB⟩, by (try rw [p12]); exact meas_w (m' + 1) xs.length hml'.out⟩
                    · have r1 : decide (z ≥ 0) = true := decide_eq_true (Int.not_lt.mp hzl)
                      have r2 : ((0 : Int) ≤ z) = True := eq_true (Int.not_lt.mp hzl)
                      have hfl := ord_fail xs m' u v hml'.out hu.out hv.out (by rw [hz]; exact hzl)
                      have hE2 := hE.out
                      rw [decR_ord _ _ _ _ _ _ hl'.out h2'.out hck2.out (by rw [← hxs.out, ← hxl.out]; exact hfl)] at hE2
                      subst hE2
                      replace hz := Aside0.mk hz
                      clear hzl hfl
                      have n2_ := Aside0.mk (show wr.drew.cell? _ = _ from hx0.out); clear hx0; have hx0 := n2_; clear n2_
                      have n2_ := Aside0.mk (show wr.drew.cell? _ = _ from hx1.out); clear hx1; have hx1 := n2_; clear n2_
                      have n2_ := Aside0.mk (show wr.drew.cell? _ = _ from hy0.out); clear hy0; have hy0 := n2_; clear n2_
                      have n2_ := Aside0.mk (show wr.drew.cell? _ = _ from hy1.out); clear hy1; have hy1 := n2_; clear n2_
                      have n0_ := Aside0.mk (HS.out.drew); have n1_ := Aside0.mk (HB.out.drew); clear HS HB; have HS := n0_; have HB := n1_; clear n0_ n1_
                      refine start_ (n := 21) (S := fun w' => w'.cell? ⟨p, 2, none⟩ = some (.slice (some d1) xs.length c1) ∧ w'.cell? (d1.add (m' * 2)) = some (.int .i64 u.f0) ∧ w'.cell? (d1.add ((m' + 1) * 2)) = some (.int .i64 v.f0) ∧ w'.cell? ⟨(d1.add (m' * 2)).block, (d1.add (m' * 2)).off + 1, none⟩ = some (.string u.f1) ∧ w'.cell? ⟨(d1.add ((m' + 1) * 2)).block, (d1.add ((m' + 1) * 2)).off + 1, none⟩ = some (.string v.f1)) (ds := []) (tfs true [0, 21]).toArray (by kernel_rfl) rfl rfl ⟨((HS.out.pick 0 rfl).cell 2).trans rfl, hx0.out, hy0.out, hx1.out, hy1.out⟩ (fun hHeld => ?_); refine with_tabW dcd.tab28 dcd.bits28 (fun HT_ HW_ => ?_)
                      generalize wr.drew = w18 at HS HB hx0 hx1 hy0 hy1 hHeld ⊢
                      refine pU 0 91 (tfs true [1, 20]).toArray rfl rfl HT_ ?_
                      refine pU 1 92 (tfs true [2, 19]).toArray rfl rfl HT_ ?_
                      refine pU 2 93 (tfs true [3, 18]).toArray rfl rfl HT_ ?_
                      refine pU 3 94 (tfs true [4, 17]).toArray rfl rfl HT_ ?_
                      refine pU 4 95 (tfs true [5, 16]).toArray rfl rfl HT_ ?_
                      refine pU 5 96 (tfs true [6, 15]).toArray rfl rfl HT_ ?_
                      refine pU 7 98 (tfs true [6, 1, 1, 13]).toArray rfl rfl HT_ ?_
                      refine pU 8 99 (tfs true [6, 1, 2, 12]).toArray rfl rfl HT_ ?_
                      refine pU 11 102 (tfs true [6, 1, 2, 2, 1, 9]).toArray rfl rfl HT_ ?_
                      refine pU 12 103 (tfs true [6, 1, 2, 2, 2, 8]).toArray rfl rfl HT_ ?_
                      refine pU 13 104 (tfs true [6, 1, 2, 2, 3, 7]).toArray rfl rfl HT_ ?_
                      refine pU 15 106 (tfs true [6, 1, 2, 2, 3, 1, 1, 5]).toArray rfl rfl HT_ ?_
                      refine tK 6 97 (tfs true [9, 2, 3, 1, 1, 5]).toArray rfl rfl HT_ HW_ hHeld ?_ (by rintro w' ⟨s0, s1, s2, s3, s4⟩; go_simp; with_reducible rfl)
                      refine pU 9 100 (tfs true [10, 1, 3, 1, 1, 5]).toArray rfl rfl HT_ ?_
                      refine tK 10 101 (tfs true [14, 1, 1, 5]).toArray rfl rfl HT_ HW_ hHeld ?_ (by rintro w' ⟨s0, s1, s2, s3, s4⟩; go_simp; with_reducible rfl)
                      refine tK 14 105 (tfs true [16, 5]).toArray rfl rfl HT_ HW_ hHeld ?_ (by rintro w' ⟨s0, s1, s2, s3, s4⟩; go_simp; with_reducible rfl)
                      refine pU 16 107 (tfs true [17, 4]).toArray rfl rfl HT_ ?_
                      refine tK 17 108 (tfs true [18, 3]).toArray rfl rfl HT_ HW_ hHeld ?_ (by rintro w' ⟨s0, s1, s2, s3, s4⟩; go_simp; with_reducible rfl)
                      refine one_ (i := 18) (N := some 109) (tfs true [19, 2]).toArray rfl rfl (one_of HT_.out (by kernel_rfl)) (by decide) (fun K hK => ?_)
                      refine goes_ Try.func55 (by kernel_rfl) rfl #[.agg #[.int .i64 u.f0, .string u.f1], .agg #[.int .i64 v.f0, .string v.f1]] (by rfl) rfl rfl (by (try simp only [List.map_toArray, List.map_cons, List.map_nil]); first | done | rfl | (simp only [List.length_drop, List.length_take]; rfl)) ?_
                      with_reducible refine (bottomk_compare.calls 10 u.f0 u.f1 v.f0 v.f1 z _ hcmp.out).mono ?_
                      rintro e w20 ⟨rfl, hb⟩
                      refine ⟨_, rfl, ?_⟩
                      have n0_ := Aside0.mk (HS.out.step hb); have n1_ := Aside0.mk (below_step' HB.out HS.out.size hb); clear HS HB; have HS := n0_; have HB := n1_; clear n0_ n1_; (try simp only [List.eraseIdx_cons_succ, List.eraseIdx_cons_zero] at HS)
                      have n2_ := Aside0.mk ((hb.cell (World.block_lt_of_cell? _ _ hx0.out)).trans hx0.out); have n3_ := Aside0.mk ((hb.cell (World.block_lt_of_cell? _ _ hx1.out)).trans hx1.out); have n4_ := Aside0.mk ((hb.cell (World.block_lt_of_cell? _ _ hy0.out)).trans hy0.out); have n5_ := Aside0.mk ((hb.cell (World.block_lt_of_cell? _ _ hy1.out)).trans hy1.out); clear hx0 hx1 hy0 hy1 hb; have hx0 := n2_; have hx1 := n3_; have hy0 := n4_; have hy1 := n5_; clear n2_ n3_ n4_ n5_
                      refine hK.out _ _ ⟨((HS.out.pick 0 rfl).cell 2).trans rfl, hx0.out, hy0.out, hx1.out, hy1.out⟩ (fun hHeld => ?_)
                      clear hK K
                      refine norm_ (a' := ?_) ?_ ?_
                      rotate_left
                      · show Act.put _ (some 109) _ = _
                        simp only [Act.put, List.setIfInBounds_toArray, List.set_cons_zero, List.set_cons_succ, i64_w, i32_w]
                        rfl
                      refine pU 19 110 (tfs true [20, 1]).toArray rfl rfl HT_ ?_
                      refine pU 20 111 (tfs true [21]).toArray rfl rfl HT_ ?_
                      refine done_ (done_of HT_.out (by kernel_rfl)) ?_
                      clear HT_ HW_
                      try clear hHeld
                      clear hx0 hx1 hy0 hy1
                      go_wp2
                      go_ret2
                      exact ⟨.inl ⟨by decide, rfl, HS.out.drop.drop.drop⟩, HB.out⟩
                · obtain rfl : m = xs.length := Nat.le_antisymm hm (Nat.le_of_not_lt hml)
                  have p1 : decide ((xs.length : Int) < (xs.length : Int)) = false := decide_eq_false (Int.lt_irrefl _)
                  have hE2 := hE.out
                  rw [decR_last _ _ _ _ _ _ hl'.out h2'.out hck2.out (by rw [← hxs.out, ← hxl.out]; exact hom.out)] at hE2
                  clear hm hml
                  have hxm : xs = k2.map (kyOf sd) := hxs.out
                  have hlk : xs.length = k2.length := hxl.out
                  have hc0_3 := (HS.out.cell 3).trans (show _ = some (.bool false) from rfl)
                  have hf0_3 := HS.out.frozen 3
                  replace hxm := Aside0.mk hxm
                  clear hlk
                  by_cases g1 : sz < (k2.length : Int)
                  · have r1 : decide ((k2.length : Int) > sz) = true := decide_eq_true g1
                    have r2 : (sz < (k2.length : Int)) = True := eq_true g1
                    rw [if_pos (.inl g1)] at hE2
                    subst hE2
                    clear g1
                    go_wp2
                    go_ret2
                    exact ⟨.inl ⟨by decide, rfl, HS.out.drop.drop.drop⟩, HB.out⟩
                  · have r1 : decide ((k2.length : Int) > sz) = false := decide_eq_false g1
                    have r2 : (sz < (k2.length : Int)) = False := eq_false g1
                    by_cases g2 : (k2.length : Int) < sz
                    · have r3 : decide ((k2.length : Int) < sz) = true := decide_eq_true g2
                      have r4 : ((k2.length : Int) < sz) = True := eq_true g2
                      cases ex
                      · rw [if_pos (.inr ⟨g2, rfl⟩)] at hE2
                        subst hE2
                        clear g1 g2
                        go_wp2
                        go_ret2
                        exact ⟨.inl ⟨by decide, rfl, HS.out.drop.drop.drop⟩, HB.out⟩
                      · rw [if_neg (fun h => h.elim g1 (fun h => Bool.noConfusion h.2))] at hE2
                        subst hE2
                        clear g1 g2
                        go_wp2
                        go_ret2
                        refine ⟨⟨p, rfl, .slice A1 (k2.map (kyOf sd)).length c1, ?_⟩, (HS.out.pick 0 rfl).below_set (i := 3) (u := .bool false) HB.out⟩
                        have h1_ := ((((HS.out.pick 0 rfl).set 3 (.bool false) #[.int .i64 sz, .int .i64 sd, .slice A1 xs.length c1, .bool false] rfl).pick 2 rfl).drop)
                        rw [hxm.out] at h1_
                        exact h1_
                    · have r3 : decide ((k2.length : Int) < sz) = false := decide_eq_false g2
                      have r4 : ((k2.length : Int) < sz) = False := eq_false g2
                      rw [if_neg (fun h => h.elim g1 (fun h => g2 h.1))] at hE2
                      subst hE2
                      clear g1 g2
                      go_wp2
                      go_ret2
                      refine ⟨⟨p, rfl, .slice A1 (k2.map (kyOf sd)).length c1, ?_⟩, (HS.out.pick 0 rfl).below_set (i := 3) (u := .bool (!ex)) HB.out⟩
                      have h1_ := ((((HS.out.pick 0 rfl).set 3 (.bool (!ex)) #[.int .i64 sz, .int .i64 sd, .slice A1 xs.length c1, .bool (!ex)] rfl).pick 2 rfl).drop)
                      rw [hxm.out] at h1_
                      exact h1_
      · have hE2 := hE.out
        rw [decR_err _ _ _ _ _ _ _ he] at hE2
        subst hE2
        have q5 : (e != 0) = true := by simpa using he
        have he2 := Aside0.mk he
        go_wp2_with (first | ((with_reducible refine gate_callee (f := 53) rfl ?_); refine goesL_ (some 40) rfl rfl Try.func53 (by kernel_rfl) rfl #[.pointer (some ⟨g, 0, none⟩)] rfl (by (try simp only [List.map_toArray, List.map_cons, List.map_nil]); first | done | rfl | (simp only [List.length_drop, List.length_take]; rfl)) ?_; (with_reducible refine (Rd_Err g s hs.out a e HS.out).mono ?_); rintro e wz ⟨rfl, rfl⟩; refine ⟨_, rfl, ?_⟩; have n0_ := Aside0.mk (HS.out); have n1_ := Aside0.mk (HB.out); clear HS HB; have HS := n0_; have HB := n1_; clear n0_ n1_; (try simp only [List.eraseIdx_cons_succ, List.eraseIdx_cons_zero] at HS); skip) | ((with_reducible refine gate_callee (f := 53) rfl ?_); refine goesL_ (some 43) rfl rfl Try.func53 (by kernel_rfl) rfl #[.pointer (some ⟨g, 0, none⟩)] rfl (by (try simp only [List.map_toArray, List.map_cons, List.map_nil]); first | done | rfl | (simp only [List.length_drop, List.length_take]; rfl)) ?_; (with_reducible refine (Rd_Err g s hs.out a e HS.out).mono ?_); rintro e wz ⟨rfl, rfl⟩; refine ⟨_, rfl, ?_⟩; have n0_ := Aside0.mk (HS.out); have n1_ := Aside0.mk (HB.out); clear HS HB; have HS := n0_; have HB := n1_; clear n0_ n1_; (try simp only [List.eraseIdx_cons_succ, List.eraseIdx_cons_zero] at HS); skip))
        go_ret2
        exact ⟨.inl ⟨he2.out, rfl, HS.out.drop.drop⟩, HB.out⟩

end Go.Proofs.Ytddhpkobingmhaa.PB
