/- Somebody put in their place: slices.Insert. -/
import Derived.Test.YtcjfgejiknlpfaaGreatJ2
import Derived.Test.YtcjfgejiknlpfaaGreatJ1
namespace Go.Proofs.YtcjfgejiknlpfaaGreat.PI
open Go.RowKit Go.Proofs.YtcjfgejiknlpfaaGreatW.PrintWords Go.Proofs.YtcjfgejiknlpfaaGreatW.PrintLast Go.Proofs.YtcjfgejiknlpfaaGreatW.PrintMore Go.Proofs.YtcjfgejiknlpfaaGreat.Sep
set_option linter.unusedVariables false
set_option linter.unusedSimpArgs false
set_option maxHeartbeats 8000000
set_option maxRecDepth 100000
def enc69 (x : S69) : List Value := [.string x.f0, .int .i64 x.f1]
theorem flatP : Flat k69 enc69 where
  K := k69_open
  M := fun w base ok x => k69_mkM w base ok x
  sz := fun _ => rfl
  one := fun x v h => by simp [enc69] at h; rcases h with rfl | rfl <;> rfl
theorem flat69 (W : World) (N : Nat) : ∀ (x : S69) (cs : List Value), k69.K W x cs → k69.M W N (fun _ => False) x cs := fun x cs h => by
  rw [k69_open h]; exact k69_mkM _ _ _ _

def ins_106_.T11 : Bool × List (List Nat × List Nat) := (true, [([], []), ([], []), ([], []), ([1, 2], [1, 2]), ([0, 3], [0, 3]), ([], []), ([], []), ([5, 6], [5, 6]), ([4, 7], [4, 7])])
def ins_106_.B11 : List Nat := [0, 0, 0, 6, 15, 0, 0, 96, 255]
theorem ins_106_.tab11 : rtab .any (opsOf Tryz.f120 11) = ins_106_.T11 := by kernel_rfl
theorem ins_106_.bits11 : waitsOk ins_106_.T11.2 ins_106_.B11 = true := by kernel_rfl
def ins_106_.T15 : Bool × List (List Nat × List Nat) := (true, [([], []), ([], []), ([], []), ([1, 2], [1, 2]), ([0, 3], [0, 3]), ([], []), ([], []), ([5, 6], [5, 6]), ([4, 7], [4, 7])])
def ins_106_.B15 : List Nat := [0, 0, 0, 6, 15, 0, 0, 96, 255]
theorem ins_106_.tab15 : rtab .any (opsOf Tryz.f120 15) = ins_106_.T15 := by kernel_rfl
theorem ins_106_.bits15 : waitsOk ins_106_.T15.2 ins_106_.B15 = true := by kernel_rfl
theorem info69_size : (Tryz.prog.info? 69).map (·.size) = some 2 := by
  obtain ⟨i0, hi0, _, h1, _⟩ := info_parts info69
  rw [hi0]; simp [h1]
theorem slices_Insert.ok (x : S69) (xs : List S69) (i : Nat) (hi : i ≤ xs.length) (hm : xs.length ≤ 1000000) (v u : Value) {N : Nat} {w : World} {L : List Res} (HS0 : St N w (Row k69 69 v xs :: Row k69 69 u [x] :: L)) :
    Calls Tryz.prog 120 #[v, .int .i64 i, u] w fun e w' => ∃ v', e = .returned v' ∧ St N w' (Row k69 69 v' (xs.take i ++ x :: xs.drop i) :: L) ∧ Below N w w' := by
  obtain ⟨n, hn⟩ : ∃ n, xs.length = n := ⟨_, rfl⟩
  rw [hn] at hi hm
  have HB := Aside0.mk (Below.refl N w)
  rcases St.open_row flatP HS0.swap with ⟨rfl, h⟩ | ⟨gv, cv, curv, rfl, hv1, hv2, hv3, hv4, hs1⟩
  · cases h
  clear HS0
  rw [show ([x] : List S69).length = 1 from rfl] at hv1 hv4 ⊢
  by_cases he : i = n
  · subst he
    have HS := Aside0.mk (St.shut_row flatP (xs := [x]) hs1 hv1 hv2 hv3 hv4).swap
    clear hs1
    obtain ⟨A, c, hv, hc1, hc⟩ := HS.out.reads
    subst hv
    obtain ⟨A2, c2, e2, _, hC2⟩ := HS.out.swap.reads
    obtain ⟨rfl, rfl⟩ : A2 = some ⟨gv, 0, none⟩ ∧ c2 = cv := by simp at e2; exact ⟨e2.1.symm, e2.2.symm⟩
    have HC := Aside0.mk hC2
    clear hC2 e2 hc
    rw [hn] at HS hc1 ⊢
    go_enter Tryz.func120, Tryz.ntmps120
    go_wp2_with (first | ((with_reducible refine gate_builtin (b := .append) (xs := #[.tmp 23, .tmp 24]) rfl ?_); at_builtin; refine S_append_rows k69 rfl (.tmp 23) (.tmp 24) 34 69 (.agg #[(.string ⟨#[]⟩), (.int .i64 0)]) 24 rfl Tryz.underlying34 info69 rfl (by decide) (by omega) _ xs [x] (some ⟨gv, 0, none⟩) 1 c2 rfl rfl (flat69 _ _) HS.out ?hC HB.out (by rw [hn]; omega) ?_; (case hC => exact HC.out); intro v2 w2 hs hb; have n0_ := Aside0.mk (hs); have n1_ := Aside0.mk (hb); clear HS HB; have HS := n0_; have HB := n1_; clear n0_ n1_; (try simp only [List.eraseIdx_cons_succ, List.eraseIdx_cons_zero] at HS); clear hs hb))
    all_goals
      go_ret
      refine ⟨_, rfl, ?_, HB.out⟩
      have := HS.out.swap.drop
      rwa [List.take_of_length_le (by omega), List.drop_of_length_le (by omega)]
  replace hs1 := hs1.swap
  rcases St.open_row flatP hs1 with ⟨_, h⟩ | ⟨g, cap, cur, rfl, hq1, hq2, hq3, hq4, hs2⟩
  · subst h; simp at hn; omega
  clear hs1
  rw [hn] at hq1 hq4 ⊢
  have hil : i < n := by omega
  obtain ⟨A, hA⟩ : ∃ A, A = Sep.encs enc69 (xs.take i) := ⟨_, rfl⟩
  obtain ⟨B, hB⟩ : ∃ B, B = Sep.encs enc69 (xs.drop i) := ⟨_, rfl⟩
  obtain ⟨X, hX⟩ : ∃ X, X = Sep.encs enc69 [x] := ⟨_, rfl⟩
  have lA : A.length = i * 2 := by rw [hA, encs_len flatP, List.length_take, hn]; show min i n * 2 = _; omega
  have lB : B.length = (n - i) * 2 := by rw [hB, encs_len flatP, List.length_drop, hn]; rfl
  have lX : X.length = 2 := by rw [hX, encs_len flatP]; rfl
  have lC : cur.length = cap * 2 := hq3
  have lV : curv.length = cv * 2 := hv3
  have oB : ∀ u ∈ B, u.oneCell' = true := fun u hu => encs_one flatP _ u (hB ▸ hu)
  have oX : ∀ u ∈ X, u.oneCell' = true := fun u hu => encs_one flatP _ u (hX ▸ hu)
  have hcut : cur = A ++ (B ++ cur.drop (n * 2)) := by rw [hA, hB, ← List.append_assoc, ← encs_append flatP, List.take_append_drop, ← hq4]; exact (List.take_append_drop _ _).symm
  have tA : cur.take (i * 2) = A := by rw [hcut, ← lA, List.take_left' rfl]
  have sB : ∀ j u, B[j]? = some u → cur[i * 2 + j]? = some u := fun j u hj => by
    have hj1 : j < B.length := (List.getElem?_eq_some_iff.mp hj).1
    rw [hcut, List.getElem?_append_right (by omega), lA, Nat.add_sub_cancel_left, List.getElem?_append_left hj1]; exact hj
  have sX : ∀ j u, X[j]? = some u → curv[j]? = some u := fun j u hj => by
    rw [hX, ← hv4] at hj
    rw [List.getElem?_take] at hj
    split at hj
    · exact hj
    · cases hj
  have HS := Aside0.mk hs2
  clear hs2 hq3 hv3
  have hne : gv ≠ g := fun h => HS.out.ne h.symm
  have hsz : ∀ w, (Go.sizeOf 69).run Tryz.prog w = .ok 2 w := fun w => by
    obtain ⟨i0, hi0, _, h1, _⟩ := info_parts info69
    simp [Go.sizeOf, typeInfo, hi0, h1]
  have hw1 : IntKind.i64.wrap ((i : Int) + 1) = (i : Int) + 1 := by rw [IntKind.wrap_i64]; omega
  have hb1 : (0 : Int) ≤ (i : Int) + 1 := by omega
  have htn : ((i : Int) + 1).toNat = i + 1 := by omega
  have hw2 : IntKind.i64.wrap ((n : Int) + 1) = (n : Int) + 1 := by rw [IntKind.wrap_i64]; omega
  have htm : ((n : Int) + 1).toNat = n + 1 := by omega
  have hnz : ¬ ((i : Int) = (n : Int)) := by omega
  have hin : (i : Int) ≤ (n : Int) + 1 := by omega
  have hi1 : i ≤ n + 1 := by omega
  have hi0 : i ≤ n := by omega
  have hb4 : ¬ (cap = i) := by omega
  replace hcut := Aside0.mk hcut
  replace tA := Aside0.mk tA
  replace hA := Aside0.mk hA
  replace hB := Aside0.mk hB
  replace hX := Aside0.mk hX
  clear hq4 hv4
  by_cases hr : n + 1 ≤ cap
  · have hov : ∀ o lb cb, (callFunc 127 #[.slice (some ⟨gv, 0, none⟩) 1 cv, .slice (some ⟨g, o, none⟩) lb cb]).run Tryz.prog w = .ok (.value (.bool false)) w := fun o lb cb => by
      rw [run_callFunc_extern Tryz.func127 (by kernel_rfl) (by kernel_rfl) (by kernel_rfl) (e := Extern.SlicesOverlaps.overlaps #[34, 34] #[4]) (by kernel_rfl),
        Lib.run_overlaps_apart w 34 4 69 Tryz.underlying34 2 hsz ⟨gv, 0, none⟩ ⟨g, o, none⟩ 1 cv lb cb hne 69 69 curv.toArray.size cur.toArray.size (shape_of (HS.out.pick 1 rfl).blk) (shape_of HS.out.blk) (by rw [List.size_toArray, lC]; omega) ((HS.out.pick 1 rfl).frozen 0) ((HS.out.pick 1 rfl).frozen _)]
      rfl
    have hb2 : ¬ (cap = i + 1) := by omega
    have hr2 : ¬ ((cap : Int) < (n : Int) + 1) := by omega
    have hr3 : (n : Int) + 1 ≤ (cap : Int) := by omega
    have lS : (splice cur ((i + 1) * 2) B).length = cap * 2 := by rw [length_splice _ _ _ (by rw [lB, lC]; omega), lC]
    go_enter Tryz.func120, Tryz.ntmps120
    go_upto_region 15 with (first | (simp only [hov]))
    have n0_ := Aside0.mk (HS.out.drew); have n1_ := Aside0.mk (HB.out.drew); clear HS HB; have HS := n0_; have HB := n1_; clear n0_ n1_
    refine start_ (n := 9) (S := fun w' => True) (ds := []) #[false, false, false, false, false, false, false, false, false] (by kernel_rfl) rfl rfl trivial (fun hHeld => ?_); refine with_tabW ins_106_.tab15 ins_106_.bits15 (fun HT_ HW_ => ?_)
    generalize w.drew = w2 at HS HB hHeld ⊢
    refine pU 0 69 #[true, false, false, false, false, false, false, false, false] rfl rfl HT_ ?_
    refine pU 1 70 #[true, true, false, false, false, false, false, false, false] rfl rfl HT_ ?_
    refine pU 2 71 #[true, true, true, false, false, false, false, false, false] rfl rfl HT_ ?_
    refine pU 3 72 #[true, true, true, true, false, false, false, false, false] rfl rfl HT_ ?_
    refine pU 4 73 #[true, true, true, true, true, false, false, false, false] rfl rfl HT_ ?_
    refine pU 5 74 #[true, true, true, true, true, true, false, false, false] rfl rfl HT_ ?_
    refine pU 6 75 #[true, true, true, true, true, true, true, false, false] rfl rfl HT_ ?_
    refine pU 7 76 #[true, true, true, true, true, true, true, true, false] rfl rfl HT_ ?_
    refine one_ (i := 8) (N := some 77) #[true, true, true, true, true, true, true, true, true] rfl rfl (one_of HT_.out (by kernel_rfl)) (by decide) (fun K hK => ?_)
    refine S_copy_step (by rfl) (.tmp 73) (.tmp 76) 34 34 rfl 69 Tryz.underlying34 2 info69_size g ?a73_1 ((i + 1) * 2) ?a73_2 ?a73_3 g ?a73_4 (i * 2) ?a73_5 ?a73_6 ?hd ?hs (cur) 69 (B) ?o1 ?o2 ?hn ?hsrc ?hfit ?h1 HS.out HB.out ?_
    (case hd => rfl)
    (case hs => rfl)
    (case o1 => first | rfl | omega | (simp; done) | (simp; omega))
    (case o2 => first | rfl | omega | (simp; done) | (simp; omega))
    (case hn => (rw [lB]; show _ = min _ _ * _; omega))
    (case hsrc => exact fun j u hj => ((HS.out.pick 0 rfl).cell _).trans (by rw [List.getElem?_toArray]; exact sB j u hj))
    (case hfit => (simp only [lB, lC]; omega))
    (case h1 => exact oB)
    intro w3 hs hb
    have n0_ := Aside0.mk (hs); have n1_ := Aside0.mk (hb); clear HS HB; have HS := n0_; have HB := n1_; clear n0_ n1_; (try simp only [List.eraseIdx_cons_succ, List.eraseIdx_cons_zero] at HS)
    clear hs hb
    refine hK.out _ _ trivial (fun hHeld => ?_)
    clear hK K
    refine norm_ (a' := ?_) ?_ ?_
    rotate_left
    · show Act.put _ (some 77) _ = _
      simp only [Act.put, List.setIfInBounds_toArray, List.set_cons_zero, List.set_cons_succ, i64_w, i32_w]
      rfl
    refine done_ (done_of HT_.out (by kernel_rfl)) ?_
    clear HT_ HW_
    try clear hHeld
    go_wp2_with (first | ((with_reducible refine gate_builtin (b := .copy) (xs := #[.tmp 80, .tmp 81]) rfl ?_); refine S_copy rfl (.tmp 80) (.tmp 81) 34 34 rfl 69 Tryz.underlying34 2 info69_size g ?a80_1 (i * 2) ?a80_2 ?a80_3 gv ?a80_4 (0) ?a80_5 ?a80_6 ?hd ?hs (splice cur ((i + 1) * 2) B) 69 (X) ?o1 ?o2 ?hn ?hsrc ?hfit ?h1 HS.out HB.out ?_; (case hd => rfl); (case hs => rfl); (case o1 => first | rfl | omega | (simp; done) | (simp; omega)); (case o2 => first | rfl | omega | (simp; done) | (simp; omega)); (case hn => (rw [lX]; show _ = min _ _ * _; omega)); (case hsrc => exact fun j u hj => ((HS.out.pick 1 rfl).cell _).trans (by rw [Nat.zero_add, List.getElem?_toArray]; exact sX j u hj)); (case hfit => (simp only [lX, lS]; omega)); (case h1 => exact oX); intro w3 hs hb; have n0_ := Aside0.mk (hs); have n1_ := Aside0.mk (hb); clear HS HB; have HS := n0_; have HB := n1_; clear n0_ n1_; (try simp only [List.eraseIdx_cons_succ, List.eraseIdx_cons_zero] at HS); clear hs hb))
    go_ret
    refine ⟨_, rfl, ?_, HB.out⟩
    have h := St.shut_row flatP (xs := xs.take i ++ x :: xs.drop i) (HS.out) (cap := cap) (by simp [hn]; omega) hq2 ?_ ?_
    · have h2 := h.swap.drop
      rwa [show (xs.take i ++ x :: xs.drop i).length = n + 1 by simp [hn]; omega] at h2
    · exact (length_splice _ _ _ (by rw [lS, lX]; omega)).trans lS
    · rw [show (xs.take i ++ x :: xs.drop i).length = n + 1 by simp [hn]; omega, encs_append flatP, show x :: xs.drop i = [x] ++ xs.drop i from rfl, encs_append flatP, ← hA.out, ← hB.out, ← hX.out]
      exact ins_room cur A B _ X _ _ _ hcut.out (by omega) (by omega) (by show (n + 1) * 2 = _; omega) (by rw [List.length_drop]; omega)
  · have hcap : n = cap := by omega
    subst hcap
    have hr2 : ((n : Int) < (n : Int) + 1) := by omega
    have hki : (0 : Int) ≤ (n : Int) + 1 - (i : Int) := by omega
    have hw3 : IntKind.i64.wrap ((n : Int) + 1 - (i : Int)) = (n : Int) + 1 - (i : Int) := by rw [IntKind.wrap_i64]; omega
    go_enter Tryz.func120, Tryz.ntmps120
    go_upto_region 11 with (first | ((with_reducible refine gate_builtin (b := .append) (xs := #[.tmp 34, .tmp 39]) rfl ?_); refine S_append_zeros 2 rfl (.tmp 34) (.tmp 39) 34 3 69 (.agg #[(.string ⟨#[]⟩), (.int .i64 0)]) 24 rfl Tryz.underlying34 Tryz.underlying3 info69 rfl (by omega) (by omega) g i _ (n + 1 - i) (n + 1) (by omega) ((n : Int) + 1 - (i : Int)) rfl rfl (by omega) cur (by rw [lC]; omega) (by omega) (by omega) (by omega) HS.out HB.out ?_; intro g1 G zs w1 hG1 hG2 lZ hs hb; rw [tA.out] at hs; have n0_ := Aside0.mk (hs); have n1_ := Aside0.mk (hb); clear HS HB; have HS := n0_; have HB := n1_; clear n0_ n1_; (try simp only [List.eraseIdx_cons_succ, List.eraseIdx_cons_zero] at HS); clear hs hb; have b1 : ¬ (G = i) := (by omega); have b2 : ¬ (G = i + 1) := (by omega); have lS2 : (splice (A ++ zs) (i * 2) X).length = G * 2 := (by rw [length_splice _ _ _ (by simp only [List.length_append, lA, lX, lZ]; omega), List.length_append, lA, lZ]; omega)) | ((with_reducible refine gate_builtin (b := .copy) (xs := #[.tmp 43, .tmp 44]) rfl ?_); refine S_copy rfl (.tmp 43) (.tmp 44) 34 34 rfl 69 Tryz.underlying34 2 info69_size g1 ?a43_1 (i * 2) ?a43_2 ?a43_3 gv ?a43_4 (0) ?a43_5 ?a43_6 ?hd ?hs (A ++ zs) 69 (X) ?o1 ?o2 ?hn ?hsrc ?hfit ?h1 HS.out HB.out ?_; (case hd => rfl); (case hs => rfl); (case o1 => first | rfl | omega | (simp; done) | (simp; omega)); (case o2 => first | rfl | omega | (simp; done) | (simp; omega)); (case hn => (rw [lX]; show _ = min _ _ * _; omega)); (case hsrc => exact fun j u hj => ((HS.out.pick 2 rfl).cell _).trans (by rw [Nat.zero_add, List.getElem?_toArray]; exact sX j u hj)); (case hfit => (simp only [List.length_append, lA, lX, lZ]; omega)); (case h1 => exact oX); intro w3 hs hb; have n0_ := Aside0.mk (hs); have n1_ := Aside0.mk (hb); clear HS HB; have HS := n0_; have HB := n1_; clear n0_ n1_; (try simp only [List.eraseIdx_cons_succ, List.eraseIdx_cons_zero] at HS); clear hs hb))
    have n0_ := Aside0.mk (HS.out.drew); have n1_ := Aside0.mk (HB.out.drew); clear HS HB; have HS := n0_; have HB := n1_; clear n0_ n1_
    refine start_ (n := 9) (S := fun w' => True) (ds := []) #[false, false, false, false, false, false, false, false, false] (by kernel_rfl) rfl rfl trivial (fun hHeld => ?_); refine with_tabW ins_106_.tab11 ins_106_.bits11 (fun HT_ HW_ => ?_)
    generalize w3.drew = w4 at HS HB hHeld ⊢
    refine pU 0 46 #[true, false, false, false, false, false, false, false, false] rfl rfl HT_ ?_
    refine pU 1 47 #[true, true, false, false, false, false, false, false, false] rfl rfl HT_ ?_
    refine pU 2 48 #[true, true, true, false, false, false, false, false, false] rfl rfl HT_ ?_
    refine pU 3 49 #[true, true, true, true, false, false, false, false, false] rfl rfl HT_ ?_
    refine pU 4 50 #[true, true, true, true, true, false, false, false, false] rfl rfl HT_ ?_
    refine pU 5 51 #[true, true, true, true, true, true, false, false, false] rfl rfl HT_ ?_
    refine pU 6 52 #[true, true, true, true, true, true, true, false, false] rfl rfl HT_ ?_
    refine pU 7 53 #[true, true, true, true, true, true, true, true, false] rfl rfl HT_ ?_
    refine one_ (i := 8) (N := some 54) #[true, true, true, true, true, true, true, true, true] rfl rfl (one_of HT_.out (by kernel_rfl)) (by decide) (fun K hK => ?_)
    refine S_copy_step (by rfl) (.tmp 50) (.tmp 53) 34 34 rfl 69 Tryz.underlying34 2 info69_size g1 ?a50_1 ((i + 1) * 2) ?a50_2 ?a50_3 g ?a50_4 (i * 2) ?a50_5 ?a50_6 ?hd ?hs (splice (A ++ zs) (i * 2) X) 69 (B) ?o1 ?o2 ?hn ?hsrc ?hfit ?h1 HS.out HB.out ?_
    (case hd => rfl)
    (case hs => rfl)
    (case o1 => first | rfl | omega | (simp; done) | (simp; omega))
    (case o2 => first | rfl | omega | (simp; done) | (simp; omega))
    (case hn => (rw [lB]; show _ = min _ _ * _; omega))
    (case hsrc => exact fun j u hj => ((HS.out.pick 1 rfl).cell _).trans (by rw [List.getElem?_toArray]; exact sB j u hj))
    (case hfit => (simp only [lB, lS2]; omega))
    (case h1 => exact oB)
    intro w3 hs hb
    have n0_ := Aside0.mk (hs); have n1_ := Aside0.mk (hb); clear HS HB; have HS := n0_; have HB := n1_; clear n0_ n1_; (try simp only [List.eraseIdx_cons_succ, List.eraseIdx_cons_zero] at HS)
    clear hs hb
    refine hK.out _ _ trivial (fun hHeld => ?_)
    clear hK K
    refine norm_ (a' := ?_) ?_ ?_
    rotate_left
    · show Act.put _ (some 54) _ = _
      simp only [Act.put, List.setIfInBounds_toArray, List.set_cons_zero, List.set_cons_succ, i64_w, i32_w]
      rfl
    refine done_ (done_of HT_.out (by kernel_rfl)) ?_
    clear HT_ HW_
    try clear hHeld
    go_wp2
    go_ret
    refine ⟨_, rfl, ?_, HB.out⟩
    have h := St.shut_row flatP (xs := xs.take i ++ x :: xs.drop i) (HS.out) (cap := G) (by simp [hn]; omega) hG2 ?_ ?_
    · have h2 := h.swap.drop.swap.drop
      rwa [show (xs.take i ++ x :: xs.drop i).length = n + 1 by simp [hn]; omega] at h2
    · exact (length_splice _ _ _ (by rw [lS2, lB]; omega)).trans lS2
    · rw [show (xs.take i ++ x :: xs.drop i).length = n + 1 by simp [hn]; omega, encs_append flatP, show x :: xs.drop i = [x] ++ xs.drop i from rfl, encs_append flatP, ← hA.out, ← hB.out, ← hX.out]
      exact ins_grow A zs X B _ _ _ (by omega) (by omega) (by show (n + 1) * 2 = _; omega) (by omega)

end Go.Proofs.YtcjfgejiknlpfaaGreat.PI
