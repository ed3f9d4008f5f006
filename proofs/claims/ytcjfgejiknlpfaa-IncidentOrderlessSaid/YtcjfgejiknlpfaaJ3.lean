/- Texts of this claim, taken together: Sq9, Fld, Sq10. -/
import Derived.Test.YtcjfgejiknlpfaaJ2
import Derived.Test.YtcjfgejiknlpfaaJ1
import Derived.Test.YtcjfgejiknlpfaaSq8
/-! # Sq9 -/
section
namespace Go.Proofs.Ytcjfgejiknlpfaa.PI
open Go.RowKit Go.Proofs.YtcjfgejiknlpfaaW.PrintWords Go.Proofs.YtcjfgejiknlpfaaW.PrintLast Go.Proofs.YtcjfgejiknlpfaaW.PrintMore Go.Proofs.Ytcjfgejiknlpfaa.Sep
set_option linter.unusedVariables false
set_option linter.unusedSimpArgs false
set_option maxHeartbeats 8000000
set_option maxRecDepth 100000
def enc49 (x : S49) : List Value := [.string x.f0, .int .i64 x.f1]
theorem flatP : Flat k49 enc49 where
  K := k49_open
  M := fun w base ok x => k49_mkM w base ok x
  sz := fun _ => rfl
  one := fun x v h => by simp [enc49] at h; rcases h with rfl | rfl <;> rfl
theorem flat49 (W : World) (N : Nat) : ∀ (x : S49) (cs : List Value), k49.K W x cs → k49.M W N (fun _ => False) x cs := fun x cs h => by
  rw [k49_open h]; exact k49_mkM _ _ _ _

def ins_106_.T11 : Bool × List (List Nat × List Nat) := (true, [([], []), ([], []), ([], []), ([1, 2], [1, 2]), ([0, 3], [0, 3]), ([], []), ([], []), ([5, 6], [5, 6]), ([4, 7], [4, 7])])
def ins_106_.B11 : List Nat := [0, 0, 0, 6, 15, 0, 0, 96, 255]
theorem ins_106_.tab11 : rtab .any (opsOf Try.f106 11) = ins_106_.T11 := by kernel_rfl
theorem ins_106_.bits11 : waitsOk ins_106_.T11.2 ins_106_.B11 = true := by kernel_rfl
def ins_106_.T15 : Bool × List (List Nat × List Nat) := (true, [([], []), ([], []), ([], []), ([1, 2], [1, 2]), ([0, 3], [0, 3]), ([], []), ([], []), ([5, 6], [5, 6]), ([4, 7], [4, 7])])
def ins_106_.B15 : List Nat := [0, 0, 0, 6, 15, 0, 0, 96, 255]
theorem ins_106_.tab15 : rtab .any (opsOf Try.f106 15) = ins_106_.T15 := by kernel_rfl
theorem ins_106_.bits15 : waitsOk ins_106_.T15.2 ins_106_.B15 = true := by kernel_rfl
theorem info49_size : (Try.prog.info? 49).map (·.size) = some 2 := by
  obtain ⟨i0, hi0, _, h1, _⟩ := info_parts info49
  rw [hi0]; simp [h1]
theorem slices_Insert.ok (x : S49) (xs : List S49) (i : Nat) (hi : i ≤ xs.length) (hm : xs.length ≤ 1000000) (v u : Value) {N : Nat} {w : World} {L : List Res} (HS0 : St N w (Row k49 49 v xs :: Row k49 49 u [x] :: L)) :
    Calls Try.prog 106 #[v, .int .i64 i, u] w fun e w' => ∃ v', e = .returned v' ∧ St N w' (Row k49 49 v' (xs.take i ++ x :: xs.drop i) :: L) ∧ Below N w w' := by
  obtain ⟨n, hn⟩ : ∃ n, xs.length = n := ⟨_, rfl⟩
  rw [hn] at hi hm
  have HB := Aside0.mk (Below.refl N w)
  rcases St.open_row flatP HS0.swap with ⟨rfl, h⟩ | ⟨gv, cv, curv, rfl, hv1, hv2, hv3, hv4, hs1⟩
  · cases h
  clear HS0
  rw [show ([x] : List S49).length = 1 from rfl] at hv1 hv4 ⊢
  by_cases he : i = n
  · subst he
    have HS := Aside0.mk (St.shut_row flatP (xs := [x]) hs1 hv1 hv2 hv3 hv4).swap
    clear hs1
    obtain ⟨A, c, hv, hc1, hc⟩ := HS.out.reads
    subst hv
    obtain ⟨A2, c2, e2, _, hC2⟩ := HS.out.swap.reads
    obtain ⟨rfl, rfl⟩ : A2 = some ⟨gv, 0, none⟩ ∧ c2 = cv := by simp at e2; exact ⟨e2.1.symm, e2.2.symm⟩
    have HC := Aside0.mk hC2
    clear hC2 e2 hc
    rw [hn] at HS hc1 ⊢
    go_enter Try.func106, Try.ntmps106
    go_wp2_with (first | ((with_reducible refine gate_builtin (b := .append) (xs := #[.tmp 23, .tmp 24]) rfl ?_); at_builtin; refine S_append_rows k49 rfl (.tmp 23) (.tmp 24) 37 49 (.agg #[(.string ⟨#[]⟩), (.int .i64 0)]) 24 rfl Try.underlying37 info49 rfl (by decide) (by omega) _ xs [x] (some ⟨gv, 0, none⟩) 1 c2 rfl rfl (flat49 _ _) HS.out ?hC HB.out (by rw [hn]; omega) ?_; (case hC => exact HC.out); intro v2 w2 hs hb; have n0_ := Aside0.mk (hs); have n1_ := Aside0.mk (hb); clear HS HB; have HS := n0_; have HB := n1_; clear n0_ n1_; (try simp only [List.eraseIdx_cons_succ, List.eraseIdx_cons_zero] at HS); clear hs hb))
    all_goals
      go_ret
      refine ⟨_, rfl, ?_, HB.out⟩
      have := HS.out.swap.drop
      rwa [List.take_of_length_le (by omega), List.drop_of_length_le (by omega)]
  replace hs1 := hs1.swap
  rcases St.open_row flatP hs1 with ⟨_, h⟩ | ⟨g, cap, cur, rfl, hq1, hq2, hq3, hq4, hs2⟩
  · subst h; simp at hn; omega
  clear hs1
  rw [hn] at hq1 hq4 ⊢
  have hil : i < n := by omega
  obtain ⟨A, hA⟩ : ∃ A, A = Sep.encs enc49 (xs.take i) := ⟨_, rfl⟩
  obtain ⟨B, hB⟩ : ∃ B, B = Sep.encs enc49 (xs.drop i) := ⟨_, rfl⟩
  obtain ⟨X, hX⟩ : ∃ X, X = Sep.encs enc49 [x] := ⟨_, rfl⟩
  have lA : A.length = i * 2 := by rw [hA, encs_len flatP, List.length_take, hn]; show min i n * 2 = _; omega
  have lB : B.length = (n - i) * 2 := by rw [hB, encs_len flatP, List.length_drop, hn]; rfl
  have lX : X.length = 2 := by rw [hX, encs_len flatP]; rfl
  have lC : cur.length = cap * 2 := hq3
  have lV : curv.length = cv * 2 := hv3
  have oB : ∀ u ∈ B, u.oneCell' = true := fun u hu => encs_one flatP _ u (hB ▸ hu)
  have oX : ∀ u ∈ X, u.oneCell' = true := fun u hu => encs_one flatP _ u (hX ▸ hu)
  have hcut : cur = A ++ (B ++ cur.drop (n * 2)) := by rw [hA, hB, ← List.append_assoc, ← encs_append flatP, List.take_append_drop, ← hq4]; exact (List.take_append_drop _ _).symm
  have tA : cur.take (i * 2) = A := by rw [hcut, ← lA, List.take_left' rfl]
  have sB : ∀ j u, B[j]? = some u → cur[i * 2 + j]? = some u := fun j u hj => by
    have hj1 : j < B.length := (List.getElem?_eq_some_iff.mp hj).1
    rw [hcut, List.getElem?_append_right (by omega), lA, Nat.add_sub_cancel_left, List.getElem?_append_left hj1]; exact hj
  have sX : ∀ j u, X[j]? = some u → curv[j]? = some u := fun j u hj => by
    rw [hX, ← hv4] at hj
    rw [List.getElem?_take] at hj
    split at hj
    · exact hj
    · cases hj
  have HS := Aside0.mk hs2
  clear hs2 hq3 hv3
  have hne : gv ≠ g := fun h => HS.out.ne h.symm
  have hsz : ∀ w, (Go.sizeOf 49).run Try.prog w = .ok 2 w := fun w => by
    obtain ⟨i0, hi0, _, h1, _⟩ := info_parts info49
    simp [Go.sizeOf, typeInfo, hi0, h1]
  have hw1 : IntKind.i64.wrap ((i : Int) + 1) = (i : Int) + 1 := by rw [IntKind.wrap_i64]; omega
  have hb1 : (0 : Int) ≤ (i : Int) + 1 := by omega
  have htn : ((i : Int) + 1).toNat = i + 1 := by omega
  have hw2 : IntKind.i64.wrap ((n : Int) + 1) = (n : Int) + 1 := by rw [IntKind.wrap_i64]; omega
  have htm : ((n : Int) + 1).toNat = n + 1 := by omega
  have hnz : ¬ ((i : Int) = (n : Int)) := by omega
  have hin : (i : Int) ≤ (n : Int) + 1 := by omega
  have hi1 : i ≤ n + 1 := by omega
  have hi0 : i ≤ n := by omega
  have hb4 : ¬ (cap = i) := by omega
  replace hcut := Aside0.mk hcut
  replace tA := Aside0.mk tA
  replace hA := Aside0.mk hA
  replace hB := Aside0.mk hB
  replace hX := Aside0.mk hX
  clear hq4 hv4
  by_cases hr : n + 1 ≤ cap
  · have hov : ∀ o lb cb, (callFunc 116 #[.slice (some ⟨gv, 0, none⟩) 1 cv, .slice (some ⟨g, o, none⟩) lb cb]).run Try.prog w = .ok (.value (.bool false)) w := fun o lb cb => by
      rw [run_callFunc_extern Try.func116 (by kernel_rfl) (by kernel_rfl) (by kernel_rfl) (e := Extern.SlicesOverlaps.overlaps #[37, 37] #[4]) (by kernel_rfl),
        Lib.run_overlaps_apart w 37 4 49 Try.underlying37 2 hsz ⟨gv, 0, none⟩ ⟨g, o, none⟩ 1 cv lb cb hne 49 49 curv.toArray.size cur.toArray.size (shape_of (HS.out.pick 1 rfl).blk) (shape_of HS.out.blk) (by rw [List.size_toArray, lC]; omega) ((HS.out.pick 1 rfl).frozen 0) ((HS.out.pick 1 rfl).frozen _)]
      rfl
    have hb2 : ¬ (cap = i + 1) := by omega
    have hr2 : ¬ ((cap : Int) < (n : Int) + 1) := by omega
    have hr3 : (n : Int) + 1 ≤ (cap : Int) := by omega
    have lS : (splice cur ((i + 1) * 2) B).length = cap * 2 := by rw [length_splice _ _ _ (by rw [lB, lC]; omega), lC]
    go_enter Try.func106, Try.ntmps106
    go_upto_region 15 with (first | (simp only [hov]))
    have n0_ := Aside0.mk (HS.out.drew); have n1_ := Aside0.mk (HB.out.drew); clear HS HB; have HS := n0_; have HB := n1_; clear n0_ n1_
    refine start_ (n := 9) (S := fun w' => True) (ds := []) #[false, false, false, false, false, false, false, false, false] (by kernel_rfl) rfl rfl trivial (fun hHeld => ?_); refine with_tabW ins_106_.tab15 ins_106_.bits15 (fun HT_ HW_ => ?_)
    generalize w.drew = w2 at HS HB hHeld ⊢
    refine pU 0 69 #[true, false, false, false, false, false, false, false, false] rfl rfl HT_ ?_
    refine pU 1 70 #[true, true, false, false, false, false, false, false, false] rfl rfl HT_ ?_
    refine pU 2 71 #[true, true, true, false, false, false, false, false, false] rfl rfl HT_ ?_
    refine pU 3 72 #[true, true, true, true, false, false, false, false, false] rfl rfl HT_ ?_
    refine pU 4 73 #[true, true, true, true, true, false, false, false, false] rfl rfl HT_ ?_
    refine pU 5 74 #[true, true, true, true, true, true, false, false, false] rfl rfl HT_ ?_
    refine pU 6 75 #[true, true, true, true, true, true, true, false, false] rfl rfl HT_ ?_
    refine pU 7 76 #[true, true, true, true, true, true, true, true, false] rfl rfl HT_ ?_
    refine one_ (i := 8) (N := some 77) #[true, true, true, true, true, true, true, true, true] rfl rfl (one_of HT_.out (by kernel_rfl)) (by decide) (fun K hK => ?_)
    refine S_copy_step (by rfl) (.tmp 73) (.tmp 76) 37 37 rfl 49 Try.underlying37 2 info49_size g ?a73_1 ((i + 1) * 2) ?a73_2 ?a73_3 g ?a73_4 (i * 2) ?a73_5 ?a73_6 ?hd ?hs (cur) 49 (B) ?o1 ?o2 ?hn ?hsrc ?hfit ?h1 HS.out HB.out ?_
    (case hd => rfl)
    (case hs => rfl)
    (case o1 => first | rfl | omega | (simp; done) | (simp; omega))
    (case o2 => first | rfl | omega | (simp; done) | (simp; omega))
    (case hn => (rw [lB]; show _ = min _ _ * _; omega))
    (case hsrc => exact fun j u hj => ((HS.out.pick 0 rfl).cell _).trans (by rw [List.getElem?_toArray]; exact sB j u hj))
    (case hfit => (simp only [lB, lC]; omega))
    (case h1 => exact oB)
    intro w3 hs hb
    have n0_ := Aside0.mk (hs); have n1_ := Aside0.mk (hb); clear HS HB; have HS := n0_; have HB := n1_; clear n0_ n1_; (try simp only [List.eraseIdx_cons_succ, List.eraseIdx_cons_zero] at HS)
    clear hs hb
    refine hK.out _ _ trivial (fun hHeld => ?_)
    clear hK K
    refine norm_ (a' := ?_) ?_ ?_
    rotate_left
    · show Act.put _ (some 77) _ = _
      simp only [Act.put, List.setIfInBounds_toArray, List.set_cons_zero, List.set_cons_succ, i64_w, i32_w]
      rfl
    refine done_ (done_of HT_.out (by kernel_rfl)) ?_
    clear HT_ HW_
    try clear hHeld
    go_wp2_with (first | ((with_reducible refine gate_builtin (b := .copy) (xs := #[.tmp 80, .tmp 81]) rfl ?_); refine S_copy rfl (.tmp 80) (.tmp 81) 37 37 rfl 49 Try.underlying37 2 info49_size g ?a80_1 (i * 2) ?a80_2 ?a80_3 gv ?a80_4 (0) ?a80_5 ?a80_6 ?hd ?hs (splice cur ((i + 1) * 2) B) 49 (X) ?o1 ?o2 ?hn ?hsrc ?hfit ?h1 HS.out HB.out ?_; (case hd => rfl); (case hs => rfl); (case o1 => first | rfl | omega | (simp; done) | (simp; omega)); (case o2 => first | rfl | omega | (simp; done) | (simp; omega)); (case hn => (rw [lX]; show _ = min _ _ * _; omega)); (case hsrc => exact fun j u hj => ((HS.out.pick 1 rfl).cell _).trans (by rw [Nat.zero_add, List.getElem?_toArray]; exact sX j u hj)); (case hfit => (simp only [lX, lS]; omega)); (case h1 => exact oX); intro w3 hs hb; have n0_ := Aside0.mk (hs); have n1_ := Aside0.mk (hb); clear HS HB; have HS := n0_; have HB := n1_; clear n0_ n1_; (try simp only [List.eraseIdx_cons_succ, List.eraseIdx_cons_zero] at HS); clear hs hb))
    go_ret
    refine ⟨_, rfl, ?_, HB.out⟩
    have h := St.shut_row flatP (xs := xs.take i ++ x :: xs.drop i) (HS.out) (cap := cap) (by simp [hn]; omega) hq2 ?_ ?_
    · have h2 := h.swap.drop
      rwa [show (xs.take i ++ x :: xs.drop i).length = n + 1 by simp [hn]; omega] at h2
    · exact (length_splice _ _ _ (by rw [lS, lX]; omega)).trans lS
    · rw [show (xs.take i ++ x :: xs.drop i).length = n + 1 by simp [hn]; omega, encs_append flatP, show x :: xs.drop i = [x] ++ xs.drop i from rfl, encs_append flatP, ← hA.out, ← hB.out, ← hX.out]
      exact ins_room cur A B _ X _ _ _ hcut.out (by omega) (by omega) (by show (n + 1) * 2 = _; omega) (by rw [List.length_drop]; omega)
  · have hcap : n = cap := by omega
    subst hcap
    have hr2 : ((n : Int) < (n : Int) + 1) := by omega
    have hki : (0 : Int) ≤ (n : Int) + 1 - (i : Int) := by omega
    have hw3 : IntKind.i64.wrap ((n : Int) + 1 - (i : Int)) = (n : Int) + 1 - (i : Int) := by rw [IntKind.wrap_i64]; omega
    go_enter Try.func106, Try.ntmps106
    go_upto_region 11 with (first | ((with_reducible refine gate_builtin (b := .append) (xs := #[.tmp 34, .tmp 39]) rfl ?_); refine S_append_zeros 2 rfl (.tmp 34) (.tmp 39) 37 3 49 (.agg #[(.string ⟨#[]⟩), (.int .i64 0)]) 24 rfl Try.underlying37 Try.underlying3 info49 rfl (by omega) (by omega) g i _ (n + 1 - i) (n + 1) (by omega) ((n : Int) + 1 - (i : Int)) rfl rfl (by omega) cur (by rw [lC]; omega) (by omega) (by omega) (by omega) HS.out HB.out ?_; intro g1 G zs w1 hG1 hG2 lZ hs hb; rw [tA.out] at hs; have n0_ := Aside0.mk (hs); have n1_ := Aside0.mk (hb); clear HS HB; have HS := n0_; have HB := n1_; clear n0_ n1_; (try simp only [List.eraseIdx_cons_succ, List.eraseIdx_cons_zero] at HS); clear hs hb; have b1 : ¬ (G = i) := (by omega); have b2 : ¬ (G = i + 1) := (by omega); have lS2 : (splice (A ++ zs) (i * 2) X).length = G * 2 := (by rw [length_splice _ _ _ (by simp only [List.length_append, lA, lX, lZ]; omega), List.length_append, lA, lZ]; omega)) | ((with_reducible refine gate_builtin (b := .copy) (xs := #[.tmp 43, .tmp 44]) rfl ?_); refine S_copy rfl (.tmp 43) (.tmp 44) 37 37 rfl 49 Try.underlying37 2 info49_size g1 ?a43_1 (i * 2) ?a43_2 ?a43_3 gv ?a43_4 (0) ?a43_5 ?a43_6 ?hd ?hs (A ++ zs) 49 (X) ?o1 ?o2 ?hn ?hsrc ?hfit ?h1 HS.out HB.out ?_; (case hd => rfl); (case hs => rfl); (case o1 => first | rfl | omega | (simp; done) | (simp; omega)); (case o2 => first | rfl | omega | (simp; done) | (simp; omega)); (case hn => (rw [lX]; show _ = min _ _ * _; omega)); (case hsrc => exact fun j u hj => ((HS.out.pick 2 rfl).cell _).trans (by rw [Nat.zero_add, List.getElem?_toArray]; exact sX j u hj)); (case hfit => (simp only [List.length_append, lA, lX, lZ]; omega)); (case h1 => exact oX); intro w3 hs hb; have n0_ := Aside0.mk (hs); have n1_ := Aside0.mk (hb); clear HS HB; have HS := n0_; have HB := n1_; clear n0_ n1_; (try simp only [List.eraseIdx_cons_succ, List.eraseIdx_cons_zero] at HS); clear hs hb))
    have n0_ := Aside0.mk (HS.out.drew); have n1_ := Aside0.mk (HB.out.drew); clear HS HB; have HS := n0_; have HB := n1_; clear n0_ n1_
    refine start_ (n := 9) (S := fun w' => True) (ds := []) #[false, false, false, false, false, false, false, false, false] (by kernel_rfl) rfl rfl trivial (fun hHeld => ?_); refine with_tabW ins_106_.tab11 ins_106_.bits11 (fun HT_ HW_ => ?_)
    generalize w3.drew = w4 at HS HB hHeld ⊢
    refine pU 0 46 #[true, false, false, false, false, false, false, false, false] rfl rfl HT_ ?_
    refine pU 1 47 #[true, true, false, false, false, false, false, false, false] rfl rfl HT_ ?_
    refine pU 2 48 #[true, true, true, false, false, false, false, false, false] rfl rfl HT_ ?_
    refine pU 3 49 #[true, true, true, true, false, false, false, false, false] rfl rfl HT_ ?_
    refine pU 4 50 #[true, true, true, true, true, false, false, false, false] rfl rfl HT_ ?_
    refine pU 5 51 #[true, true, true, true, true, true, false, false, false] rfl rfl HT_ ?_
    refine pU 6 52 #[true, true, true, true, true, true, true, false, false] rfl rfl HT_ ?_
    refine pU 7 53 #[true, true, true, true, true, true, true, true, false] rfl rfl HT_ ?_
    refine one_ (i := 8) (N := some 54) #[true, true, true, true, true, true, true, true, true] rfl rfl (one_of HT_.out (by kernel_rfl)) (by decide) (fun K hK => ?_)
    refine S_copy_step (by rfl) (.tmp 50) (.tmp 53) 37 37 rfl 49 Try.underlying37 2 info49_size g1 ?a50_1 ((i + 1) * 2) ?a50_2 ?a50_3 g ?a50_4 (i * 2) ?a50_5 ?a50_6 ?hd ?hs (splice (A ++ zs) (i * 2) X) 49 (B) ?o1 ?o2 ?hn ?hsrc ?hfit ?h1 HS.out HB.out ?_
    (case hd => rfl)
    (case hs => rfl)
    (case o1 => first | rfl | omega | (simp; done) | (simp; omega))
    (case o2 => first | rfl | omega | (simp; done) | (simp; omega))
    (case hn => (rw [lB]; show _ = min _ _ * _; omega))
    (case hsrc => exact fun j u hj => ((HS.out.pick 1 rfl).cell _).trans (by rw [List.getElem?_toArray]; exact sB j u hj))
    (case hfit => (simp only [lB, lS2]; omega))
    (case h1 => exact oB)
    intro w3 hs hb
    have n0_ := Aside0.mk (hs); have n1_ := Aside0.mk (hb); clear HS HB; have HS := n0_; have HB := n1_; clear n0_ n1_; (try simp only [List.eraseIdx_cons_succ, List.eraseIdx_cons_zero] at HS)
    clear hs hb
    refine hK.out _ _ trivial (fun hHeld => ?_)
    clear hK K
    refine norm_ (a' := ?_) ?_ ?_
    rotate_left
    · show Act.put _ (some 54) _ = _
      simp only [Act.put, List.setIfInBounds_toArray, List.set_cons_zero, List.set_cons_succ, i64_w, i32_w]
      rfl
    refine done_ (done_of HT_.out (by kernel_rfl)) ?_
    clear HT_ HW_
    try clear hHeld
    go_wp2
    go_ret
    refine ⟨_, rfl, ?_, HB.out⟩
    have h := St.shut_row flatP (xs := xs.take i ++ x :: xs.drop i) (HS.out) (cap := G) (by simp [hn]; omega) hG2 ?_ ?_
    · have h2 := h.swap.drop.swap.drop
      rwa [show (xs.take i ++ x :: xs.drop i).length = n + 1 by simp [hn]; omega] at h2
    · exact (length_splice _ _ _ (by rw [lS2, lB]; omega)).trans lS2
    · rw [show (xs.take i ++ x :: xs.drop i).length = n + 1 by simp [hn]; omega, encs_append flatP, show x :: xs.drop i = [x] ++ xs.drop i from rfl, encs_append flatP, ← hA.out, ← hB.out, ← hX.out]
      exact ins_grow A zs X B _ _ _ (by omega) (by omega) (by show (n + 1) * 2 = _; omega) (by omega)

end Go.Proofs.Ytcjfgejiknlpfaa.PI
end

/-! # Fld -/
section
namespace Go.Proofs.Ytcjfgejiknlpfaa.Sep
open Go.RowKit Go.Proofs.YtcjfgejiknlpfaaW.PrintWords Go.Proofs.YtcjfgejiknlpfaaW.PrintLast
set_option linter.unusedVariables false
set_option linter.unusedSectionVars false
section
variable {α : Type} {d : Kd α} {enc : α → List Value} (F : Flat d enc)
include F
theorem encs_field (j : Nat) (u : Value) (x' : α) : ∀ (l : List α) (i : Nat) (hi : i < l.length), j < d.sz → (enc l[i]).set j u = enc x' → Sep.encs enc (l.set i x') = (Sep.encs enc l).set (i * d.sz + j) u
  | [], i, hi, _, _ => absurd hi (Nat.not_lt_zero i)
  | y :: l, 0, hi, hj, he => by
    simp only [List.getElem_cons_zero] at he
    rw [List.set_cons_zero, Sep.encs, Sep.encs, Nat.zero_mul, Nat.zero_add, List.set_append_left _ _ (by rw [F.sz]; exact hj), he]
  | y :: l, i + 1, hi, hj, he => by
    simp only [List.getElem_cons_succ] at he
    have ih := encs_field j u x' l i (by simpa using hi) hj he
    have e1 : (i + 1) * d.sz + j - (enc y).length = i * d.sz + j := by rw [F.sz, Nat.succ_mul]; omega
    rw [List.set_cons_succ, Sep.encs, Sep.encs, ih, List.set_append_right _ _ (by rw [F.sz, Nat.succ_mul]; omega), e1]
variable {N : Nat} {w w0 w1 : World} {L : List Res} {e : Nat} {v : Value} {l : List α}
theorem St.row_some (h : St N w (Row d e v l :: L)) (hl : 0 < l.length) : ∃ g cap, v = .slice (some ⟨g, 0, none⟩) l.length cap ∧ ∀ i, w.frozen? ⟨g, i, none⟩ = false := by
  rcases St.open_row F h with ⟨_, h1⟩ | ⟨g, cap, cur, e1, _, _, _, _, h5⟩
  · rw [h1] at hl; simp at hl
  · exact ⟨g, cap, e1, fun i => h5.frozen i⟩
theorem St.field {g n cap : Nat} (h : St N w (Row d e (.slice (some ⟨g, 0, none⟩) n cap) l :: L)) (i j : Nat) (u : Value) (x' : α) (hi : i < l.length) (hj : j < d.sz) (he : (enc l[i]).set j u = enc x') (hb : Below N w0 w) :
    St N (w.setCell ⟨g, i * d.sz + j, none⟩ u) (Row d e (.slice (some ⟨g, 0, none⟩) n cap) (l.set i x') :: L) ∧ Below N w0 (w.setCell ⟨g, i * d.sz + j, none⟩ u) := by
  rcases St.open_row F h with ⟨e1, _⟩ | ⟨g', cap', cur, e1, h1, h2, h3, h4, h5⟩
  · cases e1
  · cases e1
    refine ⟨?_, hb.setCell h5.ge _⟩
    have h6 := h5.set (i * d.sz + j) u (cur.set (i * d.sz + j) u).toArray (by simp)
    have := St.shut_row F (xs := l.set i x') h6 (by simpa using h1) h2 (by rw [List.length_set]; exact h3) (by
      rw [List.length_set, List.take_set, h4, encs_field F j u x' l i hi hj he])
    rwa [List.length_set] at this
end
end Go.Proofs.Ytcjfgejiknlpfaa.Sep
end

/-! # Sq10 -/
section
namespace Go.Proofs.Ytcjfgejiknlpfaa.PI
open Go.RowKit Go.Proofs.YtcjfgejiknlpfaaW.PrintWords Go.Proofs.YtcjfgejiknlpfaaW.PrintLast Go.Proofs.YtcjfgejiknlpfaaW.PrintMore Go.Proofs.Ytcjfgejiknlpfaa.Sep
set_option linter.unusedVariables false
set_option linter.unusedSimpArgs false
set_option maxHeartbeats 8000000
set_option maxRecDepth 100000

theorem rd_of {p : Nat} {s : PS} {N : Nat} {w : World} {v5 v6 : Value} {L : List Res} (HS : St N w (Blk p #[.int .i64 s.st, .string s.ti, .int .i64 s.op, .int .i64 s.en, .string s.ca.f0, .int .i64 s.ca.f1, v5, v6, .int .i64 s.no] 40 :: Row k49 49 v5 (s.pe) :: Row k51 51 v6 (s.th) :: L)) : RdSt p s w := by
  obtain ⟨A5, k5, e5, _, h5⟩ := (HS.pick 1 rfl).reads
  obtain ⟨A6, k6, e6, _, h6⟩ := (HS.pick 2 rfl).reads
  subst e5 e6
  exact ⟨A5, k5, A6, k6, HS.blk, h5, h6⟩
theorem get_rdP (l : List S49) (i : Nat) (h : i < l.length) : rd_T49 l (i : Int) = l[i] := by simp [rd_T49, h]
theorem get_rdT (l : List S51) (i : Nat) (h : i < l.length) : rd_T51 l (i : Int) = l[i] := by simp [rd_T51, h]

/-- The last step: the role is stored. -/
theorem assign_end {N : Nat} {w w0 : World} {L : List Res} {g n cap : Nat} {l : List S49} (h : St N w (Row k49 49 (.slice (some ⟨g, 0, none⟩) n cap) l :: L)) (hb : Below N w0 w) (i : Nat) (r : Int) (hi : i < l.length) :
    St N (w.setCell ⟨g, i * 2 + 1, none⟩ (.int .i64 r)) (Row k49 49 (.slice (some ⟨g, 0, none⟩) n cap) (l.set i ⟨(rd_T49 l (i : Int)).f0, r⟩) :: L) ∧ Below N w0 (w.setCell ⟨g, i * 2 + 1, none⟩ (.int .i64 r)) :=
  St.field flatP h i 1 (.int .i64 r) ⟨(rd_T49 l (i : Int)).f0, r⟩ hi (by decide) (by rw [get_rdP l i hi]; rfl) hb

theorem assign_ok (p : Nat) (s : PS) (hl : s.pe.length ≤ 999999) (nm : ByteArray) (r : Int) (hI0 : IncP s.pe) (v5 v6 : Value) {N : Nat} {w : World} {L : List Res} (HS0 : St N w (Blk p #[.int .i64 s.st, .string s.ti, .int .i64 s.op, .int .i64 s.en, .string s.ca.f0, .int .i64 s.ca.f1, v5, v6, .int .i64 s.no] 40 :: Row k49 49 v5 (s.pe) :: Row k51 51 v6 (s.th) :: L)) :
    Calls Try.prog 80 #[.pointer (some ⟨p, 0, none⟩), .string nm, .int .i64 r] w fun e w' => e = .returned (.tuple #[]) ∧ (∃ v5', St N w' (Blk p #[.int .i64 s.st, .string s.ti, .int .i64 s.op, .int .i64 s.en, .string s.ca.f0, .int .i64 s.ca.f1, v5', v6, .int .i64 s.no] 40 :: Row k49 49 v5' (assignP nm r s.pe) :: Row k51 51 v6 (s.th) :: L)) ∧ Below N w w' := by
  have HS := Aside0.mk HS0
  have HB := Aside0.mk (Below.refl N w)
  have hI := Aside0.mk hI0
  clear HS0 hI0
  obtain ⟨A5, k5, e5, _, _⟩ := (HS.out.pick 1 rfl).reads
  subst e5
  go_enter Try.func80, Try.ntmps80
  go_upto_region 1 with (first | (go_at_call 105; (with_reducible refine (person_ok p s (by omega) nm hI.out _ (rd_of HS.out)).mono ?_); rintro r_ w1 ⟨rfl, hb⟩; have n0_ := Aside0.mk (HS.out.step hb); have n1_ := Aside0.mk (below_step' HB.out HS.out.size hb); clear HS HB; have HS := n0_; have HB := n1_; clear n0_ n1_; (try simp only [List.eraseIdx_cons_succ, List.eraseIdx_cons_zero] at HS); clear hb))
  have hple := plcP_le nm s.pe
  have hAs : Aside0 (assignP nm r s.pe = if hitP nm s.pe = true then s.pe.set (plcP nm s.pe) ⟨(rd_T49 s.pe (plcP nm s.pe : Nat)).f0, r⟩ else s.pe.take (plcP nm s.pe) ++ ⟨nm, r⟩ :: s.pe.drop (plcP nm s.pe)) := ⟨rfl⟩
  have hit_lt : Aside0 (hitP nm s.pe = true → plcP nm s.pe < s.pe.length) := ⟨fun hh => by
    unfold hitP at hh
    simp only [Bool.and_eq_true, decide_eq_true_eq] at hh
    exact hh.1⟩
  generalize hitP nm s.pe = hit at hAs hit_lt ⊢
  generalize plcP nm s.pe = i at hAs hple hit_lt ⊢
  generalize hA0 : assignP nm r s.pe = asg at hAs ⊢
  replace hA0 := Aside0.mk hA0
  have c6 := ((HS.out.pick 0 rfl).cell 6).trans (show _ = some (.slice A5 s.pe.length k5) from rfl)
  cases hit with
  | true =>
    have hlt := hit_lt.out rfl
    have hA2 : Aside0 (asg = s.pe.set i ⟨(rd_T49 s.pe (i : Int)).f0, r⟩) := ⟨by rw [hAs.out, if_pos rfl]⟩
    clear hAs hit_lt
    obtain ⟨g, cap, eg, hf⟩ := St.row_some flatP (HS.out.pick 1 rfl) (by omega)
    cases eg
    obtain ⟨ad, ea, x0, x1⟩ := at_T49 (HS.out.pick 1 rfl).rowC.2.2 (i : Int) (by omega) (by omega)
    cases ea
    rw [Int.toNat_natCast, Addr.add_lit, Nat.zero_add] at x0 x1
    have hfz := hf (i * 2 + 1)
    clear hf
    have q2 : decide ((i : Int) < (s.pe.length : Int)) = true := decide_eq_true (by omega)
    have q3 := eq_true (show (i : Int) < (s.pe.length : Int) by omega)
    have q4 := eq_true (show (0 : Int) ≤ (i : Int) by omega)
    go_wp2
    go_end0
    have h := assign_end (HS.out.pick 1 rfl) HB.out i r hlt
    have h1 := h.1.swap
    rw [← hA2.out, ← hA0.out] at h1
    exact ⟨rfl, ⟨_, h1⟩, h.2⟩
  | false =>
    have hlen : (s.pe.take i ++ ⟨nm, 0⟩ :: s.pe.drop i).length = s.pe.length + 1 := by simp; omega
    generalize hq : s.pe.take i ++ (⟨nm, 0⟩ : S49) :: s.pe.drop i = q at hlen
    have hse : asg = q.set i ⟨(rd_T49 q (i : Int)).f0, r⟩ := by
      rw [hAs.out, if_neg (by simp), ← hq]
      have h1 : (s.pe.take i).length = i := by rw [List.length_take]; omega
      have h2 : rd_T49 (s.pe.take i ++ (⟨nm, 0⟩ : S49) :: s.pe.drop i) (i : Int) = ⟨nm, 0⟩ := by
        rw [get_rdP _ _ (by rw [hq]; omega)]
        rw [List.getElem_append_right (by omega)]
        simp [h1]
      rw [h2, List.set_append_right _ _ (by omega), h1, Nat.sub_self, List.set_cons_zero]
    clear hAs hit_lt
    replace hq := Aside0.mk hq
    replace hse := Aside0.mk hse
    replace hlen := Aside0.mk hlen
    go_upto_region 3 with (first | ((with_reducible refine gate_dst (N := 24) rfl ?_); refine S_lit k49 49 ?hg24 (Nt := 24) ?hd24 (xs := [(⟨nm, 0⟩ : S49)]) (inner := [.string nm, .int .i64 0]) ?hr24 ?hp24 HS.out (by simp) ?_; (case hd24 => rfl); (case hg24 => rfl); (case hr24 => first | (go_simp; done) | (go_simp; rfl)); (case hp24 => exact reps_encs flatP (fun y => flatP.M _ _ _ y) [⟨nm, 0⟩]); intro u w2 hs hb; have n0_ := Aside0.mk (hs); have n1_ := Aside0.mk (below_step' HB.out HS.out.size hb); clear HS HB; have HS := n0_; have HB := n1_; clear n0_ n1_; (try simp only [List.eraseIdx_cons_succ, List.eraseIdx_cons_zero] at HS); clear hs hb c6; have c6 := ((HS.out.pick 1 rfl).cell 6).trans (show _ = some (.slice A5 s.pe.length k5) from rfl)) | (go_at_call 106; (with_reducible refine (slices_Insert.ok ⟨nm, 0⟩ s.pe i hple (by omega) (.slice A5 s.pe.length k5) u ((HS.out.pick 0 rfl).pick 2 rfl)).mono ?_); rintro r_ w3 ⟨v', rfl, hs, hb⟩; rw [hq.out] at hs; have n0_ := Aside0.mk (hs.pick 1 rfl); have n1_ := Aside0.mk (HB.out.trans hb); clear HS HB; have HS := n0_; have HB := n1_; clear n0_ n1_; (try simp only [List.eraseIdx_cons_succ, List.eraseIdx_cons_zero] at HS); clear hs hb c6; obtain ⟨A', k', e', _, _⟩ := (HS.out.pick 1 rfl).reads; subst e'; have c6 := ((HS.out.pick 0 rfl).cell 6).trans (show _ = some (.slice A5 s.pe.length k5) from rfl); have f6 := (HS.out.pick 0 rfl).frozen 6))
    have h1 := HS.out.set 6 (.slice A' q.length k') #[.int .i64 s.st, .string s.ti, .int .i64 s.op, .int .i64 s.en, .string s.ca.f0, .int .i64 s.ca.f1, .slice A' q.length k', v6, .int .i64 s.no] rfl
    have h2 := HS.out.below_set (i := 6) (u := .slice A' q.length k') HB.out
    generalize w3.setCell ⟨p, 6, none⟩ (.slice A' q.length k') = w4 at h1 h2 ⊢
    clear c6 f6
    have n0_ := Aside0.mk (h1); have n1_ := Aside0.mk (h2); clear HS HB; have HS := n0_; have HB := n1_; clear n0_ n1_; (try simp only [List.eraseIdx_cons_succ, List.eraseIdx_cons_zero] at HS)
    clear h1 h2
    have c6 := ((HS.out.pick 0 rfl).cell 6).trans (show _ = some (.slice A' q.length k') from rfl)
    have hlt : i < q.length := by have := hlen.out; omega
    obtain ⟨g, cap, eg, hf⟩ := St.row_some flatP (HS.out.pick 1 rfl) (by omega)
    cases eg
    obtain ⟨ad, ea, x0, x1⟩ := at_T49 (HS.out.pick 1 rfl).rowC.2.2 (i : Int) (by omega) (by omega)
    cases ea
    rw [Int.toNat_natCast, Addr.add_lit, Nat.zero_add] at x0 x1
    have hfz := hf (i * 2 + 1)
    clear hf
    have q2 : decide ((i : Int) < (q.length : Int)) = true := decide_eq_true (by omega)
    have q3 := eq_true (show (i : Int) < (q.length : Int) by omega)
    have q4 := eq_true (show (0 : Int) ≤ (i : Int) by omega)
    go_wp2
    go_end0
    have h := assign_end (HS.out.pick 1 rfl) HB.out i r hlt
    have h1 := h.1.swap
    rw [← hse.out, ← hA0.out] at h1
    exact ⟨rfl, ⟨_, h1⟩, h.2⟩

end Go.Proofs.Ytcjfgejiknlpfaa.PI
end
