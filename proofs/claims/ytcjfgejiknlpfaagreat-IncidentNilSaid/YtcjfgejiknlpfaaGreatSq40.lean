/- A log's Clone, Merge and Equal. -/
import Derived.Test.YtcjfgejiknlpfaaGreatSq36
import Derived.Test.YtcjfgejiknlpfaaGreatEqE
import Derived.Lib.LazyBuf
namespace Go.Proofs.YtcjfgejiknlpfaaGreat.PI
open Go.RowKit Go.Proofs.YtcjfgejiknlpfaaGreatW.PrintWords Go.Proofs.YtcjfgejiknlpfaaGreatW.PrintLast Go.Proofs.YtcjfgejiknlpfaaGreatW.PrintMore Go.Proofs.YtcjfgejiknlpfaaGreat.Sep
set_option linter.unusedVariables false
set_option linter.unusedSimpArgs false
set_option maxHeartbeats 8000000
set_option maxRecDepth 100000

def leq.T3 : Bool × List (List Nat × List Nat) := (true, [([], []), ([0], [0]), ([1], [1]), ([2], [2]), ([], []), ([4], [4]), ([5], [5]), ([6], [6]), ([3, 7], [3, 7]), ([8, 8, 0, 1, 2, 3, 4, 5, 6, 7, 8], [8])])
def leq.B3 : List Nat := [0, 1, 3, 7, 0, 16, 48, 112, 255, 511]
theorem leq.tab3 : rtab .any (opsOf Tryz.f20 3) = leq.T3 := by kernel_rfl
theorem leq.bits3 : waitsOk leq.T3.2 leq.B3 = true := by kernel_rfl
theorem run_eqnil {P : Program} (w : World) {t e : TypeId} {a : Option Addr} {l c : Nat} (h : P.underlying t = some (.slice e)) : (binOp .eql t (.slice a l c) (.slice none 0 0)).run P w = .ok (.bool a.isNone) w := Go.run_eql_slice_nil w t e a l c h
theorem row_nil27 {N : Nat} {w : World} {L : List Res} {A : Option Addr} {n c : Nat} {l : List S50} (h : St N w (Row k50 50 (.slice A n c) l :: L)) : A = none → l = [] ∧ c = 0 := by
  rintro rfl
  rcases St.open_row flat50 h with ⟨e1, h1⟩ | ⟨g, cap, cur, e1, _⟩
  · simp at e1; exact ⟨h1, e1.2⟩
  · cases e1
theorem sclone_ok {N : Nat} {w : World} {L : List Res} (A : Option Addr) (c : Nat) (l : List S50) (hl : l.length ≤ 100000) (hnil : A = none → l = [] ∧ c = 0) (hc : k50.C w A l.length l) (HS0 : St N w L) :
    Calls Tryz.prog 44 #[.slice A l.length c] w fun e w' => ∃ v, e = .returned v ∧ St N w' (Row k50 50 v l :: L) ∧ Below N w w' := by
  cases A with
  | none =>
    obtain ⟨rfl, rfl⟩ := hnil rfl
    have he : ∀ w' : World, (binOp .eql 25 (.slice none 0 0) (.slice none 0 0)).run Tryz.prog w' = .ok (.bool true) w' := fun w' => run_eqnil w' Tryz.underlying25
    go_enter Tryz.func44, Tryz.ntmps44
    go_wp2
    go_ret
    exact ⟨_, rfl, HS0.rowNil, Below.refl _ _⟩
  | some A =>
    have HS := Aside0.mk HS0
    have HB := Aside0.mk (Below.refl N w)
    have HC := Aside0.mk hc
    clear HS0 hc hnil
    have he : ∀ w' : World, (binOp .eql 25 (.slice (some A) l.length c) (.slice none 0 0)).run Tryz.prog w' = .ok (.bool false) w' := fun w' => run_eqnil w' Tryz.underlying25
    go_enter Tryz.func44, Tryz.ntmps44
    go_wp2_with (first | ((with_reducible refine gate_dst (N := 5) rfl ?_); refine S_lit k50 50 ?hg (Nt := 5) ?hd (xs := ([] : List S50)) (inner := []) ?hr ?hp HS.out (by simp) ?_; (case hd => rfl); (case hg => rfl); (case hr => first | (go_simp; done) | (go_simp; rfl)); (case hp => exact Reps.none _ _); intro v1 w1 hs hb; have n2_ := Aside0.mk (Kd.C_below HC.out hb); clear HC; have HC := n2_; clear n2_; have n0_ := Aside0.mk (hs); have n1_ := Aside0.mk (below_step' HB.out HS.out.size hb); clear HS HB; have HS := n0_; have HB := n1_; clear n0_ n1_; (try simp only [List.eraseIdx_cons_succ, List.eraseIdx_cons_zero] at HS); clear hs hb) | ((with_reducible refine gate_builtin (b := .append) (xs := #[.tmp 5, .tmp 6]) rfl ?_); at_builtin; refine S_append_rows k50 rfl (.tmp 5) (.tmp 6) 25 50 (.agg #[(.string ⟨#[]⟩), (.int .i64 0), (.int .i64 0), (.int .i64 0), (.string ⟨#[]⟩), (.int .i64 0), (.string ⟨#[]⟩), (.int .i64 0), (.string ⟨#[]⟩)]) 104 rfl Tryz.underlying25 info50 rfl (by decide) (by omega) v1 [] l (some A) l.length c rfl rfl (fun x cs h => by rw [flat50.K h]; exact flat_k50 _ _ x) HS.out HC.out HB.out (by simp; omega) ?_; intro v2 w2 hs hb; clear HC; have n0_ := Aside0.mk (hs); have n1_ := Aside0.mk (hb); clear HS HB; have HS := n0_; have HB := n1_; clear n0_ n1_; (try simp only [List.eraseIdx_cons_succ, List.eraseIdx_cons_zero] at HS); clear hs hb))
    go_ret
    exact ⟨_, rfl, HS.out, HB.out⟩

theorem LClone_ok (p : Nat) (l : List S50) (m10 : l.length ≤ 10000) {N : Nat} {w : World} {L : List Res} (HS0 : St N w (Lg p l :: L)) :
    Calls Tryz.prog 24 #[.pointer (some ⟨p, 0, none⟩)] w fun e w' => ∃ q, e = .returned (.pointer (some ⟨q, 0, none⟩)) ∧ St N w' (Lg q l :: Lg p l :: L) ∧ Below N w w' := by
  obtain ⟨A, c, hc, h⟩ := lg_open HS0
  have HS := Aside0.mk h
  have HB := Aside0.mk (Below.refl N w)
  have m1 := Aside0.mk (show l.length ≤ 100000 by omega)
  clear HS0 h m10 hc
  have pp : w.cell? ⟨p, 0, none⟩ = some (.slice A l.length c) := ((HS.out.pick 0 rfl).cell 0).trans rfl
  go_enter Tryz.func24, Tryz.ntmps24
  go_wp2_with (first | (go_at_call 44; refine (sclone_ok A c l m1.out (row_nil27 (HS.out.pick 1 rfl)) (HS.out.pick 1 rfl).rowC.2.2 HS.out).mono ?_; rintro r_ w1 ⟨v1, rfl, hs, hb⟩; have n0_ := Aside0.mk (hs); have n1_ := Aside0.mk (HB.out.trans hb); clear HS HB; have HS := n0_; have HB := n1_; clear n0_ n1_; (try simp only [List.eraseIdx_cons_succ, List.eraseIdx_cons_zero] at HS); clear hs hb pp; obtain ⟨A9, c9, e9, _, _⟩ := HS.out.reads; subst e9) | ((with_reducible refine gate_dst (N := 11) rfl ?_); refine box_event ?hg (N := 11) ?hd (cs := #[.slice A9 l.length c9]) (t := 58) ?hr ?_; (case hd => rfl); (case hg => rfl); (case hr => first | (go_simp; done) | (go_simp; rfl)); intro q hg w2 hbox hb; have n0_ := Aside0.mk (HS.out.box hg hbox hb); have n1_ := Aside0.mk (below_step' HB.out HS.out.size hb); clear HS HB; have HS := n0_; have HB := n1_; clear n0_ n1_; (try simp only [List.eraseIdx_cons_succ, List.eraseIdx_cons_zero] at HS); clear hb hbox hg))
  go_ret
  have h1 := lg_shut HS.out
  have h2 := (h1.pick 2 rfl).pick 2 rfl
  simp only [List.eraseIdx_cons_succ, List.eraseIdx_cons_zero] at h2
  exact ⟨q, rfl, (lg_shut h2).swap, HB.out⟩

theorem Merge_ok (p q : Nat) (l1 l2 : List S50) (b10 : l1.length ≤ 1000) (b20 : l2.length ≤ 1000) {N : Nat} {w : World} {L : List Res} (HS0 : St N w (Lg p l1 :: Lg q l2 :: L)) :
    Calls Tryz.prog 21 #[.pointer (some ⟨p, 0, none⟩), .pointer (some ⟨q, 0, none⟩)] w fun e w' => ∃ z, e = .returned (.tuple #[.int .i64 z, .int .i64 0]) ∧ St N w' (Lg p (sdd (l1 ++ l2)) :: Lg q l2 :: L) ∧ Below N w w' := by
  obtain ⟨A, c, hc, h⟩ := lg_open HS0.swap
  have HS := Aside0.mk h
  have HB := Aside0.mk (Below.refl N w)
  have b1 := Aside0.mk b10
  have b2 := Aside0.mk b20
  clear HS0 h b10 b20 hc
  have pq : w.cell? ⟨q, 0, none⟩ = some (.slice A l2.length c) := ((HS.out.pick 0 rfl).cell 0).trans rfl
  go_enter Tryz.func21, Tryz.ntmps21
  go_wp2_with (first | (go_at_call 27; refine (insert_ok p l1 l2 b1.out b2.out A c (fun w' h => ⟨(h.pick 1 rfl).rowC.2.2, (h.pick 1 rfl).rowC.2.1⟩) (HS.out.pick 2 rfl)).mono ?_; rintro r_ w1 ⟨rfl, hs, hb⟩; have n0_ := Aside0.mk (hs); have n1_ := Aside0.mk (HB.out.trans hb); clear HS HB; have HS := n0_; have HB := n1_; clear n0_ n1_; (try simp only [List.eraseIdx_cons_succ, List.eraseIdx_cons_zero] at HS); clear hs hb pq))
  go_ret2
  exact ⟨_, rfl, (lg_shut ((HS.out.pick 1 rfl).pick 2 rfl).swap).swap, HB.out⟩

theorem LEqual_ok (p q : Nat) (l1 l2 : List S50) (m10 : l1.length ≤ 10000) (b : Bool) (hb0 : decide (l1 = l2) = b) {N : Nat} {w : World} {L : List Res} (HS0 : St N w (Lg p l1 :: Lg q l2 :: L)) :
    Calls Tryz.prog 20 #[.pointer (some ⟨p, 0, none⟩), .pointer (some ⟨q, 0, none⟩)] w fun e w' => e = .returned (.bool b) ∧ Below w.heap.size w w' := by
  obtain ⟨A, c, hc, h⟩ := lg_open HS0
  obtain ⟨B, d, hd, h2⟩ := lg_open (h.pick 2 rfl)
  have h3 := ((h2.pick 2 rfl).pick 3 rfl).swap
  simp only [List.eraseIdx_cons_succ, List.eraseIdx_cons_zero] at h3
  have HS := Aside0.mk h3
  have HB := Aside0.mk (Below.refl w.heap.size w)
  have m1 := Aside0.mk (show l1.length ≤ 100000 by omega)
  have hb_ := Aside0.mk hb0
  clear HS0 h h2 h3 m10 hc hd hb0
  go_enter Tryz.func20, Tryz.ntmps20
  go_upto_region 3 with (fail)
  have n0_ := Aside0.mk (HS.out.drew); have n1_ := Aside0.mk (HB.out.drew); clear HS HB; have HS := n0_; have HB := n1_; clear n0_ n1_
  refine start_ (n := 10) (S := fun w' => w'.cell? ⟨p, 0, none⟩ = some (.slice A l1.length c) ∧ w'.cell? ⟨q, 0, none⟩ = some (.slice B l2.length d)) (ds := []) #[false, false, false, false, false, false, false, false, false, false] (by kernel_rfl) rfl rfl ⟨((HS.out.pick 0 rfl).cell 0).trans rfl, ((HS.out.pick 2 rfl).cell 0).trans rfl⟩ (fun hHeld => ?_); refine with_tabW leq.tab3 leq.bits3 (fun HT_ HW_ => ?_)
  generalize w.drew = w1 at HS HB hHeld ⊢
  refine pU 0 14 #[true, false, false, false, false, false, false, false, false, false] rfl rfl HT_ ?_
  refine pU 1 15 #[true, true, false, false, false, false, false, false, false, false] rfl rfl HT_ ?_
  refine pU 2 16 #[true, true, true, false, false, false, false, false, false, false] rfl rfl HT_ ?_
  refine pU 4 18 #[true, true, true, false, true, false, false, false, false, false] rfl rfl HT_ ?_
  refine pU 5 19 #[true, true, true, false, true, true, false, false, false, false] rfl rfl HT_ ?_
  refine pU 6 20 #[true, true, true, false, true, true, true, false, false, false] rfl rfl HT_ ?_
  refine tK 3 17 #[true, true, true, true, true, true, true, false, false, false] rfl rfl HT_ HW_ hHeld ?_ (by rintro w' ⟨s0, s1⟩; go_simp; with_reducible rfl)
  refine tK 7 21 #[true, true, true, true, true, true, true, true, false, false] rfl rfl HT_ HW_ hHeld ?_ (by rintro w' ⟨s0, s1⟩; go_simp; with_reducible rfl)
  refine one_ (i := 8) (N := some 22) #[true, true, true, true, true, true, true, true, true, false] rfl rfl (one_of HT_.out (by kernel_rfl)) (by decide) (fun K hK => ?_)
  refine goes_ Tryz.func39 (by kernel_rfl) rfl #[.slice A l1.length c, .slice B l2.length d] (by rfl) rfl rfl (by (try simp only [List.map_toArray, List.map_cons, List.map_nil]); first | done | rfl | (simp only [List.length_drop, List.length_take]; rfl)) ?_
  with_reducible refine (eqEvents_ok A B c d l1 l2 _ m1.out (HS.out.pick 1 rfl).rowC.2.2 (HS.out.pick 1 rfl).rowC.2.1 (HS.out.pick 3 rfl).rowC.2.2 (HS.out.pick 3 rfl).rowC.2.1 b hb_.out).mono ?_
  rintro r_ w2 ⟨rfl, hb0⟩; have hb := hb0.below; clear hb0
  refine ⟨_, rfl, ?_⟩
  have n0_ := Aside0.mk (HS.out.step hb); have n1_ := Aside0.mk (below_step' HB.out HB.out.size hb); clear HS HB; have HS := n0_; have HB := n1_; clear n0_ n1_; (try simp only [List.eraseIdx_cons_succ, List.eraseIdx_cons_zero] at HS)
  clear hb
  refine hK.out _ _ ⟨((HS.out.pick 0 rfl).cell 0).trans rfl, ((HS.out.pick 2 rfl).cell 0).trans rfl⟩ (fun hHeld => ?_)
  clear hK K
  refine norm_ (a' := ?_) ?_ ?_
  rotate_left
  · show Act.put _ (some 22) _ = _
    simp only [Act.put, List.setIfInBounds_toArray, List.set_cons_zero, List.set_cons_succ, i64_w, i32_w]
    rfl
  refine pU 9 4 #[true, true, true, true, true, true, true, true, true, true] rfl rfl HT_ ?_
  refine done_ (done_of HT_.out (by kernel_rfl)) ?_
  clear HT_ HW_
  try clear hHeld
  go_wp2
  go_ret
  exact ⟨rfl, HB.out⟩

end Go.Proofs.YtcjfgejiknlpfaaGreat.PI
