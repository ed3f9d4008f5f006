/- What becomes of an event: reason. -/
import Derived.Test.YtcjfgejiknlpfaaGreatSq7
namespace Go.Proofs.YtcjfgejiknlpfaaGreat.PI
open Go.RowKit Go.Proofs.YtcjfgejiknlpfaaGreatW.PrintWords Go.Proofs.YtcjfgejiknlpfaaGreatW.PrintLast Go.Proofs.YtcjfgejiknlpfaaGreatW.PrintMore Go.Proofs.YtcjfgejiknlpfaaGreat.Sep
set_option linter.unusedVariables false
set_option linter.unusedSimpArgs false
set_option maxHeartbeats 16000000
set_option maxRecDepth 100000

def rsn.T9 : Bool × List (List Nat × List Nat) := (true, [([], []), ([], []), ([1], [1]), ([2], [2]), ([0, 3], [0, 3]), ([], []), ([5], [5]), ([6, 4], [6]), ([4, 7], [4, 7]), ([8, 7], [8])])
def rsn.B9 : List Nat := [0, 0, 2, 6, 15, 0, 32, 127, 255, 511]
theorem rsn.tab9 : rtab .any (opsOf Tryz.f72 9) = rsn.T9 := by kernel_rfl
theorem rsn.bits9 : waitsOk rsn.T9.2 rsn.B9 = true := by kernel_rfl
theorem reason_ok (p : Nat) (s : PS) (hl1 : s.pe.length ≤ 1000000) (hl2 : s.th.length ≤ 1000000) (hI0 : IncP s.pe) (e : S50) (w : World) (hs : RdSt p s w) :
    Calls Tryz.prog 72 #[.pointer (some ⟨p, 0, none⟩), .agg #[.string e.f0.f0, .int .i64 e.f0.f1, .int .i64 e.f1, .int .i64 e.f2, .string e.f3.f0, .int .i64 e.f3.f1, .string e.f4, .int .i64 e.f5, .string e.f6]] w fun r w' => r = .returned (.int .i64 (reasonP s e)) ∧ Below w.heap.size w w' := by
  have hI := Aside0.mk hI0
  clear hI0
  have HG0 := Aside0.mk (Below.refl w.heap.size w)
  go_enter Tryz.func72, Tryz.ntmps72
  go_upto_region 1 with (fail)
  have hb : Below w.heap.size w (w.alloc (.cells #[.string e.f0.f0, .int .i64 e.f0.f1, .int .i64 e.f1, .int .i64 e.f2, .string e.f3.f0, .int .i64 e.f3.f1, .string e.f4, .int .i64 e.f5, .string e.f6] 50)) := (Below.refl w.heap.size w).alloc (Nat.le_refl _) _
  have hs1 := hs.below hb
  have hk := new_cells w #[.string e.f0.f0, .int .i64 e.f0.f1, .int .i64 e.f1, .int .i64 e.f2, .string e.f3.f0, .int .i64 e.f3.f1, .string e.f4, .int .i64 e.f5, .string e.f6] 50
  generalize hg : w.heap.size = g at hk ⊢
  have HG := Aside0.mk hg
  rw [hg] at hb
  generalize w.alloc (.cells #[.string e.f0.f0, .int .i64 e.f0.f1, .int .i64 e.f1, .int .i64 e.f2, .string e.f3.f0, .int .i64 e.f3.f1, .string e.f4, .int .i64 e.f5, .string e.f6] 50) = w1 at hb hs1 hk ⊢
  have HB := Aside0.mk hb
  have HR := Aside0.mk hs1
  have HE := Aside0.mk hk
  clear hs hb hg HG0 hs1 hk
  have y3 : w1.cell? ⟨g, 3, none⟩ = some (.int .i64 e.f2) := (cells_at HE.out 3).trans rfl
  obtain ⟨A5, k5, A6, k6, h1, h2, h3⟩ := HR.out.out
  have z0 : w1.cell? ⟨p, 0, none⟩ = some (.int .i64 s.st) := (cells_at h1 0).trans rfl
  clear h1 h2 h3
  by_cases sa : s.st = 0
  · by_cases ka : e.f2 = 1
    · have hT : Aside0 (reasonP s e = if roleP e.f0.f0 s.pe < rightP e.f2 then 4 else targetP s e) := ⟨by unfold reasonP; rw [if_neg (fun h => h.2 ka), if_neg (fun h => h.1 sa), if_neg (fun h => by have := h.1; omega), if_neg (fun h => by have := h.1; omega)]⟩
      go_upto_region 9 with (fail)
      clear y3 z0
      (try replace ka := Aside0.mk ka)
      (try replace kb := Aside0.mk kb)
      (try replace kc := Aside0.mk kc)
      (try replace sa := Aside0.mk sa)
      (try replace sb := Aside0.mk sb)
      have n2_ := Aside0.mk (HR.out.below (Below.refl _ w1).drew); clear HR; have HR := n2_; clear n2_
      have n2_ := Aside0.mk (HB.out.drew); clear HB; have HB := n2_; clear n2_
      have n2_ := Aside0.mk (show w1.drew.heap[g]? = _ from HE.out); clear HE; have HE := n2_; clear n2_
      refine start_ (n := 10) (S := fun w' => w'.cell? ⟨g, 0, none⟩ = some (.string e.f0.f0) ∧ w'.cell? ⟨g, 3, none⟩ = some (.int .i64 e.f2)) (ds := []) #[false, false, false, false, false, false, false, false, false, false] (by kernel_rfl) rfl rfl ⟨((cells_at HE.out 0).trans rfl), ((cells_at HE.out 3).trans rfl)⟩ (fun hHeld => ?_); refine with_tabW rsn.tab9 rsn.bits9 (fun HT_ HW_ => ?_)
      generalize w1.drew = w2 at HR HB HE hHeld ⊢
      refine pU 0 60 #[true, false, false, false, false, false, false, false, false, false] rfl rfl HT_ ?_
      refine pU 1 61 #[true, true, false, false, false, false, false, false, false, false] rfl rfl HT_ ?_
      refine pU 2 62 #[true, true, true, false, false, false, false, false, false, false] rfl rfl HT_ ?_
      refine pU 5 65 #[true, true, true, false, false, true, false, false, false, false] rfl rfl HT_ ?_
      refine tK 3 63 #[true, true, true, true, false, true, false, false, false, false] rfl rfl HT_ HW_ hHeld ?_ (by rintro w' ⟨s0, s1⟩; go_simp; with_reducible rfl)
      refine tK 6 66 #[true, true, true, true, false, true, true, false, false, false] rfl rfl HT_ HW_ hHeld ?_ (by rintro w' ⟨s0, s1⟩; go_simp; with_reducible rfl)
      refine one_ (i := 4) (N := some 64) #[true, true, true, true, true, true, true, false, false, false] rfl rfl (one_of HT_.out (by kernel_rfl)) (by decide) (fun K hK => ?_)
      refine goes_ Tryz.func107 (by kernel_rfl) rfl #[.pointer (some ⟨p, 0, none⟩), .string e.f0.f0] (by rfl) rfl rfl (by (try simp only [List.map_toArray, List.map_cons, List.map_nil]); first | done | rfl | (simp only [List.length_drop, List.length_take]; rfl)) ?_
      with_reducible refine (role_ok p s hl1 e.f0.f0 hI.out _ HR.out).mono ?_
      rintro r_ w3 ⟨rfl, hb⟩
      refine ⟨_, rfl, ?_⟩
      have n2_ := Aside0.mk (HR.out.below hb); clear HR; have HR := n2_; clear n2_; have n3_ := Aside0.mk ((hb.block g (blk_lt HE.out)).trans HE.out); clear HE; have HE := n3_; clear n3_; have n1_ := Aside0.mk (HB.out.trans (hb.mono (HG.out ▸ HB.out.size))); clear HB; have HB := n1_; clear n1_ hb
      refine hK.out _ _ ⟨((cells_at HE.out 0).trans rfl), ((cells_at HE.out 3).trans rfl)⟩ (fun hHeld => ?_)
      clear hK K
      refine norm_ (a' := ?_) ?_ ?_
      rotate_left
      · show Act.put _ (some 64) _ = _
        simp only [Act.put, List.setIfInBounds_toArray, List.set_cons_zero, List.set_cons_succ, i64_w, i32_w]
        rfl
      refine one_ (i := 7) (N := some 67) #[true, true, true, true, true, true, true, true, false, false] rfl rfl (one_of HT_.out (by kernel_rfl)) (by decide) (fun K hK => ?_)
      refine goes_ Tryz.func108 (by kernel_rfl) rfl #[.int .i64 e.f2] (by rfl) rfl rfl (by (try simp only [List.map_toArray, List.map_cons, List.map_nil]); first | done | rfl | (simp only [List.length_drop, List.length_take]; rfl)) ?_
      with_reducible refine (incident_right.calls 2 e.f2 (rightP e.f2) _ (right_ok e.f2)).mono ?_
      rintro r_ w4 ⟨rfl, hb0⟩; have hb := hb0.below; clear hb0
      refine ⟨_, rfl, ?_⟩
      have n2_ := Aside0.mk (HR.out.below hb); clear HR; have HR := n2_; clear n2_; have n3_ := Aside0.mk ((hb.block g (blk_lt HE.out)).trans HE.out); clear HE; have HE := n3_; clear n3_; have n1_ := Aside0.mk (HB.out.trans (hb.mono (HG.out ▸ HB.out.size))); clear HB; have HB := n1_; clear n1_ hb
      refine hK.out _ _ ⟨((cells_at HE.out 0).trans rfl), ((cells_at HE.out 3).trans rfl)⟩ (fun hHeld => ?_)
      clear hK K
      refine norm_ (a' := ?_) ?_ ?_
      rotate_left
      · show Act.put _ (some 67) _ = _
        simp only [Act.put, List.setIfInBounds_toArray, List.set_cons_zero, List.set_cons_succ, i64_w, i32_w]
        rfl
      refine pU 8 68 #[true, true, true, true, true, true, true, true, true, false] rfl rfl HT_ ?_
      refine pU 9 59 #[true, true, true, true, true, true, true, true, true, true] rfl rfl HT_ ?_
      refine done_ (done_of HT_.out (by kernel_rfl)) ?_
      clear HT_ HW_
      try clear hHeld
      by_cases hr : roleP e.f0.f0 s.pe < rightP e.f2
      · have hr1 := decide_eq_true hr
        have HU : Aside0 (reasonP s e = 4) := ⟨by rw [hT.out, if_pos hr]⟩
        go_wp2
        go_ret
        exact ⟨by (rw [HU.out]; try rfl), by rw [HG.out]; exact HB.out⟩
      · have hr1 := decide_eq_false hr
        have HU : Aside0 (reasonP s e = targetP s e) := ⟨by rw [hT.out, if_neg hr]⟩
        have y0 : w4.cell? ⟨g, 0, none⟩ = some (.string e.f0.f0) := (cells_at HE.out 0).trans rfl
        have y1 : w4.cell? ⟨g, 1, none⟩ = some (.int .i64 e.f0.f1) := (cells_at HE.out 1).trans rfl
        have y2 : w4.cell? ⟨g, 2, none⟩ = some (.int .i64 e.f1) := (cells_at HE.out 2).trans rfl
        have y3 : w4.cell? ⟨g, 3, none⟩ = some (.int .i64 e.f2) := (cells_at HE.out 3).trans rfl
        have y4 : w4.cell? ⟨g, 4, none⟩ = some (.string e.f3.f0) := (cells_at HE.out 4).trans rfl
        have y5 : w4.cell? ⟨g, 5, none⟩ = some (.int .i64 e.f3.f1) := (cells_at HE.out 5).trans rfl
        have y6 : w4.cell? ⟨g, 6, none⟩ = some (.string e.f4) := (cells_at HE.out 6).trans rfl
        have y7 : w4.cell? ⟨g, 7, none⟩ = some (.int .i64 e.f5) := (cells_at HE.out 7).trans rfl
        have y8 : w4.cell? ⟨g, 8, none⟩ = some (.string e.f6) := (cells_at HE.out 8).trans rfl
        go_wp2_with (first | (go_at_call 109; refine (target_ok p s hl2 e _ HR.out).mono ?_; rintro r_ w5 ⟨rfl, hb⟩; have n1_ := Aside0.mk (HB.out.trans (hb.mono (HG.out ▸ HB.out.size))); clear HB; have HB := n1_; clear n1_ hb))
        go_ret
        exact ⟨by (rw [HU.out]; try rfl), by rw [HG.out]; exact HB.out⟩
    · have m1a : decide (e.f2 = 1) = false := decide_eq_false (by assumption)
      have m1b : (e.f2 == 1) = false := by simpa using m1a
      have m1c : (e.f2 != 1) = true := by simpa using m1a
      have HU : Aside0 (reasonP s e = 1) := ⟨by unfold reasonP; rw [if_pos ⟨sa, ka⟩]⟩
      go_wp2
      go_ret
      exact ⟨by (rw [HU.out]; try rfl), by rw [HG.out]; exact HB.out⟩
  · have n0a : decide (s.st = 0) = false := decide_eq_false (by assumption)
    have n0b : (s.st == 0) = false := by simpa using n0a
    have n0c : (s.st != 0) = true := by simpa using n0a
    by_cases ka : e.f2 = 1
    · have HU : Aside0 (reasonP s e = 2) := ⟨by unfold reasonP; rw [if_neg (fun h => sa h.1), if_pos ⟨sa, ka⟩]⟩
      go_wp2
      go_ret
      exact ⟨by (rw [HU.out]; try rfl), by rw [HG.out]; exact HB.out⟩
    · have m1a : decide (e.f2 = 1) = false := decide_eq_false (by assumption)
      have m1b : (e.f2 == 1) = false := by simpa using m1a
      have m1c : (e.f2 != 1) = true := by simpa using m1a
      by_cases sb : s.st = 3
      · by_cases kb : e.f2 = 2
        · have hT : Aside0 (reasonP s e = if roleP e.f0.f0 s.pe < rightP e.f2 then 4 else targetP s e) := ⟨by unfold reasonP; rw [if_neg (fun h => sa h.1), if_neg (fun h => ka h.2), if_neg (fun h => h.2.1 kb), if_neg (fun h => h.2 sb)]⟩
          go_upto_region 9 with (fail)
          clear y3 z0
          (try replace ka := Aside0.mk ka)
          (try replace kb := Aside0.mk kb)
          (try replace kc := Aside0.mk kc)
          (try replace sa := Aside0.mk sa)
          (try replace sb := Aside0.mk sb)
          have n2_ := Aside0.mk (HR.out.below (Below.refl _ w1).drew); clear HR; have HR := n2_; clear n2_
          have n2_ := Aside0.mk (HB.out.drew); clear HB; have HB := n2_; clear n2_
          have n2_ := Aside0.mk (show w1.drew.heap[g]? = _ from HE.out); clear HE; have HE := n2_; clear n2_
          refine start_ (n := 10) (S := fun w' => w'.cell? ⟨g, 0, none⟩ = some (.string e.f0.f0) ∧ w'.cell? ⟨g, 3, none⟩ = some (.int .i64 e.f2)) (ds := []) #[false, false, false, false, false, false, false, false, false, false] (by kernel_rfl) rfl rfl ⟨((cells_at HE.out 0).trans rfl), ((cells_at HE.out 3).trans rfl)⟩ (fun hHeld => ?_); refine with_tabW rsn.tab9 rsn.bits9 (fun HT_ HW_ => ?_)
          generalize w1.drew = w2 at HR HB HE hHeld ⊢
          refine pU 0 60 #[true, false, false, false, false, false, false, false, false, false] rfl rfl HT_ ?_
          refine pU 1 61 #[true, true, false, false, false, false, false, false, false, false] rfl rfl HT_ ?_
          refine pU 2 62 #[true, true, true, false, false, false, false, false, false, false] rfl rfl HT_ ?_
          refine pU 5 65 #[true, true, true, false, false, true, false, false, false, false] rfl rfl HT_ ?_
          refine tK 3 63 #[true, true, true, true, false, true, false, false, false, false] rfl rfl HT_ HW_ hHeld ?_ (by rintro w' ⟨s0, s1⟩; go_simp; with_reducible rfl)
          refine tK 6 66 #[true, true, true, true, false, true, true, false, false, false] rfl rfl HT_ HW_ hHeld ?_ (by rintro w' ⟨s0, s1⟩; go_simp; with_reducible rfl)
          refine one_ (i := 4) (N := some 64) #[true, true, true, true, true, true, true, false, false, false] rfl rfl (one_of HT_.out (by kernel_rfl)) (by decide) (fun K hK => ?_)
          refine goes_ Tryz.func107 (by kernel_rfl) rfl #[.pointer (some ⟨p, 0, none⟩), .string e.f0.f0] (by rfl) rfl rfl (by (try simp only [List.map_toArray, List.map_cons, List.map_nil]); first | done | rfl | (simp only [List.length_drop, List.length_take]; rfl)) ?_
          with_reducible refine (role_ok p s hl1 e.f0.f0 hI.out _ HR.out).mono ?_
          rintro r_ w3 ⟨rfl, hb⟩
          refine ⟨_, rfl, ?_⟩
          have n2_ := Aside0.mk (HR.out.below hb); clear HR; have HR := n2_; clear n2_; have n3_ := Aside0.mk ((hb.block g (blk_lt HE.out)).trans HE.out); clear HE; have HE := n3_; clear n3_; have n1_ := Aside0.mk (HB.out.trans (hb.mono (HG.out ▸ HB.out.size))); clear HB; have HB := n1_; clear n1_ hb
          refine hK.out _ _ ⟨((cells_at HE.out 0).trans rfl), ((cells_at HE.out 3).trans rfl)⟩ (fun hHeld => ?_)
          clear hK K
          refine norm_ (a' := ?_) ?_ ?_
          rotate_left
          · show Act.put _ (some 64) _ = _
            simp only [Act.put, List.setIfInBounds_toArray, List.set_cons_zero, List.set_cons_succ, i64_w, i32_w]
            rfl
          refine one_ (i := 7) (N := some 67) #[true, true, true, true, true, true, true, true, false, false] rfl rfl (one_of HT_.out (by kernel_rfl)) (by decide) (fun K hK => ?_)
          refine goes_ Tryz.func108 (by kernel_rfl) rfl #[.int .i64 e.f2] (by rfl) rfl rfl (by (try simp only [List.map_toArray, List.map_cons, List.map_nil]); first | done | rfl | (simp only [List.length_drop, List.length_take]; rfl)) ?_
          with_reducible refine (incident_right.calls 2 e.f2 (rightP e.f2) _ (right_ok e.f2)).mono ?_
          rintro r_ w4 ⟨rfl, hb0⟩; have hb := hb0.below; clear hb0
          refine ⟨_, rfl, ?_⟩
          have n2_ := Aside0.mk (HR.out.below hb); clear HR; have HR := n2_; clear n2_; have n3_ := Aside0.mk ((hb.block g (blk_lt HE.out)).trans HE.out); clear HE; have HE := n3_; clear n3_; have n1_ := Aside0.mk (HB.out.trans (hb.mono (HG.out ▸ HB.out.size))); clear HB; have HB := n1_; clear n1_ hb
          refine hK.out _ _ ⟨((cells_at HE.out 0).trans rfl), ((cells_at HE.out 3).trans rfl)⟩ (fun hHeld => ?_)
          clear hK K
          refine norm_ (a' := ?_) ?_ ?_
          rotate_left
          · show Act.put _ (some 67) _ = _
            simp only [Act.put, List.setIfInBounds_toArray, List.set_cons_zero, List.set_cons_succ, i64_w, i32_w]
            rfl
          refine pU 8 68 #[true, true, true, true, true, true, true, true, true, false] rfl rfl HT_ ?_
          refine pU 9 59 #[true, true, true, true, true, true, true, true, true, true] rfl rfl HT_ ?_
          refine done_ (done_of HT_.out (by kernel_rfl)) ?_
          clear HT_ HW_
          try clear hHeld
          by_cases hr : roleP e.f0.f0 s.pe < rightP e.f2
          · have hr1 := decide_eq_true hr
            have HU : Aside0 (reasonP s e = 4) := ⟨by rw [hT.out, if_pos hr]⟩
            go_wp2
            go_ret
            exact ⟨by (rw [HU.out]; try rfl), by rw [HG.out]; exact HB.out⟩
          · have hr1 := decide_eq_false hr
            have HU : Aside0 (reasonP s e = targetP s e) := ⟨by rw [hT.out, if_neg hr]⟩
            have y0 : w4.cell? ⟨g, 0, none⟩ = some (.string e.f0.f0) := (cells_at HE.out 0).trans rfl
            have y1 : w4.cell? ⟨g, 1, none⟩ = some (.int .i64 e.f0.f1) := (cells_at HE.out 1).trans rfl
            have y2 : w4.cell? ⟨g, 2, none⟩ = some (.int .i64 e.f1) := (cells_at HE.out 2).trans rfl
            have y3 : w4.cell? ⟨g, 3, none⟩ = some (.int .i64 e.f2) := (cells_at HE.out 3).trans rfl
            have y4 : w4.cell? ⟨g, 4, none⟩ = some (.string e.f3.f0) := (cells_at HE.out 4).trans rfl
            have y5 : w4.cell? ⟨g, 5, none⟩ = some (.int .i64 e.f3.f1) := (cells_at HE.out 5).trans rfl
            have y6 : w4.cell? ⟨g, 6, none⟩ = some (.string e.f4) := (cells_at HE.out 6).trans rfl
            have y7 : w4.cell? ⟨g, 7, none⟩ = some (.int .i64 e.f5) := (cells_at HE.out 7).trans rfl
            have y8 : w4.cell? ⟨g, 8, none⟩ = some (.string e.f6) := (cells_at HE.out 8).trans rfl
            go_wp2_with (first | (go_at_call 109; refine (target_ok p s hl2 e _ HR.out).mono ?_; rintro r_ w5 ⟨rfl, hb⟩; have n1_ := Aside0.mk (HB.out.trans (hb.mono (HG.out ▸ HB.out.size))); clear HB; have HB := n1_; clear n1_ hb))
            go_ret
            exact ⟨by (rw [HU.out]; try rfl), by rw [HG.out]; exact HB.out⟩
        · by_cases kc : e.f2 = 8
          · have hT : Aside0 (reasonP s e = if roleP e.f0.f0 s.pe < rightP e.f2 then 4 else targetP s e) := ⟨by unfold reasonP; rw [if_neg (fun h => sa h.1), if_neg (fun h => ka h.2), if_neg (fun h => h.2.2.1 kc), if_neg (fun h => h.2 sb)]⟩
            go_upto_region 9 with (fail)
            clear y3 z0
            (try replace ka := Aside0.mk ka)
            (try replace kb := Aside0.mk kb)
            (try replace kc := Aside0.mk kc)
            (try replace sa := Aside0.mk sa)
            (try replace sb := Aside0.mk sb)
            have n2_ := Aside0.mk (HR.out.below (Below.refl _ w1).drew); clear HR; have HR := n2_; clear n2_
            have n2_ := Aside0.mk (HB.out.drew); clear HB; have HB := n2_; clear n2_
            have n2_ := Aside0.mk (show w1.drew.heap[g]? = _ from HE.out); clear HE; have HE := n2_; clear n2_
            refine start_ (n := 10) (S := fun w' => w'.cell? ⟨g, 0, none⟩ = some (.string e.f0.f0) ∧ w'.cell? ⟨g, 3, none⟩ = some (.int .i64 e.f2)) (ds := []) #[false, false, false, false, false, false, false, false, false, false] (by kernel_rfl) rfl rfl ⟨((cells_at HE.out 0).trans rfl), ((cells_at HE.out 3).trans rfl)⟩ (fun hHeld => ?_); refine with_tabW rsn.tab9 rsn.bits9 (fun HT_ HW_ => ?_)
            generalize w1.drew = w2 at HR HB HE hHeld ⊢
            refine pU 0 60 #[true, false, false, false, false, false, false, false, false, false] rfl rfl HT_ ?_
            refine pU 1 61 #[true, true, false, false, false, false, false, false, false, false] rfl rfl HT_ ?_
            refine pU 2 62 #[true, true, true, false, false, false, false, false, false, false] rfl rfl HT_ ?_
            refine pU 5 65 #[true, true, true, false, false, true, false, false, false, false] rfl rfl HT_ ?_
            refine tK 3 63 #[true, true, true, true, false, true, false, false, false, false] rfl rfl HT_ HW_ hHeld ?_ (by rintro w' ⟨s0, s1⟩; go_simp; with_reducible rfl)
            refine tK 6 66 #[true, true, true, true, false, true, true, false, false, false] rfl rfl HT_ HW_ hHeld ?_ (by rintro w' ⟨s0, s1⟩; go_simp; with_reducible rfl)
            refine one_ (i := 4) (N := some 64) #[true, true, true, true, true, true, true, false, false, false] rfl rfl (one_of HT_.out (by kernel_rfl)) (by decide) (fun K hK => ?_)
            refine goes_ Tryz.func107 (by kernel_rfl) rfl #[.pointer (some ⟨p, 0, none⟩), .string e.f0.f0] (by rfl) rfl rfl (by (try simp only [List.map_toArray, List.map_cons, List.map_nil]); first | done | rfl | (simp only [List.length_drop, List.length_take]; rfl)) ?_
            with_reducible refine (role_ok p s hl1 e.f0.f0 hI.out _ HR.out).mono ?_
            rintro r_ w3 ⟨rfl, hb⟩
            refine ⟨_, rfl, ?_⟩
            have n2_ := Aside0.mk (HR.out.below hb); clear HR; have HR := n2_; clear n2_; have n3_ := Aside0.mk ((hb.block g (blk_lt HE.out)).trans HE.out); clear HE; have HE := n3_; clear n3_; have n1_ := Aside0.mk (HB.out.trans (hb.mono (HG.out ▸ HB.out.size))); clear HB; have HB := n1_; clear n1_ hb
            refine hK.out _ _ ⟨((cells_at HE.out 0).trans rfl), ((cells_at HE.out 3).trans rfl)⟩ (fun hHeld => ?_)
            clear hK K
            refine norm_ (a' := ?_) ?_ ?_
            rotate_left
            · show Act.put _ (some 64) _ = _
              simp only [Act.put, List.setIfInBounds_toArray, List.set_cons_zero, List.set_cons_succ, i64_w, i32_w]
              rfl
            refine one_ (i := 7) (N := some 67) #[true, true, true, true, true, true, true, true, false, false] rfl rfl (one_of HT_.out (by kernel_rfl)) (by decide) (fun K hK => ?_)
            refine goes_ Tryz.func108 (by kernel_rfl) rfl #[.int .i64 e.f2] (by rfl) rfl rfl (by (try simp only [List.map_toArray, List.map_cons, List.map_nil]); first | done | rfl | (simp only [List.length_drop, List.length_take]; rfl)) ?_
            with_reducible refine (incident_right.calls 2 e.f2 (rightP e.f2) _ (right_ok e.f2)).mono ?_
            rintro r_ w4 ⟨rfl, hb0⟩; have hb := hb0.below; clear hb0
            refine ⟨_, rfl, ?_⟩
            have n2_ := Aside0.mk (HR.out.below hb); clear HR; have HR := n2_; clear n2_; have n3_ := Aside0.mk ((hb.block g (blk_lt HE.out)).trans HE.out); clear HE; have HE := n3_; clear n3_; have n1_ := Aside0.mk (HB.out.trans (hb.mono (HG.out ▸ HB.out.size))); clear HB; have HB := n1_; clear n1_ hb
            refine hK.out _ _ ⟨((cells_at HE.out 0).trans rfl), ((cells_at HE.out 3).trans rfl)⟩ (fun hHeld => ?_)
            clear hK K
            refine norm_ (a' := ?_) ?_ ?_
            rotate_left
            · show Act.put _ (some 67) _ = _
              simp only [Act.put, List.setIfInBounds_toArray, List.set_cons_zero, List.set_cons_succ, i64_w, i32_w]
              rfl
            refine pU 8 68 #[true, true, true, true, true, true, true, true, true, false] rfl rfl HT_ ?_
            refine pU 9 59 #[true, true, true, true, true, true, true, true, true, true] rfl rfl HT_ ?_
            refine done_ (done_of HT_.out (by kernel_rfl)) ?_
            clear HT_ HW_
            try clear hHeld
            by_cases hr : roleP e.f0.f0 s.pe < rightP e.f2
            · have hr1 := decide_eq_true hr
              have HU : Aside0 (reasonP s e = 4) := ⟨by rw [hT.out, if_pos hr]⟩
              go_wp2
              go_ret
              exact ⟨by (rw [HU.out]; try rfl), by rw [HG.out]; exact HB.out⟩
            · have hr1 := decide_eq_false hr
              have HU : Aside0 (reasonP s e = targetP s e) := ⟨by rw [hT.out, if_neg hr]⟩
              have y0 : w4.cell? ⟨g, 0, none⟩ = some (.string e.f0.f0) := (cells_at HE.out 0).trans rfl
              have y1 : w4.cell? ⟨g, 1, none⟩ = some (.int .i64 e.f0.f1) := (cells_at HE.out 1).trans rfl
              have y2 : w4.cell? ⟨g, 2, none⟩ = some (.int .i64 e.f1) := (cells_at HE.out 2).trans rfl
              have y3 : w4.cell? ⟨g, 3, none⟩ = some (.int .i64 e.f2) := (cells_at HE.out 3).trans rfl
              have y4 : w4.cell? ⟨g, 4, none⟩ = some (.string e.f3.f0) := (cells_at HE.out 4).trans rfl
              have y5 : w4.cell? ⟨g, 5, none⟩ = some (.int .i64 e.f3.f1) := (cells_at HE.out 5).trans rfl
              have y6 : w4.cell? ⟨g, 6, none⟩ = some (.string e.f4) := (cells_at HE.out 6).trans rfl
              have y7 : w4.cell? ⟨g, 7, none⟩ = some (.int .i64 e.f5) := (cells_at HE.out 7).trans rfl
              have y8 : w4.cell? ⟨g, 8, none⟩ = some (.string e.f6) := (cells_at HE.out 8).trans rfl
              go_wp2_with (first | (go_at_call 109; refine (target_ok p s hl2 e _ HR.out).mono ?_; rintro r_ w5 ⟨rfl, hb⟩; have n1_ := Aside0.mk (HB.out.trans (hb.mono (HG.out ▸ HB.out.size))); clear HB; have HB := n1_; clear n1_ hb))
              go_ret
              exact ⟨by (rw [HU.out]; try rfl), by rw [HG.out]; exact HB.out⟩
          · have m2a : decide (e.f2 = 2) = false := decide_eq_false (by assumption)
            have m2b : (e.f2 == 2) = false := by simpa using m2a
            have m2c : (e.f2 != 2) = true := by simpa using m2a
            have m8a : decide (e.f2 = 8) = false := decide_eq_false (by assumption)
            have m8b : (e.f2 == 8) = false := by simpa using m8a
            have m8c : (e.f2 != 8) = true := by simpa using m8a
            have HU : Aside0 (reasonP s e = 3) := ⟨by unfold reasonP; rw [if_neg (fun h => sa h.1), if_neg (fun h => ka h.2), if_pos ⟨sb, kb, kc, ka⟩]⟩
            go_wp2
            go_ret
            exact ⟨by (rw [HU.out]; try rfl), by rw [HG.out]; exact HB.out⟩
      · have n3a : decide (s.st = 3) = false := decide_eq_false (by assumption)
        have n3b : (s.st == 3) = false := by simpa using n3a
        have n3c : (s.st != 3) = true := by simpa using n3a
        by_cases kc : e.f2 = 8
        · have HU : Aside0 (reasonP s e = 8) := ⟨by unfold reasonP; rw [if_neg (fun h => sa h.1), if_neg (fun h => ka h.2), if_neg (fun h => sb h.1), if_pos ⟨kc, sb⟩]⟩
          go_wp2
          go_ret
          exact ⟨by (rw [HU.out]; try rfl), by rw [HG.out]; exact HB.out⟩
        · have m8a : decide (e.f2 = 8) = false := decide_eq_false (by assumption)
          have m8b : (e.f2 == 8) = false := by simpa using m8a
          have m8c : (e.f2 != 8) = true := by simpa using m8a
          have hT : Aside0 (reasonP s e = if roleP e.f0.f0 s.pe < rightP e.f2 then 4 else targetP s e) := ⟨by unfold reasonP; rw [if_neg (fun h => sa h.1), if_neg (fun h => ka h.2), if_neg (fun h => sb h.1), if_neg (fun h => kc h.1)]⟩
          go_upto_region 9 with (fail)
          clear y3 z0
          (try replace ka := Aside0.mk ka)
          (try replace kb := Aside0.mk kb)
          (try replace kc := Aside0.mk kc)
          (try replace sa := Aside0.mk sa)
          (try replace sb := Aside0.mk sb)
          have n2_ := Aside0.mk (HR.out.below (Below.refl _ w1).drew); clear HR; have HR := n2_; clear n2_
          have n2_ := Aside0.mk (HB.out.drew); clear HB; have HB := n2_; clear n2_
          have n2_ := Aside0.mk (show w1.drew.heap[g]? = _ from HE.out); clear HE; have HE := n2_; clear n2_
          refine start_ (n := 10) (S := fun w' => w'.cell? ⟨g, 0, none⟩ = some (.string e.f0.f0) ∧ w'.cell? ⟨g, 3, none⟩ = some (.int .i64 e.f2)) (ds := []) #[false, false, false, false, false, false, false, false, false, false] (by kernel_rfl) rfl rfl ⟨((cells_at HE.out 0).trans rfl), ((cells_at HE.out 3).trans rfl)⟩ (fun hHeld => ?_); refine with_tabW rsn.tab9 rsn.bits9 (fun HT_ HW_ => ?_)
          generalize w1.drew = w2 at HR HB HE hHeld ⊢
          refine pU 0 60 #[true, false, false, false, false, false, false, false, false, false] rfl rfl HT_ ?_
          refine pU 1 61 #[true, true, false, false, false, false, false, false, false, false] rfl rfl HT_ ?_
          refine pU 2 62 #[true, true, true, false, false, false, false, false, false, false] rfl rfl HT_ ?_
          refine pU 5 65 #[true, true, true, false, false, true, false, false, false, false] rfl rfl HT_ ?_
          refine tK 3 63 #[true, true, true, true, false, true, false, false, false, false] rfl rfl HT_ HW_ hHeld ?_ (by rintro w' ⟨s0, s1⟩; go_simp; with_reducible rfl)
          refine tK 6 66 #[true, true, true, true, false, true, true, false, false, false] rfl rfl HT_ HW_ hHeld ?_ (by rintro w' ⟨s0, s1⟩; go_simp; with_reducible rfl)
          refine one_ (i := 4) (N := some 64) #[true, true, true, true, true, true, true, false, false, false] rfl rfl (one_of HT_.out (by kernel_rfl)) (by decide) (fun K hK => ?_)
          refine goes_ Tryz.func107 (by kernel_rfl) rfl #[.pointer (some ⟨p, 0, none⟩), .string e.f0.f0] (by rfl) rfl rfl (by (try simp only [List.map_toArray, List.map_cons, List.map_nil]); first | done | rfl | (simp only [List.length_drop, List.length_take]; rfl)) ?_
          with_reducible refine (role_ok p s hl1 e.f0.f0 hI.out _ HR.out).mono ?_
          rintro r_ w3 ⟨rfl, hb⟩
          refine ⟨_, rfl, ?_⟩
          have n2_ := Aside0.mk (HR.out.below hb); clear HR; have HR := n2_; clear n2_; have n3_ := Aside0.mk ((hb.block g (blk_lt HE.out)).trans HE.out); clear HE; have HE := n3_; clear n3_; have n1_ := Aside0.mk (HB.out.trans (hb.mono (HG.out ▸ HB.out.size))); clear HB; have HB := n1_; clear n1_ hb
          refine hK.out _ _ ⟨((cells_at HE.out 0).trans rfl), ((cells_at HE.out 3).trans rfl)⟩ (fun hHeld => ?_)
          clear hK K
          refine norm_ (a' := ?_) ?_ ?_
          rotate_left
          · show Act.put _ (some 64) _ = _
            simp only [Act.put, List.setIfInBounds_toArray, List.set_cons_zero, List.set_cons_succ, i64_w, i32_w]
            rfl
          refine one_ (i := 7) (N := some 67) #[true, true, true, true, true, true, true, true, false, false] rfl rfl (one_of HT_.out (by kernel_rfl)) (by decide) (fun K hK => ?_)
          refine goes_ Tryz.func108 (by kernel_rfl) rfl #[.int .i64 e.f2] (by rfl) rfl rfl (by (try simp only [List.map_toArray, List.map_cons, List.map_nil]); first | done | rfl | (simp only [List.length_drop, List.length_take]; rfl)) ?_
          with_reducible refine (incident_right.calls 2 e.f2 (rightP e.f2) _ (right_ok e.f2)).mono ?_
          rintro r_ w4 ⟨rfl, hb0⟩; have hb := hb0.below; clear hb0
          refine ⟨_, rfl, ?_⟩
          have n2_ := Aside0.mk (HR.out.below hb); clear HR; have HR := n2_; clear n2_; have n3_ := Aside0.mk ((hb.block g (blk_lt HE.out)).trans HE.out); clear HE; have HE := n3_; clear n3_; have n1_ := Aside0.mk (HB.out.trans (hb.mono (HG.out ▸ HB.out.size))); clear HB; have HB := n1_; clear n1_ hb
          refine hK.out _ _ ⟨((cells_at HE.out 0).trans rfl), ((cells_at HE.out 3).trans rfl)⟩ (fun hHeld => ?_)
          clear hK K
          refine norm_ (a' := ?_) ?_ ?_
          rotate_left
          · show Act.put _ (some 67) _ = _
            simp only [Act.put, List.setIfInBounds_toArray, List.set_cons_zero, List.set_cons_succ, i64_w, i32_w]
            rfl
          refine pU 8 68 #[true, true, true, true, true, true, true, true, true, false] rfl rfl HT_ ?_
          refine pU 9 59 #[true, true, true, true, true, true, true, true, true, true] rfl rfl HT_ ?_
          refine done_ (done_of HT_.out (by kernel_rfl)) ?_
          clear HT_ HW_
          try clear hHeld
          by_cases hr : roleP e.f0.f0 s.pe < rightP e.f2
          · have hr1 := decide_eq_true hr
            have HU : Aside0 (reasonP s e = 4) := ⟨by rw [hT.out, if_pos hr]⟩
            go_wp2
            go_ret
            exact ⟨by (rw [HU.out]; try rfl), by rw [HG.out]; exact HB.out⟩
          · have hr1 := decide_eq_false hr
            have HU : Aside0 (reasonP s e = targetP s e) := ⟨by rw [hT.out, if_neg hr]⟩
            have y0 : w4.cell? ⟨g, 0, none⟩ = some (.string e.f0.f0) := (cells_at HE.out 0).trans rfl
            have y1 : w4.cell? ⟨g, 1, none⟩ = some (.int .i64 e.f0.f1) := (cells_at HE.out 1).trans rfl
            have y2 : w4.cell? ⟨g, 2, none⟩ = some (.int .i64 e.f1) := (cells_at HE.out 2).trans rfl
            have y3 : w4.cell? ⟨g, 3, none⟩ = some (.int .i64 e.f2) := (cells_at HE.out 3).trans rfl
            have y4 : w4.cell? ⟨g, 4, none⟩ = some (.string e.f3.f0) := (cells_at HE.out 4).trans rfl
            have y5 : w4.cell? ⟨g, 5, none⟩ = some (.int .i64 e.f3.f1) := (cells_at HE.out 5).trans rfl
            have y6 : w4.cell? ⟨g, 6, none⟩ = some (.string e.f4) := (cells_at HE.out 6).trans rfl
            have y7 : w4.cell? ⟨g, 7, none⟩ = some (.int .i64 e.f5) := (cells_at HE.out 7).trans rfl
            have y8 : w4.cell? ⟨g, 8, none⟩ = some (.string e.f6) := (cells_at HE.out 8).trans rfl
            go_wp2_with (first | (go_at_call 109; refine (target_ok p s hl2 e _ HR.out).mono ?_; rintro r_ w5 ⟨rfl, hb⟩; have n1_ := Aside0.mk (HB.out.trans (hb.mono (HG.out ▸ HB.out.size))); clear HB; have HB := n1_; clear n1_ hb))
            go_ret
            exact ⟨by (rw [HU.out]; try rfl), by rw [HG.out]; exact HB.out⟩

end Go.Proofs.YtcjfgejiknlpfaaGreat.PI
