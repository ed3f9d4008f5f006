/- What becomes of an event: target, reason. -/
import Derived.Test.YtcjfgejiknlpfaaGreatSq6
namespace Go.Proofs.YtcjfgejiknlpfaaGreat.PI
open Go.RowKit Go.Proofs.YtcjfgejiknlpfaaGreatW.PrintWords Go.Proofs.YtcjfgejiknlpfaaGreatW.PrintLast Go.Proofs.YtcjfgejiknlpfaaGreatW.PrintMore Go.Proofs.YtcjfgejiknlpfaaGreat.Sep
set_option linter.unusedVariables false
set_option linter.unusedSimpArgs false
set_option maxHeartbeats 16000000
set_option maxRecDepth 100000

theorem target_ok (p : Nat) (s : PS) (hl2 : s.th.length ≤ 1000000) (e : S50) (w : World) (hs : RdSt p s w) :
    Calls Tryz.prog 109 #[.pointer (some ⟨p, 0, none⟩), .agg #[.string e.f0.f0, .int .i64 e.f0.f1, .int .i64 e.f1, .int .i64 e.f2, .string e.f3.f0, .int .i64 e.f3.f1, .string e.f4, .int .i64 e.f5, .string e.f6]] w fun r w' => r = .returned (.int .i64 (targetP s e)) ∧ Below w.heap.size w w' := by
  have HG0 := Aside0.mk (Below.refl w.heap.size w)
  go_enter Tryz.func109, Tryz.ntmps109
  go_upto_region 1 with (fail)
  have hb : Below w.heap.size w (w.alloc (.cells #[.string e.f0.f0, .int .i64 e.f0.f1, .int .i64 e.f1, .int .i64 e.f2, .string e.f3.f0, .int .i64 e.f3.f1, .string e.f4, .int .i64 e.f5, .string e.f6] 50)) := (Below.refl w.heap.size w).alloc (Nat.le_refl _) _
  have hs1 := hs.below hb
  have hk := new_cells w #[.string e.f0.f0, .int .i64 e.f0.f1, .int .i64 e.f1, .int .i64 e.f2, .string e.f3.f0, .int .i64 e.f3.f1, .string e.f4, .int .i64 e.f5, .string e.f6] 50
  generalize hg : w.heap.size = g at hk ⊢
  have HG := Aside0.mk hg
  rw [hg] at hb
  generalize w.alloc (.cells #[.string e.f0.f0, .int .i64 e.f0.f1, .int .i64 e.f1, .int .i64 e.f2, .string e.f3.f0, .int .i64 e.f3.f1, .string e.f4, .int .i64 e.f5, .string e.f6] 50) = w1 at hb hs1 hk ⊢
  have HB := Aside0.mk hb
  have HR := Aside0.mk hs1
  have HE := Aside0.mk hk
  clear hs hb hg HG0 hs1 hk
  by_cases k6_ : e.f2 = 6
  · by_cases s1_ : s.st = 1
    · have HT : Aside0 (targetP s e = 0) := ⟨by unfold targetP; rw [if_pos k6_, if_pos s1_]⟩
      have y3 : w1.cell? ⟨g, 3, none⟩ = some (.int .i64 e.f2) := (cells_at HE.out 3).trans rfl
      obtain ⟨A5, k5, A6, k6, h1, h2, h3⟩ := HR.out.out
      have z0 : w1.cell? ⟨p, 0, none⟩ = some (.int .i64 s.st) := (cells_at h1 0).trans rfl
      clear h1 h2 h3
      go_wp2
      go_ret
      exact ⟨by (rw [HT.out]; try rfl), by rw [HG.out]; exact HB.out⟩
    · have HT : Aside0 (targetP s e = 9) := ⟨by unfold targetP; rw [if_pos k6_, if_neg s1_]⟩
      have y3 : w1.cell? ⟨g, 3, none⟩ = some (.int .i64 e.f2) := (cells_at HE.out 3).trans rfl
      obtain ⟨A5, k5, A6, k6, h1, h2, h3⟩ := HR.out.out
      have z0 : w1.cell? ⟨p, 0, none⟩ = some (.int .i64 s.st) := (cells_at h1 0).trans rfl
      clear h1 h2 h3
      have ma : decide (s.st = 1) = false := decide_eq_false (by assumption)
      have mb : (s.st == 1) = false := by simpa using ma
      go_wp2
      go_ret
      exact ⟨by (rw [HT.out]; try rfl), by rw [HG.out]; exact HB.out⟩
  · by_cases kk : e.f2 = 4 ∨ e.f2 = 5 ∨ e.f2 = 7
    · have hT : targetP s e = if thIx e.f3 s.th < 0 then 5 else if e.f2 = 4 ∧ e.f3.f0 = e.f0.f0 then 6 else if e.f2 = 7 ∧ (rd_T71 s.th (thIx e.f3 s.th)).f2 ≠ 2 then 7 else 0 := by unfold targetP; rw [if_neg k6_, if_pos kk]
      have hr := thIx_range e.f3 s.th
      generalize hti : thIx e.f3 s.th = ti at hT hr
      replace hti := Aside0.mk hti
      have HT := Aside0.mk hT
      clear hT
      have y3 : w1.cell? ⟨g, 3, none⟩ = some (.int .i64 e.f2) := (cells_at HE.out 3).trans rfl
      have y4 : w1.cell? ⟨g, 4, none⟩ = some (.string e.f3.f0) := (cells_at HE.out 4).trans rfl
      have y5 : w1.cell? ⟨g, 5, none⟩ = some (.int .i64 e.f3.f1) := (cells_at HE.out 5).trans rfl
      have ma : decide (e.f2 = 6) = false := decide_eq_false (by assumption)
      have mb : (e.f2 == 6) = false := by simpa using ma
      rcases kk with kk | kk | kk
      · go_upto_region 9 with (first | (go_at_call 101; refine (theory_ok p s hl2 e.f3 _ HR.out).mono ?_; rintro r_ w4 ⟨rfl, hb⟩; rw [hti.out]; have n2_ := Aside0.mk (HR.out.below hb); clear HR; have HR := n2_; clear n2_; have n3_ := Aside0.mk ((hb.block g (blk_lt HE.out)).trans HE.out); clear HE; have HE := n3_; clear n3_; have n1_ := Aside0.mk (HB.out.trans (hb.mono (HG.out ▸ HB.out.size))); clear HB y3 y4 y5; have HB := n1_; clear n1_ hb))
        have y3 : w4.cell? ⟨g, 3, none⟩ = some (.int .i64 e.f2) := (cells_at HE.out 3).trans rfl
        have y4 : w4.cell? ⟨g, 4, none⟩ = some (.string e.f3.f0) := (cells_at HE.out 4).trans rfl
        have y0 : w4.cell? ⟨g, 0, none⟩ = some (.string e.f0.f0) := (cells_at HE.out 0).trans rfl
        rcases hr with rfl | ⟨j, hj, rfl, hjk⟩
        · have HU : Aside0 (targetP s e = 5) := ⟨by rw [HT.out, if_pos (by omega)]⟩
          go_wp2
          go_ret
          exact ⟨by (rw [HU.out]; try rfl), by rw [HG.out]; exact HB.out⟩
        · have hj0 : decide ((j : Int) < 0) = false := decide_eq_false (by omega)
          have hj1 : ¬ ((j : Int) < 0) := by omega
          have HT2 := Aside0.mk (HT.out.trans (if_neg hj1)); clear HT hj1
          by_cases ha : e.f3.f0 = e.f0.f0
          · have HU : Aside0 (targetP s e = 6) := ⟨by rw [HT2.out, if_pos ⟨kk, ha⟩]⟩
            go_wp2
            go_ret
            exact ⟨by (rw [HU.out]; try rfl), by rw [HG.out]; exact HB.out⟩
          · have HU : Aside0 (targetP s e = 0) := ⟨by rw [HT2.out, if_neg (fun h => ha h.2), if_neg (fun h => by have := h.1; omega)]⟩
            have hb0 : (e.f3.f0.toList == e.f0.f0.toList) = false := by simpa using (fun h => ha (bytes_ext _ _ h) : ¬ e.f3.f0.toList = e.f0.f0.toList)
            clear ha
            go_wp2
            go_ret
            exact ⟨by (rw [HU.out]; try rfl), by rw [HG.out]; exact HB.out⟩
      · go_upto_region 9 with (first | (go_at_call 101; refine (theory_ok p s hl2 e.f3 _ HR.out).mono ?_; rintro r_ w4 ⟨rfl, hb⟩; rw [hti.out]; have n2_ := Aside0.mk (HR.out.below hb); clear HR; have HR := n2_; clear n2_; have n3_ := Aside0.mk ((hb.block g (blk_lt HE.out)).trans HE.out); clear HE; have HE := n3_; clear n3_; have n1_ := Aside0.mk (HB.out.trans (hb.mono (HG.out ▸ HB.out.size))); clear HB y3 y4 y5; have HB := n1_; clear n1_ hb))
        have y3 : w4.cell? ⟨g, 3, none⟩ = some (.int .i64 e.f2) := (cells_at HE.out 3).trans rfl
        rcases hr with rfl | ⟨j, hj, rfl, hjk⟩
        · have HU : Aside0 (targetP s e = 5) := ⟨by rw [HT.out, if_pos (by omega)]⟩
          go_wp2
          go_ret
          exact ⟨by (rw [HU.out]; try rfl), by rw [HG.out]; exact HB.out⟩
        · have hj0 : decide ((j : Int) < 0) = false := decide_eq_false (by omega)
          have hj1 : ¬ ((j : Int) < 0) := by omega
          have HT2 := Aside0.mk (HT.out.trans (if_neg hj1)); clear HT hj1
          have HU : Aside0 (targetP s e = 0) := ⟨by rw [HT2.out, if_neg (fun h => by have := h.1; omega), if_neg (fun h => by have := h.1; omega)]⟩
          go_wp2
          go_ret
          exact ⟨by (rw [HU.out]; try rfl), by rw [HG.out]; exact HB.out⟩
      · go_upto_region 9 with (first | (go_at_call 101; refine (theory_ok p s hl2 e.f3 _ HR.out).mono ?_; rintro r_ w4 ⟨rfl, hb⟩; rw [hti.out]; have n2_ := Aside0.mk (HR.out.below hb); clear HR; have HR := n2_; clear n2_; have n3_ := Aside0.mk ((hb.block g (blk_lt HE.out)).trans HE.out); clear HE; have HE := n3_; clear n3_; have n1_ := Aside0.mk (HB.out.trans (hb.mono (HG.out ▸ HB.out.size))); clear HB y3 y4 y5; have HB := n1_; clear n1_ hb))
        have y3 : w4.cell? ⟨g, 3, none⟩ = some (.int .i64 e.f2) := (cells_at HE.out 3).trans rfl
        rcases hr with rfl | ⟨j, hj, rfl, hjk⟩
        · have HU : Aside0 (targetP s e = 5) := ⟨by rw [HT.out, if_pos (by omega)]⟩
          go_wp2
          go_ret
          exact ⟨by (rw [HU.out]; try rfl), by rw [HG.out]; exact HB.out⟩
        · have hj0 : decide ((j : Int) < 0) = false := decide_eq_false (by omega)
          have hj1 : ¬ ((j : Int) < 0) := by omega
          have HT2 := Aside0.mk (HT.out.trans (if_neg hj1)); clear HT hj1
          obtain ⟨A5, k5, A6, k6, h1, h2, h3⟩ := HR.out.out
          have z7 : w4.cell? ⟨p, 7, none⟩ = some (.slice A6 s.th.length k6) := (cells_at h1 7).trans rfl
          obtain ⟨ad, ea, x0, x1, x2, x3⟩ := at_T71 h3 (j : Int) (by omega) (by omega)
          cases ea
          rw [Int.toNat_natCast] at x0 x1 x2 x3
          have q2 : decide ((j : Int) < (s.th.length : Int)) = true := decide_eq_true (by omega)
          have q3 := eq_true (show (j : Int) < (s.th.length : Int) by omega)
          have q4 := eq_true (show (0 : Int) ≤ (j : Int) by omega)
          clear h1 h2 h3
          by_cases ha : (rd_T71 s.th (j : Int)).f2 = 2
          · have HU : Aside0 (targetP s e = 0) := ⟨by rw [HT2.out, if_neg (fun h => by have := h.1; omega), if_neg (fun h => h.2 ha)]⟩
            go_wp2
            go_ret
            exact ⟨by (rw [HU.out]; try rfl), by rw [HG.out]; exact HB.out⟩
          · have HU : Aside0 (targetP s e = 7) := ⟨by rw [HT2.out, if_neg (fun h => by have := h.1; omega), if_pos ⟨kk, ha⟩]⟩
            have ha1 : decide ((rd_T71 s.th (j : Int)).f2 = 2) = false := decide_eq_false ha
            have ha2 : ((rd_T71 s.th (j : Int)).f2 == 2) = false := by simpa using ha1
            go_wp2
            go_ret
            exact ⟨by (rw [HU.out]; try rfl), by rw [HG.out]; exact HB.out⟩
    · have n4 : ¬ e.f2 = 4 := fun h => kk (.inl h)
      have n5 : ¬ e.f2 = 5 := fun h => kk (.inr (.inl h))
      have n7 : ¬ e.f2 = 7 := fun h => kk (.inr (.inr h))
      have HT : Aside0 (targetP s e = 0) := ⟨by unfold targetP; rw [if_neg k6_, if_neg kk]⟩
      have y3 : w1.cell? ⟨g, 3, none⟩ = some (.int .i64 e.f2) := (cells_at HE.out 3).trans rfl
      have m6a : decide (e.f2 = 6) = false := decide_eq_false (by assumption)
      have m6b : (e.f2 == 6) = false := by simpa using m6a
      have m4a : decide (e.f2 = 4) = false := decide_eq_false (by assumption)
      have m4b : (e.f2 == 4) = false := by simpa using m4a
      have m5a : decide (e.f2 = 5) = false := decide_eq_false (by assumption)
      have m5b : (e.f2 == 5) = false := by simpa using m5a
      have m7a : decide (e.f2 = 7) = false := decide_eq_false (by assumption)
      have m7b : (e.f2 == 7) = false := by simpa using m7a
      go_wp2
      go_ret
      exact ⟨by (rw [HT.out]; try rfl), by rw [HG.out]; exact HB.out⟩

end Go.Proofs.YtcjfgejiknlpfaaGreat.PI
