/- What is read of a state: person, role, theory. -/
import Derived.Test.YtcjfgejiknlpfaaGreatJ2
namespace Go.Proofs.YtcjfgejiknlpfaaGreat.PI
open Go.RowKit Go.Proofs.YtcjfgejiknlpfaaGreatW.PrintWords Go.Proofs.YtcjfgejiknlpfaaGreatW.PrintLast Go.Proofs.YtcjfgejiknlpfaaGreatW.PrintMore Go.Proofs.YtcjfgejiknlpfaaGreat.Sep
set_option linter.unusedVariables false
set_option linter.unusedSimpArgs false
set_option maxHeartbeats 8000000
set_option maxRecDepth 100000
/-- A state in block p, its people and its theories in rows. -/
structure RdSt (p : Nat) (s : PS) (w : World) : Prop where
  mk :: (out : ∃ A5 k5 A6 k6, w.heap[p]? = some (.cells #[(.int .i64 s.st), (.string s.ti), (.int .i64 s.op), (.int .i64 s.en), (.string s.ca.f0), (.int .i64 s.ca.f1), (.slice A5 s.pe.length k5), (.slice A6 s.th.length k6), (.int .i64 s.no)] 37 (0, 0)) ∧ Kd.C k69 w A5 s.pe.length s.pe ∧ Kd.C k71 w A6 s.th.length s.th)
theorem RdSt.below {p : Nat} {s : PS} {w w1 : World} (h : RdSt p s w) (hb : Below w.heap.size w w1) : RdSt p s w1 := by
  obtain ⟨A5, k5, A6, k6, h1, h2, h3⟩ := h.out
  exact ⟨A5, k5, A6, k6, (hb.block p (blk_lt h1)).trans h1, Kd.C_below h2 hb, Kd.C_below h3 hb⟩

theorem person1_ok (x : S69) (nm : ByteArray) (w : World) : Calls Tryz.prog 126 #[.agg #[.string x.f0, .int .i64 x.f1], .string nm] w fun e w' => e = .returned (.int .i64 (bcmp x.f0 nm)) ∧ Below w.heap.size w w' := by
  go_enter Tryz.func126, Tryz.ntmps126
  go_upto_region 1 with (fail)
  have HB := Aside0.mk ((Below.refl w.heap.size w).alloc (Nat.le_refl _) (.cells #[.string x.f0, .int .i64 x.f1] 69))
  have y0 := cells_at (new_cells w #[.string x.f0, .int .i64 x.f1] 69) 0
  simp only [List.getElem?_toArray, List.getElem?_cons_zero] at y0
  generalize w.alloc (.cells #[.string x.f0, .int .i64 x.f1] 69) = w1 at HB y0 ⊢
  go_wp2_with (first | (go_at_call 64; refine (cmp_Compare_string.calls _ _ _ _ (cs_ok x.f0 nm)).mono ?_; rintro e w2 ⟨rfl, hb0⟩; have hb := hb0.below; have n1_ := Aside0.mk (below_step' HB.out HB.out.size hb); clear HB; have HB := n1_; clear n1_ hb hb0))
  go_ret
  exact ⟨rfl, HB.out⟩

theorem bsp_ok (A : Option Addr) (c : Nat) (l : List S69) (hl : l.length ≤ 1000000) (nm : ByteArray) (hI : IncP l) (w : World) (hc : Kd.C k69 w A l.length l) :
    Calls Tryz.prog 125 #[.slice A l.length c, .string nm, .func (.func 126) #[] #[]] w fun e w' => e = .returned (.tuple #[.int .i64 (plcP nm l : Nat), .bool (hitP nm l)]) ∧ Below w.heap.size w w' := by
  have hi := plcP_le nm l
  have HLO := Aside0.mk (plcP_lo nm l)
  have HHI := Aside0.mk (plcP_hi nm l hI)
  have HH := Aside0.mk (show hitP nm l = (decide (plcP nm l < l.length) && (bcmp (rd_T69 l (plcP nm l : Nat)).f0 nm == 0)) from rfl)
  generalize hitP nm l = hit at HH ⊢
  generalize plcP nm l = i at hi HLO HHI HH ⊢
  have HB := Aside0.mk (Below.refl w.heap.size w)
  have HC := Aside0.mk hc
  clear hc hI
  go_enter Tryz.func125, Tryz.ntmps125
  go_wp2
  go_loopw [9, 10] (fun v9 v10 wc => ∃ lo hi : Nat, lo ≤ i ∧ i ≤ hi ∧ hi ≤ l.length ∧ v9 = .int .i64 lo ∧ v10 = .int .i64 hi ∧ Aside0 (Below w.heap.size w wc)) (fun v9 v10 _ => (intOf v10 - intOf v9).toNat)
  case atStart => exact ⟨0, l.length, by omega, hi, Nat.le_refl _, rfl, rfl, HB⟩
  case round =>
    clear HB
    obtain ⟨lo, hi', h1, h2, h3, rfl, rfl, HB⟩ := hrel
    by_cases hlt : lo < hi'
    · have hd : decide ((lo : Int) < (hi' : Int)) = true := decide_eq_true (by omega)
      obtain ⟨m, hm⟩ : ∃ m : Int, ((lo : Int) + (hi' : Int)) / 2 = m := ⟨_, rfl⟩
      have m0 : 0 ≤ m := by omega
      have m1 : (lo : Int) ≤ m := by omega
      have m2 : m < (hi' : Int) := by omega
      have q0 := eq_true m0
      have q1 := eq_true (show m < (l.length : Int) by omega)
      have q2 := decide_eq_true (show m < (l.length : Int) by omega)
      obtain ⟨ad, e, hx0, hx1⟩ := at_T69 (Kd.C_below HC.out HB.out) m m0 (by omega)
      cases e
      obtain ⟨x, hx⟩ : ∃ x, rd_T69 l m = x := ⟨_, rfl⟩
      rw [hx] at hx0 hx1
      replace hx := Aside0.mk hx
      go_upto_region 5 with (fail)
      (try rw [hm])
      clear hm
      by_cases hk : bcmp x.f0 nm < 0
      · have hk2 := Aside0.mk hk
        have hk1 := decide_eq_true hk
        clear hk
        go_wp2_with (first | (go_at_call 126; refine (person1_ok x nm _).mono ?_; rintro e w4 ⟨rfl, hb⟩; have n1_ := Aside0.mk (below_step' HB.out HB.out.size hb); clear HB hx0 hx1; have HB := n1_; clear n1_ hb))
        go_roundw
        case rel =>
          have hk := hk2.out
          have hx := hx.out
          subst hx
          obtain ⟨M, rfl⟩ := Int.eq_ofNat_of_zero_le m0
          refine ⟨M + 1, hi', ?_, h2, h3, by go_num, rfl, HB⟩
          by_cases h : M < i
          · omega
          · have := HHI.out M (by omega) (by omega); omega
        case measure => simp [intOf]; omega
      · have hk2 := Aside0.mk hk
        have hk1 := decide_eq_false hk
        clear hk
        go_wp2_with (first | (go_at_call 126; refine (person1_ok x nm _).mono ?_; rintro e w4 ⟨rfl, hb⟩; have n1_ := Aside0.mk (below_step' HB.out HB.out.size hb); clear HB hx0 hx1; have HB := n1_; clear n1_ hb))
        go_roundw
        case rel =>
          have hk := hk2.out
          have hx := hx.out
          subst hx
          obtain ⟨M, rfl⟩ := Int.eq_ofNat_of_zero_le m0
          refine ⟨lo, M, h1, ?_, by omega, rfl, rfl, HB⟩
          by_cases h : M < i
          · have := HLO.out M h; omega
          · omega
        case measure => simp [intOf]; omega
    · obtain rfl : i = lo := by omega
      obtain rfl : i = hi' := by omega
      have hd : decide ((i : Int) < (i : Int)) = false := decide_eq_false (by omega)
      by_cases hin : i < l.length
      · have q0 := eq_true (show (0 : Int) ≤ (i : Int) by omega)
        have q2 : decide ((i : Int) < (l.length : Int)) = true := decide_eq_true (by omega)
        have q3 : decide (i < l.length) = true := decide_eq_true hin
        obtain ⟨ad, e, hx0, hx1⟩ := at_T69 (Kd.C_below HC.out HB.out) (i : Int) (by omega) (by omega)
        cases e
        rw [Int.toNat_natCast] at hx0 hx1
        generalize rd_T69 l (i : Int) = x at hx0 hx1 HH
        go_upto_region 8 with (fail)
        go_wp2_with (first | (go_at_call 126; refine (person1_ok x nm _).mono ?_; rintro e w4 ⟨rfl, hb⟩; have n1_ := Aside0.mk (below_step' HB.out HB.out.size hb); clear HB hx0 hx1; have HB := n1_; clear n1_ hb))
        go_ret2
        exact ⟨by simp [q3, HH.out], HB.out⟩
      · have q2 : decide ((i : Int) < (l.length : Int)) = false := decide_eq_false (by omega)
        have q3 : decide (i < l.length) = false := decide_eq_false hin
        go_upto_region 8 with (fail)
        go_wp2
        go_ret2
        exact ⟨by simp [q3, HH.out], HB.out⟩

theorem person_ok (p : Nat) (s : PS) (hl : s.pe.length ≤ 1000000) (nm : ByteArray) (hI : IncP s.pe) (w : World) (hs : RdSt p s w) :
    Calls Tryz.prog 119 #[.pointer (some ⟨p, 0, none⟩), .string nm] w fun e w' => e = .returned (.tuple #[.int .i64 (plcP nm s.pe : Nat), .bool (hitP nm s.pe)]) ∧ Below w.heap.size w w' := by
  obtain ⟨A5, k5, A6, k6, h1, h2, h3⟩ := hs.out
  have HB := Aside0.mk (Below.refl w.heap.size w)
  have hc6 : w.cell? ⟨p, 6, none⟩ = some (.slice A5 s.pe.length k5) := (blk_cell h1 6).trans rfl
  clear h1 hs h3
  go_enter Tryz.func119, Tryz.ntmps119
  go_wp2_with (first | (go_at_call 125; refine (bsp_ok A5 k5 s.pe hl nm hI _ h2).mono ?_; rintro e w4 ⟨rfl, hb⟩; have n1_ := Aside0.mk (below_step' HB.out HB.out.size hb); clear HB; have HB := n1_; clear n1_ hb))
  go_ret2
  exact ⟨rfl, HB.out⟩

theorem role_ok (p : Nat) (s : PS) (hl : s.pe.length ≤ 1000000) (nm : ByteArray) (hI : IncP s.pe) (w : World) (hs : RdSt p s w) :
    Calls Tryz.prog 107 #[.pointer (some ⟨p, 0, none⟩), .string nm] w fun e w' => e = .returned (.int .i64 (roleP nm s.pe)) ∧ Below w.heap.size w w' := by
  have HB := Aside0.mk (Below.refl w.heap.size w)
  have HR := Aside0.mk hs
  clear hs
  go_enter Tryz.func107, Tryz.ntmps107
  go_upto_region 2 with (first | (go_at_call 119; refine (person_ok p s hl nm hI _ HR.out).mono ?_; rintro e w4 ⟨rfl, hb⟩; have n2_ := Aside0.mk (HR.out.below hb); clear HR; have HR := n2_; clear n2_; have n1_ := Aside0.mk (below_step' HB.out HB.out.size hb); clear HB; have HB := n1_; clear n1_ hb))
  obtain ⟨A5, k5, A6, k6, h1, h2, h3⟩ := HR.out.out
  have hc6 : w4.cell? ⟨p, 6, none⟩ = some (.slice A5 s.pe.length k5) := (blk_cell h1 6).trans rfl
  generalize hh : hitP nm s.pe = hit
  cases hit with
  | true =>
    have hd : plcP nm s.pe < s.pe.length := by
      have hh := hh
      unfold hitP at hh
      simp only [Bool.and_eq_true, decide_eq_true_eq] at hh
      exact hh.1
    obtain ⟨ad, e, hx0, hx1⟩ := at_T69 h2 (plcP nm s.pe : Nat) (by omega) (by omega)
    cases e
    rw [Int.toNat_natCast] at hx0 hx1
    have hr : roleP nm s.pe = (rd_T69 s.pe (plcP nm s.pe : Nat)).f1 := by unfold roleP; rw [if_pos hh]
    replace hr := Aside0.mk hr
    have q2 : decide ((plcP nm s.pe : Int) < (s.pe.length : Int)) = true := decide_eq_true (by omega)
    have q3 := eq_true (show (plcP nm s.pe : Int) < (s.pe.length : Int) by omega)
    clear h1 h2 h3 hh
    go_wp2
    go_ret
    exact ⟨by (rw [hr.out]; try rfl), HB.out⟩
  | false =>
    have hr : roleP nm s.pe = 1 := by unfold roleP; rw [if_neg (by rw [hh]; simp)]
    replace hr := Aside0.mk hr
    clear h1 h2 h3 hh
    go_wp2
    go_ret
    exact ⟨by (rw [hr.out]; try rfl), HB.out⟩

theorem theory1_ok (x : S71) (k : S33) (B : Nat) (w : World) (hB : w.heap[B]? = some (.cells #[.string k.f0, .int .i64 k.f1] 33 (0, 0))) :
    Calls Tryz.prog 122 #[.agg #[.string x.f0.f0, .int .i64 x.f0.f1, .string x.f1, .int .i64 x.f2], .pointer (some ⟨B, 0, none⟩)] w fun e w' => e = .returned (.bool (decide (x.f0 = k))) ∧ Below w.heap.size w w' := by
  go_enter Tryz.func122, Tryz.ntmps122
  go_upto_region 1 with (fail)
  have hb : Below w.heap.size w (w.alloc (.cells #[.string x.f0.f0, .int .i64 x.f0.f1, .string x.f1, .int .i64 x.f2] 71)) := (Below.refl w.heap.size w).alloc (Nat.le_refl _) _
  have hk := (hb.block B (blk_lt hB)).trans hB
  have y0 := cells_at (new_cells w #[.string x.f0.f0, .int .i64 x.f0.f1, .string x.f1, .int .i64 x.f2] 71) 0
  have y1 := cells_at (new_cells w #[.string x.f0.f0, .int .i64 x.f0.f1, .string x.f1, .int .i64 x.f2] 71) 1
  have z0 := cells_at hk 0
  have z1 := cells_at hk 1
  simp only [List.getElem?_toArray, List.getElem?_cons_zero, List.getElem?_cons_succ] at y0 y1 z0 z1
  clear hk
  have HB := Aside0.mk hb
  clear hb
  generalize w.alloc (.cells #[.string x.f0.f0, .int .i64 x.f0.f1, .string x.f1, .int .i64 x.f2] 71) = w1 at HB y0 y1 z0 z1 ⊢
  by_cases h0 : x.f0.f0.toList = k.f0.toList
  · by_cases h1 : x.f0.f1 = k.f1
    · have e : x.f0 = k := by
        obtain ⟨⟨a, b⟩, _, _⟩ := x
        obtain ⟨c, d⟩ := k
        simp only at h0 h1
        rw [bytes_ext _ _ h0, h1]
      have hd : Aside0 (decide (x.f0 = k) = true) := ⟨decide_eq_true e⟩
      clear e
      go_wp2
      go_ret
      exact ⟨by (rw [hd.out]; try rfl), HB.out⟩
    · have hd : Aside0 (decide (x.f0 = k) = false) := ⟨decide_eq_false (fun e => h1 (by rw [e]))⟩
      go_wp2
      go_ret
      exact ⟨by (rw [hd.out]; try rfl), HB.out⟩
  · have hd : Aside0 (decide (x.f0 = k) = false) := ⟨decide_eq_false (fun e => h0 (by rw [e]))⟩
    go_wp2
    go_ret
    exact ⟨by (rw [hd.out]; try rfl), HB.out⟩

theorem indexT_ok (A : Option Addr) (c : Nat) (l : List S71) (hl : l.length ≤ 1000000) (k : S33) (B : Nat) (w : World) (hB : w.heap[B]? = some (.cells #[.string k.f0, .int .i64 k.f1] 33 (0, 0))) (hc : Kd.C k71 w A l.length l) :
    Calls Tryz.prog 121 #[.slice A l.length c, .func (.func 122) #[] #[.pointer (some ⟨B, 0, none⟩)]] w fun e w' => e = .returned (.int .i64 (thIx k l)) ∧ Below w.heap.size w w' := by
  have HB := Aside0.mk (Below.refl w.heap.size w)
  have HC := Aside0.mk hc
  have HK := Aside0.mk hB
  clear hc hB
  go_enter Tryz.func121, Tryz.ntmps121
  go_wp2
  go_loopw [8] (fun v8 wc => ∃ i : Nat, i ≤ l.length ∧ v8 = .int .i64 i ∧ Aside0 (∀ m : Nat, m < i → (rd_T71 l m).f0 ≠ k) ∧ Aside0 (wc.heap[B]? = some (.cells #[.string k.f0, .int .i64 k.f1] 33 (0, 0))) ∧ Aside0 (Below w.heap.size w wc)) (fun v8 _ => l.length - (intOf v8).toNat)
  case atStart => exact ⟨0, Nat.zero_le _, rfl, ⟨fun m hm => absurd hm (Nat.not_lt_zero _)⟩, HK, HB⟩
  case round =>
    clear HB HK
    obtain ⟨i, hi, rfl, HM, HK, HB⟩ := hrel
    by_cases hlt : i < l.length
    · have q0 : decide ((i : Int) < (l.length : Int)) = true := decide_eq_true (by omega)
      have q1 := eq_true (show (i : Int) < (l.length : Int) by omega)
      have q2 := eq_true (show (0 : Int) ≤ (i : Int) by omega)
      obtain ⟨ad, e, x0, x1, x2, x3⟩ := at_T71 (Kd.C_below HC.out HB.out) (i : Int) (by omega) (by omega)
      cases e
      rw [Int.toNat_natCast] at x0 x1 x2 x3
      obtain ⟨x, hx⟩ : ∃ x, rd_T71 l (i : Int) = x := ⟨_, rfl⟩
      rw [hx] at x0 x1 x2 x3
      replace hx := Aside0.mk hx
      by_cases he : x.f0 = k
      · have hd : decide (x.f0 = k) = true := decide_eq_true he
        have hr : Aside0 (thIx k l = (i : Int)) := ⟨thIx_hit hlt HM.out (by rw [hx.out]; exact he)⟩
        clear he
        go_wp2_with (first | (go_at_call 122; refine (theory1_ok x k B _ HK.out).mono ?_; rintro e w4 ⟨rfl, hb⟩; have n2_ := Aside0.mk ((hb.block B (blk_lt HK.out)).trans HK.out); clear HK; have HK := n2_; clear n2_; have n1_ := Aside0.mk (below_step' HB.out HB.out.size hb); clear HB; have HB := n1_; clear n1_ hb))
        go_ret
        exact ⟨by (rw [hr.out]; try rfl), HB.out⟩
      · have hd : decide (x.f0 = k) = false := decide_eq_false he
        replace he := Aside0.mk he
        go_wp2_with (first | (go_at_call 122; refine (theory1_ok x k B _ HK.out).mono ?_; rintro e w4 ⟨rfl, hb⟩; have n2_ := Aside0.mk ((hb.block B (blk_lt HK.out)).trans HK.out); clear HK; have HK := n2_; clear n2_; have n1_ := Aside0.mk (below_step' HB.out HB.out.size hb); clear HB; have HB := n1_; clear n1_ hb))
        go_roundw
        case rel =>
          refine ⟨i + 1, by omega, by go_num, ⟨fun m hm => ?_⟩, HK, HB⟩
          by_cases h : m < i
          · exact HM.out m h
          · obtain rfl : m = i := by omega
            rw [hx.out]; exact he.out
        case measure => simp [intOf]; omega
    · obtain rfl : i = l.length := by omega
      have q0 : decide ((l.length : Int) < (l.length : Int)) = false := decide_eq_false (by omega)
      have hr : Aside0 (thIx k l = -1) := ⟨thIx_none HM.out⟩
      go_wp2
      go_ret
      exact ⟨by (rw [hr.out]; try rfl), HB.out⟩

theorem theory_ok (p : Nat) (s : PS) (hl : s.th.length ≤ 1000000) (k : S33) (w : World) (hs : RdSt p s w) :
    Calls Tryz.prog 101 #[.pointer (some ⟨p, 0, none⟩), .agg #[.string k.f0, .int .i64 k.f1]] w fun e w' => e = .returned (.int .i64 (thIx k s.th)) ∧ Below w.heap.size w w' := by
  go_enter Tryz.func101, Tryz.ntmps101
  go_upto_region 1 with (fail)
  have hb : Below w.heap.size w (w.alloc (.cells #[.string k.f0, .int .i64 k.f1] 33)) := (Below.refl w.heap.size w).alloc (Nat.le_refl _) _
  have hs1 := hs.below hb
  have hk := new_cells w #[.string k.f0, .int .i64 k.f1] 33
  generalize hg : w.heap.size = g at hk ⊢
  have HG := Aside0.mk hg
  rw [hg] at hb
  generalize w.alloc (.cells #[.string k.f0, .int .i64 k.f1] 33) = w1 at hb hs1 hk ⊢
  have HB := Aside0.mk hb
  clear hs hb hg
  obtain ⟨A5, k5, A6, k6, h1, h2, h3⟩ := hs1.out
  have hc7 : w1.cell? ⟨p, 7, none⟩ = some (.slice A6 s.th.length k6) := (blk_cell h1 7).trans rfl
  clear h1 h2 hs1
  go_wp2_with (first | (go_at_call 121; refine (indexT_ok A6 k6 s.th hl k g _ hk h3).mono ?_; rintro e w4 ⟨rfl, hb⟩; have n1_ := Aside0.mk (HB.out.trans (hb.mono (HG.out ▸ HB.out.size))); clear HB; have HB := n1_; clear n1_ hb))
  go_ret
  exact ⟨rfl, by rw [HG.out]; exact HB.out⟩

end Go.Proofs.YtcjfgejiknlpfaaGreat.PI
