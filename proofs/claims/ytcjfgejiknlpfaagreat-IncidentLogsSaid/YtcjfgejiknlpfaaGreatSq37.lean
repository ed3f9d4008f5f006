/- What is asked of a log: Events, State, At. -/
import Derived.Test.YtcjfgejiknlpfaaGreatJ2
import Derived.Test.YtcjfgejiknlpfaaGreatSq36
import Derived.Test.YtcjfgejiknlpfaaGreatSq15
import Derived.Test.YtcjfgejiknlpfaaGreatJ1
namespace Go.Proofs.YtcjfgejiknlpfaaGreat.PI
open Go.RowKit Go.Proofs.YtcjfgejiknlpfaaGreatW.PrintWords Go.Proofs.YtcjfgejiknlpfaaGreatW.PrintLast Go.Proofs.YtcjfgejiknlpfaaGreatW.PrintMore Go.Proofs.YtcjfgejiknlpfaaGreat.Sep
set_option linter.unusedVariables false
set_option linter.unusedSimpArgs false
set_option maxHeartbeats 8000000
set_option maxRecDepth 100000

theorem at1_ok (x : S50) (t : Int) (tb : Nat) {N : Nat} {w : World} {L : List Res} (HS0 : St N w (Blk tb #[.int .i64 t] 3 :: L)) :
    Calls Tryz.prog 43 #[.agg #[.string x.f0.f0, .int .i64 x.f0.f1, .int .i64 x.f1, .int .i64 x.f2, .string x.f3.f0, .int .i64 x.f3.f1, .string x.f4, .int .i64 x.f5, .string x.f6], .pointer (some ⟨tb, 0, none⟩)] w fun e w' => e = .returned (.bool (decide (t < x.f1))) ∧ Below w.heap.size w w' := by
  have HS := Aside0.mk (show St w.heap.size w [] from St.none_ (Nat.le_refl _))
  have HB := Aside0.mk (Below.refl w.heap.size w)
  have HT := Aside0.mk (HS0.cell 0)
  have HL := Aside0.mk (blk_lt HS0.blk)
  clear HS0
  go_enter Tryz.func43, Tryz.ntmps43
  go_upto_region 1 with (first | ((with_reducible refine gate_dst (N := 2) rfl ?_); refine box_event ?hg (N := 2) ?hd (cs := #[.string x.f0.f0, .int .i64 x.f0.f1, .int .i64 x.f1, .int .i64 x.f2, .string x.f3.f0, .int .i64 x.f3.f1, .string x.f4, .int .i64 x.f5, .string x.f6]) (t := 50) ?hr ?_; (case hd => rfl); (case hg => rfl); (case hr => first | (go_simp; done) | (go_simp; rfl)); intro gx hg w1 hbox hb; have n0_ := Aside0.mk (HS.out.box hg hbox hb); have n1_ := Aside0.mk (below_step' HB.out HS.out.size hb); clear HS HB; have HS := n0_; have HB := n1_; clear n0_ n1_; (try simp only [List.eraseIdx_cons_succ, List.eraseIdx_cons_zero] at HS); clear hb hbox hg))
  have y2 : w1.cell? ⟨gx, 2, none⟩ = some (.int .i64 x.f1) := (HS.out.cell 2).trans rfl
  have z0 : w1.cell? ⟨tb, 0, none⟩ = some (.int .i64 t) := (HB.out.cell HL.out).trans (HT.out.trans rfl)
  go_wp2
  go_ret
  exact ⟨rfl, HB.out⟩

theorem indexL_ok (t : Int) (tb : Nat) (A : Option Addr) (c : Nat) (l : List S50) (hl : l.length ≤ 100000) {N : Nat} {w : World} {L : List Res} (HS0 : St N w (Row k50 50 (.slice A l.length c) l :: Blk tb #[.int .i64 t] 3 :: L)) :
    Calls Tryz.prog 67 #[.slice A l.length c, .func (.func 43) #[] #[.pointer (some ⟨tb, 0, none⟩)]] w fun e w' => ((∃ i : Nat, i < l.length ∧ e = .returned (.int .i64 i) ∧ (∀ m : Nat, m < i → ¬ t < (rd_T50 l (m : Int)).f1) ∧ t < (rd_T50 l (i : Int)).f1) ∨ (e = .returned (.int .i64 (-1)) ∧ ∀ m : Nat, m < l.length → ¬ t < (rd_T50 l (m : Int)).f1)) ∧ St N w' (Row k50 50 (.slice A l.length c) l :: Blk tb #[.int .i64 t] 3 :: L) ∧ Below N w w' := by
  have HS := Aside0.mk HS0
  have HB := Aside0.mk (Below.refl N w)
  clear HS0
  go_enter Tryz.func67, Tryz.ntmps67
  go_upto_region 2 with (fail)
  go_loopw [8] (fun v8 wr => ∃ i : Nat, i ≤ l.length ∧ v8 = .int .i64 i ∧ Aside0 (∀ m : Nat, m < i → ¬ t < (rd_T50 l (m : Int)).f1) ∧ Aside0 (St N wr (Row k50 50 (.slice A l.length c) l :: Blk tb #[.int .i64 t] 3 :: L)) ∧ Aside0 (Below N w wr)) (fun v8 _ => l.length - (intOf v8).toNat)
  case atStart => exact ⟨0, Nat.zero_le _, rfl, ⟨fun m hm => absurd hm (Nat.not_lt_zero _)⟩, HS, HB⟩
  case round =>
    clear HS HB
    obtain ⟨i, hi, rfl, HM, HS, HB⟩ := hrel
    by_cases hlt : i < l.length
    · have q0 : decide ((i : Int) < (l.length : Int)) = true := decide_eq_true (by omega)
      have q1 := eq_true (show (i : Int) < (l.length : Int) by omega)
      have q2 := eq_true (show (0 : Int) ≤ (i : Int) by omega)
      have hw : IntKind.i64.wrap ((i : Int) + 1) = (i : Int) + 1 := by rw [IntKind.wrap_i64]; omega
      obtain ⟨ad, e, x0, x1, x2, x3, x4, x5, x6, x7, x8⟩ := at_T50 (HS.out.pick 0 rfl).rowC.2.2 (i : Int) (by omega) (by omega)
      cases e
      rw [Int.toNat_natCast] at x0 x1 x2 x3 x4 x5 x6 x7 x8
      obtain ⟨x, hx⟩ : ∃ x, rd_T50 l (i : Int) = x := ⟨_, rfl⟩
      rw [hx] at x0 x1 x2 x3 x4 x5 x6 x7 x8
      replace hx := Aside0.mk hx
      by_cases he : t < x.f1
      · have hd : Aside0 (decide (t < x.f1) = true) := ⟨decide_eq_true he⟩
        replace he := Aside0.mk he
        go_wp2_with (first | ((with_reducible refine gate_dst (N := 16) rfl ?_); refine goesVL_ (some 16) rfl rfl #[.pointer (some ⟨tb, 0, none⟩)] Tryz.func43 (by kernel_rfl) rfl #[.agg #[.string x.f0.f0, .int .i64 x.f0.f1, .int .i64 x.f1, .int .i64 x.f2, .string x.f3.f0, .int .i64 x.f3.f1, .string x.f4, .int .i64 x.f5, .string x.f6], .pointer (some ⟨tb, 0, none⟩)] rfl rfl (by (try simp only [List.map_toArray, List.map_cons, List.map_nil]); first | done | rfl | (simp; done)) ?_; (with_reducible refine (at1_ok x t tb HS.out.swap).mono ?_); rintro r_ w4 ⟨rfl, hb⟩; rw [hd.out]; refine ⟨_, rfl, ?_⟩; have n0_ := Aside0.mk (HS.out.step hb); have n1_ := Aside0.mk (below_step' HB.out HS.out.size hb); clear HS HB; have HS := n0_; have HB := n1_; clear n0_ n1_; (try simp only [List.eraseIdx_cons_succ, List.eraseIdx_cons_zero] at HS); clear hb x0 x1 x2 x3 x4 x5 x6 x7 x8))
        go_ret
        exact ⟨.inl ⟨i, hlt, rfl, HM.out, by rw [hx.out]; exact he.out⟩, HS.out, HB.out⟩
      · have hd : Aside0 (decide (t < x.f1) = false) := ⟨decide_eq_false he⟩
        replace he := Aside0.mk he
        go_wp2_with (first | ((with_reducible refine gate_dst (N := 16) rfl ?_); refine goesVL_ (some 16) rfl rfl #[.pointer (some ⟨tb, 0, none⟩)] Tryz.func43 (by kernel_rfl) rfl #[.agg #[.string x.f0.f0, .int .i64 x.f0.f1, .int .i64 x.f1, .int .i64 x.f2, .string x.f3.f0, .int .i64 x.f3.f1, .string x.f4, .int .i64 x.f5, .string x.f6], .pointer (some ⟨tb, 0, none⟩)] rfl rfl (by (try simp only [List.map_toArray, List.map_cons, List.map_nil]); first | done | rfl | (simp; done)) ?_; (with_reducible refine (at1_ok x t tb HS.out.swap).mono ?_); rintro r_ w4 ⟨rfl, hb⟩; rw [hd.out]; refine ⟨_, rfl, ?_⟩; have n0_ := Aside0.mk (HS.out.step hb); have n1_ := Aside0.mk (below_step' HB.out HS.out.size hb); clear HS HB; have HS := n0_; have HB := n1_; clear n0_ n1_; (try simp only [List.eraseIdx_cons_succ, List.eraseIdx_cons_zero] at HS); clear hb x0 x1 x2 x3 x4 x5 x6 x7 x8))
        go_roundw
        case rel =>
          refine ⟨i + 1, by omega, by go_num, ⟨fun m hm => ?_⟩, HS, HB⟩
          by_cases h : m < i
          · exact HM.out m h
          · obtain rfl : m = i := by omega
            rw [hx.out]; have := he.out; omega
        case measure => simp [intOf]; omega
    · obtain rfl : i = l.length := by omega
      have q0 : decide ((l.length : Int) < (l.length : Int)) = false := decide_eq_false (by omega)
      go_wp2
      go_ret
      exact ⟨.inr ⟨rfl, HM.out⟩, HS.out, HB.out⟩

/-- Not later than t. -/
def upTo (t : Int) (l : List S50) : List S50 := l.filter fun x => !decide (t < x.f1)
theorem upTo_none {t : Int} {l : List S50} (h : ∀ m : Nat, m < l.length → ¬ t < (rd_T50 l (m : Int)).f1) : upTo t l = l := by
  unfold upTo
  rw [List.filter_eq_self]
  intro x hx
  obtain ⟨m, hm, rfl⟩ := List.mem_iff_getElem.mp hx
  have := h m hm
  rw [rd27_at l m hm] at this
  simpa using this
theorem upTo_take {t : Int} {l : List S50} {i : Nat} (hi : i < l.length) (h : ∀ m : Nat, m < i → ¬ t < (rd_T50 l (m : Int)).f1) : upTo t (l.take i) = l.take i := upTo_none fun m hm => by
  rw [List.length_take] at hm
  have h2 := h m (by omega)
  rw [rd27_at l m (by omega)] at h2
  rw [rd27_at _ m (by rw [List.length_take]; omega), List.getElem_take]
  exact h2
theorem upTo_late {t : Int} {l : List S50} {j : Nat} (hj : j < l.length) (h : t < (rd_T50 l (j : Int)).f1) : upTo t (l.take (j + 1)) = upTo t (l.take j) := by
  unfold upTo
  rw [take_rd l j hj, List.filter_append]
  simp [h]
theorem upTo_in {t : Int} {l : List S50} {j : Nat} (hj : j < l.length) (h : ¬ t < (rd_T50 l (j : Int)).f1) : upTo t (l.take (j + 1)) = upTo t (l.take j) ++ [rd_T50 l (j : Int)] := by
  unfold upTo
  rw [take_rd l j hj, List.filter_append]
  simp [h]
theorem delete_great (t : Int) (tb : Nat) (l : List S50) (hl : l.length ≤ 100000) (g cap : Nat) {N : Nat} {w : World} {L : List Res} (HS0 : St N w (Row k50 50 (.slice (some ⟨g, 0, none⟩) l.length cap) l :: Blk tb #[.int .i64 t] 3 :: L)) :
    Calls Tryz.prog 42 #[.slice (some ⟨g, 0, none⟩) l.length cap, .func (.func 43) #[] #[.pointer (some ⟨tb, 0, none⟩)]] w fun e w' => ∃ v', e = .returned v' ∧ St N w' (Row k50 50 v' (upTo t l) :: Blk tb #[.int .i64 t] 3 :: L) ∧ Below N w w' := by
  have HS := Aside0.mk HS0
  have HB := Aside0.mk (Below.refl N w)
  have hl0 := Aside0.mk hl
  have hlc := Aside0.mk HS.out.rowC.2.1
  clear HS0
  go_enter Tryz.func42, Tryz.ntmps42
  go_upto_region 2 with (first | (go_at_call 67; (with_reducible refine (indexL_ok t tb (some ⟨g, 0, none⟩) cap l hl0.out HS.out).mono ?_); rintro r_ w1 ⟨hor, hs, hb⟩; have n0_ := Aside0.mk (hs); have n1_ := Aside0.mk (HB.out.trans hb); clear HS HB; have HS := n0_; have HB := n1_; clear n0_ n1_; (try simp only [List.eraseIdx_cons_succ, List.eraseIdx_cons_zero] at HS); clear hs hb; rcases hor with ⟨i, hi, rfl, hno, hyes⟩ | ⟨rfl, hno⟩))
  · have hno := Aside0.mk hno
    have hyes := Aside0.mk hyes
    have q0 : ((i : Int) == -1) = false := (by simp)
    have q1 : decide ((i : Int) = -1) = false := decide_eq_false (by omega)
    have q2 : IntKind.i64.wrap ((i : Int) + 1) = (i : Int) + 1 := by rw [IntKind.wrap_i64]; omega
    go_upto_region 5 with (fail)
    clear q0 q1 q2
    go_loopw [5, 6] (fun v5 v6 wr => ∃ (m j : Nat) (xs : List S50), m < j ∧ j ≤ l.length ∧ v5 = .int .i64 m ∧ v6 = .int .i64 j ∧ Aside0 (xs.length = l.length ∧ upTo t (l.take j) = xs.take m ∧ ∀ r : Nat, j ≤ r → r < l.length → rd_T50 xs (r : Int) = rd_T50 l (r : Int)) ∧ Aside0 (St N wr (Row k50 50 (.slice (some ⟨g, 0, none⟩) l.length cap) xs :: Blk tb #[.int .i64 t] 3 :: L)) ∧ Aside0 (Below N w wr)) (fun _ v6 _ => l.length - (intOf v6).toNat)
    case atStart => exact ⟨i, i + 1, l, Nat.lt_succ_self _, hi, rfl, by go_num, ⟨rfl, by rw [upTo_late hi hyes.out, upTo_take hi (fun m hm => by have := hno.out m hm; omega)], fun _ _ _ => rfl⟩, HS, HB⟩
    case round =>
      clear HS HB
      obtain ⟨m, j, xs, hmj, hj, rfl, rfl, HX, HS, HB⟩ := hrel
      by_cases hlt : j < l.length
      · have q0 : decide ((j : Int) < (l.length : Int)) = true := decide_eq_true (by omega)
        have q1 := eq_true (show (j : Int) < (l.length : Int) by omega)
        have q2 := eq_true (show (0 : Int) ≤ (j : Int) by omega)
        have q3 := eq_true (show (m : Int) < (l.length : Int) by omega)
        have q4 := eq_true (show (0 : Int) ≤ (m : Int) by omega)
        have hw : IntKind.i64.wrap ((j : Int) + 1) = (j : Int) + 1 := by rw [IntKind.wrap_i64]; omega
        have hw2 : IntKind.i64.wrap ((m : Int) + 1) = (m : Int) + 1 := by rw [IntKind.wrap_i64]; omega
        have hm : Aside0 (m < xs.length) := ⟨by have := HX.out.1; omega⟩
        have hjx : j < xs.length := by have := HX.out.1; omega
        obtain ⟨x, hx0⟩ : ∃ x, rd_T50 l (j : Int) = x := ⟨_, rfl⟩
        obtain ⟨x0, x1, x2, x3, x4, x5, x6, x7, x8⟩ := evCel (HS.out.pick 0 rfl) j hjx x ((HX.out.2.2 j (Nat.le_refl _) hlt).trans hx0)
        have hx := Aside0.mk hx0
        replace hmj := Aside0.mk hmj
        clear hx0 hjx
        go_upto_region 8 with (fail)
        have hbx := HS.out.box (g := wr.heap.size) (cs := #[.string x.f0.f0, .int .i64 x.f0.f1, .int .i64 x.f1, .int .i64 x.f2, .string x.f3.f0, .int .i64 x.f3.f1, .string x.f4, .int .i64 x.f5, .string x.f6]) (t := 50) rfl (new_cells wr _ _) ((Below.refl _ _).alloc (Nat.le_refl _) _)
        have hbb := below_step' HB.out HS.out.size ((Below.refl _ _).alloc (Nat.le_refl _) (.cells #[.string x.f0.f0, .int .i64 x.f0.f1, .int .i64 x.f1, .int .i64 x.f2, .string x.f3.f0, .int .i64 x.f3.f1, .string x.f4, .int .i64 x.f5, .string x.f6] 50))
        generalize wr.heap.size = gb at hbx hbb ⊢
        generalize wr.alloc (.cells #[.string x.f0.f0, .int .i64 x.f0.f1, .int .i64 x.f1, .int .i64 x.f2, .string x.f3.f0, .int .i64 x.f3.f1, .string x.f4, .int .i64 x.f5, .string x.f6] 50) = w5 at hbx hbb ⊢
        clear x0 x1 x2 x3 x4 x5 x6 x7 x8
        have n0_ := Aside0.mk (hbx); have n1_ := Aside0.mk (hbb); clear HS HB; have HS := n0_; have HB := n1_; clear n0_ n1_; (try simp only [List.eraseIdx_cons_succ, List.eraseIdx_cons_zero] at HS)
        clear hbx hbb
        obtain ⟨y0, y1, y2, y3, y4, y5, y6, y7, y8⟩ := cells9 HS.out
        by_cases he : t < x.f1
        · have hd : Aside0 (decide (t < x.f1) = true) := ⟨decide_eq_true he⟩
          replace he := Aside0.mk he
          go_wp2_with (first | ((with_reducible refine gate_dst (N := 28) rfl ?_); refine goesVL_ (some 28) rfl rfl #[.pointer (some ⟨tb, 0, none⟩)] Tryz.func43 (by kernel_rfl) rfl #[.agg #[.string x.f0.f0, .int .i64 x.f0.f1, .int .i64 x.f1, .int .i64 x.f2, .string x.f3.f0, .int .i64 x.f3.f1, .string x.f4, .int .i64 x.f5, .string x.f6], .pointer (some ⟨tb, 0, none⟩)] rfl rfl (by (try simp only [List.map_toArray, List.map_cons, List.map_nil]); first | done | rfl | (simp; done)) ?_; (with_reducible refine (at1_ok x t tb (HS.out.pick 2 rfl)).mono ?_); rintro r_ w6 ⟨rfl, hb⟩; rw [hd.out]; refine ⟨_, rfl, ?_⟩; have n0_ := Aside0.mk (HS.out.step hb); have n1_ := Aside0.mk (below_step' HB.out HS.out.size hb); clear HS HB; have HS := n0_; have HB := n1_; clear n0_ n1_; (try simp only [List.eraseIdx_cons_succ, List.eraseIdx_cons_zero] at HS); clear hb y0 y1 y2 y3 y4 y5 y6 y7 y8; obtain ⟨y0, y1, y2, y3, y4, y5, y6, y7, y8⟩ := cells9 HS.out; obtain ⟨z0, z1, z2, z3, z4, z5, z6, z7, z8⟩ := evCel (HS.out.pick 1 rfl) m hm.out _ rfl; have f0 := row_fz (HS.out.pick 1 rfl) (m * 9); have f1 := row_fz (HS.out.pick 1 rfl) (m * 9 + 1); have f2 := row_fz (HS.out.pick 1 rfl) (m * 9 + 2); have f3 := row_fz (HS.out.pick 1 rfl) (m * 9 + 3); have f4 := row_fz (HS.out.pick 1 rfl) (m * 9 + 4); have f5 := row_fz (HS.out.pick 1 rfl) (m * 9 + 5); have f6 := row_fz (HS.out.pick 1 rfl) (m * 9 + 6); have f7 := row_fz (HS.out.pick 1 rfl) (m * 9 + 7); have f8 := row_fz (HS.out.pick 1 rfl) (m * 9 + 8)))
          go_roundw
          case rel => exact ⟨m, j + 1, xs, by have := hmj.out; omega, by omega, by go_num, by go_num, ⟨HX.out.1, by rw [upTo_late hlt (by rw [hx.out]; exact he.out)]; exact HX.out.2.1, fun r h1 h2 => HX.out.2.2 r (by omega) h2⟩, ⟨HS.out.drop⟩, HB⟩
          case measure => simp [intOf]; omega
        · have hd : Aside0 (decide (t < x.f1) = false) := ⟨decide_eq_false he⟩
          replace he := Aside0.mk he
          go_wp2_with (first | ((with_reducible refine gate_dst (N := 28) rfl ?_); refine goesVL_ (some 28) rfl rfl #[.pointer (some ⟨tb, 0, none⟩)] Tryz.func43 (by kernel_rfl) rfl #[.agg #[.string x.f0.f0, .int .i64 x.f0.f1, .int .i64 x.f1, .int .i64 x.f2, .string x.f3.f0, .int .i64 x.f3.f1, .string x.f4, .int .i64 x.f5, .string x.f6], .pointer (some ⟨tb, 0, none⟩)] rfl rfl (by (try simp only [List.map_toArray, List.map_cons, List.map_nil]); first | done | rfl | (simp; done)) ?_; (with_reducible refine (at1_ok x t tb (HS.out.pick 2 rfl)).mono ?_); rintro r_ w6 ⟨rfl, hb⟩; rw [hd.out]; refine ⟨_, rfl, ?_⟩; have n0_ := Aside0.mk (HS.out.step hb); have n1_ := Aside0.mk (below_step' HB.out HS.out.size hb); clear HS HB; have HS := n0_; have HB := n1_; clear n0_ n1_; (try simp only [List.eraseIdx_cons_succ, List.eraseIdx_cons_zero] at HS); clear hb y0 y1 y2 y3 y4 y5 y6 y7 y8; obtain ⟨y0, y1, y2, y3, y4, y5, y6, y7, y8⟩ := cells9 HS.out; obtain ⟨z0, z1, z2, z3, z4, z5, z6, z7, z8⟩ := evCel (HS.out.pick 1 rfl) m hm.out _ rfl; have f0 := row_fz (HS.out.pick 1 rfl) (m * 9); have f1 := row_fz (HS.out.pick 1 rfl) (m * 9 + 1); have f2 := row_fz (HS.out.pick 1 rfl) (m * 9 + 2); have f3 := row_fz (HS.out.pick 1 rfl) (m * 9 + 3); have f4 := row_fz (HS.out.pick 1 rfl) (m * 9 + 4); have f5 := row_fz (HS.out.pick 1 rfl) (m * 9 + 5); have f6 := row_fz (HS.out.pick 1 rfl) (m * 9 + 6); have f7 := row_fz (HS.out.pick 1 rfl) (m * 9 + 7); have f8 := row_fz (HS.out.pick 1 rfl) (m * 9 + 8)) | ((with_reducible refine gate_store (t := 50) (p := 33) rfl ?_); refine store_event (t := 50) (p := 33) (v := .tmp 32) (w1 := ?_) rfl rfl rfl ?_ ?_; rotate_left; (focus (first | (go_simp; done) | (go_simp; rfl))); intro w8 hws; have h9 := setEl x (HS.out.pick 1 rfl) hm.out HB.out hws; clear hws z0 z1 z2 z3 z4 z5 z6 z7 z8 y0 y1 y2 y3 y4 y5 y6 y7 y8 f0 f1 f2 f3 f4 f5 f6 f7 f8; have n0_ := Aside0.mk (h9.1.swap); have n1_ := Aside0.mk (h9.2); clear HS HB; have HS := n0_; have HB := n1_; clear n0_ n1_; (try simp only [List.eraseIdx_cons_succ, List.eraseIdx_cons_zero] at HS); clear h9))
          go_roundw
          case rel =>
            refine ⟨m + 1, j + 1, xs.set m x, by have := hmj.out; omega, by omega, by go_num, by go_num, ⟨by rw [List.length_set]; exact HX.out.1, ?_, fun r h1 h2 => ?_⟩, ⟨HS.out.drop⟩, HB⟩
            · rw [upTo_in hlt (by rw [hx.out]; have := he.out; omega), HX.out.2.1, hx.out, take_rd _ _ (by rw [List.length_set]; exact hm.out), rd_set27 _ _ _ _ hm.out, if_pos rfl, List.take_set_of_le (Nat.le_refl _)]
            · rw [rd_set27 _ _ _ _ hm.out, if_neg (by have := hmj.out; omega)]
              exact HX.out.2.2 r (by omega) h2
          case measure => simp [intOf]; omega
      · obtain rfl : j = l.length := by omega
        have q0 : decide ((l.length : Int) < (l.length : Int)) = false := decide_eq_false (by omega)
        have hcc := hlc.out
        have r1 := eq_true (show (m : Int) ≤ (cap : Int) by omega)
        have r2 := eq_true (show (m : Int) ≤ (l.length : Int) by omega)
        have r3 : (cap = m) = False := eq_false (by omega)
        have r4 := eq_true (show (0 : Int) ≤ (m : Int) by omega)
        have r5 := eq_true (show m ≤ l.length by omega)
        have r6 := eq_true (show m ≤ cap by omega)
        clear hcc
        go_wp2_with (first | (refine S_clear27 rfl (.tmp 38) rfl rfl g _ cap m (l.length - m) (cap - m) xs ⟨g, m * 9, none⟩ rfl (by first | rfl | (go_simp; done)) (by have := HX.out.1; omega) (by have := HX.out.1; omega) HS.out HB.out ?_; intro w7 hs hb; have n0_ := Aside0.mk (hs); have n1_ := Aside0.mk (hb); clear HS HB; have HS := n0_; have HB := n1_; clear n0_ n1_; (try simp only [List.eraseIdx_cons_succ, List.eraseIdx_cons_zero] at HS); clear hs hb))
        go_ret
        refine ⟨_, rfl, ?_, HB.out⟩
        have h7 := HX.out.2.1
        rw [List.take_length] at h7
        rw [h7]
        exact HS.out
  · go_wp2
    go_ret
    refine ⟨_, rfl, ?_, HB.out⟩
    rw [upTo_none (fun m hm => by have := hno m hm; omega)]
    exact HS.out

theorem delete_ok (t : Int) (tb : Nat) (l : List S50) (hl : l.length ≤ 100000) (v : Value) {N : Nat} {w : World} {L : List Res} (HS0 : St N w (Row k50 50 v l :: Blk tb #[.int .i64 t] 3 :: L)) :
    Calls Tryz.prog 42 #[v, .func (.func 43) #[] #[.pointer (some ⟨tb, 0, none⟩)]] w fun e w' => ∃ v', e = .returned v' ∧ St N w' (Row k50 50 v' (upTo t l) :: Blk tb #[.int .i64 t] 3 :: L) ∧ Below N w w' := by
  by_cases h0 : 0 < l.length
  · obtain ⟨g, cap, e, _⟩ := St.row_some flat50 HS0 h0
    subst e
    exact delete_great t tb l hl g cap HS0
  · obtain rfl : l = [] := List.eq_nil_of_length_eq_zero (by omega)
    obtain ⟨A, c, e, _, _⟩ := HS0.reads
    subst e
    have HS := Aside0.mk HS0
    have HB := Aside0.mk (Below.refl N w)
    clear HS0
    go_enter Tryz.func42, Tryz.ntmps42
    go_wp2_with (first | (go_at_call 67; refine (indexL_ok t tb A c [] (by decide) HS.out).mono ?_; rintro r_ w1 ⟨hor, hs, hb⟩; have n0_ := Aside0.mk (hs); have n1_ := Aside0.mk (HB.out.trans hb); clear HS HB; have HS := n0_; have HB := n1_; clear n0_ n1_; (try simp only [List.eraseIdx_cons_succ, List.eraseIdx_cons_zero] at HS); clear hs hb; obtain ⟨rfl, hno⟩ := hor.resolve_left (fun ⟨i, hi, _⟩ => absurd hi (Nat.not_lt_zero _))))
    go_ret
    exact ⟨_, rfl, HS.out, HB.out⟩

theorem LEvents_ok (p : Nat) (l : List S50) (m10 : l.length ≤ 10000) {N : Nat} {w : World} {L : List Res} (HS0 : St N w (Lg p l :: L)) :
    Calls Tryz.prog 12 #[.pointer (some ⟨p, 0, none⟩)] w fun e w' => ∃ v, e = .returned v ∧ St N w' (Row k50 50 v (orderE l) :: Lg p l :: L) ∧ Below N w w' := by
  obtain ⟨A, c, hc, h⟩ := lg_open HS0
  have HS := Aside0.mk h
  have HB := Aside0.mk (Below.refl N w)
  have m1 := Aside0.mk m10
  clear HS0 h m10 hc
  have p0 : w.cell? ⟨p, 0, none⟩ = some (.slice A l.length c) := ((HS.out.pick 0 rfl).cell 0).trans rfl
  go_enter Tryz.func12, Tryz.ntmps12
  go_wp2_with (first | (go_at_call 32; refine (Order_ok A l.length c l rfl (by have := m1.out; omega) (fun w' h _ => (h.pick 1 rfl).rowC.2.2) HS.out).mono ?_; rintro r_ w1 ⟨v1, rfl, hs, hb⟩; have n0_ := Aside0.mk (hs); have n1_ := Aside0.mk (HB.out.trans hb); clear HS HB; have HS := n0_; have HB := n1_; clear n0_ n1_; (try simp only [List.eraseIdx_cons_succ, List.eraseIdx_cons_zero] at HS); clear hs hb p0))
  go_ret
  exact ⟨_, rfl, (lg_shut (HS.out.pick 1 rfl |> fun h => h.pick 2 rfl |>.swap)).swap, HB.out⟩

end Go.Proofs.YtcjfgejiknlpfaaGreat.PI
