/- A log of events as a piece of memory; insert and Add. -/
import Derived.Test.YtcjfgejiknlpfaaGreatSq35
import Derived.Test.YtcjfgejiknlpfaaGreatChkF
import Derived.Test.YtcjfgejiknlpfaaGreatSq34
namespace Go.Proofs.YtcjfgejiknlpfaaGreat.PI
open Go.RowKit Go.Proofs.YtcjfgejiknlpfaaGreatW.PrintWords Go.Proofs.YtcjfgejiknlpfaaGreatW.PrintLast Go.Proofs.YtcjfgejiknlpfaaGreatW.PrintMore Go.Proofs.YtcjfgejiknlpfaaGreat.Sep
set_option linter.unusedVariables false
set_option linter.unusedSimpArgs false
set_option maxHeartbeats 8000000
set_option maxRecDepth 100000

/-- The different events, in order. -/
def sdd (l : List S50) : List S50 := cp (srt l) (srt l).length
/-- A log. -/
def Lg (p : Nat) (l : List S50) : Res := Some_ fun v : Value => Two (Blk p #[v] 58) (Row k50 50 v l)
theorem lg_open {N : Nat} {w : World} {L : List Res} {p : Nat} {l : List S50} (h : St N w (Lg p l :: L)) : ∃ A c, l.length ≤ c ∧ St N w (Blk p #[.slice A l.length c] 58 :: Row k50 50 (.slice A l.length c) l :: L) := by
  obtain ⟨v, h1⟩ := St.ex h
  have h2 := St.two h1
  obtain ⟨A, c, e, hc, _⟩ := (h2.pick 1 rfl).reads
  subst e
  exact ⟨A, c, hc, h2⟩
theorem lg_shut {N : Nat} {w : World} {L : List Res} {p : Nat} {v : Value} {l : List S50} (h : St N w (Blk p #[v] 58 :: Row k50 50 v l :: L)) : St N w (Lg p l :: L) := St.hide (f := fun v : Value => Two (Blk p #[v] 58) (Row k50 50 v l)) v (St.one h)
theorem sdd_len (l : List S50) : (sdd l).length ≤ l.length := by
  have := cp_len (srt l) (srt l).length
  rw [srt_length] at this
  unfold sdd
  rw [srt_length]
  exact this
theorem insert_ok {N : Nat} {w : World} {L : List Res} (p : Nat) (l1 l2 : List S50) (b10 : l1.length ≤ 1000) (b20 : l2.length ≤ 1000) (A2 : Option Addr) (c2 : Nat) (hC20 : ∀ w', St N w' L → k50.C w' A2 l2.length l2 ∧ l2.length ≤ c2) (HS0 : St N w (Lg p l1 :: L)) :
    Calls Tryz.prog 27 #[.pointer (some ⟨p, 0, none⟩), .slice A2 l2.length c2] w fun e w' => e = .returned (.int .i64 (((sdd (l1 ++ l2)).length : Int) - (l1.length : Int))) ∧ St N w' (Lg p (sdd (l1 ++ l2)) :: L) ∧ Below N w w' := by
  obtain ⟨A, c, hc, h⟩ := lg_open HS0
  have HS := Aside0.mk h
  have HB := Aside0.mk (Below.refl N w)
  have b1 := Aside0.mk b10
  have b2 := Aside0.mk b20
  have hC2 := Aside0.mk hC20
  have hln : Aside0 ((l1 ++ l2).length ≤ 1000000) := ⟨by rw [List.length_append]; omega⟩
  have hls : Aside0 ((srt (l1 ++ l2)).length ≤ 100000) := ⟨by rw [srt_length, List.length_append]; omega⟩
  have hqs : Aside0 ((sdd (l1 ++ l2)).length ≤ 2000) := ⟨Nat.le_trans (sdd_len _) (by rw [List.length_append]; omega)⟩
  clear HS0 h b10 b20 hC20 hc
  have p0 : w.cell? ⟨p, 0, none⟩ = some (.slice A l1.length c) := ((HS.out.pick 0 rfl).cell 0).trans rfl
  go_enter Tryz.func27, Tryz.ntmps27
  go_upto_region 5 with (first | ((with_reducible refine gate_dst (N := 17) rfl ?_); refine lit_event ?hg (Nt := 17) ?hd (cs := #[.slice A l1.length c, .slice A2 l2.length c2]) (t := 25) (n := 2) ?hr ?_; (case hd => rfl); (case hg => rfl); (case hr => first | (go_simp; done) | (go_simp; rfl)); intro o hg w1 hbox hb; clear p0; have n0_ := Aside0.mk (HS.out.box hg hbox hb); have n1_ := Aside0.mk (below_step' HB.out HS.out.size hb); clear HS HB; have HS := n0_; have HB := n1_; clear n0_ n1_; (try simp only [List.eraseIdx_cons_succ, List.eraseIdx_cons_zero] at HS); clear hb hbox hg) | (go_at_call 49; refine (concat_ok l1 l2 b1.out b2.out A A2 c c2 o (fun w' h => ⟨⟨(h.pick 1 rfl).rowC.2.2, (h.pick 1 rfl).rowC.2.1⟩, hC2.out w' h.drop.drop⟩) HS.out).mono ?_; rintro r_ w2 ⟨v2, rfl, hs, hb⟩; have n0_ := Aside0.mk (hs); have n1_ := Aside0.mk (HB.out.trans hb); clear HS HB; have HS := n0_; have HB := n1_; clear n0_ n1_; (try simp only [List.eraseIdx_cons_succ, List.eraseIdx_cons_zero] at HS); clear hs hb) | (go_at_call 50; refine (sort_ok (l1 ++ l2) hln.out v2 HS.out).mono ?_; rintro r_ w3 ⟨rfl, hs, hb⟩; have n0_ := Aside0.mk (hs); have n1_ := Aside0.mk (HB.out.trans hb); clear HS HB; have HS := n0_; have HB := n1_; clear n0_ n1_; (try simp only [List.eraseIdx_cons_succ, List.eraseIdx_cons_zero] at HS); clear hs hb) | (go_at_call 52; refine (compact_ok (srt (l1 ++ l2)) hls.out v2 HS.out).mono ?_; rintro r_ w4 ⟨v4, rfl, hs, hb⟩; have n0_ := Aside0.mk (hs); have n1_ := Aside0.mk (HB.out.trans hb); clear HS HB; have HS := n0_; have HB := n1_; clear n0_ n1_; (try simp only [List.eraseIdx_cons_succ, List.eraseIdx_cons_zero] at HS); clear hs hb; obtain ⟨q, hq0⟩ : ∃ q, cp (srt (l1 ++ l2)) (srt (l1 ++ l2)).length = q := ⟨_, rfl⟩; rw [hq0] at HS; have hq := Aside0.mk hq0; clear hq0; obtain ⟨A4, c4, e4, _, _⟩ := HS.out.reads; subst e4; have p0 : w4.cell? ⟨p, 0, none⟩ = some (.slice A l1.length c) := ((HS.out.pick 2 rfl).cell 0).trans rfl; have f0 := (HS.out.pick 2 rfl).frozen 0))
  have h9 := (HS.out.pick 2 rfl).set 0 (.slice A4 q.length c4) #[.slice A4 q.length c4] rfl
  have h8 := (HS.out.pick 2 rfl).below_set (i := 0) (u := .slice A4 q.length c4) HB.out
  generalize World.setCell _ _ _ = w5 at h9 h8 ⊢
  clear p0 f0
  have n0_ := Aside0.mk (h9); have n1_ := Aside0.mk (h8); clear HS HB; have HS := n0_; have HB := n1_; clear n0_ n1_; (try simp only [List.eraseIdx_cons_succ, List.eraseIdx_cons_zero] at HS)
  clear h9 h8
  have e9 : sdd (l1 ++ l2) = q := hq.out
  have hw : IntKind.i64.wrap ((q.length : Int) - (l1.length : Int)) = (q.length : Int) - (l1.length : Int) := by rw [IntKind.wrap_i64]; have := hqs.out; rw [e9] at this; have := b1.out; omega
  replace e9 := Aside0.mk e9
  have p0 : w5.cell? ⟨p, 0, none⟩ = some (.slice A4 q.length c4) := ((HS.out.pick 0 rfl).cell 0).trans rfl
  go_wp2
  go_ret
  rw [e9.out]
  exact ⟨rfl, lg_shut (((((HS.out.pick 1 rfl).pick 1 rfl).pick 3 rfl).pick 3 rfl).drop.drop), HB.out⟩

theorem Add_ok {N : Nat} {w : World} {L : List Res} (p : Nat) (l1 l2 : List S50) (b10 : l1.length ≤ 1000) (b20 : l2.length ≤ 1000) (hok0 : ∀ x ∈ l2, Fine x) (A2 : Option Addr) (c2 : Nat) (hC20 : ∀ w', St N w' L → k50.C w' A2 l2.length l2 ∧ l2.length ≤ c2) (HS0 : St N w (Lg p l1 :: L)) :
    Calls Tryz.prog 7 #[.pointer (some ⟨p, 0, none⟩), .slice A2 l2.length c2] w fun e w' => e = .returned (.tuple #[.int .i64 (((sdd (l1 ++ l2)).length : Int) - (l1.length : Int)), .int .i64 0]) ∧ St N w' (Lg p (sdd (l1 ++ l2)) :: L) ∧ Below N w w' := by
  have HS := Aside0.mk HS0
  have HB := Aside0.mk (Below.refl N w)
  have b1 := Aside0.mk b10
  have b2 := Aside0.mk b20
  have hC2 := Aside0.mk hC20
  have hOK := Aside0.mk hok0
  clear HS0 b10 b20 hC20 hok0
  go_enter Tryz.func7, Tryz.ntmps7
  go_upto_region 4 with (fail)
  go_loopw [13] (fun v13 wr => ∃ i : Nat, i ≤ l2.length ∧ v13 = .int .i64 i ∧ Aside0 (St N wr (Lg p l1 :: L)) ∧ Aside0 (Below N w wr)) (fun v13 _ => l2.length - (intOf v13).toNat)
  case atStart => exact ⟨0, Nat.zero_le _, rfl, HS, HB⟩
  case round =>
    clear HS HB
    obtain ⟨i, hi, rfl, HS, HB⟩ := hrel
    by_cases hlt : i < l2.length
    · obtain ⟨ad, ea, x0, x1, x2, x3, x4, x5, x6, x7, x8⟩ := at_T50 (hC2.out _ HS.out.drop).1 (i : Int) (by omega) (by omega)
      cases ea
      rw [Int.toNat_natCast] at x0 x1 x2 x3 x4 x5 x6 x7 x8
      have q0 : decide ((i : Int) < (l2.length : Int)) = true := decide_eq_true (by omega)
      have q1 := eq_true (show (i : Int) < (l2.length : Int) by omega)
      have q2 := eq_true (show (0 : Int) ≤ (i : Int) by omega)
      have hw : IntKind.i64.wrap ((i : Int) + 1) = (i : Int) + 1 := by rw [IntKind.wrap_i64]; have := b2.out; omega
      have hok := Aside0.mk (hOK.out (rd_T50 l2 (i : Int)) (by simp [rd_T50, hlt]))
      generalize rd_T50 l2 (i : Int) = x at hok x0 x1 x2 x3 x4 x5 x6 x7 x8
      go_upto_region 6 with (fail)
      have hbx := HS.out.box (g := wr.heap.size) (cs := #[.string x.f0.f0, .int .i64 x.f0.f1, .int .i64 x.f1, .int .i64 x.f2, .string x.f3.f0, .int .i64 x.f3.f1, .string x.f4, .int .i64 x.f5, .string x.f6]) (t := 50) rfl (new_cells wr _ _) ((Below.refl _ _).alloc (Nat.le_refl _) _)
      have hbb := below_step' HB.out HS.out.size ((Below.refl _ _).alloc (Nat.le_refl _) (.cells #[.string x.f0.f0, .int .i64 x.f0.f1, .int .i64 x.f1, .int .i64 x.f2, .string x.f3.f0, .int .i64 x.f3.f1, .string x.f4, .int .i64 x.f5, .string x.f6] 50))
      generalize wr.heap.size = g at hbx hbb ⊢
      generalize wr.alloc (.cells #[.string x.f0.f0, .int .i64 x.f0.f1, .int .i64 x.f1, .int .i64 x.f2, .string x.f3.f0, .int .i64 x.f3.f1, .string x.f4, .int .i64 x.f5, .string x.f6] 50) = w5 at hbx hbb ⊢
      clear x0 x1 x2 x3 x4 x5 x6 x7 x8 q0 q1 q2
      have n0_ := Aside0.mk (hbx); have n1_ := Aside0.mk (hbb); clear HS HB; have HS := n0_; have HB := n1_; clear n0_ n1_; (try simp only [List.eraseIdx_cons_succ, List.eraseIdx_cons_zero] at HS)
      clear hbx hbb
      obtain ⟨y0, y1, y2, y3, y4, y5, y6, y7, y8⟩ := cells9 HS.out
      go_wp2_with (first | (go_at_call 26; (with_reducible refine (check_fine x hok.out _).mono ?_); rintro r_ w6 ⟨rfl, hb⟩; clear y0 y1 y2 y3 y4 y5 y6 y7 y8; have n0_ := Aside0.mk (HS.out.step hb); have n1_ := Aside0.mk (below_step' HB.out HS.out.size hb); clear HS HB; have HS := n0_; have HB := n1_; clear n0_ n1_; (try simp only [List.eraseIdx_cons_succ, List.eraseIdx_cons_zero] at HS); clear hb))
      go_roundw
      case rel => exact ⟨i + 1, by omega, by go_num, ⟨HS.out.drop⟩, HB⟩
      case measure => simp [intOf]; omega
    · obtain rfl : i = l2.length := by omega
      have q0 : decide ((l2.length : Int) < (l2.length : Int)) = false := decide_eq_false (by omega)
      go_wp2_with (first | (go_at_call 27; refine (insert_ok p l1 l2 b1.out b2.out A2 c2 hC2.out HS.out).mono ?_; rintro r_ w7 ⟨rfl, hs, hb⟩; have n0_ := Aside0.mk (hs); have n1_ := Aside0.mk (HB.out.trans hb); clear HS HB; have HS := n0_; have HB := n1_; clear n0_ n1_; (try simp only [List.eraseIdx_cons_succ, List.eraseIdx_cons_zero] at HS); clear hs hb))
      go_ret2
      exact ⟨rfl, HS.out, HB.out⟩

end Go.Proofs.YtcjfgejiknlpfaaGreat.PI
