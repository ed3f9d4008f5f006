/- Order: the events that count, in order. -/
import Derived.Test.YtcjfgejiknlpfaaSq4
import Derived.Test.YtcjfgejiknlpfaaMapK
namespace Go.Proofs.Ytcjfgejiknlpfaa.PI
open Go.RowKit Go.Shelf Go.Proofs.YtcjfgejiknlpfaaW.PrintWords Go.Proofs.YtcjfgejiknlpfaaW.PrintLast Go.Proofs.YtcjfgejiknlpfaaW.PrintMore Go.Proofs.Ytcjfgejiknlpfaa.Sep
set_option linter.unusedVariables false
set_option linter.unusedSimpArgs false
set_option maxHeartbeats 8000000
set_option maxRecDepth 100000
/-- The first event of each key. -/
def dedS (out : List S27) (e : S27) : List S27 := if e.f0 ∈ out.map (fun x => x.f0) then out else out ++ [e]
def ded (l : List S27) : List S27 := l.foldl dedS []
def orderE (l : List S27) : List S27 := ded (srt l)
theorem ded_snoc (l : List S27) (e : S27) : ded (l ++ [e]) = dedS (ded l) e := by simp [ded, List.foldl_append]
theorem ded_len (l : List S27) (i : Nat) : (ded (l.take i)).length ≤ i := by
  induction i with
  | zero => simp [ded]
  | succ i ih =>
    by_cases h : i < l.length
    · rw [List.take_succ_eq_append_getElem h, ded_snoc]
      unfold dedS
      split
      · omega
      · rw [List.length_append, List.length_singleton]; omega
    · rw [List.take_of_length_le (by omega)] at ih ⊢
      omega
theorem order_len (l : List S27) : (orderE l).length ≤ l.length := by
  have h := ded_len (srt l) (srt l).length
  rw [List.take_length, srt_length] at h
  exact h
theorem take_rd (l : List S27) (i : Nat) (h : i < l.length) : l.take (i + 1) = l.take i ++ [rd_T27 l (i : Int)] := by
  rw [List.take_succ_eq_append_getElem h]
  simp [rd_T27, h]
theorem flat_k27 (W : World) (N : Nat) (x : S27) : k27.M W N (fun _ => False) x [.string x.f0.f0, .int .i64 x.f0.f1, .int .i64 x.f1, .int .i64 x.f2, .string x.f3.f0, .int .i64 x.f3.f1, .string x.f4, .int .i64 x.f5, .string x.f6] := k27_mkM _ _ _ x

theorem Order_ok {N : Nat} {w : World} {L : List Res} (A : Option Addr) (n c : Nat) (zs : List S27) (hn : zs.length = n) (hm : n ≤ 1000000) (hc : ∀ w', St N w' L → Below N w w' → Kd.C k27 w' A zs.length zs) (HS0 : St N w L) :
    Calls Try.prog 16 #[.slice A n c] w fun e w' => ∃ v, e = .returned v ∧ St N w' (Row k27 27 v (orderE zs) :: L) ∧ Below N w w' := by
  subst hn
  have HS := Aside0.mk HS0
  have HB := Aside0.mk (Below.refl N w)
  have HC := Aside0.mk hc
  have hmm := @run_makeMap Try.prog
  clear HS0 hc
  go_enter Try.func16, Try.ntmps16
  go_upto_region 3 with (fail)
  obtain ⟨b, hb_⟩ : ∃ b, b = w.heap.size := ⟨_, rfl⟩
  have hq_ := seen_new HS.out
  rw [← hb_] at hq_ ⊢
  generalize w.alloc (.map #[] 0) = w1 at hq_ ⊢
  have n0_ := Aside0.mk (hq_.1); have n1_ := Aside0.mk (hq_.2); clear HS HB; have HS := n0_; have HB := n1_; clear n0_ n1_; (try simp only [List.eraseIdx_cons_succ, List.eraseIdx_cons_zero] at HS)
  clear hq_ hmm hb_
  go_upto_region 4 with (first | ((with_reducible refine gate_callee (f := 42) rfl ?_); refine goesL_ (some 9) rfl rfl Try.func42 (by kernel_rfl) rfl #[.slice A zs.length c] rfl (by (try simp only [List.map_toArray, List.map_cons, List.map_nil]); first | done | rfl | (simp only [List.length_drop, List.length_take]; rfl)) ?_; (with_reducible refine (values_ok A zs.length c HS.out).mono ?_); rintro e w2 ⟨B, rfl, hs, hb⟩; refine ⟨_, rfl, ?_⟩; have n0_ := Aside0.mk (hs); have n1_ := Aside0.mk (HB.out.trans hb); clear HS HB; have HS := n0_; have HB := n1_; clear n0_ n1_; (try simp only [List.eraseIdx_cons_succ, List.eraseIdx_cons_zero] at HS); clear hs hb) | ((with_reducible refine gate_callee (f := 41) rfl ?_); refine goesL_ (some 10) rfl rfl Try.func41 (by kernel_rfl) rfl #[.func (.func 65) #[] #[.pointer (some ⟨B, 0, none⟩)], .func (.func 12) #[] #[]] rfl (by (try simp only [List.map_toArray, List.map_cons, List.map_nil]); first | done | rfl | (simp only [List.length_drop, List.length_take]; rfl)) ?_; (with_reducible refine (sorted_ok B A c zs hm HS.out (HC.out _ HS.out.drop.drop HB.out)).mono ?_); rintro e w3 ⟨vs, rfl, hs, hb⟩; refine ⟨_, rfl, ?_⟩; have n0_ := Aside0.mk (hs); have n1_ := Aside0.mk (HB.out.trans hb); clear HS HB; have HS := n0_; have HB := n1_; clear n0_ n1_; (try simp only [List.eraseIdx_cons_succ, List.eraseIdx_cons_zero] at HS); clear hs hb HC; obtain ⟨A2, c2, e2, _, _⟩ := HS.out.reads; rw [srt_length] at e2; subst e2))
  generalize hl_ : srt zs = l at HS
  have hll : zs.length = l.length := by rw [← hl_, srt_length]
  rw [hll] at hm HS
  simp only [hll]
  replace hl_ := Aside0.mk hl_
  have hll := Aside0.mk hll
  go_loopw [3, 12] (fun v3 v12 wr => ∃ i : Nat, i ≤ l.length ∧ v12 = .int .i64 i ∧ Aside0 (St N wr (Row k27 27 v3 (ded (l.take i)) :: Seen b ((ded (l.take i)).map (fun x => x.f0)) :: Row k27 27 (.slice A2 l.length c2) l :: L)) ∧ Aside0 (Below N w wr)) (fun _ v12 _ => l.length - (intOf v12).toNat)
  case atStart => exact ⟨0, Nat.zero_le _, rfl, ⟨HS.out.swap.rowNil⟩, HB⟩
  case round =>
    clear HS HB
    obtain ⟨i, hi, rfl, HS, HB⟩ := hrel
    by_cases hlt : i < l.length
    · obtain ⟨ad, ea, x0, x1, x2, x3, x4, x5, x6, x7, x8⟩ := at_T27 (HS.out.pick 2 rfl).rowC.2.2 (i : Int) (by omega) (by omega)
      cases ea
      rw [Int.toNat_natCast] at x0 x1 x2 x3 x4 x5 x6 x7 x8
      have q0 : decide ((i : Int) < (l.length : Int)) = true := decide_eq_true (by omega)
      have q1 := eq_true (show (i : Int) < (l.length : Int) by omega)
      have q2 := eq_true (show (0 : Int) ≤ (i : Int) by omega)
      have hdl := Aside0.mk (ded_len l i)
      have hds := Aside0.mk (show ded (l.take (i + 1)) = dedS (ded (l.take i)) (rd_T27 l (i : Int)) by rw [take_rd l i hlt, ded_snoc])
      generalize rd_T27 l (i : Int) = x at hds x0 x1 x2 x3 x4 x5 x6 x7 x8
      generalize ded (l.take i) = D at hds hdl HS
      go_upto_region 6 with (fail)
      have hbx := HS.out.box (g := wr.heap.size) (cs := #[.string x.f0.f0, .int .i64 x.f0.f1, .int .i64 x.f1, .int .i64 x.f2, .string x.f3.f0, .int .i64 x.f3.f1, .string x.f4, .int .i64 x.f5, .string x.f6]) (t := 27) rfl (new_cells wr _ _) ((Below.refl _ _).alloc (Nat.le_refl _) _)
      have hbb := below_step' HB.out HS.out.size ((Below.refl _ _).alloc (Nat.le_refl _) (.cells #[.string x.f0.f0, .int .i64 x.f0.f1, .int .i64 x.f1, .int .i64 x.f2, .string x.f3.f0, .int .i64 x.f3.f1, .string x.f4, .int .i64 x.f5, .string x.f6] 27))
      generalize wr.heap.size = g at hbx hbb ⊢
      generalize wr.alloc (.cells #[.string x.f0.f0, .int .i64 x.f0.f1, .int .i64 x.f1, .int .i64 x.f2, .string x.f3.f0, .int .i64 x.f3.f1, .string x.f4, .int .i64 x.f5, .string x.f6] 27) = w4 at hbx hbb ⊢
      clear x0 x1 x2 x3 x4 x5 x6 x7 x8 q0 q1 q2
      have n0_ := Aside0.mk (hbx); have n1_ := Aside0.mk (hbb); clear HS HB; have HS := n0_; have HB := n1_; clear n0_ n1_; (try simp only [List.eraseIdx_cons_succ, List.eraseIdx_cons_zero] at HS)
      clear hbx hbb
      have hc0 := ((HS.out.pick 0 rfl).cell 0).trans (show _ = some (Value.string x.f0.f0) from rfl)
      have hc0 := ((HS.out.pick 0 rfl).cell 0).trans (show _ = some (Value.string x.f0.f0) from rfl)
      have hc1 := ((HS.out.pick 0 rfl).cell 1).trans (show _ = some (Value.int .i64 x.f0.f1) from rfl)
      have hc2 := ((HS.out.pick 0 rfl).cell 2).trans (show _ = some (Value.int .i64 x.f1) from rfl)
      have hc3 := ((HS.out.pick 0 rfl).cell 3).trans (show _ = some (Value.int .i64 x.f2) from rfl)
      have hc4 := ((HS.out.pick 0 rfl).cell 4).trans (show _ = some (Value.string x.f3.f0) from rfl)
      have hc5 := ((HS.out.pick 0 rfl).cell 5).trans (show _ = some (Value.int .i64 x.f3.f1) from rfl)
      have hc6 := ((HS.out.pick 0 rfl).cell 6).trans (show _ = some (Value.string x.f4) from rfl)
      have hc7 := ((HS.out.pick 0 rfl).cell 7).trans (show _ = some (Value.int .i64 x.f5) from rfl)
      have hc8 := ((HS.out.pick 0 rfl).cell 8).trans (show _ = some (Value.string x.f6) from rfl)
      by_cases hk : x.f0 ∈ D.map (fun x => x.f0)
      · have hlk := Aside0.mk (lookup_seen x.f0 (seen_at (HS.out.pick 2 rfl)))
        rw [decide_eq_true hk] at hlk
        have hk := Aside0.mk hk
        go_wp2_with (first | (at_lookup; refine S_lookup rfl (.tmp 16) (.tmp 18) 73 rfl (.map (some b)) (keyV x.f0) _ rfl rfl hlk.out ?_))
        go_roundw
        case rel =>
          refine ⟨i + 1, by omega, by go_num, ?_, HB⟩
          rw [hds.out]
          unfold dedS
          rw [if_pos hk.out]
          exact ⟨HS.out.drop⟩
        case measure => simp [intOf]; omega
      · have hlk := Aside0.mk (lookup_seen x.f0 (seen_at (HS.out.pick 2 rfl)))
        rw [decide_eq_false hk] at hlk
        have hk := Aside0.mk hk
        go_wp2_with (first | (at_lookup; refine S_lookup rfl (.tmp 16) (.tmp 18) 73 rfl (.map (some b)) (keyV x.f0) _ rfl rfl hlk.out ?_) | (at_mapUpdate; obtain ⟨o_, hr_, hs_⟩ := update_seen x.f0 hk.out (seen_at (HS.out.pick 2 rfl)); refine S_update rfl (.tmp 21) (.tmp 23) (.const (.bool true)) 73 rfl (.map (some b)) (keyV x.f0) (.bool true) rfl rfl rfl hr_ ?_; have hq_ := seen_put (HS.out.pick 2 rfl) hs_; generalize Go.ChangeMaps.setBlock _ _ _ = w5 at hq_ ⊢; clear hr_ hs_; have n0_ := Aside0.mk ((hq_.1.pick 2 rfl).pick 2 rfl); have n1_ := Aside0.mk (HB.out.trans hq_.2); clear HS HB; have HS := n0_; have HB := n1_; clear n0_ n1_; (try simp only [List.eraseIdx_cons_succ, List.eraseIdx_cons_zero] at HS); clear hq_; clear hc0 hc1 hc2 hc3 hc4 hc5 hc6 hc7 hc8; have hc0 := ((HS.out.pick 0 rfl).cell 0).trans (show _ = some (Value.string x.f0.f0) from rfl); have hc1 := ((HS.out.pick 0 rfl).cell 1).trans (show _ = some (Value.int .i64 x.f0.f1) from rfl); have hc2 := ((HS.out.pick 0 rfl).cell 2).trans (show _ = some (Value.int .i64 x.f1) from rfl); have hc3 := ((HS.out.pick 0 rfl).cell 3).trans (show _ = some (Value.int .i64 x.f2) from rfl); have hc4 := ((HS.out.pick 0 rfl).cell 4).trans (show _ = some (Value.string x.f3.f0) from rfl); have hc5 := ((HS.out.pick 0 rfl).cell 5).trans (show _ = some (Value.int .i64 x.f3.f1) from rfl); have hc6 := ((HS.out.pick 0 rfl).cell 6).trans (show _ = some (Value.string x.f4) from rfl); have hc7 := ((HS.out.pick 0 rfl).cell 7).trans (show _ = some (Value.int .i64 x.f5) from rfl); have hc8 := ((HS.out.pick 0 rfl).cell 8).trans (show _ = some (Value.string x.f6) from rfl)) | ((with_reducible refine gate_builtin (b := .append) (xs := #[.tmp 24, .tmp 26]) rfl ?_); at_builtin; refine S_append k27 rfl (.tmp 24) (.tmp 26) 30 27 (.agg #[(.string ⟨#[]⟩), (.int .i64 0), (.int .i64 0), (.int .i64 0), (.string ⟨#[]⟩), (.int .i64 0), (.string ⟨#[]⟩), (.int .i64 0), (.string ⟨#[]⟩)]) 104 rfl Try.underlying30 info27 rfl (by decide) (by omega) _ _ x [.string x.f0.f0, .int .i64 x.f0.f1, .int .i64 x.f1, .int .i64 x.f2, .string x.f3.f0, .int .i64 x.f3.f1, .string x.f4, .int .i64 x.f5, .string x.f6] rfl rfl (flat_k27 _ _ x) (HS.out.pick 1 rfl) HB.out (by have := hdl.out; omega) ?_; intro v6 w6 hs hb; clear hc0 hc1 hc2 hc3 hc4 hc5 hc6 hc7 hc8; have n0_ := Aside0.mk (hs); have n1_ := Aside0.mk (hb); clear HS HB; have HS := n0_; have HB := n1_; clear n0_ n1_; (try simp only [List.eraseIdx_cons_succ, List.eraseIdx_cons_zero] at HS); clear hs hb))
        go_roundw
        case rel =>
          refine ⟨i + 1, by omega, by go_num, ?_, HB⟩
          rw [hds.out]
          unfold dedS
          rw [if_neg hk.out, List.map_append]
          exact ⟨HS.out.swap.drop⟩
        case measure => simp [intOf]; omega
    · obtain rfl : i = l.length := by omega
      have q0 : decide ((l.length : Int) < (l.length : Int)) = false := decide_eq_false (by omega)
      go_wp2
      go_ret
      refine ⟨_, rfl, ?_, HB.out⟩
      unfold orderE
      rw [hl_.out]
      have h := HS.out
      rw [List.take_length] at h
      exact h.swap.drop.swap.drop
end Go.Proofs.Ytcjfgejiknlpfaa.PI
