/- run: the events in order, one by one. -/
import Derived.Test.YtcjfgejiknlpfaaGreatJ4
import Derived.Test.YtcjfgejiknlpfaaGreatJ2
namespace Go.Proofs.YtcjfgejiknlpfaaGreat.PI
open Go.RowKit Go.Proofs.YtcjfgejiknlpfaaGreatW.PrintWords Go.Proofs.YtcjfgejiknlpfaaGreatW.PrintLast Go.Proofs.YtcjfgejiknlpfaaGreatW.PrintMore Go.Proofs.YtcjfgejiknlpfaaGreat.Sep
set_option linter.unusedVariables false
set_option linter.unusedSimpArgs false
set_option maxHeartbeats 8000000
set_option maxRecDepth 100000

theorem eff_any (B p : Nat) (s : PS) (n : Nat) (hg : Good s n) (hn : n ≤ 100000) (e : S50) (hk1 : 1 ≤ e.f2) (hk9 : e.f2 ≤ 9) (hr : reasonP s e = 0) :
    ∃ f fn, Tryz.prog.funcs[f]? = some fn ∧ (fn.name == "runtime.NumGoroutine") = false ∧ fn.body.isSome = true ∧ lk e.f2 (effL B) = some (.func (.func f) #[] #[.pointer (some ⟨B, 0, none⟩)]) ∧ EffOk f B p s (effP s e) e := by
  have hp : s.pe.length ≤ 999999 := by have := hg.lp; omega
  have ht : s.th.length ≤ 999999 := by have := hg.lt; omega
  have hk : e.f2 = 1 ∨ e.f2 = 2 ∨ e.f2 = 3 ∨ e.f2 = 4 ∨ e.f2 = 5 ∨ e.f2 = 6 ∨ e.f2 = 7 ∨ e.f2 = 8 ∨ e.f2 = 9 := by omega
  rcases hk with h | h | h | h | h | h | h | h | h
  · have he : effP s e = { s with st := 1, ti := e.f6, op := e.f1, pe := assignP e.f0.f0 3 s.pe } := by unfold effP; rw [if_pos h]
    rw [he]
    exact ⟨96, _, Tryz.func96, by kernel_rfl, rfl, by rw [h]; simp [lk, effL], eff_open B p s hp hg.inc e⟩
  · have he : effP s e = { s with no := s.no + 1 } := by unfold effP; rw [if_neg (show ¬ e.f2 = 1 by omega), if_pos h]
    rw [he]
    exact ⟨98, _, Tryz.func98, by kernel_rfl, rfl, by rw [h]; simp [lk, effL], eff_note B p s hg.n0 (by have := hg.n1; omega) e⟩
  · have he : effP s e = { s with th := s.th ++ [(⟨e.f0, e.f6, 1⟩ : S71)] } := by unfold effP; rw [if_neg (show ¬ e.f2 = 1 by omega), if_neg (show ¬ e.f2 = 2 by omega), if_pos h]
    rw [he]
    exact ⟨99, _, Tryz.func99, by kernel_rfl, rfl, by rw [h]; simp [lk, effL], eff_hypothesis B p s ht e⟩
  · have he : effP s e = { s with th := statP e.f3 2 s.th } := by unfold effP; rw [if_neg (show ¬ e.f2 = 1 by omega), if_neg (show ¬ e.f2 = 2 by omega), if_neg (show ¬ e.f2 = 3 by omega), if_pos h]
    rw [he]
    exact ⟨100, _, Tryz.func100, by kernel_rfl, rfl, by rw [h]; simp [lk, effL], eff_confirm B p s (by omega) e (acc_theory hr (by omega))⟩
  · have he : effP s e = { s with th := statP e.f3 3 s.th } := by unfold effP; rw [if_neg (show ¬ e.f2 = 1 by omega), if_neg (show ¬ e.f2 = 2 by omega), if_neg (show ¬ e.f2 = 3 by omega), if_neg (show ¬ e.f2 = 4 by omega), if_pos h]
    rw [he]
    exact ⟨102, _, Tryz.func102, by kernel_rfl, rfl, by rw [h]; simp [lk, effL], eff_refute B p s (by omega) e (acc_theory hr (by omega))⟩
  · have he : effP s e = { s with st := 2 } := by unfold effP; rw [if_neg (show ¬ e.f2 = 1 by omega), if_neg (show ¬ e.f2 = 2 by omega), if_neg (show ¬ e.f2 = 3 by omega), if_neg (show ¬ e.f2 = 4 by omega), if_neg (show ¬ e.f2 = 5 by omega), if_pos h]
    rw [he]
    exact ⟨103, _, Tryz.func103, by kernel_rfl, rfl, by rw [h]; simp [lk, effL], eff_mitigate B p s e⟩
  · have he : effP s e = { s with st := 3, en := e.f1, ca := e.f3 } := by unfold effP; rw [if_neg (show ¬ e.f2 = 1 by omega), if_neg (show ¬ e.f2 = 2 by omega), if_neg (show ¬ e.f2 = 3 by omega), if_neg (show ¬ e.f2 = 4 by omega), if_neg (show ¬ e.f2 = 5 by omega), if_neg (show ¬ e.f2 = 6 by omega), if_pos h]
    rw [he]
    exact ⟨104, _, Tryz.func104, by kernel_rfl, rfl, by rw [h]; simp [lk, effL], eff_resolve B p s e⟩
  · have he : effP s e = { s with st := 1, en := 0, ca := z33 } := by unfold effP; rw [if_neg (show ¬ e.f2 = 1 by omega), if_neg (show ¬ e.f2 = 2 by omega), if_neg (show ¬ e.f2 = 3 by omega), if_neg (show ¬ e.f2 = 4 by omega), if_neg (show ¬ e.f2 = 5 by omega), if_neg (show ¬ e.f2 = 6 by omega), if_neg (show ¬ e.f2 = 7 by omega), if_pos h]
    rw [he]
    exact ⟨105, _, Tryz.func105, by kernel_rfl, rfl, by rw [h]; simp [lk, effL], eff_reopen B p s e⟩
  · have he : effP s e = { s with pe := assignP e.f4 e.f5 s.pe } := by unfold effP; rw [if_neg (show ¬ e.f2 = 1 by omega), if_neg (show ¬ e.f2 = 2 by omega), if_neg (show ¬ e.f2 = 3 by omega), if_neg (show ¬ e.f2 = 4 by omega), if_neg (show ¬ e.f2 = 5 by omega), if_neg (show ¬ e.f2 = 6 by omega), if_neg (show ¬ e.f2 = 7 by omega), if_neg (show ¬ e.f2 = 8 by omega)]
    rw [he]
    exact ⟨106, _, Tryz.func106, by kernel_rfl, rfl, by rw [h]; simp [lk, effL], eff_assign B p s hp hg.inc e⟩

theorem results_cell_tmp_ok {P : Program} {fn : Func} {p u : Tmp} {ty : TypeId} (h : fn.results = #[.cell p ty, .tmp u]) (tmps : Array Value) (w : World) (g : Nat) (t : TypeId) (cs : Array Value) (d : TypeDesc)
    (hp : tmps.getD p undef = .pointer (some ⟨g, 0, none⟩)) (hg : w.heap[g]? = some (.cells cs t (0, 0))) (hu : P.underlying ty = some d) (hd : (match d with | .struct _ | .array _ _ => true | _ => false) = true) (hi : (P.info? ty).map (·.size) = some cs.size) :
    (results fn tmps).run P w = .ok (.tuple #[.agg cs, tmps.getD u undef]) w := by
  rw [results_cell_tmp h, hp]
  simp [asAddr, run_loadVar_row w g t ty cs (0, 0) d hg hu hd hi, Result.andThen]

theorem run_ok {N : Nat} {w : World} {L : List Res} (A : Option Addr) (c : Nat) (zs : List S50) (hm : zs.length ≤ 100000) (hk : ∀ x ∈ orderE zs, 1 ≤ x.f2 ∧ x.f2 ≤ 9) (hc : ∀ w' L', St N w' (L' ++ L) → Below N w w' → Kd.C k50 w' A zs.length zs) (HS0 : St N w L) :
    Calls Tryz.prog 53 #[.slice A zs.length c] w fun r w' => ∃ v5 v6 vr, r = .returned (.tuple #[.agg #[.int .i64 (runP zs).1.st, .string (runP zs).1.ti, .int .i64 (runP zs).1.op, .int .i64 (runP zs).1.en, .string (runP zs).1.ca.f0, .int .i64 (runP zs).1.ca.f1, v5, v6, .int .i64 (runP zs).1.no], vr]) ∧ St N w' (Row k69 69 v5 (runP zs).1.pe :: Row k71 71 v6 (runP zs).1.th :: Row (Kd.int .i64) 3 vr (runP zs).2 :: L) ∧ Below N w w' := by
  have HS := Aside0.mk HS0
  have HB := Aside0.mk (Below.refl N w)
  have HC := Aside0.mk hc
  have HK := Aside0.mk hk
  clear HS0 hc hk
  go_enter Tryz.func53, Tryz.ntmps53
  go_upto_region 4 with (first | ((with_reducible refine gate_dst (N := 2) rfl ?_); refine box_event ?hg (N := 2) ?hd (cs := #[.int .i64 0, .string ⟨#[]⟩, .int .i64 0, .int .i64 0, .string ⟨#[]⟩, .int .i64 0, .slice none 0 0, .slice none 0 0, .int .i64 0]) (t := 37) ?hr ?_; (case hd => rfl); (case hg => rfl); (case hr => first | (go_simp; done) | (go_simp; rfl)); intro G2 hg w1 hbox hb; have n0_ := Aside0.mk (HS.out.box hg hbox hb); have n1_ := Aside0.mk (below_step' HB.out HS.out.size hb); clear HS HB; have HS := n0_; have HB := n1_; clear n0_ n1_; (try simp only [List.eraseIdx_cons_succ, List.eraseIdx_cons_zero] at HS); clear hb hbox hg) | ((with_reducible refine gate_dst (N := 11) rfl ?_); refine box_event ?hg (N := 11) ?hd (cs := #[.int .i64 0, .string ⟨#[]⟩, .int .i64 0, .int .i64 0, .string ⟨#[]⟩, .int .i64 0, .slice none 0 0, .slice none 0 0, .int .i64 0]) (t := 37) ?hr ?_; (case hd => rfl); (case hg => rfl); (case hr => first | (go_simp; done) | (go_simp; rfl)); intro p hg w2 hbox hb; have n0_ := Aside0.mk (HS.out.box hg hbox hb); have n1_ := Aside0.mk (below_step' HB.out HS.out.size hb); clear HS HB; have HS := n0_; have HB := n1_; clear n0_ n1_; (try simp only [List.eraseIdx_cons_succ, List.eraseIdx_cons_zero] at HS); clear hb hbox hg) | (go_at_call 71; refine (effects_ok p HS.out).mono ?_; rintro r_ w3 ⟨b, B, rfl, hs, hb⟩; have n0_ := Aside0.mk (hs); have n1_ := Aside0.mk (HB.out.trans hb); clear HS HB; have HS := n0_; have HB := n1_; clear n0_ n1_; (try simp only [List.eraseIdx_cons_succ, List.eraseIdx_cons_zero] at HS); clear hs hb))
  have hC : ∀ w', St N w' (MapF b (effL B) :: Blk B #[.pointer (some ⟨p, 0, none⟩)] 110 :: Blk p #[.int .i64 0, .string ⟨#[]⟩, .int .i64 0, .int .i64 0, .string ⟨#[]⟩, .int .i64 0, .slice none 0 0, .slice none 0 0, .int .i64 0] 37 :: Blk G2 #[.int .i64 0, .string ⟨#[]⟩, .int .i64 0, .int .i64 0, .string ⟨#[]⟩, .int .i64 0, .slice none 0 0, .slice none 0 0, .int .i64 0] 37 :: L) → Below N w3 w' → Kd.C k50 w' A zs.length zs := fun w' h1 h2 => HC.out w' [_, _, _, _] h1 (HB.out.trans h2)
  replace hC := Aside0.mk hC
  clear HC
  have hol := order_len zs
  go_upto_region 5 with (first | (go_at_call 32; refine (Order_ok A zs.length c zs rfl (by omega) hC.out HS.out).mono ?_; rintro r_ w4 ⟨vo, rfl, hs, hb⟩; have n0_ := Aside0.mk (hs); have n1_ := Aside0.mk (HB.out.trans hb); clear HS HB; have HS := n0_; have HB := n1_; clear n0_ n1_; (try simp only [List.eraseIdx_cons_succ, List.eraseIdx_cons_zero] at HS); clear hs hb hC; obtain ⟨Ao, co, eo, _, _⟩ := HS.out.reads; subst eo))
  have hrp : Aside0 (runP zs = runO (orderE zs)) := ⟨rfl⟩
  generalize hl_ : orderE zs = l at HS HK hol hrp
  replace hl_ := Aside0.mk hl_
  go_loopw [6, 17] (fun v6_ v17 wr => ∃ (i : Nat) (v5 v6 : Value), i ≤ l.length ∧ v17 = .int .i64 i ∧ Aside0 (St N wr (Blk B #[.pointer (some ⟨p, 0, none⟩)] 110 :: Blk p #[.int .i64 (runO (l.take i)).1.st, .string (runO (l.take i)).1.ti, .int .i64 (runO (l.take i)).1.op, .int .i64 (runO (l.take i)).1.en, .string (runO (l.take i)).1.ca.f0, .int .i64 (runO (l.take i)).1.ca.f1, v5, v6, .int .i64 (runO (l.take i)).1.no] 37 :: Row k69 69 v5 ((runO (l.take i)).1.pe) :: Row k71 71 v6 ((runO (l.take i)).1.th) :: Row (Kd.int .i64) 3 v6_ (runO (l.take i)).2 :: MapF b (effL B) :: Blk G2 #[.int .i64 0, .string ⟨#[]⟩, .int .i64 0, .int .i64 0, .string ⟨#[]⟩, .int .i64 0, .slice none 0 0, .slice none 0 0, .int .i64 0] 37 :: Row k50 50 (.slice Ao l.length co) l :: L)) ∧ Aside0 (Below N w wr)) (fun _ v17 _ => l.length - (intOf v17).toNat)
  case atStart =>
    have h := (((((((((((HS.out.rowNil (d := k69) (e := 69)).rowNil (d := k71) (e := 71)).rowNil (d := Kd.int .i64) (e := 3)).pick 3 rfl).pick 7 rfl).pick 5 rfl).pick 3 rfl).pick 4 rfl).pick 5 rfl).pick 7 rfl).pick 7 rfl)
    exact ⟨0, .slice none 0 0, .slice none 0 0, Nat.zero_le _, rfl, ⟨h⟩, HB⟩
  case round =>
    clear HS HB
    obtain ⟨i, v5, v6, hi, rfl, HS, HB⟩ := hrel
    have hg := Aside0.mk (good_take l i hi)
    have hrl := Aside0.mk (run_len l i hi)
    by_cases hlt : i < l.length
    · have hsn := Aside0.mk (show runO (l.take (i + 1)) = stepP (runO (l.take i)) (rd_T50 l (i : Int)) by rw [take_rd l i hlt, runO_snoc])
      have hx := HK.out (rd_T50 l (i : Int)) (by simp [rd_T50, hlt])
      obtain ⟨ad, ea, x0, x1, x2, x3, x4, x5, x6, x7, x8⟩ := at_T50 (HS.out.pick 7 rfl).rowC.2.2 (i : Int) (by omega) (by omega)
      cases ea
      rw [Int.toNat_natCast] at x0 x1 x2 x3 x4 x5 x6 x7 x8
      have q0 : decide ((i : Int) < (l.length : Int)) = true := decide_eq_true (by omega)
      have q1 := eq_true (show (i : Int) < (l.length : Int) by omega)
      have q2 := eq_true (show (0 : Int) ≤ (i : Int) by omega)
      generalize rd_T50 l (i : Int) = x at hsn hx x0 x1 x2 x3 x4 x5 x6 x7 x8
      generalize runO (l.take i) = q at hsn hg hrl HS
      obtain ⟨s, rs⟩ := q
      simp only at HS hg hrl
      go_upto_region 7 with (fail)
      have hbx := HS.out.box (g := wr.heap.size) (cs := #[.string x.f0.f0, .int .i64 x.f0.f1, .int .i64 x.f1, .int .i64 x.f2, .string x.f3.f0, .int .i64 x.f3.f1, .string x.f4, .int .i64 x.f5, .string x.f6]) (t := 50) rfl (new_cells wr _ _) ((Below.refl _ _).alloc (Nat.le_refl _) _)
      have hbb := below_step' HB.out HS.out.size ((Below.refl _ _).alloc (Nat.le_refl _) (.cells #[.string x.f0.f0, .int .i64 x.f0.f1, .int .i64 x.f1, .int .i64 x.f2, .string x.f3.f0, .int .i64 x.f3.f1, .string x.f4, .int .i64 x.f5, .string x.f6] 50))
      generalize wr.heap.size = g at hbx hbb ⊢
      generalize wr.alloc (.cells #[.string x.f0.f0, .int .i64 x.f0.f1, .int .i64 x.f1, .int .i64 x.f2, .string x.f3.f0, .int .i64 x.f3.f1, .string x.f4, .int .i64 x.f5, .string x.f6] 50) = w5 at hbx hbb ⊢
      clear x0 x1 x2 x3 x4 x5 x6 x7 x8 q0 q1 q2
      have n0_ := Aside0.mk (hbx); have n1_ := Aside0.mk (hbb); clear HS HB; have HS := n0_; have HB := n1_; clear n0_ n1_; (try simp only [List.eraseIdx_cons_succ, List.eraseIdx_cons_zero] at HS)
      clear hbx hbb
      have y0 : w5.cell? ⟨g, 0, none⟩ = some (.string x.f0.f0) := ((HS.out.pick 0 rfl).cell 0).trans rfl
      have y1 : w5.cell? ⟨g, 1, none⟩ = some (.int .i64 x.f0.f1) := ((HS.out.pick 0 rfl).cell 1).trans rfl
      have y2 : w5.cell? ⟨g, 2, none⟩ = some (.int .i64 x.f1) := ((HS.out.pick 0 rfl).cell 2).trans rfl
      have y3 : w5.cell? ⟨g, 3, none⟩ = some (.int .i64 x.f2) := ((HS.out.pick 0 rfl).cell 3).trans rfl
      have y4 : w5.cell? ⟨g, 4, none⟩ = some (.string x.f3.f0) := ((HS.out.pick 0 rfl).cell 4).trans rfl
      have y5 : w5.cell? ⟨g, 5, none⟩ = some (.int .i64 x.f3.f1) := ((HS.out.pick 0 rfl).cell 5).trans rfl
      have y6 : w5.cell? ⟨g, 6, none⟩ = some (.string x.f4) := ((HS.out.pick 0 rfl).cell 6).trans rfl
      have y7 : w5.cell? ⟨g, 7, none⟩ = some (.int .i64 x.f5) := ((HS.out.pick 0 rfl).cell 7).trans rfl
      have y8 : w5.cell? ⟨g, 8, none⟩ = some (.string x.f6) := ((HS.out.pick 0 rfl).cell 8).trans rfl
      obtain ⟨r, hr0⟩ : ∃ r, reasonP s x = r := ⟨_, rfl⟩
      have hr := Aside0.mk hr0
      clear hr0
      by_cases h0 : r = 0
      · subst h0
        obtain ⟨f, fn, hf1, hf2, hf3, hlk, hE⟩ := eff_any B p s i hg.out (by omega) x hx.1 hx.2 hr.out
        replace hf1 := Aside0.mk hf1
        replace hf2 := Aside0.mk hf2
        replace hf3 := Aside0.mk hf3
        replace hlk := Aside0.mk hlk
        replace hE : Aside0 (EffOk f B p s (effP s x) x) := ⟨@hE⟩
        have hs2 : Aside0 (runO (l.take (i + 1)) = (effP s x, rs ++ [0])) := ⟨by rw [hsn.out]; unfold stepP; simp only [hr.out, if_true]⟩
        clear hsn
        go_wp2_with (first | (go_at_call 72; (with_reducible refine (reason_ok p s (by have := hg.out.lp; omega) (by have := hg.out.lt; omega) hg.out.inc x _ (rd_of HS.out.drop.drop)).mono ?_); rintro r_ w6 ⟨rfl, hb⟩; rw [hr.out]; have n0_ := Aside0.mk (HS.out.step hb); have n1_ := Aside0.mk (below_step' HB.out HS.out.size hb); clear HS HB; have HS := n0_; have HB := n1_; clear n0_ n1_; (try simp only [List.eraseIdx_cons_succ, List.eraseIdx_cons_zero] at HS); clear hb; clear y0 y1 y2 y3 y4 y5 y6 y7 y8; have y0 : w6.cell? ⟨g, 0, none⟩ = some (.string x.f0.f0) := ((HS.out.pick 0 rfl).cell 0).trans rfl; have y1 : w6.cell? ⟨g, 1, none⟩ = some (.int .i64 x.f0.f1) := ((HS.out.pick 0 rfl).cell 1).trans rfl; have y2 : w6.cell? ⟨g, 2, none⟩ = some (.int .i64 x.f1) := ((HS.out.pick 0 rfl).cell 2).trans rfl; have y3 : w6.cell? ⟨g, 3, none⟩ = some (.int .i64 x.f2) := ((HS.out.pick 0 rfl).cell 3).trans rfl; have y4 : w6.cell? ⟨g, 4, none⟩ = some (.string x.f3.f0) := ((HS.out.pick 0 rfl).cell 4).trans rfl; have y5 : w6.cell? ⟨g, 5, none⟩ = some (.int .i64 x.f3.f1) := ((HS.out.pick 0 rfl).cell 5).trans rfl; have y6 : w6.cell? ⟨g, 6, none⟩ = some (.string x.f4) := ((HS.out.pick 0 rfl).cell 6).trans rfl; have y7 : w6.cell? ⟨g, 7, none⟩ = some (.int .i64 x.f5) := ((HS.out.pick 0 rfl).cell 7).trans rfl; have y8 : w6.cell? ⟨g, 8, none⟩ = some (.string x.f6) := ((HS.out.pick 0 rfl).cell 8).trans rfl) | ((with_reducible refine gate_op (p := Op.lookup 111 (.tmp 26) (.tmp 28) false) rfl ?_); refine S_lookup rfl (.tmp 26) (.tmp 28) 111 rfl (.map (some b)) (.int .i64 x.f2) _ rfl rfl (mapf_lookup 111 114 Tryz.underlying111 x.f2 _ hlk.out (mapf_at (HS.out.pick 6 rfl))) ?_) | ((with_reducible refine gate_dst (N := 31) rfl ?_); refine goesVL_ (some 31) rfl rfl #[.pointer (some ⟨B, 0, none⟩)] hf1.out hf2.out hf3.out #[.agg #[.string x.f0.f0, .int .i64 x.f0.f1, .int .i64 x.f1, .int .i64 x.f2, .string x.f3.f0, .int .i64 x.f3.f1, .string x.f4, .int .i64 x.f5, .string x.f6], .pointer (some ⟨B, 0, none⟩)] rfl rfl (by (try simp only [List.map_toArray, List.map_cons, List.map_nil]); first | done | rfl | (simp; done)) ?_; refine (hE.out ⟨_, _, HS.out.drop⟩).mono ?_; rintro r_ w7 ⟨rfl, ⟨v5', v6', hs⟩, hb⟩; refine ⟨_, rfl, ?_⟩; have n0_ := Aside0.mk (hs); have n1_ := Aside0.mk (HB.out.trans hb); clear HS HB; have HS := n0_; have HB := n1_; clear n0_ n1_; (try simp only [List.eraseIdx_cons_succ, List.eraseIdx_cons_zero] at HS); clear hs hb; clear y0 y1 y2 y3 y4 y5 y6 y7 y8) | ((with_reducible refine gate_builtin (b := .append) (xs := #[.tmp 32, .tmp 34]) rfl ?_); at_builtin; refine S_append (Kd.int .i64) rfl (.tmp 32) (.tmp 34) 38 3 (.int .i64 0) 8 rfl Tryz.underlying38 info3 rfl (by decide) (by omega) _ rs 0 [.int .i64 0] rfl rfl (show Kd.M (Kd.int .i64) _ _ _ _ [.int .i64 _] from rfl) (HS.out.pick 4 rfl) HB.out (by have := hrl.out; omega) ?_; intro v9 w9 hs hb; have n0_ := Aside0.mk (hs); have n1_ := Aside0.mk (hb); clear HS HB; have HS := n0_; have HB := n1_; clear n0_ n1_; (try simp only [List.eraseIdx_cons_succ, List.eraseIdx_cons_zero] at HS); clear hs hb))
        go_roundw
        case rel =>
          refine ⟨i + 1, v5', v6', by omega, by go_num, ?_, HB⟩
          rw [hs2.out]
          exact ⟨((((HS.out.pick 4 rfl).pick 4 rfl).pick 4 rfl).pick 4 rfl)⟩
        case measure => simp [intOf]; omega
      · have h1 : decide (r = 0) = false := decide_eq_false h0
        have h2 : (r == 0) = false := by simpa using h1
        have hs2 : Aside0 (runO (l.take (i + 1)) = (s, rs ++ [r])) := ⟨by rw [hsn.out]; unfold stepP; simp only [hr.out, if_neg h0]⟩
        clear hsn
        go_wp2_with (first | (go_at_call 72; (with_reducible refine (reason_ok p s (by have := hg.out.lp; omega) (by have := hg.out.lt; omega) hg.out.inc x _ (rd_of HS.out.drop.drop)).mono ?_); rintro r_ w6 ⟨rfl, hb⟩; rw [hr.out]; have n0_ := Aside0.mk (HS.out.step hb); have n1_ := Aside0.mk (below_step' HB.out HS.out.size hb); clear HS HB; have HS := n0_; have HB := n1_; clear n0_ n1_; (try simp only [List.eraseIdx_cons_succ, List.eraseIdx_cons_zero] at HS); clear hb; clear y0 y1 y2 y3 y4 y5 y6 y7 y8; have y0 : w6.cell? ⟨g, 0, none⟩ = some (.string x.f0.f0) := ((HS.out.pick 0 rfl).cell 0).trans rfl; have y1 : w6.cell? ⟨g, 1, none⟩ = some (.int .i64 x.f0.f1) := ((HS.out.pick 0 rfl).cell 1).trans rfl; have y2 : w6.cell? ⟨g, 2, none⟩ = some (.int .i64 x.f1) := ((HS.out.pick 0 rfl).cell 2).trans rfl; have y3 : w6.cell? ⟨g, 3, none⟩ = some (.int .i64 x.f2) := ((HS.out.pick 0 rfl).cell 3).trans rfl; have y4 : w6.cell? ⟨g, 4, none⟩ = some (.string x.f3.f0) := ((HS.out.pick 0 rfl).cell 4).trans rfl; have y5 : w6.cell? ⟨g, 5, none⟩ = some (.int .i64 x.f3.f1) := ((HS.out.pick 0 rfl).cell 5).trans rfl; have y6 : w6.cell? ⟨g, 6, none⟩ = some (.string x.f4) := ((HS.out.pick 0 rfl).cell 6).trans rfl; have y7 : w6.cell? ⟨g, 7, none⟩ = some (.int .i64 x.f5) := ((HS.out.pick 0 rfl).cell 7).trans rfl; have y8 : w6.cell? ⟨g, 8, none⟩ = some (.string x.f6) := ((HS.out.pick 0 rfl).cell 8).trans rfl) | ((with_reducible refine gate_builtin (b := .append) (xs := #[.tmp 32, .tmp 34]) rfl ?_); at_builtin; refine S_append (Kd.int .i64) rfl (.tmp 32) (.tmp 34) 38 3 (.int .i64 0) 8 rfl Tryz.underlying38 info3 rfl (by decide) (by omega) _ rs r [.int .i64 r] rfl rfl (show Kd.M (Kd.int .i64) _ _ _ _ [.int .i64 _] from rfl) (HS.out.pick 5 rfl) HB.out (by have := hrl.out; omega) ?_; intro v9 w9 hs hb; have n0_ := Aside0.mk (hs); have n1_ := Aside0.mk (hb); clear HS HB; have HS := n0_; have HB := n1_; clear n0_ n1_; (try simp only [List.eraseIdx_cons_succ, List.eraseIdx_cons_zero] at HS); clear hs hb))
        go_roundw
        case rel =>
          refine ⟨i + 1, v5, v6, by omega, by go_num, ?_, HB⟩
          rw [hs2.out]
          exact ⟨((((((HS.out.pick 5 rfl).pick 5 rfl).pick 5 rfl).pick 5 rfl).pick 5 rfl)).drop⟩
        case measure => simp [intOf]; omega
    · obtain rfl : i = l.length := by omega
      rw [List.take_length] at HS
      rw [← hrp.out] at HS
      generalize hqq : runP zs = q at HS
      replace hqq := Aside0.mk hqq
      obtain ⟨s, rs⟩ := q
      simp only at HS
      have q0 : decide ((l.length : Int) < (l.length : Int)) = false := decide_eq_false (by omega)
      obtain ⟨A5, k5, e5, _, _⟩ := (HS.out.pick 2 rfl).reads
      subst e5
      obtain ⟨A6, k6, e6, _, _⟩ := (HS.out.pick 3 rfl).reads
      subst e6
      have p0 : wr.cell? ⟨p, 0, none⟩ = some (.int .i64 s.st) := ((HS.out.pick 1 rfl).cell 0).trans rfl
      have p1 : wr.cell? ⟨p, 1, none⟩ = some (.string s.ti) := ((HS.out.pick 1 rfl).cell 1).trans rfl
      have p2 : wr.cell? ⟨p, 2, none⟩ = some (.int .i64 s.op) := ((HS.out.pick 1 rfl).cell 2).trans rfl
      have p3 : wr.cell? ⟨p, 3, none⟩ = some (.int .i64 s.en) := ((HS.out.pick 1 rfl).cell 3).trans rfl
      have p4 : wr.cell? ⟨p, 4, none⟩ = some (.string s.ca.f0) := ((HS.out.pick 1 rfl).cell 4).trans rfl
      have p5 : wr.cell? ⟨p, 5, none⟩ = some (.int .i64 s.ca.f1) := ((HS.out.pick 1 rfl).cell 5).trans rfl
      have p6 : wr.cell? ⟨p, 6, none⟩ = some (.slice A5 s.pe.length k5) := ((HS.out.pick 1 rfl).cell 6).trans rfl
      have p7 : wr.cell? ⟨p, 7, none⟩ = some (.slice A6 s.th.length k6) := ((HS.out.pick 1 rfl).cell 7).trans rfl
      have p8 : wr.cell? ⟨p, 8, none⟩ = some (.int .i64 s.no) := ((HS.out.pick 1 rfl).cell 8).trans rfl
      have c0 : wr.cell? ⟨G2, 0, none⟩ = some (.int .i64 0) := ((HS.out.pick 6 rfl).cell 0).trans rfl
      have c1 : wr.cell? ⟨G2, 1, none⟩ = some (.string ⟨#[]⟩) := ((HS.out.pick 6 rfl).cell 1).trans rfl
      have c2 : wr.cell? ⟨G2, 2, none⟩ = some (.int .i64 0) := ((HS.out.pick 6 rfl).cell 2).trans rfl
      have c3 : wr.cell? ⟨G2, 3, none⟩ = some (.int .i64 0) := ((HS.out.pick 6 rfl).cell 3).trans rfl
      have c4 : wr.cell? ⟨G2, 4, none⟩ = some (.string ⟨#[]⟩) := ((HS.out.pick 6 rfl).cell 4).trans rfl
      have c5 : wr.cell? ⟨G2, 5, none⟩ = some (.int .i64 0) := ((HS.out.pick 6 rfl).cell 5).trans rfl
      have c6 : wr.cell? ⟨G2, 6, none⟩ = some (.slice none 0 0) := ((HS.out.pick 6 rfl).cell 6).trans rfl
      have c7 : wr.cell? ⟨G2, 7, none⟩ = some (.slice none 0 0) := ((HS.out.pick 6 rfl).cell 7).trans rfl
      have c8 : wr.cell? ⟨G2, 8, none⟩ = some (.int .i64 0) := ((HS.out.pick 6 rfl).cell 8).trans rfl
      have f0 := (HS.out.pick 6 rfl).frozen 0
      have f1 := (HS.out.pick 6 rfl).frozen 1
      have f2 := (HS.out.pick 6 rfl).frozen 2
      have f3 := (HS.out.pick 6 rfl).frozen 3
      have f4 := (HS.out.pick 6 rfl).frozen 4
      have f5 := (HS.out.pick 6 rfl).frozen 5
      have f6 := (HS.out.pick 6 rfl).frozen 6
      have f7 := (HS.out.pick 6 rfl).frozen 7
      have f8 := (HS.out.pick 6 rfl).frozen 8
      go_wp2
      have s0 := (HS.out.pick 6 rfl).set 0 (.int .i64 s.st) #[.int .i64 s.st, .string ⟨#[]⟩, .int .i64 0, .int .i64 0, .string ⟨#[]⟩, .int .i64 0, .slice none 0 0, .slice none 0 0, .int .i64 0] rfl
      have b0 := (HS.out.pick 6 rfl).below_set (i := 0) (u := .int .i64 s.st) HB.out
      have s1 := s0.set 1 (.string s.ti) #[.int .i64 s.st, .string s.ti, .int .i64 0, .int .i64 0, .string ⟨#[]⟩, .int .i64 0, .slice none 0 0, .slice none 0 0, .int .i64 0] rfl
      have b1 := s0.below_set (i := 1) (u := .string s.ti) b0
      have s2 := s1.set 2 (.int .i64 s.op) #[.int .i64 s.st, .string s.ti, .int .i64 s.op, .int .i64 0, .string ⟨#[]⟩, .int .i64 0, .slice none 0 0, .slice none 0 0, .int .i64 0] rfl
      have b2 := s1.below_set (i := 2) (u := .int .i64 s.op) b1
      have s3 := s2.set 3 (.int .i64 s.en) #[.int .i64 s.st, .string s.ti, .int .i64 s.op, .int .i64 s.en, .string ⟨#[]⟩, .int .i64 0, .slice none 0 0, .slice none 0 0, .int .i64 0] rfl
      have b3 := s2.below_set (i := 3) (u := .int .i64 s.en) b2
      have s4 := s3.set 4 (.string s.ca.f0) #[.int .i64 s.st, .string s.ti, .int .i64 s.op, .int .i64 s.en, .string s.ca.f0, .int .i64 0, .slice none 0 0, .slice none 0 0, .int .i64 0] rfl
      have b4 := s3.below_set (i := 4) (u := .string s.ca.f0) b3
      have s5 := s4.set 5 (.int .i64 s.ca.f1) #[.int .i64 s.st, .string s.ti, .int .i64 s.op, .int .i64 s.en, .string s.ca.f0, .int .i64 s.ca.f1, .slice none 0 0, .slice none 0 0, .int .i64 0] rfl
      have b5 := s4.below_set (i := 5) (u := .int .i64 s.ca.f1) b4
      have s6 := s5.set 6 (.slice A5 s.pe.length k5) #[.int .i64 s.st, .string s.ti, .int .i64 s.op, .int .i64 s.en, .string s.ca.f0, .int .i64 s.ca.f1, .slice A5 s.pe.length k5, .slice none 0 0, .int .i64 0] rfl
      have b6 := s5.below_set (i := 6) (u := .slice A5 s.pe.length k5) b5
      have s7 := s6.set 7 (.slice A6 s.th.length k6) #[.int .i64 s.st, .string s.ti, .int .i64 s.op, .int .i64 s.en, .string s.ca.f0, .int .i64 s.ca.f1, .slice A5 s.pe.length k5, .slice A6 s.th.length k6, .int .i64 0] rfl
      have b7 := s6.below_set (i := 7) (u := .slice A6 s.th.length k6) b6
      have s8 := s7.set 8 (.int .i64 s.no) #[.int .i64 s.st, .string s.ti, .int .i64 s.op, .int .i64 s.en, .string s.ca.f0, .int .i64 s.ca.f1, .slice A5 s.pe.length k5, .slice A6 s.th.length k6, .int .i64 s.no] rfl
      have b8 := s7.below_set (i := 8) (u := .int .i64 s.no) b7
      refine bodyPost_ret (results_cell_tmp_ok rfl _ _ G2 37 _ _ rfl s8.blk Tryz.underlying37 rfl (by kernel_rfl)) rfl ?_
      have hz := (((((((((s8.pick 5 rfl).pick 5 rfl).pick 5 rfl).pick 5 rfl).pick 5 rfl).pick 5 rfl).pick 7 rfl).pick 7 rfl)).drop.drop.drop.drop.drop
      refine ⟨.slice A5 s.pe.length k5, .slice A6 s.th.length k6, u6, ?_, ?_, b8⟩
      · rw [hqq.out]; rfl
      · rw [hqq.out]; exact hz

end Go.Proofs.YtcjfgejiknlpfaaGreat.PI
