-- Written by a program of this session (gprint.py) out of Lean's own print of the program. Lean checks it.
import Derived.Test.YtfnhicmjdfeanaaPHx0
import Derived.Test.YtfnhicmjdfeanaaPHx8
namespace Go.Proofs.Ytfnhicmjdfeanaa.PH
open Go.RowKit Go.Proofs.YtfnhicmjdfeanaaW.PrintWords Go.Proofs.YtfnhicmjdfeanaaW.PrintLast Go.Proofs.YtfnhicmjdfeanaaW.PrintMore
attribute [local go_sem] max2_int min2_int max_two min_two max_three min_three max_four min_four   -- for this text's walks alone
set_option linter.unusedVariables false
set_option linter.unusedSimpArgs false

/-! ### fraction_MulCeil: function 40 -/
def fraction_MulCeil.f (a0 : Int) (a1_0 : Int) (a1_1 : Int) : Option (Int × Int) := (fraction_Neg.f a1_0 a1_1).bind fun bt134 => ((fraction_MulFloor.f a0 bt134.1 bt134.2).bind fun bt136 => (some (wrap64 (-bt136.1), bt136.2)))
set_option maxHeartbeats 8000000 in
set_option maxRecDepth 100000 in
theorem fraction_MulCeil.calls (a0 : Int) (a1_0 : Int) (a1_1 : Int) (r1 : Int) (r2 : Int) (w : World) (h : fraction_MulCeil.f a0 a1_0 a1_1 = some (r1, r2)) :
    Calls Try.prog 40 #[.int .i64 a0, .agg #[.int .i64 a1_0, .int .i64 a1_1]] w fun e w' => e = .returned (.tuple #[.int .i64 r1, .int .i64 r2]) ∧ Below w.heap.size w w' := by
  have hu41 := Try.underlying41
  have HB := Aside0.mk (Below.refl w.heap.size w)
  have H : ((fraction_Neg.f a1_0 a1_1).bind fun bt134 => ((fraction_MulFloor.f a0 bt134.1 bt134.2).bind fun bt136 => (some (wrap64 (-bt136.1), bt136.2)))) = some (r1, r2) := h
  clear h
  replace H := Option.bind_eq_some_iff.mp H
  obtain ⟨⟨t134, t135⟩, A30, H⟩ := H
  replace H : ((fraction_MulFloor.f a0 t134 t135).bind fun bt136 => (some (wrap64 (-bt136.1), bt136.2))) = some (r1, r2) := H
  have A3 := Aside0.mk A30
  clear A30
  replace H := Option.bind_eq_some_iff.mp H
  obtain ⟨⟨t136, t137⟩, A40, H⟩ := H
  replace H : (some (wrap64 (-t136), t137)) = some (r1, r2) := H
  have A4 := Aside0.mk A40
  clear A40
  simp only [Option.some.injEq, Prod.mk.injEq] at H
  obtain ⟨rfl, rfl⟩ := H
  go_enter Try.func40, Try.ntmps40
  go_wp2_with (first | ((with_reducible refine gate_dst (N := 3) rfl ?_); refine box_event ?hg (N := 3) ?hd (cs := #[.int .i64 a1_0, .int .i64 a1_1]) (t := 41) ?hr ?_; (case hd => rfl); (case hg => rfl); (case hr => first | (go_simp; done) | (go_simp; rfl)); intro gb133 hg w5 hbox hb; have n0_ := Aside0.mk (below_step (by repeat (first | (with_reducible first | exact HB.out | apply below_alloc | apply pw_below_drewN | apply below_drew1) | exact HB.out)) hb); have n1_ := Aside0.mk (hbox); have n2_ := Aside0.mk ((by rw [hg]; exact (below_size (by repeat (first | (with_reducible first | exact HB.out | apply below_alloc | apply pw_below_drewN | apply below_drew1) | exact HB.out))) : w.heap.size ≤ gb133)); have n3_ := Aside0.mk ((by rw [hg]; exact (below_size (by repeat (first | (with_reducible first | exact HB.out | apply below_alloc | apply pw_below_drewN | apply below_drew1) | exact HB.out))) : w.heap.size ≤ gb133)); clear HB; have HB := n0_; have BK133 := n1_; have GW133 := n2_; have GE133 := n3_; clear n0_ n1_ n2_ n3_; clear hb hbox hg; have hcz6_0 : w5.cell? ⟨gb133, 0, none⟩ = some (.int .i64 a1_0) := (blk_cell BK133.out 0).trans rfl; have hcz6_1 : w5.cell? ⟨gb133, 1, none⟩ = some (.int .i64 a1_1) := (blk_cell BK133.out 1).trans rfl; have hfz6_0 := blk_frozen BK133.out 0; have hfz6_1 := blk_frozen BK133.out 1) | ((with_reducible refine gate_callee (f := 54) rfl ?_); refine goesL_ (some 11) rfl rfl Try.func54 (by kernel_rfl) rfl #[.agg #[.int .i64 a1_0, .int .i64 a1_1]] rfl (by (try simp only [List.map_toArray, List.map_cons, List.map_nil]); first | done | rfl | (simp only [List.length_drop, List.length_take]; rfl)) ?_; (with_reducible refine (fraction_Neg.calls a1_0 a1_1 t134 t135 _ A3.out).mono ?_); rintro e w7 ⟨rfl, hb⟩; refine ⟨_, rfl, ?_⟩; have n0_ := Aside0.mk (blk_below (g := gb133) (o := .cells #[.int .i64 a1_0, .int .i64 a1_1] 41 (0, 0)) (by (with_reducible repeat (first | refine blk_drewN ?_ _ | refine blk_drew ?_ | refine blk_alloc ?_ _)); exact BK133.out) hb); have n1_ := Aside0.mk (below_step (by repeat (first | (with_reducible first | exact HB.out | apply below_alloc | apply pw_below_drewN | apply below_drew1 | refine below_set ?_ GE133.out) | exact HB.out)) hb); clear BK133; clear HB; have BK133 := n0_; have HB := n1_; clear n0_ n1_; (try clear hb); (try clear hb2); (try clear hk); (try clear hi)) | ((with_reducible refine gate_callee (f := 53) rfl ?_); refine goesL_ (some 12) rfl rfl Try.func53 (by kernel_rfl) rfl #[.int .i64 a0, .agg #[.int .i64 t134, .int .i64 t135]] rfl (by (try simp only [List.map_toArray, List.map_cons, List.map_nil]); first | done | rfl | (simp only [List.length_drop, List.length_take]; rfl)) ?_; (with_reducible refine (fraction_MulFloor.calls a0 t134 t135 t136 t137 _ A4.out).mono ?_); rintro e w8 ⟨rfl, hb⟩; refine ⟨_, rfl, ?_⟩; have n0_ := Aside0.mk (blk_below (g := gb133) (o := .cells #[.int .i64 a1_0, .int .i64 a1_1] 41 (0, 0)) (by (with_reducible repeat (first | refine blk_drewN ?_ _ | refine blk_drew ?_ | refine blk_alloc ?_ _)); exact BK133.out) hb); have n1_ := Aside0.mk (below_step (by repeat (first | (with_reducible first | exact HB.out | apply below_alloc | apply pw_below_drewN | apply below_drew1 | refine below_set ?_ GE133.out) | exact HB.out)) hb); clear BK133; clear HB; have BK133 := n0_; have HB := n1_; clear n0_ n1_; (try clear hb); (try clear hb2); (try clear hk); (try clear hi)))
  go_ret2
  exact ⟨by first | rfl | (simp [errW_none, errW_some] <;> rfl) | (simp [*, errW_none, errW_some] <;> rfl), by repeat (first | (with_reducible first | exact HB.out | apply below_alloc | apply pw_below_drewN | apply below_drew1 | refine below_set ?_ GE133.out) | exact HB.out)⟩

/-! ### histogram_Bucket_41: function 41 -/
set_option maxHeartbeats 8000000 in
set_option maxRecDepth 100000 in
theorem histogram_Quantile_1.calls (x0 x1 r : Int) (g : Nat) (w0 w : World) (hB : Below w0.heap.size w0 w) (hg0 : w0.heap.size ≤ g) (hb0 : w.heap[g]? = some (.cells #[.int .i64 r] 3 (0, 0))) :
    Calls Try.prog 42 #[.agg #[.int .i64 x0, .int .i64 x1], .pointer (some ⟨g, 0, none⟩)] w fun e w' => e = .returned (.bool (decide (wrap64 (r - x1) ≤ 0))) ∧ w'.heap[g]? = some (.cells #[.int .i64 (wrap64 (r - x1))] 3 (0, 0)) ∧ Below w0.heap.size w0 w' := by
  have hu67 := Try.underlying67
  have BKg := Aside0.mk hb0
  have GEg := Aside0.mk hg0
  have HB := Aside0.mk hB
  clear hB hg0 hb0
  obtain ⟨dx, hdx⟩ : ∃ dx, wrap64 (r - x1) = dx := ⟨_, rfl⟩
  have HD := Aside0.mk hdx
  go_enter Try.func42, Try.ntmps42
  go_wp2_with (((with_reducible refine gate_dst (N := 2) rfl ?_); refine box_event ?hg (N := 2) ?hd (cs := #[.int .i64 x0, .int .i64 x1]) (t := 67) ?hr ?_; (case hd => rfl); (case hg => rfl); (case hr => first | (go_simp; done) | (go_simp; rfl)); intro gb hg w2 hbox hb; have n0_ := Aside0.mk (below_step (by repeat (first | (with_reducible first | exact HB.out | apply below_alloc | apply pw_below_drewN | apply below_drew1) | exact HB.out)) hb); have n1_ := Aside0.mk (hbox); have n2_ := Aside0.mk ((show w0.heap.size ≤ gb by rw [hg]; exact below_size (by repeat (first | (with_reducible first | exact HB.out | apply below_alloc | apply pw_below_drewN | apply below_drew1) | exact HB.out)))); have n3_ := Aside0.mk (blk_below BKg.out hb); have n4_ := Aside0.mk ((show g ≠ gb by rw [hg]; exact Nat.ne_of_lt (blk_lt BKg.out))); clear HB BKg; have HB := n0_; have BKgb := n1_; have GEgb := n2_; have BKg := n3_; have NE_g_gb := n4_; clear n0_ n1_ n2_ n3_ n4_; clear hb hbox hg; have hcg : w2.cell? ⟨g, 0, none⟩ = some (.int .i64 r) := (blk_cell BKg.out 0).trans rfl; have hfg := blk_frozen BKg.out 0; have hcb1 : w2.cell? ⟨gb, 1, none⟩ = some (.int .i64 x1) := (blk_cell BKgb.out 1).trans rfl; have hcb0 : w2.cell? ⟨gb, 0, none⟩ = some (.int .i64 x0) := (blk_cell BKgb.out 0).trans rfl; have hn1 := NE_g_gb.out; have hn2 := Ne.symm hn1))
  go_ret
  exact ⟨by rw [HD.out]; rfl, by rw [HD.out]; exact blk_put BKg.out 0 _ rfl, below_set HB.out GEg.out⟩

def quantIdx : List S67 → Int → Int → Int
  | [], _, _ => -1
  | b :: bs, r, i => if wrap64 (r - b.f1) ≤ 0 then i else quantIdx bs (wrap64 (r - b.f1)) (i + 1)
theorem quantIdx_drop (l : List S67) (i : Nat) (h : i < l.length) (r j : Int) : quantIdx (l.drop i) r j = if wrap64 (r - (rd_T67 l i).f1) ≤ 0 then j else quantIdx (l.drop (i + 1)) (wrap64 (r - (rd_T67 l i).f1)) (j + 1) := by
  rw [List.drop_eq_getElem_cons h]
  have e : rd_T67 l i = l[i] := by simp [rd_T67, List.getD_eq_getElem?_getD, List.getElem?_eq_getElem h]
  rw [e]
  rfl

set_option maxHeartbeats 8000000 in
set_option maxRecDepth 100000 in
theorem slices_IndexFunc_quant.calls (A0 : Option Addr) (c0 : Nat) (l0 : List S67) (r : Int) (g : Nat) (w0 w : World) (hr0 : Kd.C k67 w0 A0 l0.length l0) (hB : Below w0.heap.size w0 w) (hg0 : w0.heap.size ≤ g) (hb0 : w.heap[g]? = some (.cells #[.int .i64 r] 3 (0, 0))) :
    Calls Try.prog 41 #[.slice A0 l0.length c0, .func (.func 42) #[] #[.pointer (some ⟨g, 0, none⟩)]] w fun e w' => e = .returned (.int .i64 (quantIdx l0 r 0)) ∧ Below w0.heap.size w0 w' := by
  have hu67 := Try.underlying67
  have HR0 := Aside0.mk hr0
  have HM := Aside0.mk hr0.2.1
  have BKg := Aside0.mk hb0
  have GEg := Aside0.mk hg0
  have HB := Aside0.mk hB
  clear hB hg0 hb0 hr0
  go_enter Try.func41, Try.ntmps41
  go_wp2_with (fail)
  go_loopw [8] (fun v8 wc => ∃ (i : Nat) (ri : Int), i ≤ l0.length ∧ v8 = .int .i64 i ∧ Aside0 (quantIdx (l0.drop i) ri i = quantIdx l0 r 0) ∧ Aside0 (wc.heap[g]? = some (.cells #[.int .i64 ri] 3 (0, 0))) ∧ Aside0 (Below w0.heap.size w0 wc)) (fun v8 _ => l0.length - (intOf v8).toNat)
  case atStart => exact ⟨0, r, by omega, rfl, ⟨rfl⟩, BKg, HB⟩
  case round =>
    clear BKg HB
    obtain ⟨i, ri, hi, rfl, HQ, BKg, HB⟩ := hrel
    have hm := HM.out
    by_cases hlt : i < l0.length
    · obtain ⟨ad, e, hx0, hx1⟩ := at_T67 HR0.out (i : Int) (by omega) (by omega)
      cases e
      replace hx0 := (HB.out.cell (World.block_lt_of_cell? w0 _ hx0)).trans hx0
      replace hx1 := (HB.out.cell (World.block_lt_of_cell? w0 _ hx1)).trans hx1
      rw [Int.toNat_natCast] at hx0 hx1
      have HQ2 := HQ.out
      clear HQ
      rw [quantIdx_drop _ _ hlt] at HQ2
      obtain ⟨b, hb⟩ : ∃ b, rd_T67 l0 i = b := ⟨_, rfl⟩
      rw [hb] at HQ2 hx0 hx1
      clear hb
      obtain ⟨f0, f1⟩ := b
      dsimp only at HQ2 hx0 hx1
      have q0 := eq_true (show (0:Int) ≤ (i : Int) by omega)
      by_cases hz : wrap64 (ri - f1) ≤ 0
      · rw [if_pos hz] at HQ2
        have HQ := Aside0.mk HQ2
        have hz1 := decide_eq_true hz
        clear hz HQ2
        go_wp2_with (refine (histogram_Quantile_1.calls f0 f1 ri g w0 _ (by exact HB.out) GEg.out (by exact BKg.out)).mono ?_; rintro e w11 ⟨rfl, hbk, hb⟩; rw [hz1]; clear hz1)
        go_ret
        exact ⟨by rw [← HQ.out]; rfl, hb⟩
      · rw [if_neg hz] at HQ2
        have HQ := Aside0.mk HQ2
        have hz1 := decide_eq_false hz
        clear hz HQ2
        go_wp2_with (refine (histogram_Quantile_1.calls f0 f1 ri g w0 _ (by exact HB.out) GEg.out (by exact BKg.out)).mono ?_; rintro e w11 ⟨rfl, hbk, hb⟩; rw [hz1]; clear hz1; have BK2 := Aside0.mk hbk; have HB2 := Aside0.mk hb; clear hbk hb)
        go_roundw
        case rel => exact ⟨i + 1, _, by omega, by go_num, HQ, BK2, HB2⟩
        case measure => simp [intOf]; omega
    · obtain rfl : i = l0.length := by omega
      have HQ2 := HQ.out
      rw [List.drop_length] at HQ2
      replace HQ2 := Aside0.mk HQ2
      clear HQ
      go_wp2
      go_ret
      exact ⟨by rw [← HQ2.out]; rfl, HB.out⟩

/-! ### histogram_counts_histogram: function 45 -/
def arrV (cs : List Int) : Array Value := (cs.map (Value.int .i64)).toArray
def buckFrom : Int → List Int → List S67
  | _, [] => []
  | i, c :: cs => if c = 0 then buckFrom (i + 1) cs else ⟨i, c⟩ :: buckFrom (i + 1) cs
theorem buckFrom_snoc (c : Int) : ∀ (cs : List Int) (s : Int), buckFrom s (cs ++ [c]) = buckFrom s cs ++ (if c = 0 then [] else [⟨s + cs.length, c⟩])
  | [], s => by simp [buckFrom]
  | a :: cs, s => by
    simp only [List.cons_append, buckFrom, buckFrom_snoc c cs (s + 1)]
    have e : s + 1 + (cs.length : Int) = s + ((a :: cs).length : Int) := by simp; omega
    rw [e]
    split <;> simp
theorem buck_take (cs : List Int) (i : Nat) (h : i < cs.length) : buckFrom 0 (cs.take (i + 1)) = buckFrom 0 (cs.take i) ++ (if cs.getD i 0 = 0 then [] else [⟨(i : Int), cs.getD i 0⟩]) := by
  rw [List.take_succ_eq_append_getElem h, buckFrom_snoc]
  have e : cs.getD i 0 = cs[i] := by simp [List.getD_eq_getElem?_getD, List.getElem?_eq_getElem h]
  rw [e]
  simp [List.length_take, Nat.min_eq_left (Nat.le_of_lt h)]
theorem arrV_cell {w : World} {g t : Nat} {cs : List Int} (h : w.heap[g]? = some (.cells (arrV cs) t (0, 0))) (i : Nat) (hi : i < cs.length) : w.cell? ⟨g, i, none⟩ = some (.int .i64 (cs.getD i 0)) := by
  rw [blk_cell h i]
  simp [arrV, List.getD_eq_getElem?_getD, List.getElem?_eq_getElem hi]
theorem buckFrom_len : ∀ (cs : List Int) (s : Int), (buckFrom s cs).length ≤ cs.length
  | [], _ => by simp [buckFrom]
  | a :: cs, s => by
    have := buckFrom_len cs (s + 1)
    simp only [buckFrom]
    split <;> simp <;> omega
theorem hinfo67 : (Try.prog.info? 67).map (fun i => (i.zero, i.size, i.bytes)) = some (some (.agg #[.int .i64 0, .int .i64 0]), 2, 16) := by kernel_rfl

set_option maxHeartbeats 8000000 in
set_option maxRecDepth 100000 in
theorem histogram_counts_histogram.calls (g : Nat) (cs : List Int) (w : World) (hl : cs.length = 305) (hb0 : w.heap[g]? = some (.cells (arrV cs) 76 (0, 0))) :
    Calls Try.prog 45 #[.pointer (some ⟨g, 0, none⟩)] w fun e w' => ∃ v0_ : Value, e = .returned (.agg #[v0_]) ∧ Kd.R k67 67 w' w.heap.size (fun _ => True) v0_ (buckFrom 0 cs) ∧ Below w.heap.size w w' := by
  have HL := Aside0.mk hl
  have BK0 := Aside0.mk hb0
  clear hl hb0
  have HB := Aside0.mk (Below.refl w.heap.size w)
  go_enter Try.func45, Try.ntmps45
  go_wp2_with (first | ((with_reducible refine gate_dst (N := 2) rfl ?_); refine box_event ?hg (N := 2) ?hd (cs := #[.slice none 0 0]) (t := 33) ?hr ?_; (case hd => rfl); (case hg => rfl); (case hr => first | (go_simp; done) | (go_simp; rfl)); intro gr hg w2 hbox hb; have n1_ := Aside0.mk (below_step HB.out hb); have n2_ := Aside0.mk hbox; have n3_ := Aside0.mk (show w.heap.size ≤ gr by rw [hg]; exact HB.out.size); clear HB; have HB := n1_; have BKr := n2_; have GEr := n3_; clear n1_ n2_ n3_ hb hbox hg) | ((with_reducible refine gate_dst (N := 3) rfl ?_); refine box_event ?hg (N := 3) ?hd (cs := #[.slice none 0 0]) (t := 33) ?hr ?_; (case hd => rfl); (case hg => rfl); (case hr => first | (go_simp; done) | (go_simp; rfl)); intro gh hg w3 hbox hb; have n1_ := Aside0.mk (below_step HB.out hb); have n2_ := Aside0.mk hbox; have n3_ := Aside0.mk (show w.heap.size ≤ gh by rw [hg]; exact HB.out.size); have n4_ := Aside0.mk (blk_below BKr.out hb); have n5_ := Aside0.mk (show gr ≠ gh by rw [hg]; exact Nat.ne_of_lt (blk_lt BKr.out)); clear HB BKr; have HB := n1_; have BKh := n2_; have GEh := n3_; have BKr := n4_; have NE := n5_; clear n1_ n2_ n3_ n4_ n5_ hb hbox hg))
  go_loopw [7] (fun v7 wc => ∃ (i : Nat) (v : Value), i ≤ 305 ∧ v7 = .int .i64 i ∧ Aside0 (wc.heap[gh]? = some (.cells #[v] 33 (0, 0))) ∧ Aside0 (wc.heap[gr]? = some (.cells #[.slice none 0 0] 33 (0, 0))) ∧ Aside0 (Kd.R k67 67 wc w.heap.size (fun _ => True) v (buckFrom 0 (cs.take i))) ∧ Aside0 (Below w.heap.size w wc)) (fun v7 _ => 305 - (intOf v7).toNat)
  case atStart => exact ⟨0, .slice none 0 0, by omega, rfl, BKh, BKr, ⟨Kd.R_nil _ _ _ _ _⟩, HB⟩
  case round =>
    clear BKh BKr HB
    obtain ⟨i, v, hi, rfl, BKh, BKr, HR, HB⟩ := hrel
    have BK := Aside0.mk (blk_below BK0.out HB.out)
    by_cases hlt : i < 305
    · have hc0 := arrV_cell BK.out i (by rw [HL.out]; exact hlt)
      have HS := Aside0.mk (buck_take cs i (by rw [HL.out]; exact hlt))
      obtain ⟨c, hc⟩ : ∃ c, cs.getD i 0 = c := ⟨_, rfl⟩
      rw [hc] at hc0 HS
      clear hc
      by_cases hz : c = 0
      · subst hz
        have HS2 : Aside0 (buckFrom 0 (cs.take (i + 1)) = buckFrom 0 (cs.take i)) := ⟨by rw [HS.out]; simp⟩
        clear HS
        go_wp2
        go_quiet (fail)
        go_wp2
        go_roundw
        case rel => exact ⟨i + 1, v, by omega, by go_num, BKh, BKr, ⟨by rw [HS2.out]; exact HR.out⟩, ⟨by repeat (first | (with_reducible first | exact HB.out | apply below_alloc | apply pw_below_drewN | apply below_drew1) | exact HB.out)⟩⟩
        case measure => simp [intOf]; omega
      · have HS2 : Aside0 (buckFrom 0 (cs.take (i + 1)) = buckFrom 0 (cs.take i) ++ [⟨(i : Int), c⟩]) := ⟨by rw [HS.out, if_neg hz]⟩
        clear HS
        have hz1 : (c != 0) = true := by simp [hz]
        clear hz
        have LL := Aside0.mk (Nat.le_trans (buckFrom_len (cs.take i) 0) (List.length_take_le _ _))
        go_wp2
        go_quiet (fail)
        have hcz : wr.cell? ⟨gh, 0, none⟩ = some v := (blk_cell BKh.out 0).trans rfl
        have hfz := blk_frozen BKh.out 0
        go_wp2_with (first | ((with_reducible refine gate_builtin (b := .append) (xs := #[.tmp 16, .tmp 20]) rfl ?_); at_builtin; refine Kd.R_append k67 (w0 := w) w.heap.size rfl (.tmp 16) (.tmp 20) 31 67 (.agg #[.int .i64 0, .int .i64 0]) 16 rfl Try.underlying31 hinfo67 rfl (by decide) (by decide) v (buckFrom 0 (cs.take i)) ⟨(i : Int), c⟩ [.int .i64 i, .int .i64 c] (fun _ => True) (fun _ => False) rfl rfl ?aP (fun _ hk => hk.elim) ?aF ?aO ?aB ?aS ?aL ?_; (case aP => exact k67_mkM _ _ _ _); (case aB => exact (by repeat (first | (with_reducible first | exact HB.out | apply below_alloc | apply pw_below_drewN | apply below_drew1) | exact HB.out))); (case aF => exact (fun _ _ => trivial)); (case aO => exact (by (with_reducible repeat (first | apply Kd.R_alloc | apply Kd.R_drewN | apply Kd.R_drew)); exact HR.out)); (case aS => exact (below_size (by repeat (first | (with_reducible first | exact HB.out | apply below_alloc | apply pw_below_drewN | apply below_drew1) | exact HB.out)))); (case aL => have := LL.out; omega); intro v1 w4 ho hb hg hat; rw [← HS2.out] at ho; clear HS2; obtain ⟨Ao, co, eo⟩ := Kd.R_slice ho; subst eo; have n0_ := Aside0.mk hb; have n1_ := Aside0.mk ho; have n2_ := Aside0.mk (blk_grown (blk_drewN BKh.out nq) hg (Kd.R_ne HR.out BKh.out (by decide))); have n3_ := Aside0.mk (blk_grown (blk_drewN BKr.out nq) hg (Kd.R_ne HR.out BKr.out (by decide))); clear HB HR BKh BKr BK hc0 hcz hfz; have HB := n0_; have HR := n1_; have BKh := n2_; have BKr := n3_; clear n0_ n1_ n2_ n3_; clear ho hb hg hat; have hcz : w4.cell? ⟨gh, 0, none⟩ = some v := (blk_cell BKh.out 0).trans rfl; have hfz := blk_frozen BKh.out 0))
        go_roundw
        case rel => exact ⟨i + 1, _, by omega, by go_num, ⟨blk_put BKh.out 0 _ rfl⟩, ⟨blk_far BKr.out NE.out _⟩, ⟨Kd.R_set HR.out BKh.out (by decide) 0 _⟩, ⟨below_set HB.out GEh.out⟩⟩
        case measure => simp [intOf]; omega
    · obtain rfl : i = 305 := by omega
      have HS : Aside0 (cs.take 305 = cs) := ⟨List.take_of_length_le (by rw [HL.out]; exact Nat.le_refl _)⟩
      obtain ⟨Ao, co, eo⟩ := Kd.R_slice HR.out
      subst eo
      have hcz : wr.cell? ⟨gh, 0, none⟩ = some (.slice Ao (buckFrom 0 (cs.take 305)).length co) := (blk_cell BKh.out 0).trans rfl
      have hcr : wr.cell? ⟨gr, 0, none⟩ = some (.slice none 0 0) := (blk_cell BKr.out 0).trans rfl
      have hfr := blk_frozen BKr.out 0
      go_wp2
      refine bodyPost_ret (results_cell_row rfl _ _ gr 33 #[.slice Ao (buckFrom 0 (cs.take 305)).length co] (0, 0) _ rfl (blk_put BKr.out 0 _ rfl) Try.underlying33 rfl (by kernel_rfl)) rfl ?_
      have HR2 := HR.out
      rw [HS.out] at HR2
      rw [HS.out]
      exact ⟨_, rfl, Kd.R_set HR2 BKr.out (by decide) 0 _, below_set HB.out GEr.out⟩

end Go.Proofs.Ytfnhicmjdfeanaa.PH
