/- The model's fold: the state behind events, and what becomes of each. -/
import Derived.Test.YtcjfgejiknlpfaaGreatSq31
import Derived.Test.YtcjfgejiknlpfaaGreatSq27
import Derived.Test.YtcjfgejiknlpfaaGreatSq14
namespace Go.Proofs.YtcjfgejiknlpfaaGreat.PI
open Go.RowKit Go.Proofs.YtcjfgejiknlpfaaGreatW.PrintWords Go.Proofs.YtcjfgejiknlpfaaGreatW.PrintLast Go.Proofs.YtcjfgejiknlpfaaGreatW.PrintMore Go.Proofs.YtcjfgejiknlpfaaGreat.Sep
set_option linter.unusedVariables false
set_option linter.unusedSimpArgs false
set_option maxHeartbeats 8000000
set_option maxRecDepth 100000

def mfo.T7 : Bool × List (List Nat × List Nat) := (true, [([], []), ([], []), ([], []), ([1, 2], [1, 2]), ([3], [3]), ([0, 4], [0, 4]), ([5, 5, 0, 1, 2, 3, 4, 5], [5])])
def mfo.B7 : List Nat := [0, 0, 0, 6, 14, 31, 63]
theorem mfo.tab7 : rtab .any (opsOf Tryz.f10 7) = mfo.T7 := by kernel_rfl
theorem mfo.bits7 : waitsOk mfo.T7.2 mfo.B7 = true := by kernel_rfl
def mfo.T9 : Bool × List (List Nat × List Nat) := (true, [([], []), ([], []), ([], []), ([1, 2], [1, 2]), ([3], [3]), ([0, 4], [0, 4]), ([5, 5, 0, 1, 2, 3, 4, 5], [5])])
def mfo.B9 : List Nat := [0, 0, 0, 6, 14, 31, 63]
theorem mfo.tab9 : rtab .any (opsOf Tryz.f10 9) = mfo.T9 := by kernel_rfl
theorem mfo.bits9 : waitsOk mfo.T9.2 mfo.B9 = true := by kernel_rfl
theorem fold_ok {N : Nat} {w : World} {L : List Res} (A : Option Addr) (c : Nat) (zs : List S50) (hm : zs.length ≤ 1000) (hk : ∀ x ∈ orderE zs, EvOk x) (HS0 : St N w (Row k50 50 (.slice A zs.length c) zs :: L)) :
    Calls Tryz.prog 10 #[.slice A zs.length c] w fun r w' => ∃ v6 v7 vr, r = .returned (.tuple #[.agg #[.int .i64 (runP zs).1.st, .string (runP zs).1.ti, .int .i64 (runP zs).1.op, .int .i64 (runP zs).1.en, .string (runP zs).1.ca.f0, .int .i64 (runP zs).1.ca.f1, v6, v7, .int .i64 (runP zs).1.no], vr]) ∧ St N w' (Row k69 69 v6 (runP zs).1.pe :: Row k71 71 v7 (runP zs).1.th :: Row (Kd.int .i64) 3 vr (runP zs).2 :: Row k50 50 (.slice A zs.length c) zs :: L) ∧ Below N w w' := by
  have HS := Aside0.mk HS0
  have HB := Aside0.mk (Below.refl N w)
  have HK := Aside0.mk hk
  clear HS0 hk
  have hol := order_len zs
  go_enter Tryz.func10, Tryz.ntmps10
  go_upto_region 4 with (first | ((with_reducible refine gate_dst (N := 2) rfl ?_); refine box_event ?hg (N := 2) ?hd (cs := #[.int .i64 0, .string ⟨#[]⟩, .int .i64 0, .int .i64 0, .string ⟨#[]⟩, .int .i64 0, .slice none 0 0, .slice none 0 0, .int .i64 0]) (t := 37) ?hr ?_; (case hd => rfl); (case hg => rfl); (case hr => first | (go_simp; done) | (go_simp; rfl)); intro g2 hg w1 hbox hb; have n0_ := Aside0.mk (HS.out.box hg hbox hb); have n1_ := Aside0.mk (below_step' HB.out HS.out.size hb); clear HS HB; have HS := n0_; have HB := n1_; clear n0_ n1_; (try simp only [List.eraseIdx_cons_succ, List.eraseIdx_cons_zero] at HS); clear hb hbox hg) | ((with_reducible refine gate_dst (N := 4) rfl ?_); refine box_event ?hg (N := 4) ?hd (cs := #[.int .i64 0, .string ⟨#[]⟩, .int .i64 0, .int .i64 0, .string ⟨#[]⟩, .int .i64 0, .slice none 0 0, .slice none 0 0, .int .i64 0]) (t := 37) ?hr ?_; (case hd => rfl); (case hg => rfl); (case hr => first | (go_simp; done) | (go_simp; rfl)); intro g4 hg w2 hbox hb; have n0_ := Aside0.mk (HS.out.box hg hbox hb); have n1_ := Aside0.mk (below_step' HB.out HS.out.size hb); clear HS HB; have HS := n0_; have HB := n1_; clear n0_ n1_; (try simp only [List.eraseIdx_cons_succ, List.eraseIdx_cons_zero] at HS); clear hb hbox hg) | (go_at_call 13; (with_reducible refine (counting_ok A c zs (by omega) ((HS.out.pick 2 rfl))).mono ?_); rintro r_ w3 ⟨vl, rfl, hs, hb⟩; have n0_ := Aside0.mk (hs); have n1_ := Aside0.mk (HB.out.trans hb); clear HS HB; have HS := n0_; have HB := n1_; clear n0_ n1_; (try simp only [List.eraseIdx_cons_succ, List.eraseIdx_cons_zero] at HS); clear hs hb; obtain ⟨Al, cl, el, _, _⟩ := HS.out.reads; subst el))
  have hrp : Aside0 (runP zs = runO (orderE zs)) := ⟨rfl⟩
  generalize hl_ : orderE zs = l at HS HK hol hrp
  replace hl_ := Aside0.mk hl_
  go_upto_region 5 with (fail)
  go_loopw [5, 7] (fun v5 v7 wr => ∃ (i : Nat) (A6 A7 : Option Addr) (k6 k7 : Nat), i ≤ l.length ∧ v7 = .int .i64 i ∧ Aside0 (St N wr (Blk g4 #[.int .i64 (runO (l.take i)).1.st, .string (runO (l.take i)).1.ti, .int .i64 (runO (l.take i)).1.op, .int .i64 (runO (l.take i)).1.en, .string (runO (l.take i)).1.ca.f0, .int .i64 (runO (l.take i)).1.ca.f1, .slice A6 (runO (l.take i)).1.pe.length k6, .slice A7 (runO (l.take i)).1.th.length k7, .int .i64 (runO (l.take i)).1.no] 37 :: Row k69 69 (.slice A6 (runO (l.take i)).1.pe.length k6) (runO (l.take i)).1.pe :: Row k71 71 (.slice A7 (runO (l.take i)).1.th.length k7) (runO (l.take i)).1.th :: Row (Kd.int .i64) 3 v5 (runO (l.take i)).2 :: Row k50 50 (.slice Al l.length cl) l :: Row k50 50 (.slice A zs.length c) zs :: Blk g2 #[.int .i64 0, .string ⟨#[]⟩, .int .i64 0, .int .i64 0, .string ⟨#[]⟩, .int .i64 0, .slice none 0 0, .slice none 0 0, .int .i64 0] 37 :: L)) ∧ Aside0 (Below N w wr)) (fun _ v7 _ => l.length - (intOf v7).toNat)
  case atStart =>
    have h := ((HS.out.rowNil (d := k69) (e := 69)).rowNil (d := k71) (e := 71)).rowNil (d := Kd.int .i64) (e := 3)
    exact ⟨0, none, none, 0, 0, Nat.zero_le _, rfl, ⟨(((((((h.pick 6 rfl).pick 5 rfl).pick 5 rfl).pick 3 rfl).pick 4 rfl).pick 5 rfl).pick 6 rfl)⟩, HB⟩
  case round =>
    clear HS HB
    obtain ⟨i, A6, A7, k6, k7, hi, rfl, HS, HB⟩ := hrel
    have hg0 := good_take l i hi
    have hrl := Aside0.mk (run_len l i hi)
    by_cases hlt : i < l.length
    · have hsn := Aside0.mk (show runO (l.take (i + 1)) = stepP (runO (l.take i)) (rd_T50 l (i : Int)) by rw [take_rd l i hlt, runO_snoc])
      have hxk := HK.out (rd_T50 l (i : Int)) (by simp [rd_T50, hlt])
      have hro := run_roles (l.take i) (fun x hx => HK.out x (List.mem_of_mem_take hx))
      obtain ⟨gl, cl2, el, _⟩ := St.row_some flat50 (HS.out.pick 4 rfl) (by omega)
      obtain ⟨h1_, h2_⟩ : Al = some ⟨gl, 0, none⟩ ∧ cl = cl2 := by simpa using el
      subst h1_
      subst h2_
      clear el
      have q0 : decide ((i : Int) < (l.length : Int)) = true := decide_eq_true (by omega)
      have q1 := eq_true (show (i : Int) < (l.length : Int) by omega)
      have q2 := eq_true (show (0 : Int) ≤ (i : Int) by omega)
      have hw : IntKind.i64.wrap ((i : Int) + 1) = (i : Int) + 1 := by rw [IntKind.wrap_i64]; omega
      have hil : Aside0 (i < l.length) := ⟨hlt⟩
      obtain ⟨x, hx0⟩ : ∃ x, rd_T50 l (i : Int) = x := ⟨_, rfl⟩
      rw [hx0] at hsn hxk
      have hx := Aside0.mk hx0
      clear hx0
      generalize runO (l.take i) = q at hsn hg0 hrl HS hro
      obtain ⟨s, rs⟩ := q
      simp only at HS hg0 hrl hro
      have m1 : Aside0 (s.pe.length ≤ 100000) := ⟨by have := hg0.lp; omega⟩
      have m2 : Aside0 (s.th.length ≤ 100000) := ⟨by have := hg0.lt; omega⟩
      have hno : Aside0 (0 ≤ s.no ∧ s.no ≤ 100000) := ⟨hg0.n0, by have := hg0.n1; omega⟩
      have hkx := Aside0.mk hxk.1
      obtain ⟨r, hr0⟩ : ∃ r, reasonP s x = r := ⟨_, rfl⟩
      have hr : Aside0 (reasonM s x = r) := ⟨by rw [reason_is s x hg0.inc hro hxk.1, hr0]⟩
      have hth : Aside0 (r = 0 → x.f2 = 4 ∨ x.f2 = 5 → 0 ≤ thIx x.f3 s.th) := ⟨fun h0 h4 => acc_theory (hr0.trans h0) (by omega)⟩
      obtain ⟨t, ht0⟩ : ∃ t, effP s x = t := ⟨_, rfl⟩
      have hac : Aside0 (accM s x = t) := ⟨by rw [acc_is s x hg0.inc, ht0]⟩
      have hs2 : Aside0 (runO (l.take (i + 1)) = (if r = 0 then t else s, rs ++ [r])) := ⟨by rw [hsn.out]; unfold stepP; simp only [hr0, ht0]⟩
      clear hr0 ht0 hsn hxk hro
      replace hg0 := Aside0.mk hg0
      go_upto_region 7 with (fail)
      have n0_ := Aside0.mk (HS.out.drew); have n1_ := Aside0.mk (HB.out.drew); clear HS HB; have HS := n0_; have HB := n1_; clear n0_ n1_
      refine start_ (n := 7) (S := fun w' => w'.cell? ⟨g4, 0, none⟩ = some (.int .i64 s.st) ∧ w'.cell? ⟨g4, 1, none⟩ = some (.string s.ti) ∧ w'.cell? ⟨g4, 2, none⟩ = some (.int .i64 s.op) ∧ w'.cell? ⟨g4, 3, none⟩ = some (.int .i64 s.en) ∧ w'.cell? ⟨g4, 4, none⟩ = some (.string s.ca.f0) ∧ w'.cell? ⟨g4, 5, none⟩ = some (.int .i64 s.ca.f1) ∧ w'.cell? ⟨g4, 6, none⟩ = some (.slice A6 s.pe.length k6) ∧ w'.cell? ⟨g4, 7, none⟩ = some (.slice A7 s.th.length k7) ∧ w'.cell? ⟨g4, 8, none⟩ = some (.int .i64 s.no) ∧ w'.cell? ⟨gl, i * 9, none⟩ = some (.string x.f0.f0) ∧ w'.cell? ⟨gl, i * 9 + 1, none⟩ = some (.int .i64 x.f0.f1) ∧ w'.cell? ⟨gl, i * 9 + 2, none⟩ = some (.int .i64 x.f1) ∧ w'.cell? ⟨gl, i * 9 + 3, none⟩ = some (.int .i64 x.f2) ∧ w'.cell? ⟨gl, i * 9 + 4, none⟩ = some (.string x.f3.f0) ∧ w'.cell? ⟨gl, i * 9 + 5, none⟩ = some (.int .i64 x.f3.f1) ∧ w'.cell? ⟨gl, i * 9 + 6, none⟩ = some (.string x.f4) ∧ w'.cell? ⟨gl, i * 9 + 7, none⟩ = some (.int .i64 x.f5) ∧ w'.cell? ⟨gl, i * 9 + 8, none⟩ = some (.string x.f6)) (ds := []) #[false, false, false, false, false, false, false] (by kernel_rfl) rfl rfl ⟨((HS.out.pick 0 rfl).cell 0).trans rfl, ((HS.out.pick 0 rfl).cell 1).trans rfl, ((HS.out.pick 0 rfl).cell 2).trans rfl, ((HS.out.pick 0 rfl).cell 3).trans rfl, ((HS.out.pick 0 rfl).cell 4).trans rfl, ((HS.out.pick 0 rfl).cell 5).trans rfl, ((HS.out.pick 0 rfl).cell 6).trans rfl, ((HS.out.pick 0 rfl).cell 7).trans rfl, ((HS.out.pick 0 rfl).cell 8).trans rfl, (evCel (HS.out.pick 4 rfl) i hil.out x hx.out).1, (evCel (HS.out.pick 4 rfl) i hil.out x hx.out).2.1, (evCel (HS.out.pick 4 rfl) i hil.out x hx.out).2.2.1, (evCel (HS.out.pick 4 rfl) i hil.out x hx.out).2.2.2.1, (evCel (HS.out.pick 4 rfl) i hil.out x hx.out).2.2.2.2.1, (evCel (HS.out.pick 4 rfl) i hil.out x hx.out).2.2.2.2.2.1, (evCel (HS.out.pick 4 rfl) i hil.out x hx.out).2.2.2.2.2.2.1, (evCel (HS.out.pick 4 rfl) i hil.out x hx.out).2.2.2.2.2.2.2.1, (evCel (HS.out.pick 4 rfl) i hil.out x hx.out).2.2.2.2.2.2.2.2⟩ (fun hHeld => ?_); refine with_tabW mfo.tab7 mfo.bits7 (fun HT_ HW_ => ?_)
      generalize wr.drew = w5 at HS HB hHeld ⊢
      refine pU 1 18 #[false, true, false, false, false, false, false] rfl rfl HT_ ?_
      refine pU 2 19 #[false, true, true, false, false, false, false] rfl rfl HT_ ?_
      refine pU 3 20 #[false, true, true, true, false, false, false] rfl rfl HT_ ?_
      refine tK 0 17 #[true, true, true, true, false, false, false] rfl rfl HT_ HW_ hHeld ?_ (by rintro w' ⟨s0, s1, s2, s3, s4, s5, s6, s7, s8, s9, s10, s11, s12, s13, s14, s15, s16, s17⟩; go_simp; with_reducible rfl)
      refine tK 4 21 #[true, true, true, true, true, false, false] rfl rfl HT_ HW_ hHeld ?_ (by rintro w' ⟨s0, s1, s2, s3, s4, s5, s6, s7, s8, s9, s10, s11, s12, s13, s14, s15, s16, s17⟩; go_simp; with_reducible rfl)
      refine one_ (i := 5) (N := some 22) #[true, true, true, true, true, true, false] rfl rfl (one_of HT_.out (by kernel_rfl)) (by decide) (fun K hK => ?_)
      refine goes_ Tryz.func30 (by kernel_rfl) rfl #[.agg #[.int .i64 s.st, .string s.ti, .int .i64 s.op, .int .i64 s.en, .string s.ca.f0, .int .i64 s.ca.f1, .slice A6 s.pe.length k6, .slice A7 s.th.length k7, .int .i64 s.no], .agg #[.string x.f0.f0, .int .i64 x.f0.f1, .int .i64 x.f1, .int .i64 x.f2, .string x.f3.f0, .int .i64 x.f3.f1, .string x.f4, .int .i64 x.f5, .string x.f6]] (by rfl) rfl rfl (by (try simp only [List.map_toArray, List.map_cons, List.map_nil]); first | done | rfl | (simp only [List.length_drop, List.length_take]; rfl)) ?_
      with_reducible refine (reasonW_ok s x A6 A7 k6 k7 _ (HS.out.pick 1 rfl).rowC.2.2 (HS.out.pick 1 rfl).rowC.2.1 (HS.out.pick 2 rfl).rowC.2.2 (HS.out.pick 2 rfl).rowC.2.1 m1.out m2.out).mono ?_
      rintro r_ w4 ⟨rfl, hb⟩; rw [hr.out]
      refine ⟨_, rfl, ?_⟩
      have n0_ := Aside0.mk (HS.out.step hb); have n1_ := Aside0.mk (below_step' HB.out HS.out.size hb); clear HS HB; have HS := n0_; have HB := n1_; clear n0_ n1_; (try simp only [List.eraseIdx_cons_succ, List.eraseIdx_cons_zero] at HS)
      clear hb
      refine hK.out _ _ ⟨((HS.out.pick 0 rfl).cell 0).trans rfl, ((HS.out.pick 0 rfl).cell 1).trans rfl, ((HS.out.pick 0 rfl).cell 2).trans rfl, ((HS.out.pick 0 rfl).cell 3).trans rfl, ((HS.out.pick 0 rfl).cell 4).trans rfl, ((HS.out.pick 0 rfl).cell 5).trans rfl, ((HS.out.pick 0 rfl).cell 6).trans rfl, ((HS.out.pick 0 rfl).cell 7).trans rfl, ((HS.out.pick 0 rfl).cell 8).trans rfl, (evCel (HS.out.pick 4 rfl) i hil.out x hx.out).1, (evCel (HS.out.pick 4 rfl) i hil.out x hx.out).2.1, (evCel (HS.out.pick 4 rfl) i hil.out x hx.out).2.2.1, (evCel (HS.out.pick 4 rfl) i hil.out x hx.out).2.2.2.1, (evCel (HS.out.pick 4 rfl) i hil.out x hx.out).2.2.2.2.1, (evCel (HS.out.pick 4 rfl) i hil.out x hx.out).2.2.2.2.2.1, (evCel (HS.out.pick 4 rfl) i hil.out x hx.out).2.2.2.2.2.2.1, (evCel (HS.out.pick 4 rfl) i hil.out x hx.out).2.2.2.2.2.2.2.1, (evCel (HS.out.pick 4 rfl) i hil.out x hx.out).2.2.2.2.2.2.2.2⟩ (fun hHeld => ?_)
      clear hK K
      refine norm_ (a' := ?_) ?_ ?_
      rotate_left
      · show Act.put _ (some 22) _ = _
        simp only [Act.put, List.setIfInBounds_toArray, List.set_cons_zero, List.set_cons_succ, i64_w, i32_w]
        rfl
      refine pU 6 8 #[true, true, true, true, true, true, true] rfl rfl HT_ ?_
      refine done_ (done_of HT_.out (by kernel_rfl)) ?_
      clear HT_ HW_
      try clear hHeld
      by_cases h0 : r = 0
      · subst h0
        have hs3 : Aside0 (runO (l.take (i + 1)) = (t, rs ++ [0])) := ⟨by rw [hs2.out, if_pos rfl]⟩
        replace hth := Aside0.mk (hth.out rfl)
        clear hs2
        go_upto_region 9 with (fail)
        have n0_ := Aside0.mk (HS.out.drew); have n1_ := Aside0.mk (HB.out.drew); clear HS HB; have HS := n0_; have HB := n1_; clear n0_ n1_
        refine start_ (n := 7) (S := fun w' => w'.cell? ⟨g4, 0, none⟩ = some (.int .i64 s.st) ∧ w'.cell? ⟨g4, 1, none⟩ = some (.string s.ti) ∧ w'.cell? ⟨g4, 2, none⟩ = some (.int .i64 s.op) ∧ w'.cell? ⟨g4, 3, none⟩ = some (.int .i64 s.en) ∧ w'.cell? ⟨g4, 4, none⟩ = some (.string s.ca.f0) ∧ w'.cell? ⟨g4, 5, none⟩ = some (.int .i64 s.ca.f1) ∧ w'.cell? ⟨g4, 6, none⟩ = some (.slice A6 s.pe.length k6) ∧ w'.cell? ⟨g4, 7, none⟩ = some (.slice A7 s.th.length k7) ∧ w'.cell? ⟨g4, 8, none⟩ = some (.int .i64 s.no) ∧ w'.cell? ⟨gl, i * 9, none⟩ = some (.string x.f0.f0) ∧ w'.cell? ⟨gl, i * 9 + 1, none⟩ = some (.int .i64 x.f0.f1) ∧ w'.cell? ⟨gl, i * 9 + 2, none⟩ = some (.int .i64 x.f1) ∧ w'.cell? ⟨gl, i * 9 + 3, none⟩ = some (.int .i64 x.f2) ∧ w'.cell? ⟨gl, i * 9 + 4, none⟩ = some (.string x.f3.f0) ∧ w'.cell? ⟨gl, i * 9 + 5, none⟩ = some (.int .i64 x.f3.f1) ∧ w'.cell? ⟨gl, i * 9 + 6, none⟩ = some (.string x.f4) ∧ w'.cell? ⟨gl, i * 9 + 7, none⟩ = some (.int .i64 x.f5) ∧ w'.cell? ⟨gl, i * 9 + 8, none⟩ = some (.string x.f6)) (ds := [6]) #[false, false, false, false, false, false, false] (by kernel_rfl) rfl rfl ⟨((HS.out.pick 0 rfl).cell 0).trans rfl, ((HS.out.pick 0 rfl).cell 1).trans rfl, ((HS.out.pick 0 rfl).cell 2).trans rfl, ((HS.out.pick 0 rfl).cell 3).trans rfl, ((HS.out.pick 0 rfl).cell 4).trans rfl, ((HS.out.pick 0 rfl).cell 5).trans rfl, ((HS.out.pick 0 rfl).cell 6).trans rfl, ((HS.out.pick 0 rfl).cell 7).trans rfl, ((HS.out.pick 0 rfl).cell 8).trans rfl, (evCel (HS.out.pick 4 rfl) i hil.out x hx.out).1, (evCel (HS.out.pick 4 rfl) i hil.out x hx.out).2.1, (evCel (HS.out.pick 4 rfl) i hil.out x hx.out).2.2.1, (evCel (HS.out.pick 4 rfl) i hil.out x hx.out).2.2.2.1, (evCel (HS.out.pick 4 rfl) i hil.out x hx.out).2.2.2.2.1, (evCel (HS.out.pick 4 rfl) i hil.out x hx.out).2.2.2.2.2.1, (evCel (HS.out.pick 4 rfl) i hil.out x hx.out).2.2.2.2.2.2.1, (evCel (HS.out.pick 4 rfl) i hil.out x hx.out).2.2.2.2.2.2.2.1, (evCel (HS.out.pick 4 rfl) i hil.out x hx.out).2.2.2.2.2.2.2.2⟩ (fun hHeld => ?_); refine with_tabW mfo.tab9 mfo.bits9 (fun HT_ HW_ => ?_)
        generalize w5.drew = w6 at HS HB hHeld ⊢
        refine pU 1 26 #[false, true, false, false, false, false, false] rfl rfl HT_ ?_
        refine pU 2 27 #[false, true, true, false, false, false, false] rfl rfl HT_ ?_
        refine pU 3 28 #[false, true, true, true, false, false, false] rfl rfl HT_ ?_
        refine tK 0 25 #[true, true, true, true, false, false, false] rfl rfl HT_ HW_ hHeld ?_ (by rintro w' ⟨s0, s1, s2, s3, s4, s5, s6, s7, s8, s9, s10, s11, s12, s13, s14, s15, s16, s17⟩; go_simp; with_reducible rfl)
        refine tK 4 29 #[true, true, true, true, true, false, false] rfl rfl HT_ HW_ hHeld ?_ (by rintro w' ⟨s0, s1, s2, s3, s4, s5, s6, s7, s8, s9, s10, s11, s12, s13, s14, s15, s16, s17⟩; go_simp; with_reducible rfl)
        refine one_ (i := 5) (N := some 30) #[true, true, true, true, true, true, false] rfl rfl (one_of HT_.out (by kernel_rfl)) (by decide) (fun K hK => ?_)
        refine goes_ Tryz.func31 (by kernel_rfl) rfl #[.agg #[.int .i64 s.st, .string s.ti, .int .i64 s.op, .int .i64 s.en, .string s.ca.f0, .int .i64 s.ca.f1, .slice A6 s.pe.length k6, .slice A7 s.th.length k7, .int .i64 s.no], .agg #[.string x.f0.f0, .int .i64 x.f0.f1, .int .i64 x.f1, .int .i64 x.f2, .string x.f3.f0, .int .i64 x.f3.f1, .string x.f4, .int .i64 x.f5, .string x.f6]] (by rfl) rfl rfl (by (try simp only [List.map_toArray, List.map_cons, List.map_nil]); first | done | rfl | (simp only [List.length_drop, List.length_take]; rfl)) ?_
        with_reducible refine (accept_ok s x A6 A7 k6 k7 hkx.out hth.out m1.out m2.out hno.out ((((((((HS.out.pick 6 rfl).pick 6 rfl).pick 6 rfl).pick 6 rfl).pick 4 rfl).pick 6 rfl).pick 6 rfl))).mono ?_
        rintro r_ w6 ⟨v6, v7, rfl, hs, hb⟩; rw [hac.out] at hs ⊢
        refine ⟨_, rfl, ?_⟩
        have n0_ := Aside0.mk ((((((((hs.pick 6 rfl).pick 6 rfl).pick 6 rfl).pick 6 rfl).pick 5 rfl).pick 5 rfl).pick 6 rfl)); have n1_ := Aside0.mk (HB.out.trans hb); clear HS HB; have HS := n0_; have HB := n1_; clear n0_ n1_; (try simp only [List.eraseIdx_cons_succ, List.eraseIdx_cons_zero] at HS)
        clear hs hb; obtain ⟨A8, k8, e8, _, _⟩ := (HS.out.pick 1 rfl).reads; subst e8; obtain ⟨A9, k9, e9, _, _⟩ := (HS.out.pick 2 rfl).reads; subst e9
        refine hK.out _ _ ⟨((HS.out.pick 0 rfl).cell 0).trans rfl, ((HS.out.pick 0 rfl).cell 1).trans rfl, ((HS.out.pick 0 rfl).cell 2).trans rfl, ((HS.out.pick 0 rfl).cell 3).trans rfl, ((HS.out.pick 0 rfl).cell 4).trans rfl, ((HS.out.pick 0 rfl).cell 5).trans rfl, ((HS.out.pick 0 rfl).cell 6).trans rfl, ((HS.out.pick 0 rfl).cell 7).trans rfl, ((HS.out.pick 0 rfl).cell 8).trans rfl, (evCel (HS.out.pick 4 rfl) i hil.out x hx.out).1, (evCel (HS.out.pick 4 rfl) i hil.out x hx.out).2.1, (evCel (HS.out.pick 4 rfl) i hil.out x hx.out).2.2.1, (evCel (HS.out.pick 4 rfl) i hil.out x hx.out).2.2.2.1, (evCel (HS.out.pick 4 rfl) i hil.out x hx.out).2.2.2.2.1, (evCel (HS.out.pick 4 rfl) i hil.out x hx.out).2.2.2.2.2.1, (evCel (HS.out.pick 4 rfl) i hil.out x hx.out).2.2.2.2.2.2.1, (evCel (HS.out.pick 4 rfl) i hil.out x hx.out).2.2.2.2.2.2.2.1, (evCel (HS.out.pick 4 rfl) i hil.out x hx.out).2.2.2.2.2.2.2.2⟩ (fun hHeld => ?_)
        clear hK K
        refine norm_ (a' := ?_) ?_ ?_
        rotate_left
        · show Act.put _ (some 30) _ = _
          simp only [Act.put, List.setIfInBounds_toArray, List.set_cons_zero, List.set_cons_succ, i64_w, i32_w]
          rfl
        refine last_ (i := 6) (N := none) #[true, true, true, true, true, true, true] rfl rfl (one_of HT_.out (by kernel_rfl)) (by decide) (fun K hK => ?_)
        have qc0 := ((HS.out.pick 0 rfl).cell 0).trans (show _ = some (.int .i64 s.st) from rfl); have qf0 := (HS.out.pick 0 rfl).frozen 0
        have qc1 := ((HS.out.pick 0 rfl).cell 1).trans (show _ = some (.string s.ti) from rfl); have qf1 := (HS.out.pick 0 rfl).frozen 1
        have qc2 := ((HS.out.pick 0 rfl).cell 2).trans (show _ = some (.int .i64 s.op) from rfl); have qf2 := (HS.out.pick 0 rfl).frozen 2
        have qc3 := ((HS.out.pick 0 rfl).cell 3).trans (show _ = some (.int .i64 s.en) from rfl); have qf3 := (HS.out.pick 0 rfl).frozen 3
        have qc4 := ((HS.out.pick 0 rfl).cell 4).trans (show _ = some (.string s.ca.f0) from rfl); have qf4 := (HS.out.pick 0 rfl).frozen 4
        have qc5 := ((HS.out.pick 0 rfl).cell 5).trans (show _ = some (.int .i64 s.ca.f1) from rfl); have qf5 := (HS.out.pick 0 rfl).frozen 5
        have qc6 := ((HS.out.pick 0 rfl).cell 6).trans (show _ = some (.slice A6 s.pe.length k6) from rfl); have qf6 := (HS.out.pick 0 rfl).frozen 6
        have qc7 := ((HS.out.pick 0 rfl).cell 7).trans (show _ = some (.slice A7 s.th.length k7) from rfl); have qf7 := (HS.out.pick 0 rfl).frozen 7
        have qc8 := ((HS.out.pick 0 rfl).cell 8).trans (show _ = some (.int .i64 s.no) from rfl); have qf8 := (HS.out.pick 0 rfl).frozen 8
        refine skip_ (w1 := ?_) (by rfl) rfl ?_ ?_
        rotate_left
        · go_simp
          rfl
        clear qc0 qf0 qc1 qf1 qc2 qf2 qc3 qf3 qc4 qf4 qc5 qf5 qc6 qf6 qc7 qf7 qc8 qf8
        have s9 := set9 (.int .i64 t.st) (.string t.ti) (.int .i64 t.op) (.int .i64 t.en) (.string t.ca.f0) (.int .i64 t.ca.f1) (.slice A8 t.pe.length k8) (.slice A9 t.th.length k9) (.int .i64 t.no) (HS.out.pick 0 rfl) HB.out
        have n0_ := Aside0.mk (s9.1); have n1_ := Aside0.mk (s9.2); clear HS HB; have HS := n0_; have HB := n1_; clear n0_ n1_; (try simp only [List.eraseIdx_cons_succ, List.eraseIdx_cons_zero] at HS)
        clear s9
        generalize World.setCell _ _ _ = w7 at HS HB ⊢
        refine hK.out _ _ ?_
        clear hK K
        refine done_ (done_of HT_.out (by kernel_rfl)) ?_
        clear HT_ HW_
        try clear hHeld
        go_wp2_with (first | ((with_reducible refine gate_builtin (b := .append) (xs := #[.tmp 31, .tmp 33]) rfl ?_); at_builtin; refine S_append (Kd.int .i64) rfl (.tmp 31) (.tmp 33) 38 3 (.int .i64 0) 8 rfl Tryz.underlying38 info3 rfl (by decide) (by omega) _ rs 0 [.int .i64 0] rfl rfl (show Kd.M (Kd.int .i64) _ _ _ _ [.int .i64 _] from rfl) (HS.out.pick 3 rfl) HB.out (by have := hrl.out; omega) ?_; intro v9 w9 hs hb; have n0_ := Aside0.mk ((((hs.pick 3 rfl).pick 3 rfl).pick 3 rfl)); have n1_ := Aside0.mk (hb); clear HS HB; have HS := n0_; have HB := n1_; clear n0_ n1_; (try simp only [List.eraseIdx_cons_succ, List.eraseIdx_cons_zero] at HS); clear hs hb))
        go_roundw
        case rel =>
          refine ⟨i + 1, A8, A9, k8, k9, by omega, by go_num, ?_, HB⟩
          rw [hs3.out]
          exact HS
        case measure => simp [intOf]; omega
      · have h1 : decide (r = 0) = false := decide_eq_false h0
        have h2 : (r == 0) = false := by simpa using h1
        have hs3 : Aside0 (runO (l.take (i + 1)) = (s, rs ++ [r])) := ⟨by rw [hs2.out, if_neg h0]⟩
        clear hs2 hth
        replace h0 := Aside0.mk h0
        go_wp2_with (first | ((with_reducible refine gate_builtin (b := .append) (xs := #[.tmp 31, .tmp 33]) rfl ?_); at_builtin; refine S_append (Kd.int .i64) rfl (.tmp 31) (.tmp 33) 38 3 (.int .i64 0) 8 rfl Tryz.underlying38 info3 rfl (by decide) (by omega) _ rs r [.int .i64 r] rfl rfl (show Kd.M (Kd.int .i64) _ _ _ _ [.int .i64 _] from rfl) (HS.out.pick 3 rfl) HB.out (by have := hrl.out; omega) ?_; intro v9 w9 hs hb; have n0_ := Aside0.mk ((((hs.pick 3 rfl).pick 3 rfl).pick 3 rfl)); have n1_ := Aside0.mk (hb); clear HS HB; have HS := n0_; have HB := n1_; clear n0_ n1_; (try simp only [List.eraseIdx_cons_succ, List.eraseIdx_cons_zero] at HS); clear hs hb))
        go_roundw
        case rel =>
          refine ⟨i + 1, A6, A7, k6, k7, by omega, by go_num, ?_, HB⟩
          rw [hs3.out]
          exact HS
        case measure => simp [intOf]; omega
    · obtain rfl : i = l.length := by omega
      rw [List.take_length] at HS
      rw [← hrp.out] at HS
      generalize hqq : runP zs = q at HS
      replace hqq := Aside0.mk hqq
      obtain ⟨s, rs⟩ := q
      simp only at HS
      have q0 : decide ((l.length : Int) < (l.length : Int)) = false := decide_eq_false (by omega)
      obtain ⟨p0, p1, p2, p3, p4, p5, p6, p7, p8⟩ := cells9 (HS.out.pick 0 rfl)
      obtain ⟨c0, c1, c2, c3, c4, c5, c6, c7, c8⟩ := cells9 (HS.out.pick 6 rfl)
      obtain ⟨f0, f1, f2, f3, f4, f5, f6, f7, f8⟩ := frozen9 (HS.out.pick 6 rfl)
      go_wp2
      have s9 := set9 (.int .i64 s.st) (.string s.ti) (.int .i64 s.op) (.int .i64 s.en) (.string s.ca.f0) (.int .i64 s.ca.f1) (.slice A6 s.pe.length k6) (.slice A7 s.th.length k7) (.int .i64 s.no) (HS.out.pick 6 rfl) HB.out
      have h := ((((((((s9.1.pick 6 rfl).pick 5 rfl).pick 5 rfl).pick 5 rfl).pick 6 rfl).pick 6 rfl).pick 6 rfl)).drop.drop.drop
      refine bodyPost_ret (results_cell_tmp_ok rfl _ _ g2 37 _ _ rfl s9.1.blk Tryz.underlying37 rfl (by kernel_rfl)) rfl ?_
      rw [hqq.out]
      exact ⟨_, _, _, rfl, h, s9.2⟩

end Go.Proofs.YtcjfgejiknlpfaaGreat.PI
