/- The model's appoint: somebody gets a role. -/
import Derived.Test.YtcjfgejiknlpfaaGreatModP
import Derived.Test.YtcjfgejiknlpfaaGreatSq9
import Derived.Test.YtcjfgejiknlpfaaGreatJ1
import Derived.Test.YtcjfgejiknlpfaaGreatEqB
namespace Go.Proofs.YtcjfgejiknlpfaaGreat.PI
open Go.RowKit Go.Proofs.YtcjfgejiknlpfaaGreatW.PrintWords Go.Proofs.YtcjfgejiknlpfaaGreatW.PrintLast Go.Proofs.YtcjfgejiknlpfaaGreatW.PrintMore Go.Proofs.YtcjfgejiknlpfaaGreat.Sep
set_option linter.unusedVariables false
set_option linter.unusedSimpArgs false
set_option maxHeartbeats 8000000
set_option maxRecDepth 100000
attribute [local go_sem] str_geq

theorem appS_te {nm : ByteArray} {r : Int} {l : List S69} {x : S69} (h : x.f0 = nm) : appS nm r (l, true) x = (l, true) := by simp [appS, h]
theorem appS_tn {nm : ByteArray} {r : Int} {l : List S69} {x : S69} (h : ¬ x.f0 = nm) : appS nm r (l, true) x = (l ++ [x], true) := by simp [appS, h]
theorem appS_le {nm : ByteArray} {r : Int} {l : List S69} {x : S69} (h0 : bcmp x.f0 nm < 0) (h : x.f0 = nm) : appS nm r (l, false) x = (l, false) := by
  rw [h, bcmp_self] at h0
  omega
theorem appS_ln {nm : ByteArray} {r : Int} {l : List S69} {x : S69} (h0 : bcmp x.f0 nm < 0) (h : ¬ x.f0 = nm) : appS nm r (l, false) x = (l ++ [x], false) := by
  have hn : ¬ 0 ≤ bcmp x.f0 nm := by omega
  simp [appS, h, hn]
theorem appS_ge {nm : ByteArray} {r : Int} {l : List S69} {x : S69} (h0 : ¬ bcmp x.f0 nm < 0) (h : x.f0 = nm) : appS nm r (l, false) x = (l ++ [⟨nm, r⟩], true) := by
  simp [appS, h, bcmp_self]
theorem appS_gn {nm : ByteArray} {r : Int} {l : List S69} {x : S69} (h0 : ¬ bcmp x.f0 nm < 0) (h : ¬ x.f0 = nm) : appS nm r (l, false) x = (l ++ [⟨nm, r⟩] ++ [x], true) := by
  have hn : 0 ≤ bcmp x.f0 nm := by omega
  unfold appS
  simp only [hn, and_self, if_true, if_neg h]
theorem appF_step {nm : ByteArray} {r : Int} {p q : List S69} {x : S69} {l l2 : List S69} {b b2 : Bool} (h : appF nm r p = (l, b)) (hq : q = p ++ [x]) (hs : appS nm r (l, b) x = (l2, b2)) : appF nm r q = (l2, b2) := by rw [hq, appF_snoc, h, hs]
theorem app_len (nm : ByteArray) (r : Int) (l : List S69) : (appF nm r l).1.length ≤ 2 * l.length := snoc_ind (p := fun l => (appF nm r l).1.length ≤ 2 * l.length) (Nat.le_refl _) (fun l x ih => by
  rw [appF_snoc, List.length_append]
  unfold appS
  have e : ([x] : List S69).length = 1 := rfl
  by_cases c : (appF nm r l).2 = false ∧ 0 ≤ bcmp x.f0 nm
  · simp only [if_pos c]
    split <;> simp <;> omega
  · simp only [if_neg c]
    split <;> simp <;> omega) l
theorem take49 (l : List S69) (i : Nat) (h : i < l.length) : l.take (i + 1) = l.take i ++ [rd_T69 l (i : Int)] := by
  rw [List.take_succ_eq_append_getElem h]
  simp [rd_T69, h]
theorem appoint_ok {N : Nat} {w : World} {L : List Res} (s : PS) (nm : ByteArray) (r : Int) (A6 A7 : Option Addr) (k6 n7 k7 : Nat) (m10 : s.pe.length ≤ 100000) (hc : ∀ w' L', St N w' (L' ++ L) → Below N w w' → Kd.C k69 w' A6 s.pe.length s.pe) (HS0 : St N w L) :
    Calls Tryz.prog 56 #[.agg #[.int .i64 s.st, .string s.ti, .int .i64 s.op, .int .i64 s.en, .string s.ca.f0, .int .i64 s.ca.f1, .slice A6 s.pe.length k6, .slice A7 n7 k7, .int .i64 s.no], .string nm, .int .i64 r] w fun e w' => ∃ v, e = .returned (.agg #[.int .i64 s.st, .string s.ti, .int .i64 s.op, .int .i64 s.en, .string s.ca.f0, .int .i64 s.ca.f1, v, .slice A7 n7 k7, .int .i64 s.no]) ∧ St N w' (Row k69 69 v (appM nm r s.pe) :: L) ∧ Below N w w' := by
  have HS := Aside0.mk HS0
  have HB := Aside0.mk (Below.refl N w)
  have HC := Aside0.mk hc
  have m1 := Aside0.mk m10
  clear HS0 hc m10
  go_enter Tryz.func56, Tryz.ntmps56
  go_upto_region 4 with (first | ((with_reducible refine gate_dst (N := 3) rfl ?_); refine box_event ?hg (N := 3) ?hd (cs := #[.int .i64 s.st, .string s.ti, .int .i64 s.op, .int .i64 s.en, .string s.ca.f0, .int .i64 s.ca.f1, .slice A6 s.pe.length k6, .slice A7 n7 k7, .int .i64 s.no]) (t := 37) ?hr ?_; (case hd => rfl); (case hg => rfl); (case hr => first | (go_simp; done) | (go_simp; rfl)); intro gS hg w1 hbox hb; have n0_ := Aside0.mk (HS.out.box hg hbox hb); have n1_ := Aside0.mk (below_step' HB.out HS.out.size hb); clear HS HB; have HS := n0_; have HB := n1_; clear n0_ n1_; (try simp only [List.eraseIdx_cons_succ, List.eraseIdx_cons_zero] at HS); clear hb hbox hg) | ((with_reducible refine gate_dst (N := 6) rfl ?_); refine box_event ?hg (N := 6) ?hd (cs := #[.int .i64 0, .string ⟨#[]⟩, .int .i64 0, .int .i64 0, .string ⟨#[]⟩, .int .i64 0, .slice none 0 0, .slice none 0 0, .int .i64 0]) (t := 37) ?hr ?_; (case hd => rfl); (case hg => rfl); (case hr => first | (go_simp; done) | (go_simp; rfl)); intro gR hg w2 hbox hb; have n0_ := Aside0.mk (HS.out.box hg hbox hb); have n1_ := Aside0.mk (below_step' HB.out HS.out.size hb); clear HS HB; have HS := n0_; have HB := n1_; clear n0_ n1_; (try simp only [List.eraseIdx_cons_succ, List.eraseIdx_cons_zero] at HS); clear hb hbox hg))
  go_loopw [7, 8, 9] (fun v7 v8 v9 wr => ∃ (i : Nat) (l : List S69) (b : Bool), i ≤ s.pe.length ∧ v9 = .int .i64 i ∧ v8 = .bool b ∧ Aside0 (appF nm r (s.pe.take i) = (l, b)) ∧ Aside0 (St N wr (Row k69 69 v7 l :: Blk gS #[.int .i64 s.st, .string s.ti, .int .i64 s.op, .int .i64 s.en, .string s.ca.f0, .int .i64 s.ca.f1, .slice A6 s.pe.length k6, .slice A7 n7 k7, .int .i64 s.no] 37 :: Blk gR #[.int .i64 0, .string ⟨#[]⟩, .int .i64 0, .int .i64 0, .string ⟨#[]⟩, .int .i64 0, .slice none 0 0, .slice none 0 0, .int .i64 0] 37 :: L)) ∧ Aside0 (Below N w wr)) (fun _ _ v9 _ => s.pe.length - (intOf v9).toNat)
  case atStart => exact ⟨0, [], false, Nat.zero_le _, rfl, rfl, ⟨rfl⟩, ⟨HS.out.swap.rowNil⟩, HB⟩
  case round =>
    clear HS HB
    obtain ⟨i, l, b, hi, rfl, rfl, hF, HS, HB⟩ := hrel
    have hol : Aside0 (l.length ≤ 200000) := ⟨by
      have := app_len nm r (s.pe.take i)
      rw [hF.out, List.length_take] at this
      have h2 := m1.out
      have h3 : (l, b).1.length = l.length := rfl
      omega⟩
    by_cases hlt : i < s.pe.length
    · have hil : Aside0 (i < s.pe.length) := ⟨hlt⟩
      have htk := Aside0.mk (take49 s.pe i hlt)
      obtain ⟨ad, ea, x0, x1⟩ := at_T69 (HC.out _ [_, _, _] HS.out HB.out) (i : Int) (by omega) (by omega)
      cases ea
      have q0 : decide ((i : Int) < (s.pe.length : Int)) = true := decide_eq_true (by omega)
      have p1 := eq_true (show (i : Int) < (s.pe.length : Int) by omega)
      have p2 := eq_true (show (0 : Int) ≤ (i : Int) by omega)
      have hw : IntKind.i64.wrap ((i : Int) + 1) = (i : Int) + 1 := by rw [IntKind.wrap_i64]; have := m1.out; omega
      obtain ⟨x, hx0⟩ : ∃ x, rd_T69 s.pe (i : Int) = x := ⟨_, rfl⟩
      rw [hx0] at htk
      have hx := Aside0.mk hx0
      rw [Int.toNat_natCast, hx0] at x0 x1
      clear hx0
      have y6 : wr.cell? ⟨gS, 6, none⟩ = some (.slice (some ad) s.pe.length k6) := ((HS.out.pick 1 rfl).cell 6).trans rfl
      cases b with
      | true =>
        by_cases ce : x.f0 = nm
        · have q1 : (x.f0.toList != nm.toList) = false := (by rw [ce]; simp)
          have q2 : (x.f0.toList == nm.toList) = true := (by rw [ce]; simp)
          replace ce := Aside0.mk ce
          go_wp2
          go_roundw
          case rel => exact ⟨i + 1, _, _, by omega, by go_num, rfl, ⟨appF_step hF.out htk.out (by exact appS_te ce.out)⟩, HS, HB⟩
          case measure => simp [intOf]; omega
        · have q1 : (x.f0.toList != nm.toList) = true := (by simpa using (fun h => ce (bytes_ext _ _ h) : ¬ x.f0.toList = nm.toList))
          have q2 : (x.f0.toList == nm.toList) = false := (by simpa using (fun h => ce (bytes_ext _ _ h) : ¬ x.f0.toList = nm.toList))
          replace ce := Aside0.mk ce
          go_wp2_with (first | ((with_reducible refine gate_builtin (b := .append) (xs := #[.tmp 43, .tmp 49]) rfl ?_); at_builtin; refine S_append k69 rfl (.tmp 43) (.tmp 49) 34 69 (.agg #[(.string ⟨#[]⟩), (.int .i64 0)]) 24 rfl Tryz.underlying34 info69 rfl (by decide) (by omega) _ _ x [.string x.f0, .int .i64 x.f1] rfl rfl (k69_mkM _ _ _ x) (HS.out.pick 0 rfl) HB.out (by have := hol.out; (try simp only [List.length_append, List.length_singleton]); omega) ?_; intro v6 w6 hs hb; have n0_ := Aside0.mk (hs); have n1_ := Aside0.mk (hb); clear HS HB; have HS := n0_; have HB := n1_; clear n0_ n1_; (try simp only [List.eraseIdx_cons_succ, List.eraseIdx_cons_zero] at HS); clear hs hb; clear y6 x0 x1))
          go_roundw
          case rel => exact ⟨i + 1, _, _, by omega, by go_num, rfl, ⟨appF_step hF.out htk.out (by exact appS_tn ce.out)⟩, HS, HB⟩
          case measure => simp [intOf]; omega
      | false =>
        by_cases cl : Op.bytesLess x.f0.toList nm.toList = true
        · have cl2 := Aside0.mk ((bcmp_neg_iff _ _).mpr cl)
          by_cases ce : x.f0 = nm
          · have q1 : (x.f0.toList != nm.toList) = false := (by rw [ce]; simp)
            have q2 : (x.f0.toList == nm.toList) = true := (by rw [ce]; simp)
            replace ce := Aside0.mk ce
            go_wp2
            go_roundw
            case rel => exact ⟨i + 1, _, _, by omega, by go_num, rfl, ⟨appF_step hF.out htk.out (by exact appS_le cl2.out ce.out)⟩, HS, HB⟩
            case measure => simp [intOf]; omega
          · have q1 : (x.f0.toList != nm.toList) = true := (by simpa using (fun h => ce (bytes_ext _ _ h) : ¬ x.f0.toList = nm.toList))
            have q2 : (x.f0.toList == nm.toList) = false := (by simpa using (fun h => ce (bytes_ext _ _ h) : ¬ x.f0.toList = nm.toList))
            replace ce := Aside0.mk ce
            go_wp2_with (first | ((with_reducible refine gate_builtin (b := .append) (xs := #[.tmp 43, .tmp 49]) rfl ?_); at_builtin; refine S_append k69 rfl (.tmp 43) (.tmp 49) 34 69 (.agg #[(.string ⟨#[]⟩), (.int .i64 0)]) 24 rfl Tryz.underlying34 info69 rfl (by decide) (by omega) _ _ x [.string x.f0, .int .i64 x.f1] rfl rfl (k69_mkM _ _ _ x) (HS.out.pick 0 rfl) HB.out (by have := hol.out; (try simp only [List.length_append, List.length_singleton]); omega) ?_; intro v6 w6 hs hb; have n0_ := Aside0.mk (hs); have n1_ := Aside0.mk (hb); clear HS HB; have HS := n0_; have HB := n1_; clear n0_ n1_; (try simp only [List.eraseIdx_cons_succ, List.eraseIdx_cons_zero] at HS); clear hs hb; clear y6 x0 x1))
            go_roundw
            case rel => exact ⟨i + 1, _, _, by omega, by go_num, rfl, ⟨appF_step hF.out htk.out (by exact appS_ln cl2.out ce.out)⟩, HS, HB⟩
            case measure => simp [intOf]; omega
        · have cl : Op.bytesLess x.f0.toList nm.toList = false := (by simpa using cl)
          have cl2 : Aside0 (¬ bcmp x.f0 nm < 0) := ⟨fun h => by rw [(bcmp_neg_iff _ _).mp h] at cl; cases cl⟩
          by_cases ce : x.f0 = nm
          · have q1 : (x.f0.toList != nm.toList) = false := (by rw [ce]; simp)
            have q2 : (x.f0.toList == nm.toList) = true := (by rw [ce]; simp)
            replace ce := Aside0.mk ce
            go_wp2_with (first | ((with_reducible refine gate_builtin (b := .append) (xs := #[.tmp 29, .tmp 33]) rfl ?_); at_builtin; refine S_append k69 rfl (.tmp 29) (.tmp 33) 34 69 (.agg #[(.string ⟨#[]⟩), (.int .i64 0)]) 24 rfl Tryz.underlying34 info69 rfl (by decide) (by omega) _ _ (⟨nm, r⟩ : S69) [.string nm, .int .i64 r] rfl rfl (k69_mkM _ _ _ (⟨nm, r⟩ : S69)) (HS.out.pick 0 rfl) HB.out (by have := hol.out; (try simp only [List.length_append, List.length_singleton]); omega) ?_; intro v6 w6 hs hb; have n0_ := Aside0.mk (hs); have n1_ := Aside0.mk (hb); clear HS HB; have HS := n0_; have HB := n1_; clear n0_ n1_; (try simp only [List.eraseIdx_cons_succ, List.eraseIdx_cons_zero] at HS); clear hs hb; clear y6 x0 x1; have y6 : w6.cell? ⟨gS, 6, none⟩ = some (.slice (some ad) s.pe.length k6) := ((HS.out.pick 1 rfl).cell 6).trans rfl; obtain ⟨ad2, ea2, x0, x1⟩ := at_T69 (HC.out _ [_, _, _] HS.out HB.out) (i : Int) (by omega) (by have := hil.out; omega); cases ea2; rw [Int.toNat_natCast, hx.out] at x0 x1))
            go_roundw
            case rel => exact ⟨i + 1, _, _, by omega, by go_num, rfl, ⟨appF_step hF.out htk.out (by exact appS_ge cl2.out ce.out)⟩, HS, HB⟩
            case measure => simp [intOf]; omega
          · have q1 : (x.f0.toList != nm.toList) = true := (by simpa using (fun h => ce (bytes_ext _ _ h) : ¬ x.f0.toList = nm.toList))
            have q2 : (x.f0.toList == nm.toList) = false := (by simpa using (fun h => ce (bytes_ext _ _ h) : ¬ x.f0.toList = nm.toList))
            replace ce := Aside0.mk ce
            go_wp2_with (first | ((with_reducible refine gate_builtin (b := .append) (xs := #[.tmp 29, .tmp 33]) rfl ?_); at_builtin; refine S_append k69 rfl (.tmp 29) (.tmp 33) 34 69 (.agg #[(.string ⟨#[]⟩), (.int .i64 0)]) 24 rfl Tryz.underlying34 info69 rfl (by decide) (by omega) _ _ (⟨nm, r⟩ : S69) [.string nm, .int .i64 r] rfl rfl (k69_mkM _ _ _ (⟨nm, r⟩ : S69)) (HS.out.pick 0 rfl) HB.out (by have := hol.out; (try simp only [List.length_append, List.length_singleton]); omega) ?_; intro v6 w6 hs hb; have n0_ := Aside0.mk (hs); have n1_ := Aside0.mk (hb); clear HS HB; have HS := n0_; have HB := n1_; clear n0_ n1_; (try simp only [List.eraseIdx_cons_succ, List.eraseIdx_cons_zero] at HS); clear hs hb; clear y6 x0 x1; have y6 : w6.cell? ⟨gS, 6, none⟩ = some (.slice (some ad) s.pe.length k6) := ((HS.out.pick 1 rfl).cell 6).trans rfl; obtain ⟨ad2, ea2, x0, x1⟩ := at_T69 (HC.out _ [_, _, _] HS.out HB.out) (i : Int) (by omega) (by have := hil.out; omega); cases ea2; rw [Int.toNat_natCast, hx.out] at x0 x1) | ((with_reducible refine gate_builtin (b := .append) (xs := #[.tmp 43, .tmp 49]) rfl ?_); at_builtin; refine S_append k69 rfl (.tmp 43) (.tmp 49) 34 69 (.agg #[(.string ⟨#[]⟩), (.int .i64 0)]) 24 rfl Tryz.underlying34 info69 rfl (by decide) (by omega) _ _ x [.string x.f0, .int .i64 x.f1] rfl rfl (k69_mkM _ _ _ x) (HS.out.pick 0 rfl) HB.out (by have := hol.out; (try simp only [List.length_append, List.length_singleton]); omega) ?_; intro v6 w6 hs hb; have n0_ := Aside0.mk (hs); have n1_ := Aside0.mk (hb); clear HS HB; have HS := n0_; have HB := n1_; clear n0_ n1_; (try simp only [List.eraseIdx_cons_succ, List.eraseIdx_cons_zero] at HS); clear hs hb; clear y6 x0 x1))
            go_roundw
            case rel => exact ⟨i + 1, _, _, by omega, by go_num, rfl, ⟨appF_step hF.out htk.out (by exact appS_gn cl2.out ce.out)⟩, HS, HB⟩
            case measure => simp [intOf]; omega
    · obtain rfl : i = s.pe.length := by omega
      have q0 : decide ((s.pe.length : Int) < (s.pe.length : Int)) = false := decide_eq_false (by omega)
      rw [List.take_length] at hF
      have y6 : wr.cell? ⟨gS, 6, none⟩ = some (.slice A6 s.pe.length k6) := ((HS.out.pick 1 rfl).cell 6).trans rfl
      cases b with
      | true =>
        have hr : Aside0 (l = appM nm r s.pe) := ⟨by unfold appM; rw [hF.out]; rfl⟩
        go_upto_region 12 with (fail)
        clear y6
        obtain ⟨q, hq0⟩ : ∃ q, l = q := ⟨_, rfl⟩
        have hq := Aside0.mk hq0
        rw [hq0] at HS
        clear hq0
        obtain ⟨Av, cv, ev, _, _⟩ := (HS.out.pick 0 rfl).reads
        subst ev
        have y6 : wr.cell? ⟨gS, 6, none⟩ = some (.slice A6 s.pe.length k6) := ((HS.out.pick 1 rfl).cell 6).trans rfl
        have f6 := (HS.out.pick 1 rfl).frozen 6
        go_upto_region 13 with (fail)
        have h9 := (HS.out.pick 1 rfl).set 6 (.slice Av q.length cv) #[.int .i64 s.st, .string s.ti, .int .i64 s.op, .int .i64 s.en, .string s.ca.f0, .int .i64 s.ca.f1, .slice Av q.length cv, .slice A7 n7 k7, .int .i64 s.no] rfl
        have h8 := (HS.out.pick 1 rfl).below_set (i := 6) (u := .slice Av q.length cv) HB.out
        generalize World.setCell _ _ _ = w9 at h9 h8 ⊢
        clear y6 f6
        have n0_ := Aside0.mk (h9); have n1_ := Aside0.mk (h8); clear HS HB; have HS := n0_; have HB := n1_; clear n0_ n1_; (try simp only [List.eraseIdx_cons_succ, List.eraseIdx_cons_zero] at HS)
        clear h9 h8
        obtain ⟨p0, p1, p2, p3, p4, p5, p6, p7, p8⟩ := cells9 (HS.out.pick 0 rfl)
        obtain ⟨c0, c1, c2, c3, c4, c5, c6, c7, c8⟩ := cells9 (HS.out.pick 2 rfl)
        obtain ⟨f0, f1, f2, f3, f4, f5, f6, f7, f8⟩ := frozen9 (HS.out.pick 2 rfl)
        go_wp2
        have s9 := set9 (.int .i64 s.st) (.string s.ti) (.int .i64 s.op) (.int .i64 s.en) (.string s.ca.f0) (.int .i64 s.ca.f1) (.slice Av q.length cv) (.slice A7 n7 k7) (.int .i64 s.no) (HS.out.pick 2 rfl) HB.out
        refine bodyPost_ret (results_cell_row rfl _ _ gR 37 _ (0, 0) _ rfl s9.1.blk Tryz.underlying37 rfl (by kernel_rfl)) rfl ?_
        refine ⟨_, rfl, ?_, s9.2⟩
        have h := s9.1.drop.drop
        rw [← hr.out, hq.out]
        exact h
      | false =>
        have hr : Aside0 (l ++ [⟨nm, r⟩] = appM nm r s.pe) := ⟨by unfold appM; rw [hF.out]; rfl⟩
        go_upto_region 12 with (first | ((with_reducible refine gate_builtin (b := .append) (xs := #[.tmp 53, .tmp 57]) rfl ?_); at_builtin; refine S_append k69 rfl (.tmp 53) (.tmp 57) 34 69 (.agg #[(.string ⟨#[]⟩), (.int .i64 0)]) 24 rfl Tryz.underlying34 info69 rfl (by decide) (by omega) _ _ (⟨nm, r⟩ : S69) [.string nm, .int .i64 r] rfl rfl (k69_mkM _ _ _ (⟨nm, r⟩ : S69)) (HS.out.pick 0 rfl) HB.out (by have := hol.out; (try simp only [List.length_append, List.length_singleton]); omega) ?_; intro v6 w6 hs hb; have n0_ := Aside0.mk (hs); have n1_ := Aside0.mk (hb); clear HS HB; have HS := n0_; have HB := n1_; clear n0_ n1_; (try simp only [List.eraseIdx_cons_succ, List.eraseIdx_cons_zero] at HS); clear hs hb))
        clear y6
        obtain ⟨q, hq0⟩ : ∃ q, l ++ [⟨nm, r⟩] = q := ⟨_, rfl⟩
        have hq := Aside0.mk hq0
        rw [hq0] at HS
        clear hq0
        obtain ⟨Av, cv, ev, _, _⟩ := (HS.out.pick 0 rfl).reads
        subst ev
        have y6 : w6.cell? ⟨gS, 6, none⟩ = some (.slice A6 s.pe.length k6) := ((HS.out.pick 1 rfl).cell 6).trans rfl
        have f6 := (HS.out.pick 1 rfl).frozen 6
        go_upto_region 13 with (fail)
        have h9 := (HS.out.pick 1 rfl).set 6 (.slice Av q.length cv) #[.int .i64 s.st, .string s.ti, .int .i64 s.op, .int .i64 s.en, .string s.ca.f0, .int .i64 s.ca.f1, .slice Av q.length cv, .slice A7 n7 k7, .int .i64 s.no] rfl
        have h8 := (HS.out.pick 1 rfl).below_set (i := 6) (u := .slice Av q.length cv) HB.out
        generalize World.setCell _ _ _ = w9 at h9 h8 ⊢
        clear y6 f6
        have n0_ := Aside0.mk (h9); have n1_ := Aside0.mk (h8); clear HS HB; have HS := n0_; have HB := n1_; clear n0_ n1_; (try simp only [List.eraseIdx_cons_succ, List.eraseIdx_cons_zero] at HS)
        clear h9 h8
        obtain ⟨p0, p1, p2, p3, p4, p5, p6, p7, p8⟩ := cells9 (HS.out.pick 0 rfl)
        obtain ⟨c0, c1, c2, c3, c4, c5, c6, c7, c8⟩ := cells9 (HS.out.pick 2 rfl)
        obtain ⟨f0, f1, f2, f3, f4, f5, f6, f7, f8⟩ := frozen9 (HS.out.pick 2 rfl)
        go_wp2
        have s9 := set9 (.int .i64 s.st) (.string s.ti) (.int .i64 s.op) (.int .i64 s.en) (.string s.ca.f0) (.int .i64 s.ca.f1) (.slice Av q.length cv) (.slice A7 n7 k7) (.int .i64 s.no) (HS.out.pick 2 rfl) HB.out
        refine bodyPost_ret (results_cell_row rfl _ _ gR 37 _ (0, 0) _ rfl s9.1.blk Tryz.underlying37 rfl (by kernel_rfl)) rfl ?_
        refine ⟨_, rfl, ?_, s9.2⟩
        have h := s9.1.drop.drop
        rw [← hr.out, hq.out]
        exact h

end Go.Proofs.YtcjfgejiknlpfaaGreat.PI
