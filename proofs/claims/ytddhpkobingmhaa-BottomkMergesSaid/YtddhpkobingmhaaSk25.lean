/- BottomkMerges, walked. -/
import Derived.Test.YtddhpkobingmhaaSk24
import Derived.Test.YtddhpkobingmhaaAddsW

namespace Go.Proofs.Ytddhpkobingmhaa.PB
open Go.RowKit Go.Proofs.YtddhpkobingmhaaW.PrintWords Go.Proofs.YtddhpkobingmhaaW.PrintLast Go.Proofs.YtddhpkobingmhaaW.PrintMore Go.Proofs.Ytddhpkobingmhaa.Sep
set_option linter.unusedVariables false
set_option linter.unusedSimpArgs false
set_option maxHeartbeats 16000000
set_option maxRecDepth 100000

def mgs.T5 : Bool × List (List Nat × List Nat) := (true, [([], []), ([0], [0]), ([], []), ([2], [2]), ([], []), ([4], [4]), ([], []), ([6, 5], [6]), ([5, 7, 7], [5, 7]), ([1, 3, 8, 8], [1, 3, 8]), ([], []), ([10, 9, 9, 0, 1, 2, 3, 4, 5, 6, 7, 8, 9, 10], [9, 10])])
def mgs.B5 : List Nat := [0, 1, 0, 4, 0, 16, 0, 112, 240, 511, 0, 2047]
theorem mgs.tab5 : rtab .any (opsOf Try.f8 5) = mgs.T5 := by kernel_rfl
theorem mgs.bits5 : waitsOk mgs.T5.2 mgs.B5 = true := by kernel_rfl
theorem merges_walk (a bb : Int) (ha0 : 0 ≤ a) (ha1 : a ≤ 255) (hb0 : 0 ≤ bb) (hb1 : bb ≤ 255) (Aa Ab : Option Addr) (ca cb : Nat) (dl em : List Int) (hca0 : dl.length ≤ ca) (hcb0 : em.length ≤ cb) (Kn : Nat) (hKn0 : 1 + a % 12 = (Kn : Int)) (k kb kc k2 : Nat) (hs : ByteArray → Int) (ts us : List ByteArray) (hk0 : sleuthlaw23_keys.f k dl = some ts) (hkb0 : sleuthlaw23_keys.f kb em = some us) (hts0 : ts.length ≤ 1000) (hus0 : us.length ≤ 1000)
    (hok : ∀ t ∈ ts, bottomk_check.f kc t = some 0 ∧ checksum_Text.f k2 bb t = some (hs t)) (hou : ∀ t ∈ us, bottomk_check.f kc t = some 0 ∧ checksum_Text.f k2 bb t = some (hs t)) (w : World) (HC0 : Kd.C (Kd.int .u8) w Aa dl.length dl) (HCb0 : Kd.C (Kd.int .u8) w Ab em.length em) :
    Calls Try.prog 8 #[.agg #[.int .u8 a, .int .u8 bb], .slice Aa dl.length ca, .slice Ab em.length cb] w fun e w' => e = .returned (.bool true) ∧ Below w.heap.size w w' := by
  have HS := Aside0.mk (St.none_ (N := w.heap.size) (w := w) (Nat.le_refl _))
  have HB := Aside0.mk (Below.refl w.heap.size w)
  have HC := Aside0.mk HC0
  have HCb := Aside0.mk HCb0
  have HOK := Aside0.mk hok
  have HOU := Aside0.mk hou
  have HOW : Aside0 (∀ t ∈ ts ++ us, checksum_Text.f k2 bb t = some (hs t)) := ⟨fun t ht => (List.mem_append.mp ht).elim (fun h => (hok t h).2) (fun h => (hou t h).2)⟩
  have hk := Aside0.mk hk0
  have hkb := Aside0.mk hkb0
  have hca := Aside0.mk hca0
  have hcb := Aside0.mk hcb0
  have hts := Aside0.mk hts0
  have hus := Aside0.mk hus0
  have hlw : Aside0 ((ts ++ us).length ≤ 100000) := ⟨by rw [List.length_append]; omega⟩
  have hKn := Aside0.mk hKn0
  have hK4 : Kn ≤ 1024 := by omega
  have hK5 : Kn ≤ 1000 := by omega
  have hi1 := inc_foldk hs ts
  have hi2 := inc_foldk hs us
  have hi3 := inc_foldk hs (ts ++ us)
  have hm1 := Aside0.mk (fun x => mem_both hs ts us x)
  have hm2 : Aside0 (∀ x, x ∈ foldk hs (ts ++ us) ↔ x ∈ foldk hs us ∨ x ∈ foldk hs ts) := ⟨fun x => (mem_both hs ts us x).trans Or.comm⟩
  have hz1 : (foldk hs ts).length ≤ 100000 := by have := lenk hs ts ts.length (by omega); rwa [List.take_length] at this
  have hz2 : (foldk hs us).length ≤ 100000 := by have := lenk hs us us.length (by omega); rwa [List.take_length] at this
  have hz3 : (foldk hs (ts ++ us)).length ≤ 100000 := by have := lenk hs (ts ++ us) (ts ++ us).length (by rw [List.length_append]; omega); rwa [List.take_length] at this
  clear HC0 HCb0 hok hou hk0 hkb0 hca0 hcb0 hts0 hus0 hKn0
  go_enter Try.func8, Try.ntmps8
  go_upto_region 5 with (first | ((with_reducible refine gate_dst (N := 3) rfl ?_); refine box_event ?hg (N := 3) ?hd (cs := #[.int .u8 a, .int .u8 bb]) (t := 23) ?hr ?_; (case hd => rfl); (case hg => rfl); (case hr => first | (go_simp; done) | (go_simp; rfl)); intro q hg w1 hbox hb; have n0_ := Aside0.mk (HS.out.box hg hbox hb); have n1_ := Aside0.mk (below_step' HB.out HS.out.size hb); clear HS HB; have HS := n0_; have HB := n1_; clear n0_ n1_; (try simp only [List.eraseIdx_cons_succ, List.eraseIdx_cons_zero] at HS); clear hb hbox hg; have hc0_0 := ((HS.out.pick 0 rfl).cell 0).trans (show _ = some (.int .u8 a) from rfl); have hc0_1 := ((HS.out.pick 0 rfl).cell 1).trans (show _ = some (.int .u8 bb) from rfl)) | ((with_reducible refine gate_callee (f := 12) rfl ?_); refine goesL_ (some 19) rfl rfl Try.func12 (by kernel_rfl) rfl #[.agg #[.int .u8 a, .int .u8 bb], .slice Aa dl.length ca] rfl (by (try simp only [List.map_toArray, List.map_cons, List.map_nil]); first | done | rfl | (simp only [List.length_drop, List.length_take]; rfl)) ?_; (with_reducible refine (made_ok a bb ha0 ha1 hb0 hb1 Aa ca dl hca.out Kn hKn.out k kc k2 hs ts hk.out hts.out HOK.out HC.out HB.out HS.out).mono ?_); rintro e w2 ⟨p, v, rfl, hs1, hb⟩; clear hc0_0 hc0_1; refine ⟨_, rfl, ?_⟩; have n0_ := Aside0.mk (hs1); have n1_ := Aside0.mk (hb); clear HS HB; have HS := n0_; have HB := n1_; clear n0_ n1_; (try simp only [List.eraseIdx_cons_succ, List.eraseIdx_cons_zero] at HS); clear hs1 hb; obtain ⟨A1, n1, c1, e_⟩ : ∃ (A : Option Addr) (n c : Nat), v = .slice A n c := (by obtain ⟨A, c, e, _, _⟩ := (HS.out.pick 0 rfl).reads; exact ⟨A, _, c, e⟩); subst e_) | ((with_reducible refine gate_dst (N := 8) rfl ?_); refine box_event ?hg (N := 8) ?hd (cs := #[.int .i64 0, .int .i64 0, .slice none 0 0]) (t := 28) ?hr ?_; (case hd => rfl); (case hg => rfl); (case hr => first | (go_simp; done) | (go_simp; rfl)); intro s hg w3 hbox hb; have n0_ := Aside0.mk (HS.out.box hg hbox hb); have n1_ := Aside0.mk (below_step' HB.out HS.out.size hb); clear HS HB; have HS := n0_; have HB := n1_; clear n0_ n1_; (try simp only [List.eraseIdx_cons_succ, List.eraseIdx_cons_zero] at HS); clear hb hbox hg; have hc0_0 := ((HS.out.pick 0 rfl).cell 0).trans (show _ = some (.int .i64 0) from rfl); have hc0_1 := ((HS.out.pick 0 rfl).cell 1).trans (show _ = some (.int .i64 0) from rfl); have hc0_2 := ((HS.out.pick 0 rfl).cell 2).trans (show _ = some (.slice none 0 0) from rfl); have hf0_0 := (HS.out.pick 0 rfl).frozen 0; have hf0_1 := (HS.out.pick 0 rfl).frozen 1; have hf0_2 := (HS.out.pick 0 rfl).frozen 2) | ((with_reducible refine gate_store (t := 28) (p := 8) rfl ?_); refine store_event (t := 28) (p := 8) (v := .tmp 21) (w1 := ?_) rfl rfl rfl ?_ ?_; rotate_left; (focus (first | (go_simp; done) | (go_simp; rfl))); intro w4 hw; have n0_ := Aside0.mk (HS.out.set3 hw); have n1_ := Aside0.mk (HS.out.below_set3 HB.out hw); clear HS HB; have HS := n0_; have HB := n1_; clear n0_ n1_; (try simp only [List.eraseIdx_cons_succ, List.eraseIdx_cons_zero] at HS); clear hw; clear hc0_0 hc0_1 hc0_2 hf0_0 hf0_1 hf0_2; have hc3_0 := ((HS.out.pick 3 rfl).cell 0).trans (show _ = some (.int .u8 a) from rfl); have hc3_1 := ((HS.out.pick 3 rfl).cell 1).trans (show _ = some (.int .u8 bb) from rfl)) | ((with_reducible refine gate_callee (f := 12) rfl ?_); refine goesL_ (some 25) rfl rfl Try.func12 (by kernel_rfl) rfl #[.agg #[.int .u8 a, .int .u8 bb], .slice Ab em.length cb] rfl (by (try simp only [List.map_toArray, List.map_cons, List.map_nil]); first | done | rfl | (simp only [List.length_drop, List.length_take]; rfl)) ?_; (with_reducible refine (made_ok a bb ha0 ha1 hb0 hb1 Ab cb em hcb.out Kn hKn.out kb kc k2 hs us hkb.out hus.out HOU.out HCb.out HB.out HS.out).mono ?_); rintro e w5 ⟨p2, v_, rfl, hs1, hb⟩; clear hc3_0 hc3_1; refine ⟨_, rfl, ?_⟩; have n0_ := Aside0.mk (hs1); have n1_ := Aside0.mk (hb); clear HS HB; have HS := n0_; have HB := n1_; clear n0_ n1_; (try simp only [List.eraseIdx_cons_succ, List.eraseIdx_cons_zero] at HS); clear hs1 hb; obtain ⟨A2, n2, c2, e_⟩ : ∃ (A : Option Addr) (n c : Nat), v_ = .slice A n c := (by obtain ⟨A, c, e, _, _⟩ := (HS.out.pick 0 rfl).reads; exact ⟨A, _, c, e⟩); subst e_) | ((with_reducible refine gate_dst (N := 10) rfl ?_); refine box_event ?hg (N := 10) ?hd (cs := #[.int .i64 0, .int .i64 0, .slice none 0 0]) (t := 28) ?hr ?_; (case hd => rfl); (case hg => rfl); (case hr => first | (go_simp; done) | (go_simp; rfl)); intro s2 hg w6 hbox hb; have n0_ := Aside0.mk (HS.out.box hg hbox hb); have n1_ := Aside0.mk (below_step' HB.out HS.out.size hb); clear HS HB; have HS := n0_; have HB := n1_; clear n0_ n1_; (try simp only [List.eraseIdx_cons_succ, List.eraseIdx_cons_zero] at HS); clear hb hbox hg; have hc0_0 := ((HS.out.pick 0 rfl).cell 0).trans (show _ = some (.int .i64 0) from rfl); have hc0_1 := ((HS.out.pick 0 rfl).cell 1).trans (show _ = some (.int .i64 0) from rfl); have hc0_2 := ((HS.out.pick 0 rfl).cell 2).trans (show _ = some (.slice none 0 0) from rfl); have hf0_0 := (HS.out.pick 0 rfl).frozen 0; have hf0_1 := (HS.out.pick 0 rfl).frozen 1; have hf0_2 := (HS.out.pick 0 rfl).frozen 2) | ((with_reducible refine gate_store (t := 28) (p := 10) rfl ?_); refine store_event (t := 28) (p := 10) (v := .tmp 27) (w1 := ?_) rfl rfl rfl ?_ ?_; rotate_left; (focus (first | (go_simp; done) | (go_simp; rfl))); intro w7 hw; have n0_ := Aside0.mk (HS.out.set3 hw); have n1_ := Aside0.mk (HS.out.below_set3 HB.out hw); clear HS HB; have HS := n0_; have HB := n1_; clear n0_ n1_; (try simp only [List.eraseIdx_cons_succ, List.eraseIdx_cons_zero] at HS); clear hw; clear hc0_0 hc0_1 hc0_2 hf0_0 hf0_1 hf0_2) | ((with_reducible refine gate_callee (f := 13) rfl ?_); refine goesL_ (some 28) rfl rfl Try.func13 (by kernel_rfl) rfl #[] rfl (by (try simp only [List.map_toArray, List.map_cons, List.map_nil]); first | done | rfl | (simp only [List.length_drop, List.length_take]; rfl)) ?_; (with_reducible refine (known_ok HS.out).mono ?_); rintro e w8 ⟨rfl, hs1, hb⟩; refine ⟨_, rfl, ?_⟩; have n0_ := Aside0.mk (hs1); have n1_ := Aside0.mk (HB.out.trans hb); clear HS HB; have HS := n0_; have HB := n1_; clear n0_ n1_; (try simp only [List.eraseIdx_cons_succ, List.eraseIdx_cons_zero] at HS); clear hs1 hb))
  have n0_ := Aside0.mk (HS.out.drew); have n1_ := Aside0.mk (HB.out.drew); clear HS HB; have HS := n0_; have HB := n1_; clear n0_ n1_
  refine start_ (n := 12) (S := fun w' => w'.cell? ⟨s, 0, none⟩ = some (.int .i64 Kn) ∧ w'.cell? ⟨s, 1, none⟩ = some (.int .i64 bb)) (ds := [11]) (tfs true [0, 12]).toArray (by kernel_rfl) rfl rfl ⟨((HS.out.pick 3 rfl).cell 0).trans rfl, ((HS.out.pick 3 rfl).cell 1).trans rfl⟩ (fun hHeld => ?_); refine with_tabW mgs.tab5 mgs.bits5 (fun HT_ HW_ => ?_)
  generalize w8.drew = w9 at HS HB hHeld ⊢
  refine pure_ (i := 0) (N := some 38) (v := ?_) (a' := ?_) (tfs true [1, 11]).toArray rfl rfl (any_of HT_.out (by kernel_rfl)) (fun _ _ _ h => h) (Or.inl ⟨by rfl, ?_⟩) ?_ ?_
  rotate_left
  · intro w'
    go_simp
    with_reducible rfl
  rotate_left
  · simp only [Act.put, List.setIfInBounds_toArray, List.set_cons_zero, List.set_cons_succ, i64_w, i32_w]
    rfl
  refine pure_ (i := 2) (N := some 40) (v := ?_) (a' := ?_) (tfs true [1, 1, 1, 9]).toArray rfl rfl (any_of HT_.out (by kernel_rfl)) (fun _ _ _ h => h) (Or.inl ⟨by rfl, ?_⟩) ?_ ?_
  rotate_left
  · intro w'
    go_simp
    with_reducible rfl
  rotate_left
  · simp only [Act.put, List.setIfInBounds_toArray, List.set_cons_zero, List.set_cons_succ, i64_w, i32_w]
    rfl
  refine pure_ (i := 4) (N := some 42) (v := ?_) (a' := ?_) (tfs true [1, 1, 1, 1, 1, 7]).toArray rfl rfl (any_of HT_.out (by kernel_rfl)) (fun _ _ _ h => h) (Or.inl ⟨by rfl, ?_⟩) ?_ ?_
  rotate_left
  · intro w'
    go_simp
    with_reducible rfl
  rotate_left
  · simp only [Act.put, List.setIfInBounds_toArray, List.set_cons_zero, List.set_cons_succ, i64_w, i32_w]
    rfl
  refine pure_ (i := 6) (N := some 44) (v := ?_) (a' := ?_) (tfs true [1, 1, 1, 1, 1, 1, 1, 5]).toArray rfl rfl (any_of HT_.out (by kernel_rfl)) (fun _ _ _ h => h) (Or.inl ⟨by rfl, ?_⟩) ?_ ?_
  rotate_left
  · intro w'
    go_simp
    with_reducible rfl
  rotate_left
  · simp only [Act.put, List.setIfInBounds_toArray, List.set_cons_zero, List.set_cons_succ, i64_w, i32_w]
    rfl
  refine take_ (i := 1) (N := some 39) (v := ?_) (a' := ?_) (tfs true [3, 1, 1, 1, 1, 5]).toArray rfl rfl (take_ofW HT_.out HW_.out (by kernel_rfl)) (fun _ _ _ h => h) (Or.inl ⟨by rfl, ?_⟩) hHeld ?_ ?_
  rotate_left
  · rintro w' ⟨s0, s1⟩
    go_simp
    with_reducible rfl
  rotate_left
  · simp only [Act.put, List.setIfInBounds_toArray, List.set_cons_zero, List.set_cons_succ, i64_w, i32_w]
    rfl
  refine take_ (i := 3) (N := some 41) (v := ?_) (a' := ?_) (tfs true [5, 1, 1, 5]).toArray rfl rfl (take_ofW HT_.out HW_.out (by kernel_rfl)) (fun _ _ _ h => h) (Or.inl ⟨by rfl, ?_⟩) hHeld ?_ ?_
  rotate_left
  · rintro w' ⟨s0, s1⟩
    go_simp
    with_reducible rfl
  rotate_left
  · simp only [Act.put, List.setIfInBounds_toArray, List.set_cons_zero, List.set_cons_succ, i64_w, i32_w]
    rfl
  refine two_ (i := 5) (j := 10) (Ni := some 43) (Nj := some 11) (tfs true [7, 5]).toArray (tfs true [5, 1, 1, 3, 1, 1]).toArray rfl rfl rfl rfl (two_of HT_.out (by kernel_rfl)) (by decide) (by decide) (fun K hK => ?_) (fun K hK => ?_)
  ·
    refine goes_ Try.func22 (by kernel_rfl) rfl #[.slice Aa dl.length ca] (by rfl) rfl rfl (by (try simp only [List.map_toArray, List.map_cons, List.map_nil]); first | done | rfl | (simp only [List.length_drop, List.length_take]; rfl)) ?_
    with_reducible refine (sleuthlaw23_keys.calls k Aa ca dl ts _ (Kd.C_below HC.out HB.out) hca.out hk.out).mono ?_
    rintro e w21 ⟨vT, rfl, ho, hb⟩
    refine ⟨_, rfl, ?_⟩
    have n0_ := Aside0.mk (((((((((HS.out.made ho hb).pick 7 rfl).pick 7 rfl).pick 7 rfl).pick 7 rfl).pick 7 rfl).pick 7 rfl).pick 7 rfl)); have n1_ := Aside0.mk (below_step' HB.out HS.out.size hb); clear HS HB; have HS := n0_; have HB := n1_; clear n0_ n1_; (try simp only [List.eraseIdx_cons_succ, List.eraseIdx_cons_zero] at HS)
    clear ho hb; obtain ⟨AT, cT, e_⟩ : ∃ (A : Option Addr) (c : Nat), vT = .slice A ts.length c := (by obtain ⟨A, c, e, _, _⟩ := (HS.out.pick 7 rfl).reads; exact ⟨A, c, e⟩); subst e_
    refine hK.out _ _ ⟨((HS.out.pick 3 rfl).cell 0).trans rfl, ((HS.out.pick 3 rfl).cell 1).trans rfl⟩ (fun hHeld => ?_)
    clear hK K
    refine norm_ (a' := ?_) ?_ ?_
    rotate_left
    · show Act.put _ (some 43) _ = _
      simp only [Act.put, List.setIfInBounds_toArray, List.set_cons_zero, List.set_cons_succ, i64_w, i32_w]
      rfl
    refine two_ (i := 7) (j := 10) (Ni := some 45) (Nj := some 11) (tfs true [8, 4]).toArray (tfs true [7, 3, 1, 1]).toArray rfl rfl rfl rfl (two_of HT_.out (by kernel_rfl)) (by decide) (by decide) (fun K hK => ?_) (fun K hK => ?_)
    ·
      refine goes_ Try.func22 (by kernel_rfl) rfl #[.slice Ab em.length cb] (by rfl) rfl rfl (by (try simp only [List.map_toArray, List.map_cons, List.map_nil]); first | done | rfl | (simp only [List.length_drop, List.length_take]; rfl)) ?_
      with_reducible refine (sleuthlaw23_keys.calls kb Ab cb em us _ (Kd.C_below HCb.out HB.out) hcb.out hkb.out).mono ?_
      rintro e w22 ⟨vU, rfl, ho, hb⟩
      refine ⟨_, rfl, ?_⟩
      have n0_ := Aside0.mk ((((((((((HS.out.made ho hb).pick 8 rfl).pick 8 rfl).pick 8 rfl).pick 8 rfl).pick 8 rfl).pick 8 rfl).pick 8 rfl).pick 8 rfl)); have n1_ := Aside0.mk (below_step' HB.out HS.out.size hb); clear HS HB; have HS := n0_; have HB := n1_; clear n0_ n1_; (try simp only [List.eraseIdx_cons_succ, List.eraseIdx_cons_zero] at HS)
      clear ho hb; obtain ⟨AU, cU, e_⟩ : ∃ (A : Option Addr) (c : Nat), vU = .slice A us.length c := (by obtain ⟨A, c, e, _, _⟩ := (HS.out.pick 8 rfl).reads; exact ⟨A, c, e⟩); subst e_
      refine hK.out _ _ ⟨((HS.out.pick 3 rfl).cell 0).trans rfl, ((HS.out.pick 3 rfl).cell 1).trans rfl⟩ (fun hHeld => ?_)
      clear hK K
      refine norm_ (a' := ?_) ?_ ?_
      rotate_left
      · show Act.put _ (some 45) _ = _
        simp only [Act.put, List.setIfInBounds_toArray, List.set_cons_zero, List.set_cons_succ, i64_w, i32_w]
        rfl
      refine two_ (i := 8) (j := 10) (Ni := some 46) (Nj := some 11) (tfs true [9, 3]).toArray (tfs true [8, 2, 1, 1]).toArray rfl rfl rfl rfl (two_of HT_.out (by kernel_rfl)) (by decide) (by decide) (fun K hK => ?_) (fun K hK => ?_)
      ·
        refine S_append_rows_step Kd.string (by rfl) (.tmp 43) (.tmp 45) 39 9 (.string ⟨#[]⟩) 16 rfl Try.underlying39 info9 rfl (by decide) (by omega) (.slice AT ts.length cT) ts us AU us.length cU rfl rfl (fun _ _ h => h) (HS.out.pick 7 rfl) (HS.out.pick 8 rfl).rowC.2.2 HB.out (by have := hts.out; have := hus.out; omega) ?_
        intro vX w23 hs9 hb
        have n0_ := Aside0.mk (((((((((hs9.pick 8 rfl).pick 8 rfl).pick 8 rfl).pick 8 rfl).pick 8 rfl).pick 8 rfl).pick 8 rfl).pick 8 rfl)); have n1_ := Aside0.mk (hb); clear HS HB; have HS := n0_; have HB := n1_; clear n0_ n1_; (try simp only [List.eraseIdx_cons_succ, List.eraseIdx_cons_zero] at HS)
        clear hs9 hb
        obtain ⟨AX, cX, e_⟩ : ∃ (A : Option Addr) (c : Nat), vX = .slice A (ts ++ us).length c := (by obtain ⟨A, c, e, _, _⟩ := (HS.out.pick 8 rfl).reads; exact ⟨A, c, e⟩); subst e_
        refine hK.out _ _ ⟨((HS.out.pick 3 rfl).cell 0).trans rfl, ((HS.out.pick 3 rfl).cell 1).trans rfl⟩ (fun hHeld => ?_)
        clear hK K
        refine norm_ (a' := ?_) ?_ ?_
        rotate_left
        · show Act.put _ (some 46) _ = _
          simp only [Act.put, List.setIfInBounds_toArray, List.set_cons_zero, List.set_cons_succ, i64_w, i32_w]
          rfl
        refine two_ (i := 9) (j := 10) (Ni := some 47) (Nj := some 11) (tfs true [10, 2]).toArray (tfs true [9, 1, 1, 1]).toArray rfl rfl rfl rfl (two_of HT_.out (by kernel_rfl)) (by decide) (by decide) (fun K hK => ?_) (fun K hK => ?_)
        ·
          refine goes_ Try.func24 (by kernel_rfl) rfl #[.int .i64 Kn, .int .i64 bb, .slice AX (ts ++ us).length cX] (by rfl) rfl rfl (by (try simp only [List.map_toArray, List.map_cons, List.map_nil]); first | done | rfl | (simp only [List.length_drop, List.length_take]; rfl)) ?_
          with_reducible refine (ofl_ok Kn bb k2 hs (ts ++ us) (ts ++ us).length (Nat.le_refl _) hlw.out HOW.out AX cX (HS.out.pick 8 rfl)).mono ?_
          rintro e w24 ⟨v3, rfl, hs1, hb⟩; rw [List.take_length] at hs1
          refine ⟨_, rfl, ?_⟩
          have n0_ := Aside0.mk (((((((((((hs1.pick 0 rfl).pick 1 rfl).pick 9 rfl).pick 9 rfl).pick 9 rfl).pick 9 rfl).pick 9 rfl).pick 9 rfl).pick 9 rfl).pick 9 rfl)); have n1_ := Aside0.mk (HB.out.trans hb); clear HS HB; have HS := n0_; have HB := n1_; clear n0_ n1_; (try simp only [List.eraseIdx_cons_succ, List.eraseIdx_cons_zero] at HS)
          clear hs1 hb; obtain ⟨A3, n3, c3, e_⟩ : ∃ (A : Option Addr) (n c : Nat), v3 = .slice A n c := (by obtain ⟨A, c, e, _, _⟩ := (HS.out.pick 9 rfl).reads; exact ⟨A, _, c, e⟩); subst e_
          refine hK.out _ _ ⟨((HS.out.pick 3 rfl).cell 0).trans rfl, ((HS.out.pick 3 rfl).cell 1).trans rfl⟩ (fun hHeld => ?_)
          clear hK K
          refine norm_ (a' := ?_) ?_ ?_
          rotate_left
          · show Act.put _ (some 47) _ = _
            simp only [Act.put, List.setIfInBounds_toArray, List.set_cons_zero, List.set_cons_succ, i64_w, i32_w]
            rfl
          refine one_ (i := 10) (N := some 11) (tfs true [11, 1]).toArray rfl rfl (one_of HT_.out (by kernel_rfl)) (by decide) (fun K hK => ?_)
          refine box_step (by rfl) (Nt := 11) rfl (cs := #[.int .i64 0, .int .i64 0, .slice none 0 0]) (t := 28) ?hrw25 ?_
          (case hrw25 => first | (go_simp; done) | (go_simp; rfl))
          intro s3 hg w25 hbox hb
          have n0_ := Aside0.mk ((((((((((((HS.out.box hg hbox hb).pick 10 rfl).pick 10 rfl).pick 10 rfl).pick 10 rfl).pick 10 rfl).pick 10 rfl).pick 10 rfl).pick 10 rfl).pick 10 rfl).pick 10 rfl)); have n1_ := Aside0.mk (below_step' HB.out HS.out.size hb); clear HS HB; have HS := n0_; have HB := n1_; clear n0_ n1_; (try simp only [List.eraseIdx_cons_succ, List.eraseIdx_cons_zero] at HS)
          clear hb hbox hg
          refine hK.out _ _ ⟨((HS.out.pick 3 rfl).cell 0).trans rfl, ((HS.out.pick 3 rfl).cell 1).trans rfl⟩ (fun hHeld => ?_)
          clear hK K
          refine norm_ (a' := ?_) ?_ ?_
          rotate_left
          · show Act.put _ (some 11) _ = _
            simp only [Act.put, List.setIfInBounds_toArray, List.set_cons_zero, List.set_cons_succ, i64_w, i32_w]
            rfl
          refine last_ (i := 11) (N := none) (tfs true [12]).toArray rfl rfl (one_of HT_.out (by kernel_rfl)) (by decide) (fun K hK => ?_)
          have q0 := ((HS.out.pick 10 rfl).cell 0).trans (show _ = some (.int .i64 0) from rfl); have f0 := (HS.out.pick 10 rfl).frozen 0; have q1 := ((HS.out.pick 10 rfl).cell 1).trans (show _ = some (.int .i64 0) from rfl); have f1 := (HS.out.pick 10 rfl).frozen 1; have q2 := ((HS.out.pick 10 rfl).cell 2).trans (show _ = some (.slice none 0 0) from rfl); have f2 := (HS.out.pick 10 rfl).frozen 2
          refine skip_ (w1 := ?_) (by rfl) rfl ?_ ?_
          rotate_left
          · go_simp
            rfl
          clear q0 q1 q2 f0 f1 f2
          have n0_ := Aside0.mk ((((HS.out.pick 10 rfl).set 0 (.int .i64 Kn) #[.int .i64 Kn, .int .i64 0, .slice none 0 0] rfl).set 1 (.int .i64 bb) #[.int .i64 Kn, .int .i64 bb, .slice none 0 0] rfl).set 2 (.slice A3 n3 c3) #[.int .i64 Kn, .int .i64 bb, (.slice A3 n3 c3)] rfl); have n1_ := Aside0.mk ((((HS.out.pick 10 rfl).set 0 (.int .i64 Kn) #[.int .i64 Kn, .int .i64 0, .slice none 0 0] rfl).set 1 (.int .i64 bb) #[.int .i64 Kn, .int .i64 bb, .slice none 0 0] rfl).below_set (i := 2) (u := (.slice A3 n3 c3)) (((HS.out.pick 10 rfl).set 0 (.int .i64 Kn) #[.int .i64 Kn, .int .i64 0, .slice none 0 0] rfl).below_set (i := 1) (u := .int .i64 bb) ((HS.out.pick 10 rfl).below_set (i := 0) (u := .int .i64 Kn) HB.out))); clear HS HB; have HS := n0_; have HB := n1_; clear n0_ n1_; (try simp only [List.eraseIdx_cons_succ, List.eraseIdx_cons_zero] at HS)
          refine hK.out _ _ ?_
          clear hK K
          refine done_ (done_of HT_.out (by kernel_rfl)) ?_
          clear HT_ HW_
          try clear hHeld
          generalize (World.setCell _ _ _) = w40 at HS HB ⊢
          have n0_ := Aside0.mk (((((((((HS.out.pick 1 rfl).pick 4 rfl).pick 3 rfl).pick 4 rfl).pick 5 rfl).pick 6 rfl).pick 10 rfl).pick 7 rfl)); have n1_ := Aside0.mk (HB.out); clear HS HB; have HS := n0_; have HB := n1_; clear n0_ n1_; (try simp only [List.eraseIdx_cons_succ, List.eraseIdx_cons_zero] at HS)
          go_upto_region 10 with (first | ((with_reducible refine gate_callee (f := 32) rfl ?_); refine goesL_ (some 49) rfl rfl Try.func32 (by kernel_rfl) rfl #[.pointer (some ⟨p, 0, none⟩)] rfl (by (try simp only [List.map_toArray, List.map_cons, List.map_nil]); first | done | rfl | (simp only [List.length_drop, List.length_take]; rfl)) ?_; (with_reducible refine (Clone_sk p Kn bb (foldk hs ts) hK4 (HS.out.pick 2 rfl)).mono ?_); rintro e w41 ⟨d1, rfl, hs1, hb⟩; refine ⟨_, rfl, ?_⟩; have n0_ := Aside0.mk (hs1); have n1_ := Aside0.mk (HB.out.trans hb); clear HS HB; have HS := n0_; have HB := n1_; clear n0_ n1_; (try simp only [List.eraseIdx_cons_succ, List.eraseIdx_cons_zero] at HS); clear hs1 hb) | ((with_reducible refine gate_callee (f := 32) rfl ?_); refine goesL_ (some 51) rfl rfl Try.func32 (by kernel_rfl) rfl #[.pointer (some ⟨p2, 0, none⟩)] rfl (by (try simp only [List.map_toArray, List.map_cons, List.map_nil]); first | done | rfl | (simp only [List.length_drop, List.length_take]; rfl)) ?_; (with_reducible refine (Clone_sk p2 Kn bb (foldk hs us) hK4 (HS.out.pick 5 rfl)).mono ?_); rintro e w42 ⟨d2, rfl, hs1, hb⟩; refine ⟨_, rfl, ?_⟩; have n0_ := Aside0.mk (hs1); have n1_ := Aside0.mk (HB.out.trans hb); clear HS HB; have HS := n0_; have HB := n1_; clear n0_ n1_; (try simp only [List.eraseIdx_cons_succ, List.eraseIdx_cons_zero] at HS); clear hs1 hb) | ((with_reducible refine gate_callee (f := 33) rfl ?_); refine goesL_ (some 54) rfl rfl Try.func33 (by kernel_rfl) rfl #[.pointer (some ⟨d1, 0, none⟩), .pointer (some ⟨p2, 0, none⟩)] rfl (by (try simp only [List.map_toArray, List.map_cons, List.map_nil]); first | done | rfl | (simp only [List.length_drop, List.length_take]; rfl)) ?_; (with_reducible refine (Merge_sk d1 p2 Kn bb hK5 (foldk hs ts) (foldk hs us) (foldk hs (ts ++ us)) hi1 hi2 hi3 hm1.out ((HS.out.pick 1 rfl).pick 2 rfl)).mono ?_); rintro e w43 ⟨rfl, hs1, hb⟩; refine ⟨_, rfl, ?_⟩; have n0_ := Aside0.mk (hs1); have n1_ := Aside0.mk (HB.out.trans hb); clear HS HB; have HS := n0_; have HB := n1_; clear n0_ n1_; (try simp only [List.eraseIdx_cons_succ, List.eraseIdx_cons_zero] at HS); clear hs1 hb) | ((with_reducible refine gate_callee (f := 33) rfl ?_); refine goesL_ (some 57) rfl rfl Try.func33 (by kernel_rfl) rfl #[.pointer (some ⟨d2, 0, none⟩), .pointer (some ⟨p, 0, none⟩)] rfl (by (try simp only [List.map_toArray, List.map_cons, List.map_nil]); first | done | rfl | (simp only [List.length_drop, List.length_take]; rfl)) ?_; (with_reducible refine (Merge_sk d2 p Kn bb hK5 (foldk hs us) (foldk hs ts) (foldk hs (ts ++ us)) hi2 hi1 hi3 hm2.out ((HS.out.pick 3 rfl).pick 3 rfl)).mono ?_); rintro e w44 ⟨rfl, hs1, hb⟩; refine ⟨_, rfl, ?_⟩; have n0_ := Aside0.mk (hs1); have n1_ := Aside0.mk (HB.out.trans hb); clear HS HB; have HS := n0_; have HB := n1_; clear n0_ n1_; (try simp only [List.eraseIdx_cons_succ, List.eraseIdx_cons_zero] at HS); clear hs1 hb; have hcs3_0 := ((HS.out.pick 4 rfl).cell 0).trans (show _ = some (.int .i64 Kn) from rfl); have hcs3_1 := ((HS.out.pick 4 rfl).cell 1).trans (show _ = some (.int .i64 bb) from rfl); have hcs3_2 := ((HS.out.pick 4 rfl).cell 2).trans (show _ = some ((.slice A3 n3 c3)) from rfl)) | (go_at_call 21; (with_reducible refine (agrees_ok Kn hK4 bb (foldk hs (ts ++ us)) hz3 (.slice A3 n3 c3) d1 ((HS.out.pick 2 rfl).pick 5 rfl)).mono ?_); rintro e w45 ⟨rfl, hs1, hb⟩; clear hcs3_0 hcs3_1 hcs3_2; have n0_ := Aside0.mk (hs1); have n1_ := Aside0.mk (HB.out.trans hb); clear HS HB; have HS := n0_; have HB := n1_; clear n0_ n1_; (try simp only [List.eraseIdx_cons_succ, List.eraseIdx_cons_zero] at HS); clear hs1 hb; have hcs3_0 := ((HS.out.pick 5 rfl).cell 0).trans (show _ = some (.int .i64 Kn) from rfl); have hcs3_1 := ((HS.out.pick 5 rfl).cell 1).trans (show _ = some (.int .i64 bb) from rfl); have hcs3_2 := ((HS.out.pick 5 rfl).cell 2).trans (show _ = some ((.slice A3 n3 c3)) from rfl)) | (go_at_call 21; (with_reducible refine (agrees_ok Kn hK4 bb (foldk hs (ts ++ us)) hz3 (.slice A3 n3 c3) d2 ((HS.out.pick 2 rfl).pick 1 rfl)).mono ?_); rintro e w46 ⟨rfl, hs1, hb⟩; clear hcs3_0 hcs3_1 hcs3_2; have n0_ := Aside0.mk (hs1); have n1_ := Aside0.mk (HB.out.trans hb); clear HS HB; have HS := n0_; have HB := n1_; clear n0_ n1_; (try simp only [List.eraseIdx_cons_succ, List.eraseIdx_cons_zero] at HS); clear hs1 hb; have hcs_0 := ((HS.out.pick 8 rfl).cell 0).trans (show _ = some (.int .i64 Kn) from rfl); have hcs_1 := ((HS.out.pick 8 rfl).cell 1).trans (show _ = some (.int .i64 bb) from rfl); have hcs_2 := ((HS.out.pick 8 rfl).cell 2).trans (show _ = some ((.slice A1 n1 c1)) from rfl)) | (go_at_call 21; (with_reducible refine (agrees_ok Kn hK4 bb (foldk hs ts) hz1 (.slice A1 n1 c1) p ((HS.out.pick 3 rfl).pick 6 rfl)).mono ?_); rintro e w47 ⟨rfl, hs1, hb⟩; clear hcs_0 hcs_1 hcs_2; have n0_ := Aside0.mk (hs1); have n1_ := Aside0.mk (HB.out.trans hb); clear HS HB; have HS := n0_; have HB := n1_; clear n0_ n1_; (try simp only [List.eraseIdx_cons_succ, List.eraseIdx_cons_zero] at HS); clear hs1 hb; have hcs2_0 := ((HS.out.pick 9 rfl).cell 0).trans (show _ = some (.int .i64 Kn) from rfl); have hcs2_1 := ((HS.out.pick 9 rfl).cell 1).trans (show _ = some (.int .i64 bb) from rfl); have hcs2_2 := ((HS.out.pick 9 rfl).cell 2).trans (show _ = some ((.slice A2 n2 c2)) from rfl)) | (go_at_call 21; (with_reducible refine (agrees_ok Kn hK4 bb (foldk hs us) hz2 (.slice A2 n2 c2) p2 ((HS.out.pick 5 rfl).pick 7 rfl)).mono ?_); rintro e w48 ⟨rfl, hs1, hb⟩; clear hcs2_0 hcs2_1 hcs2_2; have n0_ := Aside0.mk (hs1); have n1_ := Aside0.mk (HB.out.trans hb); clear HS HB; have HS := n0_; have HB := n1_; clear n0_ n1_; (try simp only [List.eraseIdx_cons_succ, List.eraseIdx_cons_zero] at HS); clear hs1 hb))
          go_wp2_with (first | ((with_reducible refine gate_callee (f := 33) rfl ?_); refine goesL_ (some 90) rfl rfl Try.func33 (by kernel_rfl) rfl #[.pointer (some ⟨p, 0, none⟩), .pointer (some ⟨p, 0, none⟩)] rfl (by (try simp only [List.map_toArray, List.map_cons, List.map_nil]); first | done | rfl | (simp only [List.length_drop, List.length_take]; rfl)) ?_; (with_reducible refine (Merge_self p Kn bb hK5 (foldk hs ts) hi1 (HS.out.pick 3 rfl)).mono ?_); rintro e w49 ⟨rfl, hs1, hb⟩; refine ⟨_, rfl, ?_⟩; have n0_ := Aside0.mk (hs1); have n1_ := Aside0.mk (HB.out.trans hb); clear HS HB; have HS := n0_; have HB := n1_; clear n0_ n1_; (try simp only [List.eraseIdx_cons_succ, List.eraseIdx_cons_zero] at HS); clear hs1 hb; have hcs_0 := ((HS.out.pick 8 rfl).cell 0).trans (show _ = some (.int .i64 Kn) from rfl); have hcs_1 := ((HS.out.pick 8 rfl).cell 1).trans (show _ = some (.int .i64 bb) from rfl); have hcs_2 := ((HS.out.pick 8 rfl).cell 2).trans (show _ = some ((.slice A1 n1 c1)) from rfl)) | (go_at_call 21; (with_reducible refine (agrees_ok Kn hK4 bb (foldk hs ts) hz1 (.slice A1 n1 c1) p ((HS.out.pick 0 rfl).pick 3 rfl)).mono ?_); rintro e w50 ⟨rfl, hs1, hb⟩; clear hcs_0 hcs_1 hcs_2; have n0_ := Aside0.mk (hs1); have n1_ := Aside0.mk (HB.out.trans hb); clear HS HB; have HS := n0_; have HB := n1_; clear n0_ n1_; (try simp only [List.eraseIdx_cons_succ, List.eraseIdx_cons_zero] at HS); clear hs1 hb))
          go_ret
          exact ⟨rfl, HB.out⟩
        ·
          refine box_step (by rfl) (Nt := 11) rfl (cs := #[.int .i64 0, .int .i64 0, .slice none 0 0]) (t := 28) ?hrw26 ?_
          (case hrw26 => first | (go_simp; done) | (go_simp; rfl))
          intro s3 hg w26 hbox hb
          have n0_ := Aside0.mk (((((((((((HS.out.box hg hbox hb).pick 9 rfl).pick 9 rfl).pick 9 rfl).pick 9 rfl).pick 9 rfl).pick 9 rfl).pick 9 rfl).pick 9 rfl).pick 9 rfl)); have n1_ := Aside0.mk (below_step' HB.out HS.out.size hb); clear HS HB; have HS := n0_; have HB := n1_; clear n0_ n1_; (try simp only [List.eraseIdx_cons_succ, List.eraseIdx_cons_zero] at HS)
          clear hb hbox hg
          refine hK.out _ _ ⟨((HS.out.pick 3 rfl).cell 0).trans rfl, ((HS.out.pick 3 rfl).cell 1).trans rfl⟩ (fun hHeld => ?_)
          clear hK K
          refine norm_ (a' := ?_) ?_ ?_
          rotate_left
          · show Act.put _ (some 11) _ = _
            simp only [Act.put, List.setIfInBounds_toArray, List.set_cons_zero, List.set_cons_succ, i64_w, i32_w]
            rfl
          refine one_ (i := 9) (N := some 47) (tfs true [11, 1]).toArray rfl rfl (one_of HT_.out (by kernel_rfl)) (by decide) (fun K hK => ?_)
          refine goes_ Try.func24 (by kernel_rfl) rfl #[.int .i64 Kn, .int .i64 bb, .slice AX (ts ++ us).length cX] (by rfl) rfl rfl (by (try simp only [List.map_toArray, List.map_cons, List.map_nil]); first | done | rfl | (simp only [List.length_drop, List.length_take]; rfl)) ?_
          with_reducible refine (ofl_ok Kn bb k2 hs (ts ++ us) (ts ++ us).length (Nat.le_refl _) hlw.out HOW.out AX cX (HS.out.pick 8 rfl)).mono ?_
          rintro e w27 ⟨v3, rfl, hs1, hb⟩; rw [List.take_length] at hs1
          refine ⟨_, rfl, ?_⟩
          have n0_ := Aside0.mk ((((((((((((hs1.pick 0 rfl).pick 10 rfl).pick 2 rfl).pick 10 rfl).pick 10 rfl).pick 10 rfl).pick 10 rfl).pick 10 rfl).pick 10 rfl).pick 10 rfl).pick 10 rfl)); have n1_ := Aside0.mk (HB.out.trans hb); clear HS HB; have HS := n0_; have HB := n1_; clear n0_ n1_; (try simp only [List.eraseIdx_cons_succ, List.eraseIdx_cons_zero] at HS)
          clear hs1 hb; obtain ⟨A3, n3, c3, e_⟩ : ∃ (A : Option Addr) (n c : Nat), v3 = .slice A n c := (by obtain ⟨A, c, e, _, _⟩ := (HS.out.pick 10 rfl).reads; exact ⟨A, _, c, e⟩); subst e_
          refine hK.out _ _ ⟨((HS.out.pick 3 rfl).cell 0).trans rfl, ((HS.out.pick 3 rfl).cell 1).trans rfl⟩ (fun hHeld => ?_)
          clear hK K
          refine norm_ (a' := ?_) ?_ ?_
          rotate_left
          · show Act.put _ (some 47) _ = _
            simp only [Act.put, List.setIfInBounds_toArray, List.set_cons_zero, List.set_cons_succ, i64_w, i32_w]
            rfl
          refine last_ (i := 11) (N := none) (tfs true [12]).toArray rfl rfl (one_of HT_.out (by kernel_rfl)) (by decide) (fun K hK => ?_)
          have q0 := ((HS.out.pick 9 rfl).cell 0).trans (show _ = some (.int .i64 0) from rfl); have f0 := (HS.out.pick 9 rfl).frozen 0; have q1 := ((HS.out.pick 9 rfl).cell 1).trans (show _ = some (.int .i64 0) from rfl); have f1 := (HS.out.pick 9 rfl).frozen 1; have q2 := ((HS.out.pick 9 rfl).cell 2).trans (show _ = some (.slice none 0 0) from rfl); have f2 := (HS.out.pick 9 rfl).frozen 2
          refine skip_ (w1 := ?_) (by rfl) rfl ?_ ?_
          rotate_left
          · go_simp
            rfl
          clear q0 q1 q2 f0 f1 f2
          have n0_ := Aside0.mk ((((HS.out.pick 9 rfl).set 0 (.int .i64 Kn) #[.int .i64 Kn, .int .i64 0, .slice none 0 0] rfl).set 1 (.int .i64 bb) #[.int .i64 Kn, .int .i64 bb, .slice none 0 0] rfl).set 2 (.slice A3 n3 c3) #[.int .i64 Kn, .int .i64 bb, (.slice A3 n3 c3)] rfl); have n1_ := Aside0.mk ((((HS.out.pick 9 rfl).set 0 (.int .i64 Kn) #[.int .i64 Kn, .int .i64 0, .slice none 0 0] rfl).set 1 (.int .i64 bb) #[.int .i64 Kn, .int .i64 bb, .slice none 0 0] rfl).below_set (i := 2) (u := (.slice A3 n3 c3)) (((HS.out.pick 9 rfl).set 0 (.int .i64 Kn) #[.int .i64 Kn, .int .i64 0, .slice none 0 0] rfl).below_set (i := 1) (u := .int .i64 bb) ((HS.out.pick 9 rfl).below_set (i := 0) (u := .int .i64 Kn) HB.out))); clear HS HB; have HS := n0_; have HB := n1_; clear n0_ n1_; (try simp only [List.eraseIdx_cons_succ, List.eraseIdx_cons_zero] at HS)
          refine hK.out _ _ ?_
          clear hK K
          refine done_ (done_of HT_.out (by kernel_rfl)) ?_
          clear HT_ HW_
          try clear hHeld
          generalize (World.setCell _ _ _) = w40 at HS HB ⊢
          have n0_ := Aside0.mk (((((((((HS.out.pick 1 rfl).pick 4 rfl).pick 3 rfl).pick 4 rfl).pick 5 rfl).pick 6 rfl).pick 10 rfl).pick 7 rfl)); have n1_ := Aside0.mk (HB.out); clear HS HB; have HS := n0_; have HB := n1_; clear n0_ n1_; (try simp only [List.eraseIdx_cons_succ, List.eraseIdx_cons_zero] at HS)
          go_upto_region 10 with (first | ((with_reducible refine gate_callee (f := 32) rfl ?_); refine goesL_ (some 49) rfl rfl Try.func32 (by kernel_rfl) rfl #[.pointer (some ⟨p, 0, none⟩)] rfl (by (try simp only [List.map_toArray, List.map_cons, List.map_nil]); first | done | rfl | (simp only [List.length_drop, List.length_take]; rfl)) ?_; (with_reducible refine (Clone_sk p Kn bb (foldk hs ts) hK4 (HS.out.pick 2 rfl)).mono ?_); rintro e w41 ⟨d1, rfl, hs1, hb⟩; refine ⟨_, rfl, ?_⟩; have n0_ := Aside0.mk (hs1); have n1_ := Aside0.mk (HB.out.trans hb); clear HS HB; have HS := n0_; have HB := n1_; clear n0_ n1_; (try simp only [List.eraseIdx_cons_succ, List.eraseIdx_cons_zero] at HS); clear hs1 hb) | ((with_reducible refine gate_callee (f := 32) rfl ?_); refine goesL_ (some 51) rfl rfl Try.func32 (by kernel_rfl) rfl #[.pointer (some ⟨p2, 0, none⟩)] rfl (by (try simp only [List.map_toArray, List.map_cons, List.map_nil]); first | done | rfl | (simp only [List.length_drop, List.length_take]; rfl)) ?_; (with_reducible refine (Clone_sk p2 Kn bb (foldk hs us) hK4 (HS.out.pick 5 rfl)).mono ?_); rintro e w42 ⟨d2, rfl, hs1, hb⟩; refine ⟨_, rfl, ?_⟩; have n0_ := Aside0.mk (hs1); have n1_ := Aside0.mk (HB.out.trans hb); clear HS HB; have HS := n0_; have HB := n1_; clear n0_ n1_; (try simp only [List.eraseIdx_cons_succ, List.eraseIdx_cons_zero] at HS); clear hs1 hb) | ((with_reducible refine gate_callee (f := 33) rfl ?_); refine goesL_ (some 54) rfl rfl Try.func33 (by kernel_rfl) rfl #[.pointer (some ⟨d1, 0, none⟩), .pointer (some ⟨p2, 0, none⟩)] rfl (by (try simp only [List.map_toArray, List.map_cons, List.map_nil]); first | done | rfl | (simp only [List.length_drop, List.length_take]; rfl)) ?_; (with_reducible refine (Merge_sk d1 p2 Kn bb hK5 (foldk hs ts) (foldk hs us) (foldk hs (ts ++ us)) hi1 hi2 hi3 hm1.out ((HS.out.pick 1 rfl).pick 2 rfl)).mono ?_); rintro e w43 ⟨rfl, hs1, hb⟩; refine ⟨_, rfl, ?_⟩; have n0_ := Aside0.mk (hs1); have n1_ := Aside0.mk (HB.out.trans hb); clear HS HB; have HS := n0_; have HB := n1_; clear n0_ n1_; (try simp only [List.eraseIdx_cons_succ, List.eraseIdx_cons_zero] at HS); clear hs1 hb) | ((with_reducible refine gate_callee (f := 33) rfl ?_); refine goesL_ (some 57) rfl rfl Try.func33 (by kernel_rfl) rfl #[.pointer (some ⟨d2, 0, none⟩), .pointer (some ⟨p, 0, none⟩)] rfl (by (try simp only [List.map_toArray, List.map_cons, List.map_nil]); first | done | rfl | (simp only [List.length_drop, List.length_take]; rfl)) ?_; (with_reducible refine (Merge_sk d2 p Kn bb hK5 (foldk hs us) (foldk hs ts) (foldk hs (ts ++ us)) hi2 hi1 hi3 hm2.out ((HS.out.pick 3 rfl).pick 3 rfl)).mono ?_); rintro e w44 ⟨rfl, hs1, hb⟩; refine ⟨_, rfl, ?_⟩; have n0_ := Aside0.mk (hs1); have n1_ := Aside0.mk (HB.out.trans hb); clear HS HB; have HS := n0_; have HB := n1_; clear n0_ n1_; (try simp only [List.eraseIdx_cons_succ, List.eraseIdx_cons_zero] at HS); clear hs1 hb; have hcs3_0 := ((HS.out.pick 4 rfl).cell 0).trans (show _ = some (.int .i64 Kn) from rfl); have hcs3_1 := ((HS.out.pick 4 rfl).cell 1).trans (show _ = some (.int .i64 bb) from rfl); have hcs3_2 := ((HS.out.pick 4 rfl).cell 2).trans (show _ = some ((.slice A3 n3 c3)) from rfl)) | (go_at_call 21; (with_reducible refine (agrees_ok Kn hK4 bb (foldk hs (ts ++ us)) hz3 (.slice A3 n3 c3) d1 ((HS.out.pick 2 rfl).pick 5 rfl)).mono ?_); rintro e w45 ⟨rfl, hs1, hb⟩; clear hcs3_0 hcs3_1 hcs3_2; have n0_ := Aside0.mk (hs1); have n1_ := Aside0.mk (HB.out.trans hb); clear HS HB; have HS := n0_; have HB := n1_; clear n0_ n1_; (try simp only [List.eraseIdx_cons_succ, List.eraseIdx_cons_zero] at HS); clear hs1 hb; have hcs3_0 := ((HS.out.pick 5 rfl).cell 0).trans (show _ = some (.int .i64 Kn) from rfl); have hcs3_1 := ((HS.out.pick 5 rfl).cell 1).trans (show _ = some (.int .i64 bb) from rfl); have hcs3_2 := ((HS.out.pick 5 rfl).cell 2).trans (show _ = some ((.slice A3 n3 c3)) from rfl)) | (go_at_call 21; (with_reducible refine (agrees_ok Kn hK4 bb (foldk hs (ts ++ us)) hz3 (.slice A3 n3 c3) d2 ((HS.out.pick 2 rfl).pick 1 rfl)).mono ?_); rintro e w46 ⟨rfl, hs1, hb⟩; clear hcs3_0 hcs3_1 hcs3_2; have n0_ := Aside0.mk (hs1); have n1_ := Aside0.mk (HB.out.trans hb); clear HS HB; have HS := n0_; have HB := n1_; clear n0_ n1_; (try simp only [List.eraseIdx_cons_succ, List.eraseIdx_cons_zero] at HS); clear hs1 hb; have hcs_0 := ((HS.out.pick 8 rfl).cell 0).trans (show _ = some (.int .i64 Kn) from rfl); have hcs_1 := ((HS.out.pick 8 rfl).cell 1).trans (show _ = some (.int .i64 bb) from rfl); have hcs_2 := ((HS.out.pick 8 rfl).cell 2).trans (show _ = some ((.slice A1 n1 c1)) from rfl)) | (go_at_call 21; (with_reducible refine (agrees_ok Kn hK4 bb (foldk hs ts) hz1 (.slice A1 n1 c1) p ((HS.out.pick 3 rfl).pick 6 rfl)).mono ?_); rintro e w47 ⟨rfl, hs1, hb⟩; clear hcs_0 hcs_1 hcs_2; have n0_ := Aside0.mk (hs1); have n1_ := Aside0.mk (HB.out.trans hb); clear HS HB; have HS := n0_; have HB := n1_; clear n0_ n1_; (try simp only [List.eraseIdx_cons_succ, List.eraseIdx_cons_zero] at HS); clear hs1 hb; have hcs2_0 := ((HS.out.pick 9 rfl).cell 0).trans (show _ = some (.int .i64 Kn) from rfl); have hcs2_1 := ((HS.out.pick 9 rfl).cell 1).trans (show _ = some (.int .i64 bb) from rfl); have hcs2_2 := ((HS.out.pick 9 rfl).cell 2).trans (show _ = some ((.slice A2 n2 c2)) from rfl)) | (go_at_call 21; (with_reducible refine (agrees_ok Kn hK4 bb (foldk hs us) hz2 (.slice A2 n2 c2) p2 ((HS.out.pick 5 rfl).pick 7 rfl)).mono ?_); rintro e w48 ⟨rfl, hs1, hb⟩; clear hcs2_0 hcs2_1 hcs2_2; have n0_ := Aside0.mk (hs1); have n1_ := Aside0.mk (HB.out.trans hb); clear HS HB; have HS := n0_; have HB := n1_; clear n0_ n1_; (try simp only [List.eraseIdx_cons_succ, List.eraseIdx_cons_zero] at HS); clear hs1 hb))
          go_wp2_with (first | ((with_reducible refine gate_callee (f := 33) rfl ?_); refine goesL_ (some 90) rfl rfl Try.func33 (by kernel_rfl) rfl #[.pointer (some ⟨p, 0, none⟩), .pointer (some ⟨p, 0, none⟩)] rfl (by (try simp only [List.map_toArray, List.map_cons, List.map_nil]); first | done | rfl | (simp only [List.length_drop, List.length_take]; rfl)) ?_; (with_reducible refine (Merge_self p Kn bb hK5 (foldk hs ts) hi1 (HS.out.pick 3 rfl)).mono ?_); rintro e w49 ⟨rfl, hs1, hb⟩; refine ⟨_, rfl, ?_⟩; have n0_ := Aside0.mk (hs1); have n1_ := Aside0.mk (HB.out.trans hb); clear HS HB; have HS := n0_; have HB := n1_; clear n0_ n1_; (try simp only [List.eraseIdx_cons_succ, List.eraseIdx_cons_zero] at HS); clear hs1 hb; have hcs_0 := ((HS.out.pick 8 rfl).cell 0).trans (show _ = some (.int .i64 Kn) from rfl); have hcs_1 := ((HS.out.pick 8 rfl).cell 1).trans (show _ = some (.int .i64 bb) from rfl); have hcs_2 := ((HS.out.pick 8 rfl).cell 2).trans (show _ = some ((.slice A1 n1 c1)) from rfl)) | (go_at_call 21; (with_reducible refine (agrees_ok Kn hK4 bb (foldk hs ts) hz1 (.slice A1 n1 c1) p ((HS.out.pick 0 rfl).pick 3 rfl)).mono ?_); rintro e w50 ⟨rfl, hs1, hb⟩; clear hcs_0 hcs_1 hcs_2; have n0_ := Aside0.mk (hs1); have n1_ := Aside0.mk (HB.out.trans hb); clear HS HB; have HS := n0_; have HB := n1_; clear n0_ n1_; (try simp only [List.eraseIdx_cons_succ, List.eraseIdx_cons_zero] at HS); clear hs1 hb))
          go_ret
          exact ⟨rfl, HB.out⟩
      ·
        refine box_step (by rfl) (Nt := 11) rfl (cs := #[.int .i64 0, .int .i64 0, .slice none 0 0]) (t := 28) ?hrw28 ?_
        (case hrw28 => first | (go_simp; done) | (go_simp; rfl))
        intro s3 hg w28 hbox hb
        have n0_ := Aside0.mk (((((((((((HS.out.box hg hbox hb).pick 9 rfl).pick 9 rfl).pick 9 rfl).pick 9 rfl).pick 9 rfl).pick 9 rfl).pick 9 rfl).pick 9 rfl).pick 9 rfl)); have n1_ := Aside0.mk (below_step' HB.out HS.out.size hb); clear HS HB; have HS := n0_; have HB := n1_; clear n0_ n1_; (try simp only [List.eraseIdx_cons_succ, List.eraseIdx_cons_zero] at HS)
        clear hb hbox hg
        refine hK.out _ _ ⟨((HS.out.pick 3 rfl).cell 0).trans rfl, ((HS.out.pick 3 rfl).cell 1).trans rfl⟩ (fun hHeld => ?_)
        clear hK K
        refine norm_ (a' := ?_) ?_ ?_
        rotate_left
        · show Act.put _ (some 11) _ = _
          simp only [Act.put, List.setIfInBounds_toArray, List.set_cons_zero, List.set_cons_succ, i64_w, i32_w]
          rfl
        refine one_ (i := 8) (N := some 46) (tfs true [9, 1, 1, 1]).toArray rfl rfl (one_of HT_.out (by kernel_rfl)) (by decide) (fun K hK => ?_)
        refine S_append_rows_step Kd.string (by rfl) (.tmp 43) (.tmp 45) 39 9 (.string ⟨#[]⟩) 16 rfl Try.underlying39 info9 rfl (by decide) (by omega) (.slice AT ts.length cT) ts us AU us.length cU rfl rfl (fun _ _ h => h) (HS.out.pick 7 rfl) (HS.out.pick 8 rfl).rowC.2.2 HB.out (by have := hts.out; have := hus.out; omega) ?_
        intro vX w29 hs9 hb
        have n0_ := Aside0.mk ((((((((((hs9.pick 9 rfl).pick 9 rfl).pick 9 rfl).pick 9 rfl).pick 9 rfl).pick 9 rfl).pick 9 rfl).pick 9 rfl).pick 9 rfl)); have n1_ := Aside0.mk (hb); clear HS HB; have HS := n0_; have HB := n1_; clear n0_ n1_; (try simp only [List.eraseIdx_cons_succ, List.eraseIdx_cons_zero] at HS)
        clear hs9 hb
        obtain ⟨AX, cX, e_⟩ : ∃ (A : Option Addr) (c : Nat), vX = .slice A (ts ++ us).length c := (by obtain ⟨A, c, e, _, _⟩ := (HS.out.pick 9 rfl).reads; exact ⟨A, c, e⟩); subst e_
        refine hK.out _ _ ⟨((HS.out.pick 3 rfl).cell 0).trans rfl, ((HS.out.pick 3 rfl).cell 1).trans rfl⟩ (fun hHeld => ?_)
        clear hK K
        refine norm_ (a' := ?_) ?_ ?_
        rotate_left
        · show Act.put _ (some 46) _ = _
          simp only [Act.put, List.setIfInBounds_toArray, List.set_cons_zero, List.set_cons_succ, i64_w, i32_w]
          rfl
        refine one_ (i := 9) (N := some 47) (tfs true [11, 1]).toArray rfl rfl (one_of HT_.out (by kernel_rfl)) (by decide) (fun K hK => ?_)
        refine goes_ Try.func24 (by kernel_rfl) rfl #[.int .i64 Kn, .int .i64 bb, .slice AX (ts ++ us).length cX] (by rfl) rfl rfl (by (try simp only [List.map_toArray, List.map_cons, List.map_nil]); first | done | rfl | (simp only [List.length_drop, List.length_take]; rfl)) ?_
        with_reducible refine (ofl_ok Kn bb k2 hs (ts ++ us) (ts ++ us).length (Nat.le_refl _) hlw.out HOW.out AX cX (HS.out.pick 9 rfl)).mono ?_
        rintro e w30 ⟨v3, rfl, hs1, hb⟩; rw [List.take_length] at hs1
        refine ⟨_, rfl, ?_⟩
        have n0_ := Aside0.mk ((((((((((((hs1.pick 0 rfl).pick 1 rfl).pick 10 rfl).pick 10 rfl).pick 10 rfl).pick 10 rfl).pick 10 rfl).pick 10 rfl).pick 10 rfl).pick 10 rfl).pick 10 rfl)); have n1_ := Aside0.mk (HB.out.trans hb); clear HS HB; have HS := n0_; have HB := n1_; clear n0_ n1_; (try simp only [List.eraseIdx_cons_succ, List.eraseIdx_cons_zero] at HS)
        clear hs1 hb; obtain ⟨A3, n3, c3, e_⟩ : ∃ (A : Option Addr) (n c : Nat), v3 = .slice A n c := (by obtain ⟨A, c, e, _, _⟩ := (HS.out.pick 10 rfl).reads; exact ⟨A, _, c, e⟩); subst e_
        refine hK.out _ _ ⟨((HS.out.pick 3 rfl).cell 0).trans rfl, ((HS.out.pick 3 rfl).cell 1).trans rfl⟩ (fun hHeld => ?_)
        clear hK K
        refine norm_ (a' := ?_) ?_ ?_
        rotate_left
        · show Act.put _ (some 47) _ = _
          simp only [Act.put, List.setIfInBounds_toArray, List.set_cons_zero, List.set_cons_succ, i64_w, i32_w]
          rfl
        refine last_ (i := 11) (N := none) (tfs true [12]).toArray rfl rfl (one_of HT_.out (by kernel_rfl)) (by decide) (fun K hK => ?_)
        have q0 := ((HS.out.pick 8 rfl).cell 0).trans (show _ = some (.int .i64 0) from rfl); have f0 := (HS.out.pick 8 rfl).frozen 0; have q1 := ((HS.out.pick 8 rfl).cell 1).trans (show _ = some (.int .i64 0) from rfl); have f1 := (HS.out.pick 8 rfl).frozen 1; have q2 := ((HS.out.pick 8 rfl).cell 2).trans (show _ = some (.slice none 0 0) from rfl); have f2 := (HS.out.pick 8 rfl).frozen 2
        refine skip_ (w1 := ?_) (by rfl) rfl ?_ ?_
        rotate_left
        · go_simp
          rfl
        clear q0 q1 q2 f0 f1 f2
        have n0_ := Aside0.mk ((((HS.out.pick 8 rfl).set 0 (.int .i64 Kn) #[.int .i64 Kn, .int .i64 0, .slice none 0 0] rfl).set 1 (.int .i64 bb) #[.int .i64 Kn, .int .i64 bb, .slice none 0 0] rfl).set 2 (.slice A3 n3 c3) #[.int .i64 Kn, .int .i64 bb, (.slice A3 n3 c3)] rfl); have n1_ := Aside0.mk ((((HS.out.pick 8 rfl).set 0 (.int .i64 Kn) #[.int .i64 Kn, .int .i64 0, .slice none 0 0] rfl).set 1 (.int .i64 bb) #[.int .i64 Kn, .int .i64 bb, .slice none 0 0] rfl).below_set (i := 2) (u := (.slice A3 n3 c3)) (((HS.out.pick 8 rfl).set 0 (.int .i64 Kn) #[.int .i64 Kn, .int .i64 0, .slice none 0 0] rfl).below_set (i := 1) (u := .int .i64 bb) ((HS.out.pick 8 rfl).below_set (i := 0) (u := .int .i64 Kn) HB.out))); clear HS HB; have HS := n0_; have HB := n1_; clear n0_ n1_; (try simp only [List.eraseIdx_cons_succ, List.eraseIdx_cons_zero] at HS)
        refine hK.out _ _ ?_
        clear hK K
        refine done_ (done_of HT_.out (by kernel_rfl)) ?_
        clear HT_ HW_
        try clear hHeld
        generalize (World.setCell _ _ _) = w40 at HS HB ⊢
        have n0_ := Aside0.mk (((((((((HS.out.pick 1 rfl).pick 4 rfl).pick 3 rfl).pick 4 rfl).pick 5 rfl).pick 6 rfl).pick 10 rfl).pick 7 rfl)); have n1_ := Aside0.mk (HB.out); clear HS HB; have HS := n0_; have HB := n1_; clear n0_ n1_; (try simp only [List.eraseIdx_cons_succ, List.eraseIdx_cons_zero] at HS)
        go_upto_region 10 with (first | ((with_reducible refine gate_callee (f := 32) rfl ?_); refine goesL_ (some 49) rfl rfl Try.func32 (by kernel_rfl) rfl #[.pointer (some ⟨p, 0, none⟩)] rfl (by (try simp only [List.map_toArray, List.map_cons, List.map_nil]); first | done | rfl | (simp only [List.length_drop, List.length_take]; rfl)) ?_; (with_reducible refine (Clone_sk p Kn bb (foldk hs ts) hK4 (HS.out.pick 2 rfl)).mono ?_); rintro e w41 ⟨d1, rfl, hs1, hb⟩; refine ⟨_, rfl, ?_⟩; have n0_ := Aside0.mk (hs1); have n1_ := Aside0.mk (HB.out.trans hb); clear HS HB; have HS := n0_; have HB := n1_; clear n0_ n1_; (try simp only [List.eraseIdx_cons_succ, List.eraseIdx_cons_zero] at HS); clear hs1 hb) | ((with_reducible refine gate_callee (f := 32) rfl ?_); refine goesL_ (some 51) rfl rfl Try.func32 (by kernel_rfl) rfl #[.pointer (some ⟨p2, 0, none⟩)] rfl (by (try simp only [List.map_toArray, List.map_cons, List.map_nil]); first | done | rfl | (simp only [List.length_drop, List.length_take]; rfl)) ?_; (with_reducible refine (Clone_sk p2 Kn bb (foldk hs us) hK4 (HS.out.pick 5 rfl)).mono ?_); rintro e w42 ⟨d2, rfl, hs1, hb⟩; refine ⟨_, rfl, ?_⟩; have n0_ := Aside0.mk (hs1); have n1_ := Aside0.mk (HB.out.trans hb); clear HS HB; have HS := n0_; have HB := n1_; clear n0_ n1_; (try simp only [List.eraseIdx_cons_succ, List.eraseIdx_cons_zero] at HS); clear hs1 hb) | ((with_reducible refine gate_callee (f := 33) rfl ?_); refine goesL_ (some 54) rfl rfl Try.func33 (by kernel_rfl) rfl #[.pointer (some ⟨d1, 0, none⟩), .pointer (some ⟨p2, 0, none⟩)] rfl (by (try simp only [List.map_toArray, List.map_cons, List.map_nil]); first | done | rfl | (simp only [List.length_drop, List.length_take]; rfl)) ?_; (with_reducible refine (Merge_sk d1 p2 Kn bb hK5 (foldk hs ts) (foldk hs us) (foldk hs (ts ++ us)) hi1 hi2 hi3 hm1.out ((HS.out.pick 1 rfl).pick 2 rfl)).mono ?_); rintro e w43 ⟨rfl, hs1, hb⟩; refine ⟨_, rfl, ?_⟩; have n0_ := Aside0.mk (hs1); have n1_ := Aside0.mk (HB.out.trans hb); clear HS HB; have HS := n0_; have HB := n1_; clear n0_ n1_; (try simp only [List.eraseIdx_cons_succ, List.eraseIdx_cons_zero] at HS); clear hs1 hb) | ((with_reducible refine gate_callee (f := 33) rfl ?_); refine goesL_ (some 57) rfl rfl Try.func33 (by kernel_rfl) rfl #[.pointer (some ⟨d2, 0, none⟩), .pointer (some ⟨p, 0, none⟩)] rfl (by (try simp only [List.map_toArray, List.map_cons, List.map_nil]); first | done | rfl | (simp only [List.length_drop, List.length_take]; rfl)) ?_; (with_reducible refine (Merge_sk d2 p Kn bb hK5 (foldk hs us) (foldk hs ts) (foldk hs (ts ++ us)) hi2 hi1 hi3 hm2.out ((HS.out.pick 3 rfl).pick 3 rfl)).mono ?_); rintro e w44 ⟨rfl, hs1, hb⟩; refine ⟨_, rfl, ?_⟩; have n0_ := Aside0.mk (hs1); have n1_ := Aside0.mk (HB.out.trans hb); clear HS HB; have HS := n0_; have HB := n1_; clear n0_ n1_; (try simp only [List.eraseIdx_cons_succ, List.eraseIdx_cons_zero] at HS); clear hs1 hb; have hcs3_0 := ((HS.out.pick 4 rfl).cell 0).trans (show _ = some (.int .i64 Kn) from rfl); have hcs3_1 := ((HS.out.pick 4 rfl).cell 1).trans (show _ = some (.int .i64 bb) from rfl); have hcs3_2 := ((HS.out.pick 4 rfl).cell 2).trans (show _ = some ((.slice A3 n3 c3)) from rfl)) | (go_at_call 21; (with_reducible refine (agrees_ok Kn hK4 bb (foldk hs (ts ++ us)) hz3 (.slice A3 n3 c3) d1 ((HS.out.pick 2 rfl).pick 5 rfl)).mono ?_); rintro e w45 ⟨rfl, hs1, hb⟩; clear hcs3_0 hcs3_1 hcs3_2; have n0_ := Aside0.mk (hs1); have n1_ := Aside0.mk (HB.out.trans hb); clear HS HB; have HS := n0_; have HB := n1_; clear n0_ n1_; (try simp only [List.eraseIdx_cons_succ, List.eraseIdx_cons_zero] at HS); clear hs1 hb; have hcs3_0 := ((HS.out.pick 5 rfl).cell 0).trans (show _ = some (.int .i64 Kn) from rfl); have hcs3_1 := ((HS.out.pick 5 rfl).cell 1).trans (show _ = some (.int .i64 bb) from rfl); have hcs3_2 := ((HS.out.pick 5 rfl).cell 2).trans (show _ = some ((.slice A3 n3 c3)) from rfl)) | (go_at_call 21; (with_reducible refine (agrees_ok Kn hK4 bb (foldk hs (ts ++ us)) hz3 (.slice A3 n3 c3) d2 ((HS.out.pick 2 rfl).pick 1 rfl)).mono ?_); rintro e w46 ⟨rfl, hs1, hb⟩; clear hcs3_0 hcs3_1 hcs3_2; have n0_ := Aside0.mk (hs1); have n1_ := Aside0.mk (HB.out.trans hb); clear HS HB; have HS := n0_; have HB := n1_; clear n0_ n1_; (try simp only [List.eraseIdx_cons_succ, List.eraseIdx_cons_zero] at HS); clear hs1 hb; have hcs_0 := ((HS.out.pick 8 rfl).cell 0).trans (show _ = some (.int .i64 Kn) from rfl); have hcs_1 := ((HS.out.pick 8 rfl).cell 1).trans (show _ = some (.int .i64 bb) from rfl); have hcs_2 := ((HS.out.pick 8 rfl).cell 2).trans (show _ = some ((.slice A1 n1 c1)) from rfl)) | (go_at_call 21; (with_reducible refine (agrees_ok Kn hK4 bb (foldk hs ts) hz1 (.slice A1 n1 c1) p ((HS.out.pick 3 rfl).pick 6 rfl)).mono ?_); rintro e w47 ⟨rfl, hs1, hb⟩; clear hcs_0 hcs_1 hcs_2; have n0_ := Aside0.mk (hs1); have n1_ := Aside0.mk (HB.out.trans hb); clear HS HB; have HS := n0_; have HB := n1_; clear n0_ n1_; (try simp only [List.eraseIdx_cons_succ, List.eraseIdx_cons_zero] at HS); clear hs1 hb; have hcs2_0 := ((HS.out.pick 9 rfl).cell 0).trans (show _ = some (.int .i64 Kn) from rfl); have hcs2_1 := ((HS.out.pick 9 rfl).cell 1).trans (show _ = some (.int .i64 bb) from rfl); have hcs2_2 := ((HS.out.pick 9 rfl).cell 2).trans (show _ = some ((.slice A2 n2 c2)) from rfl)) | (go_at_call 21; (with_reducible refine (agrees_ok Kn hK4 bb (foldk hs us) hz2 (.slice A2 n2 c2) p2 ((HS.out.pick 5 rfl).pick 7 rfl)).mono ?_); rintro e w48 ⟨rfl, hs1, hb⟩; clear hcs2_0 hcs2_1 hcs2_2; have n0_ := Aside0.mk (hs1); have n1_ := Aside0.mk (HB.out.trans hb); clear HS HB; have HS := n0_; have HB := n1_; clear n0_ n1_; (try simp only [List.eraseIdx_cons_succ, List.eraseIdx_cons_zero] at HS); clear hs1 hb))
        go_wp2_with (first | ((with_reducible refine gate_callee (f := 33) rfl ?_); refine goesL_ (some 90) rfl rfl Try.func33 (by kernel_rfl) rfl #[.pointer (some ⟨p, 0, none⟩), .pointer (some ⟨p, 0, none⟩)] rfl (by (try simp only [List.map_toArray, List.map_cons, List.map_nil]); first | done | rfl | (simp only [List.length_drop, List.length_take]; rfl)) ?_; (with_reducible refine (Merge_self p Kn bb hK5 (foldk hs ts) hi1 (HS.out.pick 3 rfl)).mono ?_); rintro e w49 ⟨rfl, hs1, hb⟩; refine ⟨_, rfl, ?_⟩; have n0_ := Aside0.mk (hs1); have n1_ := Aside0.mk (HB.out.trans hb); clear HS HB; have HS := n0_; have HB := n1_; clear n0_ n1_; (try simp only [List.eraseIdx_cons_succ, List.eraseIdx_cons_zero] at HS); clear hs1 hb; have hcs_0 := ((HS.out.pick 8 rfl).cell 0).trans (show _ = some (.int .i64 Kn) from rfl); have hcs_1 := ((HS.out.pick 8 rfl).cell 1).trans (show _ = some (.int .i64 bb) from rfl); have hcs_2 := ((HS.out.pick 8 rfl).cell 2).trans (show _ = some ((.slice A1 n1 c1)) from rfl)) | (go_at_call 21; (with_reducible refine (agrees_ok Kn hK4 bb (foldk hs ts) hz1 (.slice A1 n1 c1) p ((HS.out.pick 0 rfl).pick 3 rfl)).mono ?_); rintro e w50 ⟨rfl, hs1, hb⟩; clear hcs_0 hcs_1 hcs_2; have n0_ := Aside0.mk (hs1); have n1_ := Aside0.mk (HB.out.trans hb); clear HS HB; have HS := n0_; have HB := n1_; clear n0_ n1_; (try simp only [List.eraseIdx_cons_succ, List.eraseIdx_cons_zero] at HS); clear hs1 hb))
        go_ret
        exact ⟨rfl, HB.out⟩
    ·
      refine box_step (by rfl) (Nt := 11) rfl (cs := #[.int .i64 0, .int .i64 0, .slice none 0 0]) (t := 28) ?hrw31 ?_
      (case hrw31 => first | (go_simp; done) | (go_simp; rfl))
      intro s3 hg w31 hbox hb
      have n0_ := Aside0.mk ((((((((((HS.out.box hg hbox hb).pick 8 rfl).pick 8 rfl).pick 8 rfl).pick 8 rfl).pick 8 rfl).pick 8 rfl).pick 8 rfl).pick 8 rfl)); have n1_ := Aside0.mk (below_step' HB.out HS.out.size hb); clear HS HB; have HS := n0_; have HB := n1_; clear n0_ n1_; (try simp only [List.eraseIdx_cons_succ, List.eraseIdx_cons_zero] at HS)
      clear hb hbox hg
      refine hK.out _ _ ⟨((HS.out.pick 3 rfl).cell 0).trans rfl, ((HS.out.pick 3 rfl).cell 1).trans rfl⟩ (fun hHeld => ?_)
      clear hK K
      refine norm_ (a' := ?_) ?_ ?_
      rotate_left
      · show Act.put _ (some 11) _ = _
        simp only [Act.put, List.setIfInBounds_toArray, List.set_cons_zero, List.set_cons_succ, i64_w, i32_w]
        rfl
      refine one_ (i := 7) (N := some 45) (tfs true [8, 2, 1, 1]).toArray rfl rfl (one_of HT_.out (by kernel_rfl)) (by decide) (fun K hK => ?_)
      refine goes_ Try.func22 (by kernel_rfl) rfl #[.slice Ab em.length cb] (by rfl) rfl rfl (by (try simp only [List.map_toArray, List.map_cons, List.map_nil]); first | done | rfl | (simp only [List.length_drop, List.length_take]; rfl)) ?_
      with_reducible refine (sleuthlaw23_keys.calls kb Ab cb em us _ (Kd.C_below HCb.out HB.out) hcb.out hkb.out).mono ?_
      rintro e w32 ⟨vU, rfl, ho, hb⟩
      refine ⟨_, rfl, ?_⟩
      have n0_ := Aside0.mk (((((((((((HS.out.made ho hb).pick 9 rfl).pick 9 rfl).pick 9 rfl).pick 9 rfl).pick 9 rfl).pick 9 rfl).pick 9 rfl).pick 9 rfl).pick 9 rfl)); have n1_ := Aside0.mk (below_step' HB.out HS.out.size hb); clear HS HB; have HS := n0_; have HB := n1_; clear n0_ n1_; (try simp only [List.eraseIdx_cons_succ, List.eraseIdx_cons_zero] at HS)
      clear ho hb; obtain ⟨AU, cU, e_⟩ : ∃ (A : Option Addr) (c : Nat), vU = .slice A us.length c := (by obtain ⟨A, c, e, _, _⟩ := (HS.out.pick 9 rfl).reads; exact ⟨A, c, e⟩); subst e_
      refine hK.out _ _ ⟨((HS.out.pick 3 rfl).cell 0).trans rfl, ((HS.out.pick 3 rfl).cell 1).trans rfl⟩ (fun hHeld => ?_)
      clear hK K
      refine norm_ (a' := ?_) ?_ ?_
      rotate_left
      · show Act.put _ (some 45) _ = _
        simp only [Act.put, List.setIfInBounds_toArray, List.set_cons_zero, List.set_cons_succ, i64_w, i32_w]
        rfl
      refine one_ (i := 8) (N := some 46) (tfs true [9, 1, 1, 1]).toArray rfl rfl (one_of HT_.out (by kernel_rfl)) (by decide) (fun K hK => ?_)
      refine S_append_rows_step Kd.string (by rfl) (.tmp 43) (.tmp 45) 39 9 (.string ⟨#[]⟩) 16 rfl Try.underlying39 info9 rfl (by decide) (by omega) (.slice AT ts.length cT) ts us AU us.length cU rfl rfl (fun _ _ h => h) (HS.out.pick 7 rfl) (HS.out.pick 9 rfl).rowC.2.2 HB.out (by have := hts.out; have := hus.out; omega) ?_
      intro vX w33 hs9 hb
      have n0_ := Aside0.mk ((((((((((hs9.pick 9 rfl).pick 9 rfl).pick 9 rfl).pick 9 rfl).pick 9 rfl).pick 9 rfl).pick 9 rfl).pick 9 rfl).pick 9 rfl)); have n1_ := Aside0.mk (hb); clear HS HB; have HS := n0_; have HB := n1_; clear n0_ n1_; (try simp only [List.eraseIdx_cons_succ, List.eraseIdx_cons_zero] at HS)
      clear hs9 hb
      obtain ⟨AX, cX, e_⟩ : ∃ (A : Option Addr) (c : Nat), vX = .slice A (ts ++ us).length c := (by obtain ⟨A, c, e, _, _⟩ := (HS.out.pick 9 rfl).reads; exact ⟨A, c, e⟩); subst e_
      refine hK.out _ _ ⟨((HS.out.pick 3 rfl).cell 0).trans rfl, ((HS.out.pick 3 rfl).cell 1).trans rfl⟩ (fun hHeld => ?_)
      clear hK K
      refine norm_ (a' := ?_) ?_ ?_
      rotate_left
      · show Act.put _ (some 46) _ = _
        simp only [Act.put, List.setIfInBounds_toArray, List.set_cons_zero, List.set_cons_succ, i64_w, i32_w]
        rfl
      refine one_ (i := 9) (N := some 47) (tfs true [11, 1]).toArray rfl rfl (one_of HT_.out (by kernel_rfl)) (by decide) (fun K hK => ?_)
      refine goes_ Try.func24 (by kernel_rfl) rfl #[.int .i64 Kn, .int .i64 bb, .slice AX (ts ++ us).length cX] (by rfl) rfl rfl (by (try simp only [List.map_toArray, List.map_cons, List.map_nil]); first | done | rfl | (simp only [List.length_drop, List.length_take]; rfl)) ?_
      with_reducible refine (ofl_ok Kn bb k2 hs (ts ++ us) (ts ++ us).length (Nat.le_refl _) hlw.out HOW.out AX cX (HS.out.pick 9 rfl)).mono ?_
      rintro e w34 ⟨v3, rfl, hs1, hb⟩; rw [List.take_length] at hs1
      refine ⟨_, rfl, ?_⟩
      have n0_ := Aside0.mk ((((((((((((hs1.pick 0 rfl).pick 1 rfl).pick 10 rfl).pick 10 rfl).pick 10 rfl).pick 10 rfl).pick 10 rfl).pick 10 rfl).pick 10 rfl).pick 10 rfl).pick 10 rfl)); have n1_ := Aside0.mk (HB.out.trans hb); clear HS HB; have HS := n0_; have HB := n1_; clear n0_ n1_; (try simp only [List.eraseIdx_cons_succ, List.eraseIdx_cons_zero] at HS)
      clear hs1 hb; obtain ⟨A3, n3, c3, e_⟩ : ∃ (A : Option Addr) (n c : Nat), v3 = .slice A n c := (by obtain ⟨A, c, e, _, _⟩ := (HS.out.pick 10 rfl).reads; exact ⟨A, _, c, e⟩); subst e_
      refine hK.out _ _ ⟨((HS.out.pick 3 rfl).cell 0).trans rfl, ((HS.out.pick 3 rfl).cell 1).trans rfl⟩ (fun hHeld => ?_)
      clear hK K
      refine norm_ (a' := ?_) ?_ ?_
      rotate_left
      · show Act.put _ (some 47) _ = _
        simp only [Act.put, List.setIfInBounds_toArray, List.set_cons_zero, List.set_cons_succ, i64_w, i32_w]
        rfl
      refine last_ (i := 11) (N := none) (tfs true [12]).toArray rfl rfl (one_of HT_.out (by kernel_rfl)) (by decide) (fun K hK => ?_)
      have q0 := ((HS.out.pick 7 rfl).cell 0).trans (show _ = some (.int .i64 0) from rfl); have f0 := (HS.out.pick 7 rfl).frozen 0; have q1 := ((HS.out.pick 7 rfl).cell 1).trans (show _ = some (.int .i64 0) from rfl); have f1 := (HS.out.pick 7 rfl).frozen 1; have q2 := ((HS.out.pick 7 rfl).cell 2).trans (show _ = some (.slice none 0 0) from rfl); have f2 := (HS.out.pick 7 rfl).frozen 2
      refine skip_ (w1 := ?_) (by rfl) rfl ?_ ?_
      rotate_left
      · go_simp
        rfl
      clear q0 q1 q2 f0 f1 f2
      have n0_ := Aside0.mk ((((HS.out.pick 7 rfl).set 0 (.int .i64 Kn) #[.int .i64 Kn, .int .i64 0, .slice none 0 0] rfl).set 1 (.int .i64 bb) #[.int .i64 Kn, .int .i64 bb, .slice none 0 0] rfl).set 2 (.slice A3 n3 c3) #[.int .i64 Kn, .int .i64 bb, (.slice A3 n3 c3)] rfl); have n1_ := Aside0.mk ((((HS.out.pick 7 rfl).set 0 (.int .i64 Kn) #[.int .i64 Kn, .int .i64 0, .slice none 0 0] rfl).set 1 (.int .i64 bb) #[.int .i64 Kn, .int .i64 bb, .slice none 0 0] rfl).below_set (i := 2) (u := (.slice A3 n3 c3)) (((HS.out.pick 7 rfl).set 0 (.int .i64 Kn) #[.int .i64 Kn, .int .i64 0, .slice none 0 0] rfl).below_set (i := 1) (u := .int .i64 bb) ((HS.out.pick 7 rfl).below_set (i := 0) (u := .int .i64 Kn) HB.out))); clear HS HB; have HS := n0_; have HB := n1_; clear n0_ n1_; (try simp only [List.eraseIdx_cons_succ, List.eraseIdx_cons_zero] at HS)
      refine hK.out _ _ ?_
      clear hK K
      refine done_ (done_of HT_.out (by kernel_rfl)) ?_
      clear HT_ HW_
      try clear hHeld
      generalize (World.setCell _ _ _) = w40 at HS HB ⊢
      have n0_ := Aside0.mk (((((((((HS.out.pick 1 rfl).pick 4 rfl).pick 3 rfl).pick 4 rfl).pick 5 rfl).pick 6 rfl).pick 10 rfl).pick 7 rfl)); have n1_ := Aside0.mk (HB.out); clear HS HB; have HS := n0_; have HB := n1_; clear n0_ n1_; (try simp only [List.eraseIdx_cons_succ, List.eraseIdx_cons_zero] at HS)
      go_upto_region 10 with (first | ((with_reducible refine gate_callee (f := 32) rfl ?_); refine goesL_ (some 49) rfl rfl Try.func32 (by kernel_rfl) rfl #[.pointer (some ⟨p, 0, none⟩)] rfl (by (try simp only [List.map_toArray, List.map_cons, List.map_nil]); first | done | rfl | (simp only [List.length_drop, List.length_take]; rfl)) ?_; (with_reducible refine (Clone_sk p Kn bb (foldk hs ts) hK4 (HS.out.pick 2 rfl)).mono ?_); rintro e w41 ⟨d1, rfl, hs1, hb⟩; refine ⟨_, rfl, ?_⟩; have n0_ := Aside0.mk (hs1); have n1_ := Aside0.mk (HB.out.trans hb); clear HS HB; have HS := n0_; have HB := n1_; clear n0_ n1_; (try simp only [List.eraseIdx_cons_succ, List.eraseIdx_cons_zero] at HS); clear hs1 hb) | ((with_reducible refine gate_callee (f := 32) rfl ?_); refine goesL_ (some 51) rfl rfl Try.func32 (by kernel_rfl) rfl #[.pointer (some ⟨p2, 0, none⟩)] rfl (by (try simp only [List.map_toArray, List.map_cons, List.map_nil]); first | done | rfl | (simp only [List.length_drop, List.length_take]; rfl)) ?_; (with_reducible refine (Clone_sk p2 Kn bb (foldk hs us) hK4 (HS.out.pick 5 rfl)).mono ?_); rintro e w42 ⟨d2, rfl, hs1, hb⟩; refine ⟨_, rfl, ?_⟩; have n0_ := Aside0.mk (hs1); have n1_ := Aside0.mk (HB.out.trans hb); clear HS HB; have HS := n0_; have HB := n1_; clear n0_ n1_; (try simp only [List.eraseIdx_cons_succ, List.eraseIdx_cons_zero] at HS); clear hs1 hb) | ((with_reducible refine gate_callee (f := 33) rfl ?_); refine goesL_ (some 54) rfl rfl Try.func33 (by kernel_rfl) rfl #[.pointer (some ⟨d1, 0, none⟩), .pointer (some ⟨p2, 0, none⟩)] rfl (by (try simp only [List.map_toArray, List.map_cons, List.map_nil]); first | done | rfl | (simp only [List.length_drop, List.length_take]; rfl)) ?_; (with_reducible refine (Merge_sk d1 p2 Kn bb hK5 (foldk hs ts) (foldk hs us) (foldk hs (ts ++ us)) hi1 hi2 hi3 hm1.out ((HS.out.pick 1 rfl).pick 2 rfl)).mono ?_); rintro e w43 ⟨rfl, hs1, hb⟩; refine ⟨_, rfl, ?_⟩; have n0_ := Aside0.mk (hs1); have n1_ := Aside0.mk (HB.out.trans hb); clear HS HB; have HS := n0_; have HB := n1_; clear n0_ n1_; (try simp only [List.eraseIdx_cons_succ, List.eraseIdx_cons_zero] at HS); clear hs1 hb) | ((with_reducible refine gate_callee (f := 33) rfl ?_); refine goesL_ (some 57) rfl rfl Try.func33 (by kernel_rfl) rfl #[.pointer (some ⟨d2, 0, none⟩), .pointer (some ⟨p, 0, none⟩)] rfl (by (try simp only [List.map_toArray, List.map_cons, List.map_nil]); first | done | rfl | (simp only [List.length_drop, List.length_take]; rfl)) ?_; (with_reducible refine (Merge_sk d2 p Kn bb hK5 (foldk hs us) (foldk hs ts) (foldk hs (ts ++ us)) hi2 hi1 hi3 hm2.out ((HS.out.pick 3 rfl).pick 3 rfl)).mono ?_); rintro e w44 ⟨rfl, hs1, hb⟩; refine ⟨_, rfl, ?_⟩; have n0_ := Aside0.mk (hs1); have n1_ := Aside0.mk (HB.out.trans hb); clear HS HB; have HS := n0_; have HB := n1_; clear n0_ n1_; (try simp only [List.eraseIdx_cons_succ, List.eraseIdx_cons_zero] at HS); clear hs1 hb; have hcs3_0 := ((HS.out.pick 4 rfl).cell 0).trans (show _ = some (.int .i64 Kn) from rfl); have hcs3_1 := ((HS.out.pick 4 rfl).cell 1).trans (show _ = some (.int .i64 bb) from rfl); have hcs3_2 := ((HS.out.pick 4 rfl).cell 2).trans (show _ = some ((.slice A3 n3 c3)) from rfl)) | (go_at_call 21; (with_reducible refine (agrees_ok Kn hK4 bb (foldk hs (ts ++ us)) hz3 (.slice A3 n3 c3) d1 ((HS.out.pick 2 rfl).pick 5 rfl)).mono ?_); rintro e w45 ⟨rfl, hs1, hb⟩; clear hcs3_0 hcs3_1 hcs3_2; have n0_ := Aside0.mk (hs1); have n1_ := Aside0.mk (HB.out.trans hb); clear HS HB; have HS := n0_; have HB := n1_; clear n0_ n1_; (try simp only [List.eraseIdx_cons_succ, List.eraseIdx_cons_zero] at HS); clear hs1 hb; have hcs3_0 := ((HS.out.pick 5 rfl).cell 0).trans (show _ = some (.int .i64 Kn) from rfl); have hcs3_1 := ((HS.out.pick 5 rfl).cell 1).trans (show _ = some (.int .i64 bb) from rfl); have hcs3_2 := ((HS.out.pick 5 rfl).cell 2).trans (show _ = some ((.slice A3 n3 c3)) from rfl)) | (go_at_call 21; (with_reducible refine (agrees_ok Kn hK4 bb (foldk hs (ts ++ us)) hz3 (.slice A3 n3 c3) d2 ((HS.out.pick 2 rfl).pick 1 rfl)).mono ?_); rintro e w46 ⟨rfl, hs1, hb⟩; clear hcs3_0 hcs3_1 hcs3_2; have n0_ := Aside0.mk (hs1); have n1_ := Aside0.mk (HB.out.trans hb); clear HS HB; have HS := n0_; have HB := n1_; clear n0_ n1_; (try simp only [List.eraseIdx_cons_succ, List.eraseIdx_cons_zero] at HS); clear hs1 hb; have hcs_0 := ((HS.out.pick 8 rfl).cell 0).trans (show _ = some (.int .i64 Kn) from rfl); have hcs_1 := ((HS.out.pick 8 rfl).cell 1).trans (show _ = some (.int .i64 bb) from rfl); have hcs_2 := ((HS.out.pick 8 rfl).cell 2).trans (show _ = some ((.slice A1 n1 c1)) from rfl)) | (go_at_call 21; (with_reducible refine (agrees_ok Kn hK4 bb (foldk hs ts) hz1 (.slice A1 n1 c1) p ((HS.out.pick 3 rfl).pick 6 rfl)).mono ?_); rintro e w47 ⟨rfl, hs1, hb⟩; clear hcs_0 hcs_1 hcs_2; have n0_ := Aside0.mk (hs1); have n1_ := Aside0.mk (HB.out.trans hb); clear HS HB; have HS := n0_; have HB := n1_; clear n0_ n1_; (try simp only [List.eraseIdx_cons_succ, List.eraseIdx_cons_zero] at HS); clear hs1 hb; have hcs2_0 := ((HS.out.pick 9 rfl).cell 0).trans (show _ = some (.int .i64 Kn) from rfl); have hcs2_1 := ((HS.out.pick 9 rfl).cell 1).trans (show _ = some (.int .i64 bb) from rfl); have hcs2_2 := ((HS.out.pick 9 rfl).cell 2).trans (show _ = some ((.slice A2 n2 c2)) from rfl)) | (go_at_call 21; (with_reducible refine (agrees_ok Kn hK4 bb (foldk hs us) hz2 (.slice A2 n2 c2) p2 ((HS.out.pick 5 rfl).pick 7 rfl)).mono ?_); rintro e w48 ⟨rfl, hs1, hb⟩; clear hcs2_0 hcs2_1 hcs2_2; have n0_ := Aside0.mk (hs1); have n1_ := Aside0.mk (HB.out.trans hb); clear HS HB; have HS := n0_; have HB := n1_; clear n0_ n1_; (try simp only [List.eraseIdx_cons_succ, List.eraseIdx_cons_zero] at HS); clear hs1 hb))
      go_wp2_with (first | ((with_reducible refine gate_callee (f := 33) rfl ?_); refine goesL_ (some 90) rfl rfl Try.func33 (by kernel_rfl) rfl #[.pointer (some ⟨p, 0, none⟩), .pointer (some ⟨p, 0, none⟩)] rfl (by (try simp only [List.map_toArray, List.map_cons, List.map_nil]); first | done | rfl | (simp only [List.length_drop, List.length_take]; rfl)) ?_; (with_reducible refine (Merge_self p Kn bb hK5 (foldk hs ts) hi1 (HS.out.pick 3 rfl)).mono ?_); rintro e w49 ⟨rfl, hs1, hb⟩; refine ⟨_, rfl, ?_⟩; have n0_ := Aside0.mk (hs1); have n1_ := Aside0.mk (HB.out.trans hb); clear HS HB; have HS := n0_; have HB := n1_; clear n0_ n1_; (try simp only [List.eraseIdx_cons_succ, List.eraseIdx_cons_zero] at HS); clear hs1 hb; have hcs_0 := ((HS.out.pick 8 rfl).cell 0).trans (show _ = some (.int .i64 Kn) from rfl); have hcs_1 := ((HS.out.pick 8 rfl).cell 1).trans (show _ = some (.int .i64 bb) from rfl); have hcs_2 := ((HS.out.pick 8 rfl).cell 2).trans (show _ = some ((.slice A1 n1 c1)) from rfl)) | (go_at_call 21; (with_reducible refine (agrees_ok Kn hK4 bb (foldk hs ts) hz1 (.slice A1 n1 c1) p ((HS.out.pick 0 rfl).pick 3 rfl)).mono ?_); rintro e w50 ⟨rfl, hs1, hb⟩; clear hcs_0 hcs_1 hcs_2; have n0_ := Aside0.mk (hs1); have n1_ := Aside0.mk (HB.out.trans hb); clear HS HB; have HS := n0_; have HB := n1_; clear n0_ n1_; (try simp only [List.eraseIdx_cons_succ, List.eraseIdx_cons_zero] at HS); clear hs1 hb))
      go_ret
      exact ⟨rfl, HB.out⟩
  ·
    refine box_step (by rfl) (Nt := 11) rfl (cs := #[.int .i64 0, .int .i64 0, .slice none 0 0]) (t := 28) ?hrw35 ?_
    (case hrw35 => first | (go_simp; done) | (go_simp; rfl))
    intro s3 hg w35 hbox hb
    have n0_ := Aside0.mk (((((((((HS.out.box hg hbox hb).pick 7 rfl).pick 7 rfl).pick 7 rfl).pick 7 rfl).pick 7 rfl).pick 7 rfl).pick 7 rfl)); have n1_ := Aside0.mk (below_step' HB.out HS.out.size hb); clear HS HB; have HS := n0_; have HB := n1_; clear n0_ n1_; (try simp only [List.eraseIdx_cons_succ, List.eraseIdx_cons_zero] at HS)
    clear hb hbox hg
    refine hK.out _ _ ⟨((HS.out.pick 3 rfl).cell 0).trans rfl, ((HS.out.pick 3 rfl).cell 1).trans rfl⟩ (fun hHeld => ?_)
    clear hK K
    refine norm_ (a' := ?_) ?_ ?_
    rotate_left
    · show Act.put _ (some 11) _ = _
      simp only [Act.put, List.setIfInBounds_toArray, List.set_cons_zero, List.set_cons_succ, i64_w, i32_w]
      rfl
    refine one_ (i := 5) (N := some 43) (tfs true [7, 3, 1, 1]).toArray rfl rfl (one_of HT_.out (by kernel_rfl)) (by decide) (fun K hK => ?_)
    refine goes_ Try.func22 (by kernel_rfl) rfl #[.slice Aa dl.length ca] (by rfl) rfl rfl (by (try simp only [List.map_toArray, List.map_cons, List.map_nil]); first | done | rfl | (simp only [List.length_drop, List.length_take]; rfl)) ?_
    with_reducible refine (sleuthlaw23_keys.calls k Aa ca dl ts _ (Kd.C_below HC.out HB.out) hca.out hk.out).mono ?_
    rintro e w36 ⟨vT, rfl, ho, hb⟩
    refine ⟨_, rfl, ?_⟩
    have n0_ := Aside0.mk ((((((((((HS.out.made ho hb).pick 8 rfl).pick 8 rfl).pick 8 rfl).pick 8 rfl).pick 8 rfl).pick 8 rfl).pick 8 rfl).pick 8 rfl)); have n1_ := Aside0.mk (below_step' HB.out HS.out.size hb); clear HS HB; have HS := n0_; have HB := n1_; clear n0_ n1_; (try simp only [List.eraseIdx_cons_succ, List.eraseIdx_cons_zero] at HS)
    clear ho hb; obtain ⟨AT, cT, e_⟩ : ∃ (A : Option Addr) (c : Nat), vT = .slice A ts.length c := (by obtain ⟨A, c, e, _, _⟩ := (HS.out.pick 8 rfl).reads; exact ⟨A, c, e⟩); subst e_
    refine hK.out _ _ ⟨((HS.out.pick 3 rfl).cell 0).trans rfl, ((HS.out.pick 3 rfl).cell 1).trans rfl⟩ (fun hHeld => ?_)
    clear hK K
    refine norm_ (a' := ?_) ?_ ?_
    rotate_left
    · show Act.put _ (some 43) _ = _
      simp only [Act.put, List.setIfInBounds_toArray, List.set_cons_zero, List.set_cons_succ, i64_w, i32_w]
      rfl
    refine one_ (i := 7) (N := some 45) (tfs true [8, 2, 1, 1]).toArray rfl rfl (one_of HT_.out (by kernel_rfl)) (by decide) (fun K hK => ?_)
    refine goes_ Try.func22 (by kernel_rfl) rfl #[.slice Ab em.length cb] (by rfl) rfl rfl (by (try simp only [List.map_toArray, List.map_cons, List.map_nil]); first | done | rfl | (simp only [List.length_drop, List.length_take]; rfl)) ?_
    with_reducible refine (sleuthlaw23_keys.calls kb Ab cb em us _ (Kd.C_below HCb.out HB.out) hcb.out hkb.out).mono ?_
    rintro e w37 ⟨vU, rfl, ho, hb⟩
    refine ⟨_, rfl, ?_⟩
    have n0_ := Aside0.mk (((((((((((HS.out.made ho hb).pick 9 rfl).pick 9 rfl).pick 9 rfl).pick 9 rfl).pick 9 rfl).pick 9 rfl).pick 9 rfl).pick 9 rfl).pick 9 rfl)); have n1_ := Aside0.mk (below_step' HB.out HS.out.size hb); clear HS HB; have HS := n0_; have HB := n1_; clear n0_ n1_; (try simp only [List.eraseIdx_cons_succ, List.eraseIdx_cons_zero] at HS)
    clear ho hb; obtain ⟨AU, cU, e_⟩ : ∃ (A : Option Addr) (c : Nat), vU = .slice A us.length c := (by obtain ⟨A, c, e, _, _⟩ := (HS.out.pick 9 rfl).reads; exact ⟨A, c, e⟩); subst e_
    refine hK.out _ _ ⟨((HS.out.pick 3 rfl).cell 0).trans rfl, ((HS.out.pick 3 rfl).cell 1).trans rfl⟩ (fun hHeld => ?_)
    clear hK K
    refine norm_ (a' := ?_) ?_ ?_
    rotate_left
    · show Act.put _ (some 45) _ = _
      simp only [Act.put, List.setIfInBounds_toArray, List.set_cons_zero, List.set_cons_succ, i64_w, i32_w]
      rfl
    refine one_ (i := 8) (N := some 46) (tfs true [9, 1, 1, 1]).toArray rfl rfl (one_of HT_.out (by kernel_rfl)) (by decide) (fun K hK => ?_)
    refine S_append_rows_step Kd.string (by rfl) (.tmp 43) (.tmp 45) 39 9 (.string ⟨#[]⟩) 16 rfl Try.underlying39 info9 rfl (by decide) (by omega) (.slice AT ts.length cT) ts us AU us.length cU rfl rfl (fun _ _ h => h) (HS.out.pick 8 rfl) (HS.out.pick 9 rfl).rowC.2.2 HB.out (by have := hts.out; have := hus.out; omega) ?_
    intro vX w38 hs9 hb
    have n0_ := Aside0.mk ((((((((((hs9.pick 9 rfl).pick 9 rfl).pick 9 rfl).pick 9 rfl).pick 9 rfl).pick 9 rfl).pick 9 rfl).pick 9 rfl).pick 9 rfl)); have n1_ := Aside0.mk (hb); clear HS HB; have HS := n0_; have HB := n1_; clear n0_ n1_; (try simp only [List.eraseIdx_cons_succ, List.eraseIdx_cons_zero] at HS)
    clear hs9 hb
    obtain ⟨AX, cX, e_⟩ : ∃ (A : Option Addr) (c : Nat), vX = .slice A (ts ++ us).length c := (by obtain ⟨A, c, e, _, _⟩ := (HS.out.pick 9 rfl).reads; exact ⟨A, c, e⟩); subst e_
    refine hK.out _ _ ⟨((HS.out.pick 3 rfl).cell 0).trans rfl, ((HS.out.pick 3 rfl).cell 1).trans rfl⟩ (fun hHeld => ?_)
    clear hK K
    refine norm_ (a' := ?_) ?_ ?_
    rotate_left
    · show Act.put _ (some 46) _ = _
      simp only [Act.put, List.setIfInBounds_toArray, List.set_cons_zero, List.set_cons_succ, i64_w, i32_w]
      rfl
    refine one_ (i := 9) (N := some 47) (tfs true [11, 1]).toArray rfl rfl (one_of HT_.out (by kernel_rfl)) (by decide) (fun K hK => ?_)
    refine goes_ Try.func24 (by kernel_rfl) rfl #[.int .i64 Kn, .int .i64 bb, .slice AX (ts ++ us).length cX] (by rfl) rfl rfl (by (try simp only [List.map_toArray, List.map_cons, List.map_nil]); first | done | rfl | (simp only [List.length_drop, List.length_take]; rfl)) ?_
    with_reducible refine (ofl_ok Kn bb k2 hs (ts ++ us) (ts ++ us).length (Nat.le_refl _) hlw.out HOW.out AX cX (HS.out.pick 9 rfl)).mono ?_
    rintro e w39 ⟨v3, rfl, hs1, hb⟩; rw [List.take_length] at hs1
    refine ⟨_, rfl, ?_⟩
    have n0_ := Aside0.mk ((((((((((((hs1.pick 0 rfl).pick 1 rfl).pick 10 rfl).pick 10 rfl).pick 10 rfl).pick 10 rfl).pick 10 rfl).pick 10 rfl).pick 10 rfl).pick 10 rfl).pick 10 rfl)); have n1_ := Aside0.mk (HB.out.trans hb); clear HS HB; have HS := n0_; have HB := n1_; clear n0_ n1_; (try simp only [List.eraseIdx_cons_succ, List.eraseIdx_cons_zero] at HS)
    clear hs1 hb; obtain ⟨A3, n3, c3, e_⟩ : ∃ (A : Option Addr) (n c : Nat), v3 = .slice A n c := (by obtain ⟨A, c, e, _, _⟩ := (HS.out.pick 10 rfl).reads; exact ⟨A, _, c, e⟩); subst e_
    refine hK.out _ _ ⟨((HS.out.pick 3 rfl).cell 0).trans rfl, ((HS.out.pick 3 rfl).cell 1).trans rfl⟩ (fun hHeld => ?_)
    clear hK K
    refine norm_ (a' := ?_) ?_ ?_
    rotate_left
    · show Act.put _ (some 47) _ = _
      simp only [Act.put, List.setIfInBounds_toArray, List.set_cons_zero, List.set_cons_succ, i64_w, i32_w]
      rfl
    refine last_ (i := 11) (N := none) (tfs true [12]).toArray rfl rfl (one_of HT_.out (by kernel_rfl)) (by decide) (fun K hK => ?_)
    have q0 := ((HS.out.pick 7 rfl).cell 0).trans (show _ = some (.int .i64 0) from rfl); have f0 := (HS.out.pick 7 rfl).frozen 0; have q1 := ((HS.out.pick 7 rfl).cell 1).trans (show _ = some (.int .i64 0) from rfl); have f1 := (HS.out.pick 7 rfl).frozen 1; have q2 := ((HS.out.pick 7 rfl).cell 2).trans (show _ = some (.slice none 0 0) from rfl); have f2 := (HS.out.pick 7 rfl).frozen 2
    refine skip_ (w1 := ?_) (by rfl) rfl ?_ ?_
    rotate_left
    · go_simp
      rfl
    clear q0 q1 q2 f0 f1 f2
    have n0_ := Aside0.mk ((((HS.out.pick 7 rfl).set 0 (.int .i64 Kn) #[.int .i64 Kn, .int .i64 0, .slice none 0 0] rfl).set 1 (.int .i64 bb) #[.int .i64 Kn, .int .i64 bb, .slice none 0 0] rfl).set 2 (.slice A3 n3 c3) #[.int .i64 Kn, .int .i64 bb, (.slice A3 n3 c3)] rfl); have n1_ := Aside0.mk ((((HS.out.pick 7 rfl).set 0 (.int .i64 Kn) #[.int .i64 Kn, .int .i64 0, .slice none 0 0] rfl).set 1 (.int .i64 bb) #[.int .i64 Kn, .int .i64 bb, .slice none 0 0] rfl).below_set (i := 2) (u := (.slice A3 n3 c3)) (((HS.out.pick 7 rfl).set 0 (.int .i64 Kn) #[.int .i64 Kn, .int .i64 0, .slice none 0 0] rfl).below_set (i := 1) (u := .int .i64 bb) ((HS.out.pick 7 rfl).below_set (i := 0) (u := .int .i64 Kn) HB.out))); clear HS HB; have HS := n0_; have HB := n1_; clear n0_ n1_; (try simp only [List.eraseIdx_cons_succ, List.eraseIdx_cons_zero] at HS)
    refine hK.out _ _ ?_
    clear hK K
    refine done_ (done_of HT_.out (by kernel_rfl)) ?_
    clear HT_ HW_
    try clear hHeld
    generalize (World.setCell _ _ _) = w40 at HS HB ⊢
    have n0_ := Aside0.mk (((((((((HS.out.pick 1 rfl).pick 4 rfl).pick 3 rfl).pick 4 rfl).pick 5 rfl).pick 6 rfl).pick 10 rfl).pick 7 rfl)); have n1_ := Aside0.mk (HB.out); clear HS HB; have HS := n0_; have HB := n1_; clear n0_ n1_; (try simp only [List.eraseIdx_cons_succ, List.eraseIdx_cons_zero] at HS)
    go_upto_region 10 with (first | ((with_reducible refine gate_callee (f := 32) rfl ?_); refine goesL_ (some 49) rfl rfl Try.func32 (by kernel_rfl) rfl #[.pointer (some ⟨p, 0, none⟩)] rfl (by (try simp only [List.map_toArray, List.map_cons, List.map_nil]); first | done | rfl | (simp only [List.length_drop, List.length_take]; rfl)) ?_; (with_reducible refine (Clone_sk p Kn bb (foldk hs ts) hK4 (HS.out.pick 2 rfl)).mono ?_); rintro e w41 ⟨d1, rfl, hs1, hb⟩; refine ⟨_, rfl, ?_⟩; have n0_ := Aside0.mk (hs1); have n1_ := Aside0.mk (HB.out.trans hb); clear HS HB; have HS := n0_; have HB := n1_; clear n0_ n1_; (try simp only [List.eraseIdx_cons_succ, List.eraseIdx_cons_zero] at HS); clear hs1 hb) | ((with_reducible refine gate_callee (f := 32) rfl ?_); refine goesL_ (some 51) rfl rfl Try.func32 (by kernel_rfl) rfl #[.pointer (some ⟨p2, 0, none⟩)] rfl (by (try simp only [List.map_toArray, List.map_cons, List.map_nil]); first | done | rfl | (simp only [List.length_drop, List.length_take]; rfl)) ?_; (with_reducible refine (Clone_sk p2 Kn bb (foldk hs us) hK4 (HS.out.pick 5 rfl)).mono ?_); rintro e w42 ⟨d2, rfl, hs1, hb⟩; refine ⟨_, rfl, ?_⟩; have n0_ := Aside0.mk (hs1); have n1_ := Aside0.mk (HB.out.trans hb); clear HS HB; have HS := n0_; have HB := n1_; clear n0_ n1_; (try simp only [List.eraseIdx_cons_succ, List.eraseIdx_cons_zero] at HS); clear hs1 hb) | ((with_reducible refine gate_callee (f := 33) rfl ?_); refine goesL_ (some 54) rfl rfl Try.func33 (by kernel_rfl) rfl #[.pointer (some ⟨d1, 0, none⟩), .pointer (some ⟨p2, 0, none⟩)] rfl (by (try simp only [List.map_toArray, List.map_cons, List.map_nil]); first | done | rfl | (simp only [List.length_drop, List.length_take]; rfl)) ?_; (with_reducible refine (Merge_sk d1 p2 Kn bb hK5 (foldk hs ts) (foldk hs us) (foldk hs (ts ++ us)) hi1 hi2 hi3 hm1.out ((HS.out.pick 1 rfl).pick 2 rfl)).mono ?_); rintro e w43 ⟨rfl, hs1, hb⟩; refine ⟨_, rfl, ?_⟩; have n0_ := Aside0.mk (hs1); have n1_ := Aside0.mk (HB.out.trans hb); clear HS HB; have HS := n0_; have HB := n1_; clear n0_ n1_; (try simp only [List.eraseIdx_cons_succ, List.eraseIdx_cons_zero] at HS); clear hs1 hb) | ((with_reducible refine gate_callee (f := 33) rfl ?_); refine goesL_ (some 57) rfl rfl Try.func33 (by kernel_rfl) rfl #[.pointer (some ⟨d2, 0, none⟩), .pointer (some ⟨p, 0, none⟩)] rfl (by (try simp only [List.map_toArray, List.map_cons, List.map_nil]); first | done | rfl | (simp only [List.length_drop, List.length_take]; rfl)) ?_; (with_reducible refine (Merge_sk d2 p Kn bb hK5 (foldk hs us) (foldk hs ts) (foldk hs (ts ++ us)) hi2 hi1 hi3 hm2.out ((HS.out.pick 3 rfl).pick 3 rfl)).mono ?_); rintro e w44 ⟨rfl, hs1, hb⟩; refine ⟨_, rfl, ?_⟩; have n0_ := Aside0.mk (hs1); have n1_ := Aside0.mk (HB.out.trans hb); clear HS HB; have HS := n0_; have HB := n1_; clear n0_ n1_; (try simp only [List.eraseIdx_cons_succ, List.eraseIdx_cons_zero] at HS); clear hs1 hb; have hcs3_0 := ((HS.out.pick 4 rfl).cell 0).trans (show _ = some (.int .i64 Kn) from rfl); have hcs3_1 := ((HS.out.pick 4 rfl).cell 1).trans (show _ = some (.int .i64 bb) from rfl); have hcs3_2 := ((HS.out.pick 4 rfl).cell 2).trans (show _ = some ((.slice A3 n3 c3)) from rfl)) | (go_at_call 21; (with_reducible refine (agrees_ok Kn hK4 bb (foldk hs (ts ++ us)) hz3 (.slice A3 n3 c3) d1 ((HS.out.pick 2 rfl).pick 5 rfl)).mono ?_); rintro e w45 ⟨rfl, hs1, hb⟩; clear hcs3_0 hcs3_1 hcs3_2; have n0_ := Aside0.mk (hs1); have n1_ := Aside0.mk (HB.out.trans hb); clear HS HB; have HS := n0_; have HB := n1_; clear n0_ n1_; (try simp only [List.eraseIdx_cons_succ, List.eraseIdx_cons_zero] at HS); clear hs1 hb; have hcs3_0 := ((HS.out.pick 5 rfl).cell 0).trans (show _ = some (.int .i64 Kn) from rfl); have hcs3_1 := ((HS.out.pick 5 rfl).cell 1).trans (show _ = some (.int .i64 bb) from rfl); have hcs3_2 := ((HS.out.pick 5 rfl).cell 2).trans (show _ = some ((.slice A3 n3 c3)) from rfl)) | (go_at_call 21; (with_reducible refine (agrees_ok Kn hK4 bb (foldk hs (ts ++ us)) hz3 (.slice A3 n3 c3) d2 ((HS.out.pick 2 rfl).pick 1 rfl)).mono ?_); rintro e w46 ⟨rfl, hs1, hb⟩; clear hcs3_0 hcs3_1 hcs3_2; have n0_ := Aside0.mk (hs1); have n1_ := Aside0.mk (HB.out.trans hb); clear HS HB; have HS := n0_; have HB := n1_; clear n0_ n1_; (try simp only [List.eraseIdx_cons_succ, List.eraseIdx_cons_zero] at HS); clear hs1 hb; have hcs_0 := ((HS.out.pick 8 rfl).cell 0).trans (show _ = some (.int .i64 Kn) from rfl); have hcs_1 := ((HS.out.pick 8 rfl).cell 1).trans (show _ = some (.int .i64 bb) from rfl); have hcs_2 := ((HS.out.pick 8 rfl).cell 2).trans (show _ = some ((.slice A1 n1 c1)) from rfl)) | (go_at_call 21; (with_reducible refine (agrees_ok Kn hK4 bb (foldk hs ts) hz1 (.slice A1 n1 c1) p ((HS.out.pick 3 rfl).pick 6 rfl)).mono ?_); rintro e w47 ⟨rfl, hs1, hb⟩; clear hcs_0 hcs_1 hcs_2; have n0_ := Aside0.mk (hs1); have n1_ := Aside0.mk (HB.out.trans hb); clear HS HB; have HS := n0_; have HB := n1_; clear n0_ n1_; (try simp only [List.eraseIdx_cons_succ, List.eraseIdx_cons_zero] at HS); clear hs1 hb; have hcs2_0 := ((HS.out.pick 9 rfl).cell 0).trans (show _ = some (.int .i64 Kn) from rfl); have hcs2_1 := ((HS.out.pick 9 rfl).cell 1).trans (show _ = some (.int .i64 bb) from rfl); have hcs2_2 := ((HS.out.pick 9 rfl).cell 2).trans (show _ = some ((.slice A2 n2 c2)) from rfl)) | (go_at_call 21; (with_reducible refine (agrees_ok Kn hK4 bb (foldk hs us) hz2 (.slice A2 n2 c2) p2 ((HS.out.pick 5 rfl).pick 7 rfl)).mono ?_); rintro e w48 ⟨rfl, hs1, hb⟩; clear hcs2_0 hcs2_1 hcs2_2; have n0_ := Aside0.mk (hs1); have n1_ := Aside0.mk (HB.out.trans hb); clear HS HB; have HS := n0_; have HB := n1_; clear n0_ n1_; (try simp only [List.eraseIdx_cons_succ, List.eraseIdx_cons_zero] at HS); clear hs1 hb))
    go_wp2_with (first | ((with_reducible refine gate_callee (f := 33) rfl ?_); refine goesL_ (some 90) rfl rfl Try.func33 (by kernel_rfl) rfl #[.pointer (some ⟨p, 0, none⟩), .pointer (some ⟨p, 0, none⟩)] rfl (by (try simp only [List.map_toArray, List.map_cons, List.map_nil]); first | done | rfl | (simp only [List.length_drop, List.length_take]; rfl)) ?_; (with_reducible refine (Merge_self p Kn bb hK5 (foldk hs ts) hi1 (HS.out.pick 3 rfl)).mono ?_); rintro e w49 ⟨rfl, hs1, hb⟩; refine ⟨_, rfl, ?_⟩; have n0_ := Aside0.mk (hs1); have n1_ := Aside0.mk (HB.out.trans hb); clear HS HB; have HS := n0_; have HB := n1_; clear n0_ n1_; (try simp only [List.eraseIdx_cons_succ, List.eraseIdx_cons_zero] at HS); clear hs1 hb; have hcs_0 := ((HS.out.pick 8 rfl).cell 0).trans (show _ = some (.int .i64 Kn) from rfl); have hcs_1 := ((HS.out.pick 8 rfl).cell 1).trans (show _ = some (.int .i64 bb) from rfl); have hcs_2 := ((HS.out.pick 8 rfl).cell 2).trans (show _ = some ((.slice A1 n1 c1)) from rfl)) | (go_at_call 21; (with_reducible refine (agrees_ok Kn hK4 bb (foldk hs ts) hz1 (.slice A1 n1 c1) p ((HS.out.pick 0 rfl).pick 3 rfl)).mono ?_); rintro e w50 ⟨rfl, hs1, hb⟩; clear hcs_0 hcs_1 hcs_2; have n0_ := Aside0.mk (hs1); have n1_ := Aside0.mk (HB.out.trans hb); clear HS HB; have HS := n0_; have HB := n1_; clear n0_ n1_; (try simp only [List.eraseIdx_cons_succ, List.eraseIdx_cons_zero] at HS); clear hs1 hb))
    go_ret
    exact ⟨rfl, HB.out⟩

end Go.Proofs.Ytddhpkobingmhaa.PB
