/- BottomkParts, walked. -/
import Derived.Test.YtddhpkobingmhaaSk32
import Derived.Test.YtddhpkobingmhaaHas
import Derived.Test.YtddhpkobingmhaaJ5

namespace Go.Proofs.Ytddhpkobingmhaa.PB
open Go.RowKit Go.Proofs.YtddhpkobingmhaaW.PrintWords Go.Proofs.YtddhpkobingmhaaW.PrintLast Go.Proofs.YtddhpkobingmhaaW.PrintMore Go.Proofs.Ytddhpkobingmhaa.Sep
set_option linter.unusedVariables false
set_option linter.unusedSimpArgs false
set_option maxHeartbeats 16000000
set_option maxRecDepth 100000

theorem Keys_of (p Kn : Nat) (sd : Int) (l : List S52) (hK : Kn ≤ 1024) {N : Nat} {w : World} {L : List Res} (HS0 : St N w (Sk p Kn sd l :: L)) :
    Calls Try.prog 36 #[.pointer (some ⟨p, 0, none⟩)] w fun e w' => ∃ v, e = .returned v ∧ St N w' (Row k52 52 v (l.take Kn) :: Sk p Kn sd l :: L) ∧ Below N w w' := by
  obtain ⟨v, h1⟩ := Sk_open HS0
  obtain ⟨A, c, e1, _, _⟩ := h1.swap.reads
  subst e1
  refine (Keys_sk Kn sd l A _ c _ p hK h1).mono ?_
  rintro e w' ⟨v, rfl, hs, hb⟩
  refine ⟨v, rfl, ?_, hb⟩
  have h2 := (hs.pick 2 rfl).pick 2 rfl
  simp only [List.eraseIdx_cons_succ, List.eraseIdx_cons_zero] at h2
  exact (Sk_shut h2).swap

def pts.T18 : Bool × List (List Nat × List Nat) := (true, [([], []), ([0], [0]), ([1], [1]), ([1], [1]), ([2, 3, 1], [1, 2, 3]), ([4, 1], [1, 4]), ([1], [1]), ([1], [1]), ([6, 7, 1], [1, 6, 7]), ([8, 1], [1, 8]), ([5, 9, 1], [1, 5, 9]), ([1, 10], [1, 10]), ([11, 1, 0, 1, 2, 3, 4, 5, 6, 7, 8, 9, 10, 11], [0, 11])])
def pts.B18 : List Nat := [0, 1, 3, 3, 15, 31, 3, 3, 195, 451, 1023, 2047, 4095]
theorem pts.tab18 : rtab .any (opsOf Try.f10 18) = pts.T18 := by kernel_rfl
theorem pts.bits18 : waitsOk pts.T18.2 pts.B18 = true := by kernel_rfl
theorem St_cut2 {N : Nat} {w : World} {r s : Res} {L : List Res} (h : St N w (r :: s :: L)) : St N w (r :: s :: []) := by
  obtain ⟨G, g0, g1, H, h0, h1, _⟩ := h.own
  exact ⟨h.size, G, g0, g1, H, h0, h1, trivial⟩
theorem or3 (a b c : Prop) : (a ∨ b) ∨ c ↔ (c ∨ a) ∨ b := ⟨fun h => h.elim (fun h => h.elim (fun h => .inl (.inr h)) .inr) (fun h => .inl (.inl h)), fun h => h.elim (fun h => h.elim .inr (fun h => .inl (.inl h))) (fun h => .inl (.inr h))⟩
theorem bytes_ne (s : ByteArray) : (s.toList != s.toList) = false := by simp
theorem parts_walk (a : Int) (bn : Nat) (ha0 : 0 ≤ a) (ha1 : a ≤ 255) (hb0 : (0 : Int) ≤ bn) (hb1 : (bn : Int) ≤ 255) (Aa Ab Ac : Option Addr) (ca cb cc : Nat) (dl em fl : List Int) (hca0 : dl.length ≤ ca) (hcb0 : em.length ≤ cb) (hcc0 : fl.length ≤ cc) (Kn : Nat) (hKn0 : 1 + a % 12 = (Kn : Int)) (k1 k1b k1c kc k2 : Nat) (hs : ByteArray → Int) (ts us vs : List ByteArray) (hk10 : sleuthlaw23_keys.f k1 dl = some ts) (hk20 : sleuthlaw23_keys.f k1b em = some us) (hk30 : sleuthlaw23_keys.f k1c fl = some vs) (hts0 : ts.length ≤ 1000) (hus0 : us.length ≤ 1000) (hvs0 : vs.length ≤ 1000) (hok1 : ∀ t ∈ ts, bottomk_check.f kc t = some 0 ∧ checksum_Text.f k2 bn t = some (hs t)) (hok2 : ∀ t ∈ us, bottomk_check.f kc t = some 0 ∧ checksum_Text.f k2 bn t = some (hs t)) (hok3 : ∀ t ∈ vs, bottomk_check.f kc t = some 0 ∧ checksum_Text.f k2 bn t = some (hs t)) (hsz0 : ∀ t ∈ (ts ++ us) ++ vs, t.size ≤ 5000) (w : World) (HC10 : Kd.C (Kd.int .u8) w Aa dl.length dl) (HC20 : Kd.C (Kd.int .u8) w Ab em.length em) (HC30 : Kd.C (Kd.int .u8) w Ac fl.length fl) :
    Calls Try.prog 10 #[.agg #[.int .u8 a, .int .u8 bn], .agg #[.slice Aa dl.length ca, .slice Ab em.length cb, .slice Ac fl.length cc]] w fun e w' => e = .returned (.bool true) ∧ Below w.heap.size w w' := by
  have HS := Aside0.mk (St.none_ (N := w.heap.size) (w := w) (Nat.le_refl _))
  have HB := Aside0.mk (Below.refl w.heap.size w)
  have HC1 := Aside0.mk HC10
  have HC2 := Aside0.mk HC20
  have HC3 := Aside0.mk HC30
  have HOK1 := Aside0.mk hok1
  have HOK2 := Aside0.mk hok2
  have HOK3 := Aside0.mk hok3
  have hk1 := Aside0.mk hk10
  have hk2 := Aside0.mk hk20
  have hk3 := Aside0.mk hk30
  have hca := Aside0.mk hca0
  have hcb := Aside0.mk hcb0
  have hcc := Aside0.mk hcc0
  have hts := Aside0.mk hts0
  have hus := Aside0.mk hus0
  have hvs := Aside0.mk hvs0
  have hKn := Aside0.mk hKn0
  have hK4 : Aside0 (Kn ≤ 1024) := ⟨by omega⟩
  have hK5 : Aside0 (Kn ≤ 1000) := ⟨by omega⟩
  have hbs : Aside0 (bn ≤ 1048576) := ⟨by omega⟩
  have iA := Aside0.mk (inc_foldk hs ts)
  have iB := Aside0.mk (inc_foldk hs us)
  have iC := Aside0.mk (inc_foldk hs vs)
  have i1 := Aside0.mk (inc_foldk hs (ts ++ us))
  have i2 := Aside0.mk (inc_foldk hs ((ts ++ us) ++ vs))
  have i3 := Aside0.mk (inc_foldk hs (vs ++ ts))
  have m1 := Aside0.mk (fun x => mem_both hs ts us x)
  have m2 := Aside0.mk (fun x => mem_both hs (ts ++ us) vs x)
  have m3 := Aside0.mk (fun x => mem_both hs vs ts x)
  have m4 : Aside0 (∀ x, x ∈ (foldk hs ((ts ++ us) ++ vs)) ↔ x ∈ (foldk hs (vs ++ ts)) ∨ x ∈ (foldk hs us)) := ⟨fun x => by rw [m2.out x, m1.out x, m3.out x]; exact or3 _ _ _⟩
  have m5 : Aside0 (∀ x, x ∈ (foldk hs ((ts ++ us) ++ vs)) ↔ x ∈ (foldk hs ((ts ++ us) ++ vs)) ∨ x ∈ (foldk hs ((ts ++ us) ++ vs))) := ⟨fun x => by simp⟩
  have m6 : Aside0 (∀ x, x ∈ ((foldk hs ((ts ++ us) ++ vs)).take Kn) → x ∈ (((foldk hs ts).take Kn) ++ ((foldk hs us).take Kn) ++ ((foldk hs vs).take Kn))) := ⟨mem_takes Kn _ _ _ _ iA.out iB.out iC.out i2.out (fun x => by rw [m2.out x, m1.out x])⟩
  have hsz : Aside0 (∀ k ∈ (foldk hs ((ts ++ us) ++ vs)), k.f1.size ≤ 5000) := ⟨fun k hk => by
    obtain ⟨t, ht, e⟩ := (mem_foldk hs _ k).mp hk
    rw [e]; exact hsz0 t ht⟩
  obtain ⟨la, eA⟩ : ∃ l, ((foldk hs ts).take Kn) = l := ⟨_, rfl⟩
  obtain ⟨lb, eB⟩ : ∃ l, ((foldk hs us).take Kn) = l := ⟨_, rfl⟩
  obtain ⟨lc, eC⟩ : ∃ l, ((foldk hs vs).take Kn) = l := ⟨_, rfl⟩
  obtain ⟨wt, eW⟩ : ∃ l, ((foldk hs ((ts ++ us) ++ vs)).take Kn) = l := ⟨_, rfl⟩
  obtain ⟨pab, eP1⟩ : ∃ l, la ++ lb = l := ⟨_, rfl⟩
  obtain ⟨pt, eP⟩ : ∃ l, pab ++ lc = l := ⟨_, rfl⟩
  have lA : la.length ≤ 1000 := by rw [← eA, List.length_take]; omega
  have lB : lb.length ≤ 1000 := by rw [← eB, List.length_take]; omega
  have lC : lc.length ≤ 1000 := by rw [← eC, List.length_take]; omega
  have lW : Aside0 (wt.length ≤ 1000) := ⟨by rw [← eW, List.length_take]; omega⟩
  have lAB : pab.length ≤ 2000 := by rw [← eP1, List.length_append]; omega
  have lP : Aside0 (pt.length ≤ 3000) := ⟨by rw [← eP, List.length_append]; omega⟩
  have hlen104 : Aside0 ((la.length + lb.length) * 24 ≤ 140737488355328) := ⟨by omega⟩
  have hlen107 : Aside0 ((pab.length + lc.length) * 24 ≤ 140737488355328) := ⟨by omega⟩
  replace m6 : Aside0 (∀ x, x ∈ wt → x ∈ pt) := ⟨by rw [← eW, ← eP, ← eP1, ← eA, ← eB, ← eC]; exact m6.out⟩
  replace eA := Aside0.mk eA
  replace eB := Aside0.mk eB
  replace eC := Aside0.mk eC
  replace eW := Aside0.mk eW
  replace eP1 := Aside0.mk eP1
  replace eP := Aside0.mk eP
  have bne := fun s : ByteArray => bytes_ne s
  clear HC10 HC20 HC30 hok1 hok2 hok3 hk10 hk20 hk30 hca0 hcb0 hcc0 hts0 hus0 hvs0 hKn0 hsz0 lA lB lC lAB
  go_enter Try.func10, Try.ntmps10
  go_upto_region 6 with (first | ((with_reducible refine gate_dst (N := 2) rfl ?_); refine box_event ?hg (N := 2) ?hd (cs := #[.int .u8 a, .int .u8 bn]) (t := 23) ?hr ?_; (case hd => rfl); (case hg => rfl); (case hr => first | (go_simp; done) | (go_simp; rfl)); intro q hg w1 hbox hb; have n0_ := Aside0.mk (HS.out.box hg hbox hb); have n1_ := Aside0.mk (below_step' HB.out HS.out.size hb); clear HS HB; have HS := n0_; have HB := n1_; clear n0_ n1_; (try simp only [List.eraseIdx_cons_succ, List.eraseIdx_cons_zero] at HS); clear hb hbox hg) | ((with_reducible refine gate_dst (N := 3) rfl ?_); refine box_event ?hg (N := 3) ?hd (cs := #[.slice Aa dl.length ca, .slice Ab em.length cb, .slice Ac fl.length cc]) (t := 55) ?hr ?_; (case hd => rfl); (case hg => rfl); (case hr => first | (go_simp; done) | (go_simp; rfl)); intro ar hg w2 hbox hb; have n0_ := Aside0.mk (HS.out.box hg hbox hb); have n1_ := Aside0.mk (below_step' HB.out HS.out.size hb); clear HS HB; have HS := n0_; have HB := n1_; clear n0_ n1_; (try simp only [List.eraseIdx_cons_succ, List.eraseIdx_cons_zero] at HS); clear hb hbox hg; have hc1_0 := ((HS.out.pick 1 rfl).cell 0).trans (show _ = some (.int .u8 a) from rfl); have hc1_1 := ((HS.out.pick 1 rfl).cell 1).trans (show _ = some (.int .u8 bn) from rfl); have hc0_0 := ((HS.out.pick 0 rfl).cell 0).trans (show _ = some (.slice Aa dl.length ca) from rfl)) | ((with_reducible refine gate_callee (f := 12) rfl ?_); refine goesL_ (some 22) rfl rfl Try.func12 (by kernel_rfl) rfl #[.agg #[.int .u8 a, .int .u8 bn], .slice Aa dl.length ca] rfl (by (try simp only [List.map_toArray, List.map_cons, List.map_nil]); first | done | rfl | (simp only [List.length_drop, List.length_take]; rfl)) ?_; (with_reducible refine (made_ok a bn ha0 ha1 hb0 hb1 Aa ca dl hca.out Kn hKn.out k1 kc k2 hs ts hk1.out hts.out HOK1.out HC1.out HB.out HS.out).mono ?_); rintro e w13 ⟨p1, v, rfl, hs1, hb⟩; clear hc1_0 hc1_1 hc0_0; refine ⟨_, rfl, ?_⟩; have n0_ := Aside0.mk (hs1); have n1_ := Aside0.mk (hb); clear HS HB; have HS := n0_; have HB := n1_; clear n0_ n1_; (try simp only [List.eraseIdx_cons_succ, List.eraseIdx_cons_zero] at HS); clear hs1 hb; obtain ⟨A1, n1, c1, e_⟩ : ∃ (A : Option Addr) (n c : Nat), v = .slice A n c := (by obtain ⟨A, c, e, _, _⟩ := (HS.out.pick 0 rfl).reads; exact ⟨A, _, c, e⟩); subst e_) | ((with_reducible refine gate_dst (N := 6) rfl ?_); refine box_event ?hg (N := 6) ?hd (cs := #[.int .i64 0, .int .i64 0, .slice none 0 0]) (t := 28) ?hr ?_; (case hd => rfl); (case hg => rfl); (case hr => first | (go_simp; done) | (go_simp; rfl)); intro s1 hg w14 hbox hb; have n0_ := Aside0.mk (HS.out.box hg hbox hb); have n1_ := Aside0.mk (below_step' HB.out HS.out.size hb); clear HS HB; have HS := n0_; have HB := n1_; clear n0_ n1_; (try simp only [List.eraseIdx_cons_succ, List.eraseIdx_cons_zero] at HS); clear hb hbox hg; have hc0_0 := ((HS.out.pick 0 rfl).cell 0).trans (show _ = some (.int .i64 0) from rfl); have hc0_1 := ((HS.out.pick 0 rfl).cell 1).trans (show _ = some (.int .i64 0) from rfl); have hc0_2 := ((HS.out.pick 0 rfl).cell 2).trans (show _ = some (.slice none 0 0) from rfl); have hf0_0 := (HS.out.pick 0 rfl).frozen 0; have hf0_1 := (HS.out.pick 0 rfl).frozen 1; have hf0_2 := (HS.out.pick 0 rfl).frozen 2) | ((with_reducible refine gate_store (t := 28) (p := 6) rfl ?_); refine store_event (t := 28) (p := 6) (v := .tmp 24) (w1 := ?_) rfl rfl rfl ?_ ?_; rotate_left; (focus (first | (go_simp; done) | (go_simp; rfl))); intro w15 hw; have n0_ := Aside0.mk ((HS.out.set3 hw).drop.drop); have n1_ := Aside0.mk (HS.out.below_set3 HB.out hw); clear HS HB; have HS := n0_; have HB := n1_; clear n0_ n1_; (try simp only [List.eraseIdx_cons_succ, List.eraseIdx_cons_zero] at HS); clear hw; clear hc0_0 hc0_1 hc0_2 hf0_0 hf0_1 hf0_2; have hc2_0 := ((HS.out.pick 2 rfl).cell 0).trans (show _ = some (.int .u8 a) from rfl); have hc2_1 := ((HS.out.pick 2 rfl).cell 1).trans (show _ = some (.int .u8 bn) from rfl); have hc1_1 := ((HS.out.pick 1 rfl).cell 1).trans (show _ = some (.slice Ab em.length cb) from rfl)) | ((with_reducible refine gate_callee (f := 12) rfl ?_); refine goesL_ (some 29) rfl rfl Try.func12 (by kernel_rfl) rfl #[.agg #[.int .u8 a, .int .u8 bn], .slice Ab em.length cb] rfl (by (try simp only [List.map_toArray, List.map_cons, List.map_nil]); first | done | rfl | (simp only [List.length_drop, List.length_take]; rfl)) ?_; (with_reducible refine (made_ok a bn ha0 ha1 hb0 hb1 Ab cb em hcb.out Kn hKn.out k1b kc k2 hs us hk2.out hus.out HOK2.out HC2.out HB.out HS.out).mono ?_); rintro e w23 ⟨p2, v, rfl, hs1, hb⟩; clear hc2_0 hc2_1 hc1_1; refine ⟨_, rfl, ?_⟩; have n0_ := Aside0.mk (hs1); have n1_ := Aside0.mk (hb); clear HS HB; have HS := n0_; have HB := n1_; clear n0_ n1_; (try simp only [List.eraseIdx_cons_succ, List.eraseIdx_cons_zero] at HS); clear hs1 hb; obtain ⟨A2, n2, c2, e_⟩ : ∃ (A : Option Addr) (n c : Nat), v = .slice A n c := (by obtain ⟨A, c, e, _, _⟩ := (HS.out.pick 0 rfl).reads; exact ⟨A, _, c, e⟩); subst e_) | ((with_reducible refine gate_dst (N := 8) rfl ?_); refine box_event ?hg (N := 8) ?hd (cs := #[.int .i64 0, .int .i64 0, .slice none 0 0]) (t := 28) ?hr ?_; (case hd => rfl); (case hg => rfl); (case hr => first | (go_simp; done) | (go_simp; rfl)); intro s2 hg w24 hbox hb; have n0_ := Aside0.mk (HS.out.box hg hbox hb); have n1_ := Aside0.mk (below_step' HB.out HS.out.size hb); clear HS HB; have HS := n0_; have HB := n1_; clear n0_ n1_; (try simp only [List.eraseIdx_cons_succ, List.eraseIdx_cons_zero] at HS); clear hb hbox hg; have hc0_0 := ((HS.out.pick 0 rfl).cell 0).trans (show _ = some (.int .i64 0) from rfl); have hc0_1 := ((HS.out.pick 0 rfl).cell 1).trans (show _ = some (.int .i64 0) from rfl); have hc0_2 := ((HS.out.pick 0 rfl).cell 2).trans (show _ = some (.slice none 0 0) from rfl); have hf0_0 := (HS.out.pick 0 rfl).frozen 0; have hf0_1 := (HS.out.pick 0 rfl).frozen 1; have hf0_2 := (HS.out.pick 0 rfl).frozen 2) | ((with_reducible refine gate_store (t := 28) (p := 8) rfl ?_); refine store_event (t := 28) (p := 8) (v := .tmp 31) (w1 := ?_) rfl rfl rfl ?_ ?_; rotate_left; (focus (first | (go_simp; done) | (go_simp; rfl))); intro w25 hw; have n0_ := Aside0.mk ((HS.out.set3 hw).drop.drop); have n1_ := Aside0.mk (HS.out.below_set3 HB.out hw); clear HS HB; have HS := n0_; have HB := n1_; clear n0_ n1_; (try simp only [List.eraseIdx_cons_succ, List.eraseIdx_cons_zero] at HS); clear hw; clear hc0_0 hc0_1 hc0_2 hf0_0 hf0_1 hf0_2; have hc3_0 := ((HS.out.pick 3 rfl).cell 0).trans (show _ = some (.int .u8 a) from rfl); have hc3_1 := ((HS.out.pick 3 rfl).cell 1).trans (show _ = some (.int .u8 bn) from rfl); have hc2_2 := ((HS.out.pick 2 rfl).cell 2).trans (show _ = some (.slice Ac fl.length cc) from rfl)) | ((with_reducible refine gate_callee (f := 12) rfl ?_); refine goesL_ (some 36) rfl rfl Try.func12 (by kernel_rfl) rfl #[.agg #[.int .u8 a, .int .u8 bn], .slice Ac fl.length cc] rfl (by (try simp only [List.map_toArray, List.map_cons, List.map_nil]); first | done | rfl | (simp only [List.length_drop, List.length_take]; rfl)) ?_; (with_reducible refine (made_ok a bn ha0 ha1 hb0 hb1 Ac cc fl hcc.out Kn hKn.out k1c kc k2 hs vs hk3.out hvs.out HOK3.out HC3.out HB.out HS.out).mono ?_); rintro e w33 ⟨p3, v, rfl, hs1, hb⟩; clear hc3_0 hc3_1 hc2_2; refine ⟨_, rfl, ?_⟩; have n0_ := Aside0.mk (hs1); have n1_ := Aside0.mk (hb); clear HS HB; have HS := n0_; have HB := n1_; clear n0_ n1_; (try simp only [List.eraseIdx_cons_succ, List.eraseIdx_cons_zero] at HS); clear hs1 hb; obtain ⟨A3, n3, c3, e_⟩ : ∃ (A : Option Addr) (n c : Nat), v = .slice A n c := (by obtain ⟨A, c, e, _, _⟩ := (HS.out.pick 0 rfl).reads; exact ⟨A, _, c, e⟩); subst e_) | ((with_reducible refine gate_dst (N := 10) rfl ?_); refine box_event ?hg (N := 10) ?hd (cs := #[.int .i64 0, .int .i64 0, .slice none 0 0]) (t := 28) ?hr ?_; (case hd => rfl); (case hg => rfl); (case hr => first | (go_simp; done) | (go_simp; rfl)); intro s3 hg w34 hbox hb; have n0_ := Aside0.mk (HS.out.box hg hbox hb); have n1_ := Aside0.mk (below_step' HB.out HS.out.size hb); clear HS HB; have HS := n0_; have HB := n1_; clear n0_ n1_; (try simp only [List.eraseIdx_cons_succ, List.eraseIdx_cons_zero] at HS); clear hb hbox hg; have hc0_0 := ((HS.out.pick 0 rfl).cell 0).trans (show _ = some (.int .i64 0) from rfl); have hc0_1 := ((HS.out.pick 0 rfl).cell 1).trans (show _ = some (.int .i64 0) from rfl); have hc0_2 := ((HS.out.pick 0 rfl).cell 2).trans (show _ = some (.slice none 0 0) from rfl); have hf0_0 := (HS.out.pick 0 rfl).frozen 0; have hf0_1 := (HS.out.pick 0 rfl).frozen 1; have hf0_2 := (HS.out.pick 0 rfl).frozen 2) | ((with_reducible refine gate_store (t := 28) (p := 10) rfl ?_); refine store_event (t := 28) (p := 10) (v := .tmp 38) (w1 := ?_) rfl rfl rfl ?_ ?_; rotate_left; (focus (first | (go_simp; done) | (go_simp; rfl))); intro w35 hw; have n0_ := Aside0.mk ((HS.out.set3 hw).drop.drop); have n1_ := Aside0.mk (HS.out.below_set3 HB.out hw); clear HS HB; have HS := n0_; have HB := n1_; clear n0_ n1_; (try simp only [List.eraseIdx_cons_succ, List.eraseIdx_cons_zero] at HS); clear hw; clear hc0_0 hc0_1 hc0_2 hf0_0 hf0_1 hf0_2; skip) | ((with_reducible refine gate_callee (f := 13) rfl ?_); refine goesL_ (some 39) rfl rfl Try.func13 (by kernel_rfl) rfl #[] rfl (by (try simp only [List.map_toArray, List.map_cons, List.map_nil]); first | done | rfl | (simp only [List.length_drop, List.length_take]; rfl)) ?_; (with_reducible refine (known_ok HS.out).mono ?_); rintro e w40 ⟨rfl, hs1, hb⟩; refine ⟨_, rfl, ?_⟩; have n0_ := Aside0.mk (hs1); have n1_ := Aside0.mk (HB.out.trans hb); clear HS HB; have HS := n0_; have HB := n1_; clear n0_ n1_; (try simp only [List.eraseIdx_cons_succ, List.eraseIdx_cons_zero] at HS); clear hs1 hb))
  go_upto_region 9 with (first | ((with_reducible refine gate_callee (f := 32) rfl ?_); refine goesL_ (some 54) rfl rfl Try.func32 (by kernel_rfl) rfl #[.pointer (some ⟨p1, 0, none⟩)] rfl (by (try simp only [List.map_toArray, List.map_cons, List.map_nil]); first | done | rfl | (simp only [List.length_drop, List.length_take]; rfl)) ?_; (with_reducible refine (Clone_sk p1 Kn bn (foldk hs ts) hK4.out (HS.out.pick 2 rfl)).mono ?_); rintro e w41 ⟨c1_, rfl, hs1, hb⟩; refine ⟨_, rfl, ?_⟩; have n0_ := Aside0.mk (hs1); have n1_ := Aside0.mk (HB.out.trans hb); clear HS HB; have HS := n0_; have HB := n1_; clear n0_ n1_; (try simp only [List.eraseIdx_cons_succ, List.eraseIdx_cons_zero] at HS); clear hs1 hb) | ((with_reducible refine gate_callee (f := 32) rfl ?_); refine goesL_ (some 56) rfl rfl Try.func32 (by kernel_rfl) rfl #[.pointer (some ⟨p3, 0, none⟩)] rfl (by (try simp only [List.map_toArray, List.map_cons, List.map_nil]); first | done | rfl | (simp only [List.length_drop, List.length_take]; rfl)) ?_; (with_reducible refine (Clone_sk p3 Kn bn (foldk hs vs) hK4.out (HS.out.pick 2 rfl)).mono ?_); rintro e w42 ⟨c2_, rfl, hs1, hb⟩; refine ⟨_, rfl, ?_⟩; have n0_ := Aside0.mk (hs1); have n1_ := Aside0.mk (HB.out.trans hb); clear HS HB; have HS := n0_; have HB := n1_; clear n0_ n1_; (try simp only [List.eraseIdx_cons_succ, List.eraseIdx_cons_zero] at HS); clear hs1 hb) | ((with_reducible refine gate_callee (f := 33) rfl ?_); refine goesL_ (some 59) rfl rfl Try.func33 (by kernel_rfl) rfl #[.pointer (some ⟨c1_, 0, none⟩), .pointer (some ⟨p2, 0, none⟩)] rfl (by (try simp only [List.map_toArray, List.map_cons, List.map_nil]); first | done | rfl | (simp only [List.length_drop, List.length_take]; rfl)) ?_; (with_reducible refine (Merge_sk c1_ p2 Kn bn hK5.out (foldk hs ts) (foldk hs us) (foldk hs (ts ++ us)) iA.out iB.out i1.out m1.out ((HS.out.pick 4 rfl).pick 3 rfl)).mono ?_); rintro e w43 ⟨rfl, hs1, hb⟩; refine ⟨_, rfl, ?_⟩; have n0_ := Aside0.mk (hs1); have n1_ := Aside0.mk (HB.out.trans hb); clear HS HB; have HS := n0_; have HB := n1_; clear n0_ n1_; (try simp only [List.eraseIdx_cons_succ, List.eraseIdx_cons_zero] at HS); clear hs1 hb) | (go_at_call 33; (with_reducible refine (Merge_sk c1_ p3 Kn bn hK5.out (foldk hs (ts ++ us)) (foldk hs vs) (foldk hs ((ts ++ us) ++ vs)) i1.out iC.out i2.out m2.out ((HS.out.pick 3 rfl).pick 1 rfl)).mono ?_); rintro e w44 ⟨rfl, hs1, hb⟩; have n0_ := Aside0.mk (hs1); have n1_ := Aside0.mk (HB.out.trans hb); clear HS HB; have HS := n0_; have HB := n1_; clear n0_ n1_; (try simp only [List.eraseIdx_cons_succ, List.eraseIdx_cons_zero] at HS); clear hs1 hb) | (go_at_call 33; (with_reducible refine (Merge_sk c2_ p1 Kn bn hK5.out (foldk hs vs) (foldk hs ts) (foldk hs (vs ++ ts)) iC.out iA.out i3.out m3.out ((HS.out.pick 4 rfl).pick 4 rfl)).mono ?_); rintro e w45 ⟨rfl, hs1, hb⟩; have n0_ := Aside0.mk (hs1); have n1_ := Aside0.mk (HB.out.trans hb); clear HS HB; have HS := n0_; have HB := n1_; clear n0_ n1_; (try simp only [List.eraseIdx_cons_succ, List.eraseIdx_cons_zero] at HS); clear hs1 hb) | (go_at_call 33; (with_reducible refine (Merge_sk c2_ p2 Kn bn hK5.out (foldk hs (vs ++ ts)) (foldk hs us) (foldk hs ((ts ++ us) ++ vs)) i3.out iB.out i2.out m4.out ((HS.out.pick 4 rfl).pick 1 rfl)).mono ?_); rintro e w46 ⟨rfl, hs1, hb⟩; have n0_ := Aside0.mk (hs1); have n1_ := Aside0.mk (HB.out.trans hb); clear HS HB; have HS := n0_; have HB := n1_; clear n0_ n1_; (try simp only [List.eraseIdx_cons_succ, List.eraseIdx_cons_zero] at HS); clear hs1 hb) | (go_at_call 33; (with_reducible refine (Merge_sk c2_ c1_ Kn bn hK5.out (foldk hs ((ts ++ us) ++ vs)) (foldk hs ((ts ++ us) ++ vs)) (foldk hs ((ts ++ us) ++ vs)) i2.out i2.out i2.out m5.out ((HS.out.pick 3 rfl).pick 1 rfl)).mono ?_); rintro e w47 ⟨rfl, hs1, hb⟩; have n0_ := Aside0.mk (hs1); have n1_ := Aside0.mk (HB.out.trans hb); clear HS HB; have HS := n0_; have HB := n1_; clear n0_ n1_; (try simp only [List.eraseIdx_cons_succ, List.eraseIdx_cons_zero] at HS); clear hs1 hb) | (go_at_call 27; (with_reducible refine (Equal_same c1_ c2_ Kn bn (foldk hs ((ts ++ us) ++ vs)) hK4.out ((HS.out.pick 0 rfl).pick 1 rfl)).mono ?_); rintro e w48 ⟨rfl, hs1, hb⟩; have n0_ := Aside0.mk (hs1); have n1_ := Aside0.mk (HB.out.trans hb); clear HS HB; have HS := n0_; have HB := n1_; clear n0_ n1_; (try simp only [List.eraseIdx_cons_succ, List.eraseIdx_cons_zero] at HS); clear hs1 hb) | (go_at_call 30; (with_reducible refine (Encode_sk c1_ Kn bn hK4.out hbs.out (foldk hs ((ts ++ us) ++ vs)) hsz.out HS.out).mono ?_); rintro e w49 ⟨rfl, hs1, hb⟩; have n0_ := Aside0.mk (hs1); have n1_ := Aside0.mk (HB.out.trans hb); clear HS HB; have HS := n0_; have HB := n1_; clear n0_ n1_; (try simp only [List.eraseIdx_cons_succ, List.eraseIdx_cons_zero] at HS); clear hs1 hb) | (go_at_call 30; (with_reducible refine (Encode_sk c2_ Kn bn hK4.out hbs.out (foldk hs ((ts ++ us) ++ vs)) hsz.out (HS.out.pick 1 rfl)).mono ?_); rintro e w50 ⟨rfl, hs1, hb⟩; have n0_ := Aside0.mk (hs1); have n1_ := Aside0.mk (HB.out.trans hb); clear HS HB; have HS := n0_; have HB := n1_; clear n0_ n1_; (try simp only [List.eraseIdx_cons_succ, List.eraseIdx_cons_zero] at HS); clear hs1 hb))
  go_upto_region 11 with (first | ((with_reducible refine gate_callee (f := 36) rfl ?_); refine goesL_ (some 99) rfl rfl Try.func36 (by kernel_rfl) rfl #[.pointer (some ⟨c1_, 0, none⟩)] rfl (by (try simp only [List.map_toArray, List.map_cons, List.map_nil]); first | done | rfl | (simp only [List.length_drop, List.length_take]; rfl)) ?_; (with_reducible refine (Keys_of c1_ Kn bn (foldk hs ((ts ++ us) ++ vs)) hK4.out (HS.out.pick 1 rfl)).mono ?_); rintro e w51 ⟨v, rfl, hs1, hb⟩; rw [eW.out] at hs1; refine ⟨_, rfl, ?_⟩; have n0_ := Aside0.mk (hs1); have n1_ := Aside0.mk (HB.out.trans hb); clear HS HB; have HS := n0_; have HB := n1_; clear n0_ n1_; (try simp only [List.eraseIdx_cons_succ, List.eraseIdx_cons_zero] at HS); clear hs1 hb; obtain ⟨AK, cK, e_⟩ : ∃ (A : Option Addr) (c : Nat), v = .slice A wt.length c := (by obtain ⟨A, c, e, _, _⟩ := HS.out.reads; exact ⟨A, c, e⟩); subst e_) | ((with_reducible refine gate_callee (f := 36) rfl ?_); refine goesL_ (some 101) rfl rfl Try.func36 (by kernel_rfl) rfl #[.pointer (some ⟨p1, 0, none⟩)] rfl (by (try simp only [List.map_toArray, List.map_cons, List.map_nil]); first | done | rfl | (simp only [List.length_drop, List.length_take]; rfl)) ?_; (with_reducible refine (Keys_of p1 Kn bn (foldk hs ts) hK4.out (HS.out.pick 4 rfl)).mono ?_); rintro e w52 ⟨v, rfl, hs1, hb⟩; rw [eA.out] at hs1; refine ⟨_, rfl, ?_⟩; have n0_ := Aside0.mk (hs1); have n1_ := Aside0.mk (HB.out.trans hb); clear HS HB; have HS := n0_; have HB := n1_; clear n0_ n1_; (try simp only [List.eraseIdx_cons_succ, List.eraseIdx_cons_zero] at HS); clear hs1 hb; obtain ⟨AP, cP, e_⟩ : ∃ (A : Option Addr) (c : Nat), v = .slice A la.length c := (by obtain ⟨A, c, e, _, _⟩ := HS.out.reads; exact ⟨A, c, e⟩); subst e_) | ((with_reducible refine gate_callee (f := 36) rfl ?_); refine goesL_ (some 103) rfl rfl Try.func36 (by kernel_rfl) rfl #[.pointer (some ⟨p2, 0, none⟩)] rfl (by (try simp only [List.map_toArray, List.map_cons, List.map_nil]); first | done | rfl | (simp only [List.length_drop, List.length_take]; rfl)) ?_; (with_reducible refine (Keys_of p2 Kn bn (foldk hs us) hK4.out (HS.out.pick 5 rfl)).mono ?_); rintro e w53 ⟨v, rfl, hs1, hb⟩; rw [eB.out] at hs1; refine ⟨_, rfl, ?_⟩; have n0_ := Aside0.mk (hs1); have n1_ := Aside0.mk (HB.out.trans hb); clear HS HB; have HS := n0_; have HB := n1_; clear n0_ n1_; (try simp only [List.eraseIdx_cons_succ, List.eraseIdx_cons_zero] at HS); clear hs1 hb; obtain ⟨AQ, cQ, e_⟩ : ∃ (A : Option Addr) (c : Nat), v = .slice A lb.length c := (by obtain ⟨A, c, e, _, _⟩ := HS.out.reads; exact ⟨A, c, e⟩); subst e_) | ((with_reducible refine gate_builtin (b := .append) (xs := #[.tmp 101, .tmp 103]) rfl ?_); at_builtin; refine S_append_rows k52 rfl (.tmp 101) (.tmp 103) 26 52 (.agg #[(.int .i64 0), (.string ⟨#[]⟩)]) 24 rfl Try.underlying26 info52 rfl (by decide) (by omega) _ la lb AQ lb.length cQ rfl rfl (flat52 _ _) (HS.out.pick 2 rfl) ?hC104 HB.out hlen104.out ?_; (case hC104 => exact (HS.out.pick 0 rfl).rowC.2.2); intro v w54 hs hb; rw [eP1.out] at hs; have n0_ := Aside0.mk (hs); have n1_ := Aside0.mk (hb); clear HS HB; have HS := n0_; have HB := n1_; clear n0_ n1_; (try simp only [List.eraseIdx_cons_succ, List.eraseIdx_cons_zero] at HS); clear hs hb; obtain ⟨AR, cR, e_⟩ : ∃ (A : Option Addr) (c : Nat), v = .slice A pab.length c := (by obtain ⟨A, c, e, _, _⟩ := HS.out.reads; exact ⟨A, c, e⟩); subst e_) | ((with_reducible refine gate_callee (f := 36) rfl ?_); refine goesL_ (some 106) rfl rfl Try.func36 (by kernel_rfl) rfl #[.pointer (some ⟨p3, 0, none⟩)] rfl (by (try simp only [List.map_toArray, List.map_cons, List.map_nil]); first | done | rfl | (simp only [List.length_drop, List.length_take]; rfl)) ?_; (with_reducible refine (Keys_of p3 Kn bn (foldk hs vs) hK4.out (HS.out.pick 7 rfl)).mono ?_); rintro e w55 ⟨v, rfl, hs1, hb⟩; rw [eC.out] at hs1; refine ⟨_, rfl, ?_⟩; have n0_ := Aside0.mk (hs1); have n1_ := Aside0.mk (HB.out.trans hb); clear HS HB; have HS := n0_; have HB := n1_; clear n0_ n1_; (try simp only [List.eraseIdx_cons_succ, List.eraseIdx_cons_zero] at HS); clear hs1 hb; obtain ⟨AS, cS, e_⟩ : ∃ (A : Option Addr) (c : Nat), v = .slice A lc.length c := (by obtain ⟨A, c, e, _, _⟩ := HS.out.reads; exact ⟨A, c, e⟩); subst e_) | ((with_reducible refine gate_builtin (b := .append) (xs := #[.tmp 104, .tmp 106]) rfl ?_); at_builtin; refine S_append_rows k52 rfl (.tmp 104) (.tmp 106) 26 52 (.agg #[(.int .i64 0), (.string ⟨#[]⟩)]) 24 rfl Try.underlying26 info52 rfl (by decide) (by omega) _ pab lc AS lc.length cS rfl rfl (flat52 _ _) (HS.out.pick 2 rfl) ?hC107 HB.out hlen107.out ?_; (case hC107 => exact (HS.out.pick 0 rfl).rowC.2.2); intro v w56 hs hb; rw [eP.out] at hs; have n0_ := Aside0.mk (hs); have n1_ := Aside0.mk (hb); clear HS HB; have HS := n0_; have HB := n1_; clear n0_ n1_; (try simp only [List.eraseIdx_cons_succ, List.eraseIdx_cons_zero] at HS); clear hs hb; obtain ⟨AT, cT, e_⟩ : ∃ (A : Option Addr) (c : Nat), v = .slice A pt.length c := (by obtain ⟨A, c, e, _, _⟩ := HS.out.reads; exact ⟨A, c, e⟩); subst e_))
  have HS0_ := Aside0.mk ((HS.out.pick 6 rfl).pick 1 rfl)
  clear HS
  have HS : Aside0 (St w.heap.size w56 (Row k52 52 (.slice AT pt.length cT) pt :: Row k52 52 (.slice AK wt.length cK) wt :: [])) := ⟨St_cut2 HS0_.out⟩
  clear HS0_

  clear HC1 HC2 HC3 HOK1 HOK2 HOK3 hk1 hk2 hk3 hca hcb hcc hts hus hvs iA iB iC i1 i2 i3 m1 m2 m3 m4 m5 hsz hbs hlen104 hlen107 bne
  clear eA eB eC eW eP1 eP
  go_wp2
  go_loopw [15] (fun v15 wc => ∃ i : Nat, i ≤ wt.length ∧ v15 = .int .i64 i ∧ Aside0 (St w.heap.size wc (Row k52 52 (.slice AT pt.length cT) pt :: Row k52 52 (.slice AK wt.length cK) wt :: [])) ∧ Aside0 (Below w.heap.size w wc)) (fun v15 _ => (wt.length - intOf v15).toNat)
  case atStart => exact ⟨0, Nat.zero_le _, rfl, HS, HB⟩
  case round =>
    clear HS HB
    obtain ⟨i, hi, rfl, HS, HB⟩ := hrel
    by_cases hlt2 : i < wt.length
    · obtain ⟨x, hx⟩ : ∃ x, rd_T52 wt (i : Int) = x := ⟨_, rfl⟩
      have hin := Aside0.mk (hasN_mem pt x (m6.out x ((mem_rd wt x).mpr ⟨i, hlt2, hx.symm⟩)))
      have i1 : (0 : Int) ≤ (i : Int) := Int.natCast_nonneg _
      have i2 := lt_cast hlt2
      have i3 := dec_lt hlt2
      have i4 := inc_lt hlt2 (Nat.le_trans lW.out (by decide))
      replace hx := Aside0.mk hx
      have hi4 := Aside0.mk hlt2
      clear hlt2 hi
      go_wp2
      go_loopw [16, 17] (fun vp vk wc => ∃ k : Nat, k ≤ pt.length ∧ vk = .int .i64 k ∧ vp = .bool (hasN pt x k) ∧ Aside0 (St w.heap.size wc (Row k52 52 (.slice AT pt.length cT) pt :: Row k52 52 (.slice AK wt.length cK) wt :: [])) ∧ Aside0 (Below w.heap.size w wc)) (fun _ vk _ => (pt.length - intOf vk).toNat)
      case atStart => exact ⟨0, Nat.zero_le _, rfl, rfl, HS, HB⟩
      case round =>
        clear HS HB
        obtain ⟨k, hkk, rfl, rfl, HS, HB⟩ := hrel
        generalize hpv : hasN pt x k = pv
        replace hpv := Aside0.mk hpv
        by_cases hlt3 : k < pt.length
        · have p3 := dec_lt hlt3
          have p1 : (0 : Int) ≤ (k : Int) := Int.natCast_nonneg _
          have p2 := lt_cast hlt3
          have p4 := inc_lt hlt3 (Nat.le_trans lP.out (by decide))
          have hlt4 := Aside0.mk hlt3
          clear hkk hlt3
          go_upto_region 18 with (fail)
          cases pv
          · obtain ⟨ad1, e1, hy0, hy1⟩ := at_T52 (HS.out.pick 0 rfl).rowC.2.2 (k : Int) p1 p2
            cases e1
            obtain ⟨ad2, e2, hx0, hx1⟩ := at_T52 (HS.out.pick 1 rfl).rowC.2.2 (i : Int) i1 i2
            cases e2
            rw [Int.toNat_natCast] at hx0 hx1 hy0 hy1
            rw [hx.out] at hx0 hx1
            replace hx0 := Aside0.mk hx0
            replace hx1 := Aside0.mk hx1
            replace hy0 := Aside0.mk hy0
            replace hy1 := Aside0.mk hy1
            by_cases hyx : rd_T52 pt (k : Int) = x
            · have e5 : ((rd_T52 pt (k : Int)).f0 = x.f0) = True := eq_true (by rw [hyx])
              have e6 : ((rd_T52 pt (k : Int)).f1.toList = x.f1.toList) = True := eq_true (by rw [hyx])
              have hyx' := Aside0.mk hyx
              clear hyx
              have n2_ := Aside0.mk (show wr.drew.cell? _ = _ from hx0.out); clear hx0; have hx0 := n2_; clear n2_
              have n2_ := Aside0.mk (show wr.drew.cell? _ = _ from hx1.out); clear hx1; have hx1 := n2_; clear n2_
              have n2_ := Aside0.mk (show wr.drew.cell? _ = _ from hy0.out); clear hy0; have hy0 := n2_; clear n2_
              have n2_ := Aside0.mk (show wr.drew.cell? _ = _ from hy1.out); clear hy1; have hy1 := n2_; clear n2_
              have n0_ := Aside0.mk (HS.out.drew); have n1_ := Aside0.mk (HB.out.drew); clear HS HB; have HS := n0_; have HB := n1_; clear n0_ n1_
              refine start_ (n := 13) (S := fun w' => w'.cell? (ad1.add (k * 2)) = some (.int .i64 (rd_T52 pt (k : Int)).f0) ∧ w'.cell? ⟨(ad1.add (k * 2)).block, (ad1.add (k * 2)).off + 1, none⟩ = some (.string (rd_T52 pt (k : Int)).f1) ∧ w'.cell? (ad2.add (i * 2)) = some (.int .i64 x.f0) ∧ w'.cell? ⟨(ad2.add (i * 2)).block, (ad2.add (i * 2)).off + 1, none⟩ = some (.string x.f1)) (ds := []) (tfs true [0, 13]).toArray (by kernel_rfl) rfl rfl ⟨hy0.out, hy1.out, hx0.out, hx1.out⟩ (fun hHeld => ?_); refine with_tabW pts.tab18 pts.bits18 (fun HT_ HW_ => ?_)
              generalize wr.drew = w62 at HS HB hx0 hx1 hy0 hy1 hHeld ⊢
              refine pU 0 120 (tfs true [1, 12]).toArray rfl rfl HT_ ?_
              refine pU 1 121 (tfs true [2, 11]).toArray rfl rfl HT_ ?_
              refine pU 2 122 (tfs true [3, 10]).toArray rfl rfl HT_ ?_
              refine pU 3 123 (tfs true [4, 9]).toArray rfl rfl HT_ ?_
              refine pU 4 124 (tfs true [5, 8]).toArray rfl rfl HT_ ?_
              refine pU 6 126 (tfs true [5, 1, 1, 6]).toArray rfl rfl HT_ ?_
              refine pU 7 127 (tfs true [5, 1, 2, 5]).toArray rfl rfl HT_ ?_
              refine pU 8 128 (tfs true [5, 1, 3, 4]).toArray rfl rfl HT_ ?_
              refine tK 5 125 (tfs true [9, 4]).toArray rfl rfl HT_ HW_ hHeld ?_ (by rintro w' ⟨s0, s1, s2, s3⟩; go_simp; with_reducible rfl)
              refine tK 9 129 (tfs true [10, 3]).toArray rfl rfl HT_ HW_ hHeld ?_ (by rintro w' ⟨s0, s1, s2, s3⟩; go_simp; with_reducible rfl)
              refine pU 10 130 (tfs true [11, 2]).toArray rfl rfl HT_ ?_
              refine pU 11 131 (tfs true [12, 1]).toArray rfl rfl HT_ ?_
              refine pU 12 16 (tfs true [13]).toArray rfl rfl HT_ ?_
              refine done_ (done_of HT_.out (by kernel_rfl)) ?_
              clear HT_ HW_
              try clear hHeld
              clear hx0 hx1 hy0 hy1
              go_wp2
              refine ⟨⟨k + 1, hlt4.out, by first | exact cast_inc k | (rw [p4]; exact cast_inc k), ?_, HS, HB⟩, ?_⟩
              · rw [hasN, hpv.out, decide_eq_true hyx'.out, Bool.false_or]
              · (try rw [p4])
                exact meas_i k pt.length hlt4.out
            · have e7 : ∀ {α : Type} (A B : α), (if (rd_T52 pt (k : Int)).f0 = x.f0 then (if (rd_T52 pt (k : Int)).f1.toList = x.f1.toList then A else B) else B) = B := fun A B => ite_ne _ _ hyx A B
              have hyx' := Aside0.mk hyx
              clear hyx
              have n2_ := Aside0.mk (show wr.drew.cell? _ = _ from hx0.out); clear hx0; have hx0 := n2_; clear n2_
              have n2_ := Aside0.mk (show wr.drew.cell? _ = _ from hx1.out); clear hx1; have hx1 := n2_; clear n2_
              have n2_ := Aside0.mk (show wr.drew.cell? _ = _ from hy0.out); clear hy0; have hy0 := n2_; clear n2_
              have n2_ := Aside0.mk (show wr.drew.cell? _ = _ from hy1.out); clear hy1; have hy1 := n2_; clear n2_
              have n0_ := Aside0.mk (HS.out.drew); have n1_ := Aside0.mk (HB.out.drew); clear HS HB; have HS := n0_; have HB := n1_; clear n0_ n1_
              refine start_ (n := 13) (S := fun w' => w'.cell? (ad1.add (k * 2)) = some (.int .i64 (rd_T52 pt (k : Int)).f0) ∧ w'.cell? ⟨(ad1.add (k * 2)).block, (ad1.add (k * 2)).off + 1, none⟩ = some (.string (rd_T52 pt (k : Int)).f1) ∧ w'.cell? (ad2.add (i * 2)) = some (.int .i64 x.f0) ∧ w'.cell? ⟨(ad2.add (i * 2)).block, (ad2.add (i * 2)).off + 1, none⟩ = some (.string x.f1)) (ds := []) (tfs true [0, 13]).toArray (by kernel_rfl) rfl rfl ⟨hy0.out, hy1.out, hx0.out, hx1.out⟩ (fun hHeld => ?_); refine with_tabW pts.tab18 pts.bits18 (fun HT_ HW_ => ?_)
              generalize wr.drew = w62 at HS HB hx0 hx1 hy0 hy1 hHeld ⊢
              refine pU 0 120 (tfs true [1, 12]).toArray rfl rfl HT_ ?_
              refine pU 1 121 (tfs true [2, 11]).toArray rfl rfl HT_ ?_
              refine pU 2 122 (tfs true [3, 10]).toArray rfl rfl HT_ ?_
              refine pU 3 123 (tfs true [4, 9]).toArray rfl rfl HT_ ?_
              refine pU 4 124 (tfs true [5, 8]).toArray rfl rfl HT_ ?_
              refine pU 6 126 (tfs true [5, 1, 1, 6]).toArray rfl rfl HT_ ?_
              refine pU 7 127 (tfs true [5, 1, 2, 5]).toArray rfl rfl HT_ ?_
              refine pU 8 128 (tfs true [5, 1, 3, 4]).toArray rfl rfl HT_ ?_
              refine tK 5 125 (tfs true [9, 4]).toArray rfl rfl HT_ HW_ hHeld ?_ (by rintro w' ⟨s0, s1, s2, s3⟩; go_simp; with_reducible rfl)
              refine tK 9 129 (tfs true [10, 3]).toArray rfl rfl HT_ HW_ hHeld ?_ (by rintro w' ⟨s0, s1, s2, s3⟩; go_simp; with_reducible rfl)
              refine pU 10 130 (tfs true [11, 2]).toArray rfl rfl HT_ ?_
              refine pU 11 131 (tfs true [12, 1]).toArray rfl rfl HT_ ?_
              refine pU 12 16 (tfs true [13]).toArray rfl rfl HT_ ?_
              refine done_ (done_of HT_.out (by kernel_rfl)) ?_
              clear HT_ HW_
              try clear hHeld
              clear hx0 hx1 hy0 hy1
              go_wp2
              refine ⟨⟨k + 1, hlt4.out, by first | exact cast_inc k | (rw [p4]; exact cast_inc k), ?_, HS, HB⟩, ?_⟩
              · rw [hasN, hpv.out, decide_eq_false hyx'.out, Bool.or_self]
              · (try rw [p4])
                exact meas_i k pt.length hlt4.out
          · skip
            have n0_ := Aside0.mk (HS.out.drew); have n1_ := Aside0.mk (HB.out.drew); clear HS HB; have HS := n0_; have HB := n1_; clear n0_ n1_
            refine start_ (n := 13) (S := fun w' => True) (ds := []) (tfs true [0, 13]).toArray (by kernel_rfl) rfl rfl trivial (fun hHeld => ?_); refine with_tabW pts.tab18 pts.bits18 (fun HT_ HW_ => ?_)
            generalize wr.drew = w62 at HS HB hHeld ⊢
            refine pU 0 120 (tfs true [1, 12]).toArray rfl rfl HT_ ?_
            refine pU 1 121 (tfs true [2, 11]).toArray rfl rfl HT_ ?_
            refine pO 2 (some 122) (tfs true [3, 10]).toArray rfl rfl HT_ ?_
            refine pO 3 (some 123) (tfs true [4, 9]).toArray rfl rfl HT_ ?_
            refine pO 4 (some 124) (tfs true [5, 8]).toArray rfl rfl HT_ ?_
            refine pO 5 (some 125) (tfs true [6, 7]).toArray rfl rfl HT_ ?_
            refine pO 6 (some 126) (tfs true [7, 6]).toArray rfl rfl HT_ ?_
            refine pO 7 (some 127) (tfs true [8, 5]).toArray rfl rfl HT_ ?_
            refine pO 8 (some 128) (tfs true [9, 4]).toArray rfl rfl HT_ ?_
            refine pO 9 (some 129) (tfs true [10, 3]).toArray rfl rfl HT_ ?_
            refine pO 10 (some 130) (tfs true [11, 2]).toArray rfl rfl HT_ ?_
            refine pU 11 131 (tfs true [12, 1]).toArray rfl rfl HT_ ?_
            refine pU 12 16 (tfs true [13]).toArray rfl rfl HT_ ?_
            refine done_ (done_of HT_.out (by kernel_rfl)) ?_
            clear HT_ HW_
            try clear hHeld
            go_wp2
            refine ⟨⟨k + 1, hlt4.out, by first | exact cast_inc k | (rw [p4]; exact cast_inc k), ?_, HS, HB⟩, ?_⟩
            · rw [hasN, hpv.out, Bool.true_or]
            · (try rw [p4])
              exact meas_i k pt.length hlt4.out
        · obtain rfl : k = pt.length := Nat.le_antisymm hkk (Nat.le_of_not_lt hlt3)
          have p3 := dec_irr pt.length
          clear hkk hlt3
          obtain rfl : pv = true := hpv.out.symm.trans hin.out
          go_wp2
          refine ⟨⟨i + 1, hi4.out, by first | exact cast_inc i | (rw [i4]; exact cast_inc i), HS, HB⟩, ?_⟩
          (try rw [i4])
          exact meas_i i wt.length hi4.out
    · obtain rfl : i = wt.length := Nat.le_antisymm hi (Nat.le_of_not_lt hlt2)
      have p3 := dec_irr wt.length
      clear hi hlt2
      go_wp2
      go_ret
      exact ⟨rfl, HB.out⟩

end Go.Proofs.Ytddhpkobingmhaa.PB
