/- CompactFunc over keys: equal neighbours are taken together. -/
import Derived.Test.YtddhpkobingmhaaClearP

namespace Go.Proofs.Ytddhpkobingmhaa.PB
open Go.RowKit Go.Proofs.YtddhpkobingmhaaW.PrintWords Go.Proofs.YtddhpkobingmhaaW.PrintLast Go.Proofs.YtddhpkobingmhaaW.PrintMore Go.Proofs.Ytddhpkobingmhaa.Sep
set_option linter.unusedVariables false
set_option linter.unusedSimpArgs false
set_option maxHeartbeats 8000000
set_option maxRecDepth 100000

theorem eq83_ok (x y : S52) (b : Nat) {N : Nat} {w : World} {L : List Res} (HS0 : St N w (Blk b #[.func (.func 55) #[] #[]] 74 :: L)) :
    Calls Try.prog 83 #[.agg #[.int .i64 x.f0, .string x.f1], .agg #[.int .i64 y.f0, .string y.f1], .pointer (some ⟨b, 0, none⟩)] w fun e w' => e = .returned (.bool (kcmp x y == 0)) ∧ St N w' (Blk b #[.func (.func 55) #[] #[]] 74 :: L) ∧ Below N w w' := by
  have HS := Aside0.mk HS0
  have HB := Aside0.mk (Below.refl N w)
  clear HS0
  go_enter Try.func83, Try.ntmps83
  go_wp2_with (first | ((with_reducible refine gate_dst (N := 3) rfl ?_); refine box_event ?hg (N := 3) ?hd (cs := #[.int .i64 x.f0, .string x.f1]) (t := 52) ?hr ?_; (case hd => rfl); (case hg => rfl); (case hr => first | (go_simp; done) | (go_simp; rfl)); intro g1 hg w1 hbox hb; have n0_ := Aside0.mk (HS.out.box hg hbox hb); have n1_ := Aside0.mk (below_step' HB.out HS.out.size hb); clear HS HB; have HS := n0_; have HB := n1_; clear n0_ n1_; (try simp only [List.eraseIdx_cons_succ, List.eraseIdx_cons_zero] at HS); clear hb hbox hg) | ((with_reducible refine gate_dst (N := 4) rfl ?_); refine box_event ?hg (N := 4) ?hd (cs := #[.int .i64 y.f0, .string y.f1]) (t := 52) ?hr ?_; (case hd => rfl); (case hg => rfl); (case hr => first | (go_simp; done) | (go_simp; rfl)); intro g2 hg w2 hbox hb; have n0_ := Aside0.mk (HS.out.box hg hbox hb); have n1_ := Aside0.mk (below_step' HB.out HS.out.size hb); clear HS HB; have HS := n0_; have HB := n1_; clear n0_ n1_; (try simp only [List.eraseIdx_cons_succ, List.eraseIdx_cons_zero] at HS); clear hb hbox hg; have hc0_0 := ((HS.out.pick 0 rfl).cell 0).trans (show _ = some (.int .i64 y.f0) from rfl); have hc0_1 := ((HS.out.pick 0 rfl).cell 1).trans (show _ = some (.string y.f1) from rfl); have hc1_0 := ((HS.out.pick 1 rfl).cell 0).trans (show _ = some (.int .i64 x.f0) from rfl); have hc1_1 := ((HS.out.pick 1 rfl).cell 1).trans (show _ = some (.string x.f1) from rfl); have hc2_0 := ((HS.out.pick 2 rfl).cell 0).trans (show _ = some (.func (.func 55) #[] #[]) from rfl)) | ((with_reducible refine gate_dst (N := 9) rfl ?_); refine goesVL_ (some 9) rfl rfl #[] Try.func55 (by kernel_rfl) rfl #[.agg #[.int .i64 x.f0, .string x.f1], .agg #[.int .i64 y.f0, .string y.f1]] rfl rfl (by (try simp only [List.map_toArray, List.map_cons, List.map_nil]); first | done | rfl | (simp; done)) ?_; (with_reducible refine (bottomk_compare.calls 10 _ _ _ _ _ _ (compare_ok 10 (by omega) x y)).mono ?_); rintro e w3 ⟨rfl, hb⟩; refine ⟨_, rfl, ?_⟩; have n0_ := Aside0.mk (HS.out.step hb); have n1_ := Aside0.mk (below_step' HB.out HS.out.size hb); clear HS HB; have HS := n0_; have HB := n1_; clear n0_ n1_; (try simp only [List.eraseIdx_cons_succ, List.eraseIdx_cons_zero] at HS); clear hb hc0_0 hc0_1 hc1_0 hc1_1 hc2_0))
  go_ret
  exact ⟨rfl, (HS.out.pick 2 rfl).swap.drop.swap.drop, HB.out⟩

theorem add_add (a : Addr) (i j : Nat) : (a.add i).add j = a.add (i + j) := by
  unfold Addr.add
  by_cases h1 : i = 0 <;> by_cases h2 : j = 0 <;> simp [h1, h2, Nat.add_assoc]
theorem at_sub {w : World} {ad : Addr} {n : Nat} {xs : List S52} (h : Kd.C k52 w (some ad) n xs) (a2 : Addr) (k : Nat) (ha2 : a2 = ad.add (k * 2)) (q : Nat) (hlt : k + q < n) (x : S52) (hx : rd_T52 xs ((k + q : Nat) : Int) = x) :
    w.cell? (a2.add (q * 2)) = some (.int .i64 x.f0) ∧ w.cell? ⟨(a2.add (q * 2)).block, (a2.add (q * 2)).off + 1, none⟩ = some (.string x.f1) := by
  obtain ⟨ad2, e2, h0, h1⟩ := at_T52 h ((k + q : Nat) : Int) (by omega) (by omega)
  cases e2
  rw [Int.toNat_natCast, hx, show (k + q) * 2 = k * 2 + q * 2 by omega] at h0 h1
  rw [ha2, add_add]
  exact ⟨h0, h1⟩
theorem meas_q (j n : Nat) (h : j < n) : ((n : Int) - ((j : Int) + 1)).toNat < ((n : Int) - (j : Int)).toNat := by omega
theorem meas_i (j n : Nat) (h : j < n) : ((n : Int) - intOf (Value.int .i64 ((j : Int) + 1))).toNat < ((n : Int) - intOf (Value.int .i64 (j : Int))).toNat := meas_q j n h
theorem next_cell (w : World) (A : Addr) (v : Value) : (w.setCell A v).cell? ⟨A.block, A.off + 1, none⟩ = w.cell? ⟨A.block, A.off + 1, none⟩ :=
  World.cell?_setCell_other _ _ _ _ (by intro e; have := congrArg Addr.off e; simp at this)
section
variable {N : Nat} {w w0 w1 : World} {L : List Res} {g n cap : Nat} {l : List S52} {ad : Addr}
theorem frozen_row (had : ad = ⟨g, 0, none⟩) (h : St N w (Row k52 52 (.slice (some ad) n cap) l :: L)) (i : Nat) : w.frozen? (ad.add (i * 2)) = false ∧ w.frozen? ⟨(ad.add (i * 2)).block, (ad.add (i * 2)).off + 1, none⟩ = false := by
  subst had
  obtain ⟨_, cur, _, _, _, _, h5⟩ := St.rowBlk h
  rw [Addr.add_lit]
  exact ⟨h5.frozen _, h5.frozen _⟩
theorem elem_ad (had : ad = ⟨g, 0, none⟩) (h : St N w (Row k52 52 (.slice (some ad) n cap) l :: L)) (hb : Below N w0 w) (i : Nat) (x : S52) (hi : i < l.length) (e : w1 = (w.setCell (ad.add (i * 2)) (.int .i64 x.f0)).setCell ⟨(ad.add (i * 2)).block, (ad.add (i * 2)).off + 1, none⟩ (.string x.f1)) : St N w1 (Row k52 52 (.slice (some ad) n cap) (l.set i x) :: L) ∧ Below N w0 w1 := by
  subst had
  rw [Addr.add_lit, Nat.zero_add] at e
  exact ⟨St.setElem h i x hi e, St.below_elem h hb e⟩
end

def cpf.T6 : Bool × List (List Nat × List Nat) := (true, [([], []), ([], []), ([], []), ([1, 2], [1, 2]), ([3], [3]), ([], []), ([], []), ([6], [6]), ([5, 7], [5, 7]), ([8], [8]), ([0, 4, 9], [0, 4, 9])])
def cpf.B6 : List Nat := [0, 0, 0, 6, 14, 0, 0, 64, 224, 480, 1023]
theorem cpf.tab6 : rtab .any (opsOf Try.f82 6) = cpf.T6 := by kernel_rfl
theorem cpf.bits6 : waitsOk cpf.T6.2 cpf.B6 = true := by kernel_rfl
def cpf.T11 : Bool × List (List Nat × List Nat) := (true, [([], []), ([], []), ([], []), ([1, 2], [1, 2]), ([3], [3]), ([], []), ([], []), ([6], [6]), ([5, 7], [5, 7]), ([8], [8]), ([0, 4, 9], [0, 4, 9]), ([10], [10])])
def cpf.B11 : List Nat := [0, 0, 0, 6, 14, 0, 0, 64, 224, 480, 1023, 2047]
theorem cpf.tab11 : rtab .any (opsOf Try.f82 11) = cpf.T11 := by kernel_rfl
theorem cpf.bits11 : waitsOk cpf.T11.2 cpf.B11 = true := by kernel_rfl
theorem cpf_small (l : List S52) (hl : l.length < 2) (v : Value) (fv : Value) {N : Nat} {w : World} {L : List Res} (HS0 : St N w (Row k52 52 v l :: L)) :
    Calls Try.prog 82 #[v, fv] w fun e w' => e = .returned v ∧ w' = w := by
  obtain ⟨A, c, e, _, _⟩ := HS0.reads
  subst e
  have q1 : decide ((l.length : Int) < 2) = true := decide_eq_true (by omega)
  go_enter Try.func82, Try.ntmps82
  go_wp2
  go_ret
  exact ⟨rfl, rfl⟩
theorem cpf_great (l : List S52) (hl2 : 2 ≤ l.length) (hl : l.length ≤ 1000000) (ad : Addr) (g cap : Nat) (had : Aside0 (ad = ⟨g, 0, none⟩)) (b : Nat) {N : Nat} {w : World} {L : List Res} (HS0 : St N w (Row k52 52 (.slice (some ad) l.length cap) l :: Blk b #[.func (.func 55) #[] #[]] 74 :: L)) :
    Calls Try.prog 82 #[.slice (some ad) l.length cap, .func (.func 83) #[] #[.pointer (some ⟨b, 0, none⟩)]] w fun e w' => ∃ v', e = .returned v' ∧ St N w' (Row k52 52 v' (cp l l.length) :: Blk b #[.func (.func 55) #[] #[]] 74 :: L) ∧ Below N w w' := by
  have HS := Aside0.mk HS0
  have HB := Aside0.mk (Below.refl N w)
  clear HS0
  have q0 : decide ((l.length : Int) < 2) = false := decide_eq_false (by omega)
  go_enter Try.func82, Try.ntmps82
  go_upto_region 4 with (fail)
  go_wp2
  go_loopw [5] (fun v5 wc => ∃ k : Nat, 1 ≤ k ∧ k ≤ l.length ∧ cp l k = l.take k ∧ v5 = .int .i64 k ∧ Aside0 (St N wc (Row k52 52 (.slice (some ad) l.length cap) l :: Blk b #[.func (.func 55) #[] #[]] 74 :: L)) ∧ Aside0 (Below N w wc)) (fun v5 _ => (l.length - intOf v5).toNat)
  case atStart => exact ⟨1, Nat.le_refl _, by omega, by rw [cp_one, take_rd l 0 (by omega)]; rfl, rfl, HS, HB⟩
  case round =>
    clear HS HB
    obtain ⟨k, hk1, hkn, hcp, rfl, HS, HB⟩ := hrel
    by_cases hlt : k < l.length
    · obtain ⟨j, hj⟩ : ∃ j, k = j + 1 := ⟨k - 1, by omega⟩
      obtain ⟨ad2, e2, hx0, hx1⟩ := at_T52 (HS.out.pick 0 rfl).rowC.2.2 ((k : Nat) : Int) (by omega) (by omega)
      cases e2
      rw [Int.toNat_natCast] at hx0 hx1
      replace hx0 := Aside0.mk hx0
      replace hx1 := Aside0.mk hx1
      obtain ⟨ad2, e2, hy0, hy1⟩ := at_T52 (HS.out.pick 0 rfl).rowC.2.2 ((j : Nat) : Int) (by omega) (by omega)
      cases e2
      rw [Int.toNat_natCast] at hy0 hy1
      replace hy0 := Aside0.mk hy0
      replace hy1 := Aside0.mk hy1
      have hj' := Aside0.mk hj
      have hcp' := Aside0.mk hcp
      have p1 : (0 : Int) ≤ (k : Int) := by omega
      have p2 : (k : Int) < (l.length : Int) := by omega
      have p3 : decide ((k : Int) < (l.length : Int)) = true := decide_eq_true p2
      have p4 : wrap64 ((k : Int) - 1) = (j : Int) := by rw [wrap64_small _ (by omega) (by omega)]; omega
      have p5 : (0 : Int) ≤ (j : Int) := by omega
      have p6 : (j : Int) < (l.length : Int) := by omega
      clear hj hcp
      go_upto_region 6 with (fail)
      have n2_ := Aside0.mk (show wr.drew.cell? _ = _ from hx0.out); clear hx0; have hx0 := n2_; clear n2_
      have n2_ := Aside0.mk (show wr.drew.cell? _ = _ from hx1.out); clear hx1; have hx1 := n2_; clear n2_
      have n2_ := Aside0.mk (show wr.drew.cell? _ = _ from hy0.out); clear hy0; have hy0 := n2_; clear n2_
      have n2_ := Aside0.mk (show wr.drew.cell? _ = _ from hy1.out); clear hy1; have hy1 := n2_; clear n2_
      have n0_ := Aside0.mk (HS.out.drew); have n1_ := Aside0.mk (HB.out.drew); clear HS HB; have HS := n0_; have HB := n1_; clear n0_ n1_
      refine start_ (n := 11) (S := fun w' => w'.cell? (ad.add (k * 2)) = some (.int .i64 (rd_T52 l (k : Int)).f0) ∧ w'.cell? ⟨(ad.add (k * 2)).block, (ad.add (k * 2)).off + 1, none⟩ = some (.string (rd_T52 l (k : Int)).f1) ∧ w'.cell? (ad.add (j * 2)) = some (.int .i64 (rd_T52 l (j : Int)).f0) ∧ w'.cell? ⟨(ad.add (j * 2)).block, (ad.add (j * 2)).off + 1, none⟩ = some (.string (rd_T52 l (j : Int)).f1)) (ds := []) #[false, false, false, false, false, false, false, false, false, false, false] (by kernel_rfl) rfl rfl ⟨hx0.out, hx1.out, hy0.out, hy1.out⟩ (fun hHeld => ?_); refine with_tabW cpf.tab6 cpf.bits6 (fun HT_ HW_ => ?_)
      generalize wr.drew = w2 at HS HB hx0 hx1 hy0 hy1 hHeld ⊢
      refine pure_ (i := 0) (N := some 18) (v := ?_) (a' := ?_) #[true, false, false, false, false, false, false, false, false, false, false] rfl rfl (any_of HT_.out (by kernel_rfl)) (fun _ _ _ h => h) (Or.inl ⟨by rfl, ?_⟩) ?_ ?_
      rotate_left
      · intro w'
        go_simp
        with_reducible rfl
      rotate_left
      · simp only [Act.put, List.setIfInBounds_toArray, List.set_cons_zero, List.set_cons_succ, i64_w, i32_w]
        rfl
      refine pure_ (i := 1) (N := some 19) (v := ?_) (a' := ?_) #[true, true, false, false, false, false, false, false, false, false, false] rfl rfl (any_of HT_.out (by kernel_rfl)) (fun _ _ _ h => h) (Or.inl ⟨by rfl, ?_⟩) ?_ ?_
      rotate_left
      · intro w'
        go_simp
        with_reducible rfl
      rotate_left
      · simp only [Act.put, List.setIfInBounds_toArray, List.set_cons_zero, List.set_cons_succ, i64_w, i32_w]
        rfl
      refine pure_ (i := 2) (N := some 20) (v := ?_) (a' := ?_) #[true, true, true, false, false, false, false, false, false, false, false] rfl rfl (any_of HT_.out (by kernel_rfl)) (fun _ _ _ h => h) (Or.inl ⟨by rfl, ?_⟩) ?_ ?_
      rotate_left
      · intro w'
        go_simp
        with_reducible rfl
      rotate_left
      · simp only [Act.put, List.setIfInBounds_toArray, List.set_cons_zero, List.set_cons_succ, i64_w, i32_w]
        rfl
      refine pure_ (i := 3) (N := some 21) (v := ?_) (a' := ?_) #[true, true, true, true, false, false, false, false, false, false, false] rfl rfl (any_of HT_.out (by kernel_rfl)) (fun _ _ _ h => h) (Or.inl ⟨by rfl, ?_⟩) ?_ ?_
      rotate_left
      · intro w'
        go_simp
        with_reducible rfl
      rotate_left
      · simp only [Act.put, List.setIfInBounds_toArray, List.set_cons_zero, List.set_cons_succ, i64_w, i32_w]
        rfl
      refine pure_ (i := 5) (N := some 23) (v := ?_) (a' := ?_) #[true, true, true, true, false, true, false, false, false, false, false] rfl rfl (any_of HT_.out (by kernel_rfl)) (fun _ _ _ h => h) (Or.inl ⟨by rfl, ?_⟩) ?_ ?_
      rotate_left
      · intro w'
        go_simp
        with_reducible rfl
      rotate_left
      · simp only [Act.put, List.setIfInBounds_toArray, List.set_cons_zero, List.set_cons_succ, i64_w, i32_w]
        rfl
      refine pure_ (i := 6) (N := some 24) (v := ?_) (a' := ?_) #[true, true, true, true, false, true, true, false, false, false, false] rfl rfl (any_of HT_.out (by kernel_rfl)) (fun _ _ _ h => h) (Or.inl ⟨by rfl, ?_⟩) ?_ ?_
      rotate_left
      · intro w'
        go_simp
        with_reducible rfl
      rotate_left
      · simp only [Act.put, List.setIfInBounds_toArray, List.set_cons_zero, List.set_cons_succ, i64_w, i32_w]
        rfl
      refine pure_ (i := 7) (N := some 25) (v := ?_) (a' := ?_) #[true, true, true, true, false, true, true, true, false, false, false] rfl rfl (any_of HT_.out (by kernel_rfl)) (fun _ _ _ h => h) (Or.inl ⟨by rfl, ?_⟩) ?_ ?_
      rotate_left
      · intro w'
        go_simp
        with_reducible rfl
      rotate_left
      · simp only [Act.put, List.setIfInBounds_toArray, List.set_cons_zero, List.set_cons_succ, i64_w, i32_w]
        rfl
      refine pure_ (i := 8) (N := some 26) (v := ?_) (a' := ?_) #[true, true, true, true, false, true, true, true, true, false, false] rfl rfl (any_of HT_.out (by kernel_rfl)) (fun _ _ _ h => h) (Or.inl ⟨by rfl, ?_⟩) ?_ ?_
      rotate_left
      · intro w'
        go_simp
        with_reducible rfl
      rotate_left
      · simp only [Act.put, List.setIfInBounds_toArray, List.set_cons_zero, List.set_cons_succ, i64_w, i32_w]
        rfl
      refine take_ (i := 4) (N := some 22) (v := ?_) (a' := ?_) #[true, true, true, true, true, true, true, true, true, false, false] rfl rfl (take_ofW HT_.out HW_.out (by kernel_rfl)) (fun _ _ _ h => h) (Or.inl ⟨by rfl, ?_⟩) hHeld ?_ ?_
      rotate_left
      · rintro w' ⟨s0, s1, s2, s3⟩
        go_simp
        with_reducible rfl
      rotate_left
      · simp only [Act.put, List.setIfInBounds_toArray, List.set_cons_zero, List.set_cons_succ, i64_w, i32_w]
        rfl
      refine take_ (i := 9) (N := some 27) (v := ?_) (a' := ?_) #[true, true, true, true, true, true, true, true, true, true, false] rfl rfl (take_ofW HT_.out HW_.out (by kernel_rfl)) (fun _ _ _ h => h) (Or.inl ⟨by rfl, ?_⟩) hHeld ?_ ?_
      rotate_left
      · rintro w' ⟨s0, s1, s2, s3⟩
        go_simp
        with_reducible rfl
      rotate_left
      · simp only [Act.put, List.setIfInBounds_toArray, List.set_cons_zero, List.set_cons_succ, i64_w, i32_w]
        rfl
      refine one_ (i := 10) (N := some 28) #[true, true, true, true, true, true, true, true, true, true, true] rfl rfl (one_of HT_.out (by kernel_rfl)) (by decide) (fun K hK => ?_)
      refine goesV_ #[.pointer (some ⟨b, 0, none⟩)] Try.func83 (by kernel_rfl) rfl #[.agg #[.int .i64 (rd_T52 l (k : Int)).f0, .string (rd_T52 l (k : Int)).f1], .agg #[.int .i64 (rd_T52 l (j : Int)).f0, .string (rd_T52 l (j : Int)).f1], .pointer (some ⟨b, 0, none⟩)] (by rfl) rfl rfl (by rfl) (by (try simp only [List.map_toArray, List.map_cons, List.map_nil]); first | done | rfl | (simp; done)) ?_
      with_reducible refine (eq83_ok (rd_T52 l (k : Int)) (rd_T52 l (j : Int)) b (HS.out.pick 1 rfl)).mono ?_
      rintro e w3 ⟨rfl, hs1, hb⟩
      refine ⟨_, rfl, ?_⟩
      have n0_ := Aside0.mk (hs1.pick 1 rfl); have n1_ := Aside0.mk (HB.out.trans hb); clear HS HB; have HS := n0_; have HB := n1_; clear n0_ n1_; (try simp only [List.eraseIdx_cons_succ, List.eraseIdx_cons_zero] at HS)
      clear hs1 hx0 hx1 hy0 hy1; obtain ⟨ad2, e2, hx0, hx1⟩ := at_T52 (HS.out.pick 0 rfl).rowC.2.2 ((k : Nat) : Int) (by omega) (by omega); cases e2; rw [Int.toNat_natCast] at hx0 hx1; replace hx0 := Aside0.mk hx0; replace hx1 := Aside0.mk hx1; obtain ⟨ad2, e2, hy0, hy1⟩ := at_T52 (HS.out.pick 0 rfl).rowC.2.2 ((j : Nat) : Int) (by omega) (by omega); cases e2; rw [Int.toNat_natCast] at hy0 hy1; replace hy0 := Aside0.mk hy0; replace hy1 := Aside0.mk hy1; clear hb
      refine hK.out _ _ ⟨hx0.out, hx1.out, hy0.out, hy1.out⟩ (fun hHeld => ?_)
      clear hK K
      refine norm_ (a' := ?_) ?_ ?_
      rotate_left
      · show Act.put _ (some 28) _ = _
        simp only [Act.put, List.setIfInBounds_toArray, List.set_cons_zero, List.set_cons_succ, i64_w, i32_w]
        rfl
      refine done_ (done_of HT_.out (by kernel_rfl)) ?_
      clear HT_ HW_
      try clear hHeld
      by_cases hh : (kcmp (rd_T52 l (k : Int)) (rd_T52 l (j : Int)) == 0) = true
      · rw [hh]
        have hcc := (HS.out.pick 0 rfl).rowC.2.1
        have r1 : (k : Int) ≤ (cap : Int) := by omega
        have r2 : (k : Int) ≤ (l.length : Int) := by omega
        have r3 : ¬ cap = k := by omega
        clear hcc
        go_upto_region 9 with (fail)
        obtain ⟨d, hd⟩ : ∃ d, d = l.length - k := ⟨_, rfl⟩
        obtain ⟨a2, ha2⟩ : ∃ a, a = ad.add (k * 2) := ⟨_, rfl⟩
        obtain ⟨c2, hc2⟩ : ∃ c, c = cap - k := ⟨_, rfl⟩
        rw [← hd, ← ha2, ← hc2]
        replace hd := Aside0.mk hd
        replace ha2 := Aside0.mk ha2
        have hlt' := Aside0.mk hlt
        clear hx0 hx1 hy0 hy1 r1 r2 r3 p1 p2 p3 p4 p5 p6 hc2 hlt hk1 hkn
        go_loopw [5, 7] (fun v5 v7 wc => ∃ (m q : Nat) (xs : List S52), 1 ≤ q ∧ q ≤ d ∧ k ≤ m ∧ m + 1 ≤ k + q ∧ v5 = .int .i64 m ∧ v7 = .int .i64 q ∧ Aside0 (xs.length = l.length ∧ cp l (k + q) = xs.take m ∧ ∀ r, k + q ≤ r + 1 → r < l.length → rd_T52 xs (r : Int) = rd_T52 l (r : Int)) ∧ Aside0 (St N wc (Row k52 52 (.slice (some ad) l.length cap) xs :: Blk b #[.func (.func 55) #[] #[]] 74 :: L)) ∧ Aside0 (Below N w wc)) (fun _ v7 _ => (d - intOf v7).toNat)
        case atStart =>
          refine ⟨k, 1, l, Nat.le_refl _, by have := hd.out; have := hlt'.out; omega, Nat.le_refl _, Nat.le_refl _, rfl, rfl, ⟨rfl, ?_, fun _ _ _ => rfl⟩, HS, HB⟩
          have hk1 : 0 < k := by have := hj'.out; omega
          rw [cp_hit l k hk1 (by rw [show k - 1 = j by have := hj'.out; omega]; exact (kz_iff _ _).mp (by simpa using hh)), hcp'.out]
        case round =>
          clear HS HB
          obtain ⟨m, q, xs, hq1, hqd, hkm, hmq, rfl, rfl, HX, HS, HB⟩ := hrel
          by_cases hlt2 : q < d
          · obtain ⟨p, hp⟩ : ∃ p, q = p + 1 := ⟨q - 1, by omega⟩
            obtain ⟨x, hx⟩ : ∃ x, rd_T52 l ((k + q : Nat) : Int) = x := ⟨_, rfl⟩
            obtain ⟨y, hy⟩ : ∃ y, rd_T52 l ((k + p : Nat) : Int) = y := ⟨_, rfl⟩
            have hxv : Aside0 (rd_T52 xs ((k + q : Nat) : Int) = x) := ⟨(HX.out.2.2 (k + q) (by omega) (by have := hd.out; omega)).trans hx⟩
            have hyv : Aside0 (rd_T52 xs ((k + p : Nat) : Int) = y) := ⟨(HX.out.2.2 (k + p) (by omega) (by have := hd.out; omega)).trans hy⟩
            replace hx := Aside0.mk hx
            replace hy := Aside0.mk hy
            have p1 : (0 : Int) ≤ (q : Int) := by omega
            have p2 : (q : Int) < (d : Int) := by omega
            have p3 : decide ((q : Int) < (d : Int)) = true := decide_eq_true p2
            have p4 : wrap64 ((q : Int) - 1) = (p : Int) := by rw [wrap64_small _ (by omega) (by have := hd.out; omega)]; omega
            have p7 : wrap64 ((q : Int) + 1) = (q : Int) + 1 := wrap64_small _ (by omega) (by have := hd.out; omega)
            have p5 : (0 : Int) ≤ (p : Int) := by omega
            have p6 : (p : Int) < (d : Int) := by omega
            have hm : Aside0 (m < xs.length) := ⟨by have := HX.out.1; have := hd.out; omega⟩
            replace hp := Aside0.mk hp
            replace hmq := Aside0.mk hmq
            replace hq1 := Aside0.mk hq1
            replace hqd := Aside0.mk hqd
            replace hkm := Aside0.mk hkm
            obtain ⟨hx0, hx1⟩ := at_sub (HS.out.pick 0 rfl).rowC.2.2 a2 k ha2.out q (by have := HX.out.1; have := hd.out; omega) x hxv.out
            replace hx0 := Aside0.mk hx0
            replace hx1 := Aside0.mk hx1
            obtain ⟨hy0, hy1⟩ := at_sub (HS.out.pick 0 rfl).rowC.2.2 a2 k ha2.out p (by have := HX.out.1; have := hd.out; omega) y hyv.out
            replace hy0 := Aside0.mk hy0
            replace hy1 := Aside0.mk hy1
            go_upto_region 11 with (fail)
            have n2_ := Aside0.mk (show wr.drew.cell? _ = _ from hx0.out); clear hx0; have hx0 := n2_; clear n2_
            have n2_ := Aside0.mk (show wr.drew.cell? _ = _ from hx1.out); clear hx1; have hx1 := n2_; clear n2_
            have n2_ := Aside0.mk (show wr.drew.cell? _ = _ from hy0.out); clear hy0; have hy0 := n2_; clear n2_
            have n2_ := Aside0.mk (show wr.drew.cell? _ = _ from hy1.out); clear hy1; have hy1 := n2_; clear n2_
            have n0_ := Aside0.mk (HS.out.drew); have n1_ := Aside0.mk (HB.out.drew); clear HS HB; have HS := n0_; have HB := n1_; clear n0_ n1_
            refine start_ (n := 12) (S := fun w' => w'.cell? (a2.add (q * 2)) = some (.int .i64 x.f0) ∧ w'.cell? ⟨(a2.add (q * 2)).block, (a2.add (q * 2)).off + 1, none⟩ = some (.string x.f1) ∧ w'.cell? (a2.add (p * 2)) = some (.int .i64 y.f0) ∧ w'.cell? ⟨(a2.add (p * 2)).block, (a2.add (p * 2)).off + 1, none⟩ = some (.string y.f1)) (ds := []) (tfs true [0, 12]).toArray (by kernel_rfl) rfl rfl ⟨hx0.out, hx1.out, hy0.out, hy1.out⟩ (fun hHeld => ?_); refine with_tabW cpf.tab11 cpf.bits11 (fun HT_ HW_ => ?_)
            generalize wr.drew = w4 at HS HB hx0 hx1 hy0 hy1 hHeld ⊢
            refine pure_ (i := 0) (N := some 38) (v := ?_) (a' := ?_) (tfs true [1, 11]).toArray rfl rfl (any_of HT_.out (by kernel_rfl)) (fun _ _ _ h => h) (Or.inl ⟨by rfl, ?_⟩) ?_ ?_
            rotate_left
            · intro w'
              go_simp
              with_reducible rfl
            rotate_left
            · simp only [Act.put, List.setIfInBounds_toArray, List.set_cons_zero, List.set_cons_succ, i64_w, i32_w]
              rfl
            refine pure_ (i := 1) (N := some 39) (v := ?_) (a' := ?_) (tfs true [2, 10]).toArray rfl rfl (any_of HT_.out (by kernel_rfl)) (fun _ _ _ h => h) (Or.inl ⟨by rfl, ?_⟩) ?_ ?_
            rotate_left
            · intro w'
              go_simp
              with_reducible rfl
            rotate_left
            · simp only [Act.put, List.setIfInBounds_toArray, List.set_cons_zero, List.set_cons_succ, i64_w, i32_w]
              rfl
            refine pure_ (i := 2) (N := some 40) (v := ?_) (a' := ?_) (tfs true [3, 9]).toArray rfl rfl (any_of HT_.out (by kernel_rfl)) (fun _ _ _ h => h) (Or.inl ⟨by rfl, ?_⟩) ?_ ?_
            rotate_left
            · intro w'
              go_simp
              with_reducible rfl
            rotate_left
            · simp only [Act.put, List.setIfInBounds_toArray, List.set_cons_zero, List.set_cons_succ, i64_w, i32_w]
              rfl
            refine pure_ (i := 3) (N := some 41) (v := ?_) (a' := ?_) (tfs true [4, 8]).toArray rfl rfl (any_of HT_.out (by kernel_rfl)) (fun _ _ _ h => h) (Or.inl ⟨by rfl, ?_⟩) ?_ ?_
            rotate_left
            · intro w'
              go_simp
              with_reducible rfl
            rotate_left
            · simp only [Act.put, List.setIfInBounds_toArray, List.set_cons_zero, List.set_cons_succ, i64_w, i32_w]
              rfl
            refine pure_ (i := 5) (N := some 43) (v := ?_) (a' := ?_) (tfs true [4, 1, 1, 6]).toArray rfl rfl (any_of HT_.out (by kernel_rfl)) (fun _ _ _ h => h) (Or.inl ⟨by rfl, ?_⟩) ?_ ?_
            rotate_left
            · intro w'
              go_simp
              with_reducible rfl
            rotate_left
            · simp only [Act.put, List.setIfInBounds_toArray, List.set_cons_zero, List.set_cons_succ, i64_w, i32_w]
              rfl
            refine pure_ (i := 6) (N := some 44) (v := ?_) (a' := ?_) (tfs true [4, 1, 2, 5]).toArray rfl rfl (any_of HT_.out (by kernel_rfl)) (fun _ _ _ h => h) (Or.inl ⟨by rfl, ?_⟩) ?_ ?_
            rotate_left
            · intro w'
              go_simp
              with_reducible rfl
            rotate_left
            · simp only [Act.put, List.setIfInBounds_toArray, List.set_cons_zero, List.set_cons_succ, i64_w, i32_w]
              rfl
            refine pure_ (i := 7) (N := some 45) (v := ?_) (a' := ?_) (tfs true [4, 1, 3, 4]).toArray rfl rfl (any_of HT_.out (by kernel_rfl)) (fun _ _ _ h => h) (Or.inl ⟨by rfl, ?_⟩) ?_ ?_
            rotate_left
            · intro w'
              go_simp
              with_reducible rfl
            rotate_left
            · simp only [Act.put, List.setIfInBounds_toArray, List.set_cons_zero, List.set_cons_succ, i64_w, i32_w]
              rfl
            refine pure_ (i := 8) (N := some 46) (v := ?_) (a' := ?_) (tfs true [4, 1, 4, 3]).toArray rfl rfl (any_of HT_.out (by kernel_rfl)) (fun _ _ _ h => h) (Or.inl ⟨by rfl, ?_⟩) ?_ ?_
            rotate_left
            · intro w'
              go_simp
              with_reducible rfl
            rotate_left
            · simp only [Act.put, List.setIfInBounds_toArray, List.set_cons_zero, List.set_cons_succ, i64_w, i32_w]
              rfl
            refine take_ (i := 4) (N := some 42) (v := ?_) (a' := ?_) (tfs true [9, 3]).toArray rfl rfl (take_ofW HT_.out HW_.out (by kernel_rfl)) (fun _ _ _ h => h) (Or.inl ⟨by rfl, ?_⟩) hHeld ?_ ?_
            rotate_left
            · rintro w' ⟨s0, s1, s2, s3⟩
              go_simp
              with_reducible rfl
            rotate_left
            · simp only [Act.put, List.setIfInBounds_toArray, List.set_cons_zero, List.set_cons_succ, i64_w, i32_w]
              rfl
            refine take_ (i := 9) (N := some 47) (v := ?_) (a' := ?_) (tfs true [10, 2]).toArray rfl rfl (take_ofW HT_.out HW_.out (by kernel_rfl)) (fun _ _ _ h => h) (Or.inl ⟨by rfl, ?_⟩) hHeld ?_ ?_
            rotate_left
            · rintro w' ⟨s0, s1, s2, s3⟩
              go_simp
              with_reducible rfl
            rotate_left
            · simp only [Act.put, List.setIfInBounds_toArray, List.set_cons_zero, List.set_cons_succ, i64_w, i32_w]
              rfl
            refine one_ (i := 10) (N := some 48) (tfs true [11, 1]).toArray rfl rfl (one_of HT_.out (by kernel_rfl)) (by decide) (fun K hK => ?_)
            refine goesV_ #[.pointer (some ⟨b, 0, none⟩)] Try.func83 (by kernel_rfl) rfl #[.agg #[.int .i64 x.f0, .string x.f1], .agg #[.int .i64 y.f0, .string y.f1], .pointer (some ⟨b, 0, none⟩)] (by rfl) rfl rfl (by rfl) (by (try simp only [List.map_toArray, List.map_cons, List.map_nil]); first | done | rfl | (simp; done)) ?_
            with_reducible refine (eq83_ok x y b (HS.out.pick 1 rfl)).mono ?_
            rintro e w5 ⟨rfl, hs1, hb⟩
            refine ⟨_, rfl, ?_⟩
            have n0_ := Aside0.mk (hs1.pick 1 rfl); have n1_ := Aside0.mk (HB.out.trans hb); clear HS HB; have HS := n0_; have HB := n1_; clear n0_ n1_; (try simp only [List.eraseIdx_cons_succ, List.eraseIdx_cons_zero] at HS)
            clear hs1 hx0 hx1 hy0 hy1; obtain ⟨hx0, hx1⟩ := at_sub (HS.out.pick 0 rfl).rowC.2.2 a2 k ha2.out q (by have := HX.out.1; have := hd.out; omega) x hxv.out; replace hx0 := Aside0.mk hx0; replace hx1 := Aside0.mk hx1; obtain ⟨hy0, hy1⟩ := at_sub (HS.out.pick 0 rfl).rowC.2.2 a2 k ha2.out p (by have := HX.out.1; have := hd.out; omega) y hyv.out; replace hy0 := Aside0.mk hy0; replace hy1 := Aside0.mk hy1; clear hb
            refine hK.out _ _ ⟨hx0.out, hx1.out, hy0.out, hy1.out⟩ (fun hHeld => ?_)
            clear hK K
            refine norm_ (a' := ?_) ?_ ?_
            rotate_left
            · show Act.put _ (some 48) _ = _
              simp only [Act.put, List.setIfInBounds_toArray, List.set_cons_zero, List.set_cons_succ, i64_w, i32_w]
              rfl
            refine pure_ (i := 11) (N := some 49) (v := ?_) (a' := ?_) (tfs true [12]).toArray rfl rfl (any_of HT_.out (by kernel_rfl)) (fun _ _ _ h => h) (Or.inl ⟨by rfl, ?_⟩) ?_ ?_
            rotate_left
            · intro w'
              go_simp
              with_reducible rfl
            rotate_left
            · simp only [Act.put, List.setIfInBounds_toArray, List.set_cons_zero, List.set_cons_succ, i64_w, i32_w]
              rfl
            refine done_ (done_of HT_.out (by kernel_rfl)) ?_
            clear HT_ HW_
            try clear hHeld
            by_cases hh2 : (kcmp x y == 0) = true
            · rw [hh2]
              clear hx0 hx1 hy0 hy1
              go_wp2
              go_roundw
              case rel =>
                refine ⟨m, q + 1, xs, by omega, by omega, hkm.out, by have := hmq.out; omega, by go_num, by go_num, ⟨HX.out.1, ?_, fun r h1 h2 => HX.out.2.2 r (by omega) h2⟩, HS, HB⟩
                rw [show k + (q + 1) = k + q + 1 by omega, cp_hit l (k + q) (by have := hq1.out; omega) (by rw [show k + q - 1 = k + p by have := hp.out; omega, hx.out, hy.out]; exact (kz_iff _ _).mp (by simpa using hh2)), HX.out.2.1]
              case measure =>
                (try rw [p7])
                exact meas_i q d hlt2
            · rw [Bool.eq_false_iff.mpr hh2]
              replace hx0 := hx0.out
              replace hx1 := hx1.out
              clear hy0 hy1
              obtain ⟨ad2, e2, hz0, hz1⟩ := at_T52 (HS.out.pick 0 rfl).rowC.2.2 (m : Int) (by omega) (by have := hm.out; have := HX.out.1; omega)
              cases e2
              rw [Int.toNat_natCast] at hz0 hz1
              obtain ⟨hf0, hf1⟩ := frozen_row had.out HS.out m
              have hz2 := (next_cell w5 (ad.add (m * 2)) (.int .i64 x.f0)).trans hz1
              have s1 : (0 : Int) ≤ (m : Int) := by omega
              have s3 : wrap64 ((m : Int) + 1) = (m : Int) + 1 := wrap64_small _ (by omega) (by have := hm.out; have := HX.out.1; omega)
              have s2 : (m : Int) < (l.length : Int) := by have := hm.out; have := HX.out.1; omega
              go_wp2_with (first | ((with_reducible refine gate_store (t := 52) (p := 56) rfl ?_); refine store_event (t := 52) (p := 56) (v := .tmp 55) (w1 := ?_) rfl rfl rfl ?_ ?_; rotate_left; (focus (first | (go_simp; done) | (go_simp; rfl))); intro w6 hw; have n0_ := Aside0.mk ((elem_ad had.out HS.out HB.out m x hm.out hw).1); have n1_ := Aside0.mk ((elem_ad had.out HS.out HB.out m x hm.out hw).2); clear HS HB; have HS := n0_; have HB := n1_; clear n0_ n1_; (try simp only [List.eraseIdx_cons_succ, List.eraseIdx_cons_zero] at HS); clear hw; clear hz0 hz1 hz2 hf0 hf1 hx0 hx1))
              go_roundw
              case rel =>
                refine ⟨m + 1, q + 1, xs.set m x, by omega, by omega, by have := hkm.out; omega, by have := hmq.out; omega, by go_num, by go_num, ⟨by rw [List.length_set]; exact HX.out.1, ?_, fun r h1 h2 => ?_⟩, HS, HB⟩
                · rw [show k + (q + 1) = k + q + 1 by omega, cp_miss l (k + q) (by rw [show k + q - 1 = k + p by have := hp.out; omega, hx.out, hy.out]; exact fun e => hh2 (by rw [(kz_iff _ _).mpr e]; rfl)), HX.out.2.1, hx.out, take_rd _ _ (by rw [List.length_set]; exact hm.out), rd_set _ _ _ _ hm.out, if_pos rfl, List.take_set_of_le (Nat.le_refl _)]
                · rw [rd_set _ _ _ _ hm.out, if_neg (by have := hmq.out; omega)]
                  exact HX.out.2.2 r (by omega) h2
              case measure =>
                (try rw [p7])
                exact meas_i q d hlt2
          · have p3 : decide ((q : Int) < (d : Int)) = false := decide_eq_false (by omega)
            have e9 : k + q = l.length := by have := hd.out; have := hlt'.out; omega
            have hcc := (HS.out.pick 0 rfl).rowC.2.1
            have hxl := HX.out.1
            have r1 : (m : Int) ≤ (cap : Int) := by omega
            have r2 : (m : Int) ≤ (l.length : Int) := by omega
            have r3 : ¬ cap = m := by omega
            have r4 : (0 : Int) ≤ (m : Int) := by omega
            replace e9 := Aside0.mk e9
            replace hmq := Aside0.mk hmq
            clear hcc hxl hqd hq1
            go_wp2_with (first | (refine S_clear rfl (.tmp 61) rfl rfl g _ cap m (l.length - m) (cap - m) xs (ad.add (m * 2)) (by rw [had.out, Addr.add_lit]; simp) (by first | rfl | (go_simp; done)) (by have := HX.out.1; have := e9.out; have := hmq.out; omega) (by have := HX.out.1; omega) (by have := HS.out; have e_ := had.out; subst e_; exact this) HB.out ?_; intro w7 hs hb; have n0_ := Aside0.mk (hs); have n1_ := Aside0.mk (hb); clear HS HB; have HS := n0_; have HB := n1_; clear n0_ n1_; (try simp only [List.eraseIdx_cons_succ, List.eraseIdx_cons_zero] at HS); clear hs hb))
            go_ret
            refine ⟨_, rfl, ?_, HB.out⟩
            have h7 := HX.out.2.1
            rw [e9.out] at h7
            rw [h7]
            have e_ := had.out
            subst e_
            exact HS.out
      · rw [Bool.eq_false_iff.mpr hh]
        go_wp2
        go_roundw
        case rel =>
          refine ⟨k + 1, by omega, by omega, ?_, by go_num, HS, HB⟩
          have hne : ¬ rd_T52 l (k : Int) = rd_T52 l ((k - 1 : Nat) : Int) := by
            rw [show k - 1 = j by have := hj'.out; omega]
            intro h
            apply hh
            rw [h, (kz_iff _ _).mpr rfl]
            rfl
          rw [cp_miss l k hne, hcp'.out, take_rd l k hlt]
        case measure => simp [intOf]; omega
    · have p3 : decide ((k : Int) < (l.length : Int)) = false := decide_eq_false (by omega)
      obtain rfl : k = l.length := by omega
      go_wp2
      go_ret
      refine ⟨_, rfl, ?_, HB.out⟩
      rw [hcp, List.take_length]
      exact HS.out

end Go.Proofs.Ytddhpkobingmhaa.PB
