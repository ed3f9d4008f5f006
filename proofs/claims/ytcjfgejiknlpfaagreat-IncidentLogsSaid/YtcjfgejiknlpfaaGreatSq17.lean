/- Event: an act decoded. -/
import Derived.Test.YtcjfgejiknlpfaaGreatDec
import Derived.Test.YtcjfgejiknlpfaaGreatJ2
import Derived.Test.YtcjfgejiknlpfaaGreatJ1
namespace Go.Proofs.YtcjfgejiknlpfaaGreat.PI
open Go.RowKit Go.Proofs.YtcjfgejiknlpfaaGreatW.PrintWords Go.Proofs.YtcjfgejiknlpfaaGreatW.PrintLast Go.Proofs.YtcjfgejiknlpfaaGreatW.PrintMore Go.Proofs.YtcjfgejiknlpfaaGreat.Sep
set_option linter.unusedVariables false
set_option linter.unusedSimpArgs false
set_option maxHeartbeats 8000000
set_option maxRecDepth 100000

def evt.T1 : Bool × List (List Nat × List Nat) := (true, [([], []), ([], []), ([1], [1]), ([2], [2]), ([0, 3], [0, 3]), ([4], [4]), ([], []), ([6], [6]), ([7], [7]), ([8], [8]), ([9], [9]), ([5, 10], [5, 10]), ([], []), ([12], [12]), ([13], [13]), ([14], [14]), ([], []), ([16], [16]), ([17], [17]), ([18], [18]), ([19], [19]), ([11, 15, 20], [11, 15, 20]), ([], []), ([22, 21, 0, 0, 1, 2, 3, 4, 5, 6, 7, 8, 9, 10, 11, 12, 13, 14, 15, 16, 17, 18, 19, 20, 21, 22], [21, 22])])
def evt.B1 : List Nat := [0, 0, 2, 6, 15, 31, 0, 64, 192, 448, 960, 2047, 0, 4096, 12288, 28672, 0, 65536, 196608, 458752, 983040, 2097151, 0, 8388607]
theorem evt.tab1 : rtab .any (opsOf Tryz.f25 1) = evt.T1 := by kernel_rfl
theorem evt.bits1 : waitsOk evt.T1.2 evt.B1 = true := by kernel_rfl
def evt.T10 : Bool × List (List Nat × List Nat) := (true, [([], []), ([], []), ([1], [1]), ([2], [2]), ([0, 3], [0, 3]), ([4], [4]), ([], []), ([6], [6]), ([7], [7]), ([8], [8]), ([9], [9]), ([10], [10]), ([5, 11], [5, 11]), ([0, 1, 2, 3, 4, 5, 6, 7, 8, 9, 10, 11, 12], []), ([13, 12, 0, 0, 1, 2, 3, 4, 5, 6, 7, 8, 9, 10, 11, 12], [12, 13])])
def evt.B10 : List Nat := [0, 0, 2, 6, 15, 31, 0, 64, 192, 448, 960, 1984, 4095, 8191, 16383]
theorem evt.tab10 : rtab .any (opsOf Tryz.f25 10) = evt.T10 := by kernel_rfl
theorem evt.bits10 : waitsOk evt.T10.2 evt.B10 = true := by kernel_rfl
def evt.T12 : Bool × List (List Nat × List Nat) := (true, [([], []), ([], []), ([1], [1]), ([2], [2]), ([0, 3], [0, 3]), ([4], [4]), ([], []), ([6], [6]), ([7], [7]), ([8], [8]), ([9], [9]), ([0, 1, 2, 3, 4, 5], []), ([11, 5, 0, 0, 1, 2, 3, 4, 5], [5, 11]), ([0, 1, 2, 3, 4, 5, 6, 7, 8, 9, 10, 11, 12], []), ([13, 10, 12, 0, 1, 2, 3, 4, 5, 6, 7, 8, 9, 10, 11, 12], [10, 13])])
def evt.B12 : List Nat := [0, 0, 2, 6, 15, 31, 0, 64, 192, 448, 960, 63, 2111, 8191, 16383]
theorem evt.tab12 : rtab .any (opsOf Tryz.f25 12) = evt.T12 := by kernel_rfl
theorem evt.bits12 : waitsOk evt.T12.2 evt.B12 = true := by kernel_rfl
theorem load_step {P : Program} {ops : Array Oper} {o : Oper} {a : Act} {Q : Exit → Act → World → Prop} {Kc : Act → World → Prop} {W : World} {v : Value} (hw : Region.wanted o (yielded ops a.tmps) = true) (hrun : (execOp a.eval o).run P W = .ok (.value v) W) (h : Kc (a.put o.dst v) W) : if Region.wanted o (yielded ops a.tmps) = true then Oper.wp P o a W Kc Q else Kc (a.put o.dst undef) W := event_step hw hrun h
theorem tx_cell {N : Nat} {w : World} {L : List Res} {g n c : Nat} (h : St N w (Row Kd.string 9 (.slice (some ⟨g, 0, none⟩) n c) txts :: L)) (i : Nat) (hi : i < 3) : w.cell? ⟨g, i, none⟩ = some (.string (rdOf ByteArray.empty txts (i : Int))) := by
  obtain ⟨ad, ea, hx⟩ := Kd.at_string h.rowC.2.2 (i : Int) (by omega) (by show _ < (3 : Int); omega)
  cases ea
  rwa [Int.toNat_natCast, Addr.add_lit, Nat.zero_add] at hx
theorem tdiv_tmod (x : Int) (h : 0 ≤ x ∧ x ≤ 255) : ∃ q n : Nat, x.tdiv 3 = (q : Int) ∧ (q : Int) % 256 = (q : Int) ∧ IntKind.u8.wrap (q : Int) = (q : Int) ∧ (q : Int).tmod 6 = (n : Int) ∧ (q : Int) % 6 = (n : Int) ∧ n < 6 ∧ x / 3 % 6 = (n : Int) := by
  obtain ⟨k, rfl⟩ := Int.eq_ofNat_of_zero_le h.1
  have h5 : ((k / 3 : Nat) : Int) % 256 = ((k / 3 : Nat) : Int) := by have := h.2; omega
  exact ⟨k / 3, k / 3 % 6, rfl, h5, (show IntKind.u8.wrap ((k / 3 : Nat) : Int) = ((k / 3 : Nat) : Int) % 256 by simp [IntKind.wrap, IntKind.bits, IntKind.signed]).trans h5, rfl, rfl, Nat.mod_lt _ (by decide), rfl⟩
theorem nm_cell {N : Nat} {w : World} {L : List Res} {g n c : Nat} (h : St N w (Row Kd.string 9 (.slice (some ⟨g, 0, none⟩) n c) ppl :: L)) (i : Nat) (hi : i < 3) : w.cell? ⟨g, i, none⟩ = some (.string (rdOf ByteArray.empty ppl (i : Int))) := by
  obtain ⟨ad, ea, hx⟩ := Kd.at_string h.rowC.2.2 (i : Int) (by omega) (by show _ < (3 : Int); omega)
  cases ea
  rwa [Int.toNat_natCast, Addr.add_lit, Nat.zero_add] at hx
theorem tmod_lt (x : Int) (h : 0 ≤ x ∧ x ≤ 255) (m : Nat) (hm : 0 < m) : ∃ n : Nat, x.tmod (m : Int) = (n : Int) ∧ n < m ∧ x % (m : Int) = (n : Int) := by
  obtain ⟨k, rfl⟩ := Int.eq_ofNat_of_zero_le h.1
  exact ⟨k % m, rfl, Nat.mod_lt _ hm, rfl⟩
theorem wrap_n (n m : Nat) (h : n < m) (hm : m ≤ 100) : wrap64 (n : Int) = (n : Int) := by unfold wrap64; omega
theorem wrap_n1 (n m : Nat) (h : n < m) (hm : m ≤ 100) : wrap64 (1 + (n : Int)) = 1 + (n : Int) := by unfold wrap64; omega

theorem flatS : Flat Kd.string (fun x : ByteArray => [Value.string x]) where
  K := fun {w x cs} h => h
  M := fun w base ok x => rfl
  sz := fun _ => rfl
  one := fun x v h => by simp at h; rw [h]; rfl
theorem Event_ok (a : S61) (hu : U8s a) (w : World) : Calls Tryz.prog 25 #[.agg #[.int .u8 a.f0, .int .u8 a.f1, .int .u8 a.f2, .int .u8 a.f3, .int .u8 a.f4, .int .u8 a.f5, .int .u8 a.f6, .int .u8 a.f7]] w fun r w' => r = .returned (.agg #[.string (decE a).f0.f0, .int .i64 (decE a).f0.f1, .int .i64 (decE a).f1, .int .i64 (decE a).f2, .string (decE a).f3.f0, .int .i64 (decE a).f3.f1, .string (decE a).f4, .int .i64 (decE a).f5, .string (decE a).f6]) ∧ Below w.heap.size w w' := by
  obtain ⟨n0, t0, hn0, z0⟩ := tmod_lt a.f0 hu.r0 3 (by decide)
  replace t0 : a.f0.tmod 3 = (n0 : Int) := t0
  replace z0 : a.f0 % 3 = (n0 : Int) := z0
  obtain ⟨n1, t1, hn1, z1⟩ := tmod_lt a.f1 hu.r1 6 (by decide)
  replace t1 : a.f1.tmod 6 = (n1 : Int) := t1
  replace z1 : a.f1 % 6 = (n1 : Int) := z1
  obtain ⟨n2, t2, hn2, z2⟩ := tmod_lt a.f2 hu.r2 40 (by decide)
  replace t2 : a.f2.tmod 40 = (n2 : Int) := t2
  replace z2 : a.f2 % 40 = (n2 : Int) := z2
  obtain ⟨n3, t3, hn3, z3⟩ := tmod_lt a.f3 hu.r3 9 (by decide)
  replace t3 : a.f3.tmod 9 = (n3 : Int) := t3
  replace z3 : a.f3 % 9 = (n3 : Int) := z3
  have b0 : ((n0 : Int) < (ppl.length : Int)) = True := eq_true (Int.ofNat_lt.mpr hn0)
  have b1 : ((n0 : Int) < 3) = True := eq_true (Int.ofNat_lt.mpr hn0)
  have v1 := wrap_n n1 _ hn1 (by decide)
  have v1' := wrap_n1 n1 _ hn1 (by decide)
  have v2 := wrap_n n2 _ hn2 (by decide)
  have v3 := wrap_n n3 _ hn3 (by decide)
  have v3' := wrap_n1 n3 _ hn3 (by decide)
  replace hn0 := Aside0.mk hn0
  replace hn1 := Aside0.mk hn1
  replace hn2 := Aside0.mk hn2
  replace hn3 := Aside0.mk hn3
  replace z0 := Aside0.mk z0
  replace z1 := Aside0.mk z1
  replace z2 := Aside0.mk z2
  replace z3 := Aside0.mk z3
  replace hu := Aside0.mk hu
  go_enter Tryz.func25, Tryz.ntmps25
  go_upto_region 1 with (fail)
  obtain ⟨HS, HB, _⟩ := two_boxes w #[.int .u8 a.f0, .int .u8 a.f1, .int .u8 a.f2, .int .u8 a.f3, .int .u8 a.f4, .int .u8 a.f5, .int .u8 a.f6, .int .u8 a.f7] #[.string ⟨#[]⟩, .int .i64 0, .int .i64 0, .int .i64 0, .string ⟨#[]⟩, .int .i64 0, .string ⟨#[]⟩, .int .i64 0, .string ⟨#[]⟩] 61 50
  replace HS := Aside0.mk HS.swap
  replace HB := Aside0.mk HB
  generalize (w.alloc (.cells #[.int .u8 a.f0, .int .u8 a.f1, .int .u8 a.f2, .int .u8 a.f3, .int .u8 a.f4, .int .u8 a.f5, .int .u8 a.f6, .int .u8 a.f7] 61)).alloc (.cells #[.string ⟨#[]⟩, .int .i64 0, .int .i64 0, .int .i64 0, .string ⟨#[]⟩, .int .i64 0, .string ⟨#[]⟩, .int .i64 0, .string ⟨#[]⟩] 50) = w1 at HS HB ⊢
  obtain ⟨gA, hgA⟩ : ∃ g, g = w.heap.size := ⟨_, rfl⟩
  obtain ⟨gR, hgR⟩ : ∃ g, g = w.heap.size + 1 := ⟨_, rfl⟩
  rw [← hgR] at HS ⊢
  have HS' : Aside0 (St w.heap.size w1 (Blk gA #[.int .u8 a.f0, .int .u8 a.f1, .int .u8 a.f2, .int .u8 a.f3, .int .u8 a.f4, .int .u8 a.f5, .int .u8 a.f6, .int .u8 a.f7] 61 :: Blk gR #[.string ⟨#[]⟩, .int .i64 0, .int .i64 0, .int .i64 0, .string ⟨#[]⟩, .int .i64 0, .string ⟨#[]⟩, .int .i64 0, .string ⟨#[]⟩] 50 :: [])) := ⟨by rw [hgA]; exact HS.out⟩
  rw [← hgA] at ⊢
  clear HS
  have HS := HS'
  clear HS' hgA hgR
  go_cut [1, 2, 3] (fun v1 v2 v3 wc => ∃ gE, v1 = .pointer (some ⟨gA, 0, none⟩) ∧ v2 = .pointer (some ⟨gR, 0, none⟩) ∧ v3 = .pointer (some ⟨gE, 0, none⟩) ∧ Aside0 (St w.heap.size wc (Blk gA #[.int .u8 a.f0, .int .u8 a.f1, .int .u8 a.f2, .int .u8 a.f3, .int .u8 a.f4, .int .u8 a.f5, .int .u8 a.f6, .int .u8 a.f7] 61 :: Blk gE #[.string (rdOf ByteArray.empty ppl (n0 : Int)), .int .i64 (1 + (n1 : Int)), .int .i64 (n2 : Int), .int .i64 (1 + (n3 : Int)), .string ⟨#[]⟩, .int .i64 0, .string ⟨#[]⟩, .int .i64 0, .string ⟨#[]⟩] 50 :: Blk gR #[.string ⟨#[]⟩, .int .i64 0, .int .i64 0, .int .i64 0, .string ⟨#[]⟩, .int .i64 0, .string ⟨#[]⟩, .int .i64 0, .string ⟨#[]⟩] 50 :: [])) ∧ Aside0 (Below w.heap.size w wc))
  case first =>
    have n0_ := Aside0.mk (HS.out.drew); have n1_ := Aside0.mk (HB.out.drew); clear HS HB; have HS := n0_; have HB := n1_; clear n0_ n1_
    refine start_ (n := 24) (S := fun w' => w'.cell? ⟨gA, 0, none⟩ = some (.int .u8 a.f0) ∧ w'.cell? ⟨gA, 1, none⟩ = some (.int .u8 a.f1) ∧ w'.cell? ⟨gA, 2, none⟩ = some (.int .u8 a.f2) ∧ w'.cell? ⟨gA, 3, none⟩ = some (.int .u8 a.f3)) (ds := [23]) (tfs true [0, 24]).toArray (by kernel_rfl) rfl rfl ⟨((HS.out.pick 0 rfl).cell 0).trans rfl, ((HS.out.pick 0 rfl).cell 1).trans rfl, ((HS.out.pick 0 rfl).cell 2).trans rfl, ((HS.out.pick 0 rfl).cell 3).trans rfl⟩ (fun hHeld => ?_); refine with_tabW evt.tab1 evt.bits1 (fun HT_ HW_ => ?_)
    generalize w1.drew = w2 at HS HB hHeld ⊢
    refine pU 1 5 (tfs true [0, 1, 1, 22]).toArray rfl rfl HT_ ?_
    refine pU 6 10 (tfs true [0, 1, 1, 4, 1, 17]).toArray rfl rfl HT_ ?_
    refine pU 12 16 (tfs true [0, 1, 1, 4, 1, 5, 1, 11]).toArray rfl rfl HT_ ?_
    refine pU 16 20 (tfs true [0, 1, 1, 4, 1, 5, 1, 3, 1, 7]).toArray rfl rfl HT_ ?_
    refine tK 2 6 (tfs true [0, 1, 2, 3, 1, 5, 1, 3, 1, 7]).toArray rfl rfl HT_ HW_ hHeld ?_ (by rintro w' ⟨s0, s1, s2, s3⟩; go_simp; with_reducible rfl)
    refine pU 3 7 (tfs true [0, 1, 3, 2, 1, 5, 1, 3, 1, 7]).toArray rfl rfl HT_ ?_
    refine tK 7 11 (tfs true [0, 1, 3, 2, 2, 4, 1, 3, 1, 7]).toArray rfl rfl HT_ HW_ hHeld ?_ (by rintro w' ⟨s0, s1, s2, s3⟩; go_simp; with_reducible rfl)
    refine pU 8 12 (tfs true [0, 1, 3, 2, 3, 3, 1, 3, 1, 7]).toArray rfl rfl HT_ ?_
    refine pU 9 13 (tfs true [0, 1, 3, 2, 4, 2, 1, 3, 1, 7]).toArray rfl rfl HT_ ?_
    refine pU 10 14 (tfs true [0, 1, 3, 2, 5, 1, 1, 3, 1, 7]).toArray rfl rfl HT_ ?_
    refine tK 13 17 (tfs true [0, 1, 3, 2, 5, 1, 2, 2, 1, 7]).toArray rfl rfl HT_ HW_ hHeld ?_ (by rintro w' ⟨s0, s1, s2, s3⟩; go_simp; with_reducible rfl)
    refine pU 14 18 (tfs true [0, 1, 3, 2, 5, 1, 3, 1, 1, 7]).toArray rfl rfl HT_ ?_
    refine pU 15 19 (tfs true [0, 1, 3, 2, 5, 1, 5, 7]).toArray rfl rfl HT_ ?_
    refine tK 17 21 (tfs true [0, 1, 3, 2, 5, 1, 6, 6]).toArray rfl rfl HT_ HW_ hHeld ?_ (by rintro w' ⟨s0, s1, s2, s3⟩; go_simp; with_reducible rfl)
    refine pU 18 22 (tfs true [0, 1, 3, 2, 5, 1, 7, 5]).toArray rfl rfl HT_ ?_
    refine pU 19 23 (tfs true [0, 1, 3, 2, 5, 1, 8, 4]).toArray rfl rfl HT_ ?_
    refine pU 20 24 (tfs true [0, 1, 3, 2, 5, 1, 9, 3]).toArray rfl rfl HT_ ?_
    refine two_ (i := 0) (j := 22) (Ni := some 4) (Nj := some 3) (tfs true [4, 2, 5, 1, 9, 3]).toArray (tfs true [0, 1, 3, 2, 5, 1, 9, 1, 1, 1]).toArray rfl rfl rfl rfl (two_of HT_.out (by kernel_rfl)) (by decide) (by decide) (fun K hK => ?_) (fun K hK => ?_)
    ·
      refine goes_ Tryz.func17 (by kernel_rfl) rfl #[] (by rfl) rfl rfl (by first | rfl | simp) ?_
      with_reducible refine (sleuthlaw51_people.calls ppl _ ppl_ok).mono ?_
      rintro r_ wp2 ⟨vp, rfl, hr, hb⟩
      refine ⟨_, rfl, ?_⟩
      have n0_ := Aside0.mk ((((HS.out.made hr hb).pick 2 rfl).pick 2 rfl)); have n1_ := Aside0.mk (below_step' HB.out HS.out.size hb); clear HS HB; have HS := n0_; have HB := n1_; clear n0_ n1_; (try simp only [List.eraseIdx_cons_succ, List.eraseIdx_cons_zero] at HS)
      clear hr hb
      obtain ⟨gw, cw, ew, _⟩ := St.row_some flatS (HS.out.pick 2 rfl) (by decide)
      subst ew
      refine hK.out _ _ ⟨((HS.out.pick 0 rfl).cell 0).trans rfl, ((HS.out.pick 0 rfl).cell 1).trans rfl, ((HS.out.pick 0 rfl).cell 2).trans rfl, ((HS.out.pick 0 rfl).cell 3).trans rfl⟩ (fun hHeld => ?_)
      clear hK K
      refine norm_ (a' := ?_) ?_ ?_
      rotate_left
      · show Act.put _ (some 4) _ = _
        simp only [Act.put, List.setIfInBounds_toArray, List.set_cons_zero, List.set_cons_succ, i64_w, i32_w]
        rfl
      refine pU 4 8 (tfs true [5, 1, 5, 1, 9, 3]).toArray rfl rfl HT_ ?_
      refine two_ (i := 5) (j := 22) (Ni := some 9) (Nj := some 3) (tfs true [11, 1, 9, 3]).toArray (tfs true [5, 1, 5, 1, 9, 1, 1, 1]).toArray rfl rfl rfl rfl (two_of HT_.out (by kernel_rfl)) (by decide) (by decide) (fun K hK => ?_) (fun K hK => ?_)
      ·
        have hx := nm_cell (HS.out.pick 2 rfl) n0 hn0.out
        refine load_step (by rfl) (v := .string (rdOf ByteArray.empty ppl (n0 : Int))) (by first | (go_simp; done) | (go_simp; with_reducible rfl)) ?_
        clear hx
        refine hK.out _ _ ⟨((HS.out.pick 0 rfl).cell 0).trans rfl, ((HS.out.pick 0 rfl).cell 1).trans rfl, ((HS.out.pick 0 rfl).cell 2).trans rfl, ((HS.out.pick 0 rfl).cell 3).trans rfl⟩ (fun hHeld => ?_)
        clear hK K
        refine norm_ (a' := ?_) ?_ ?_
        rotate_left
        · show Act.put _ (some 9) _ = _
          simp only [Act.put, List.setIfInBounds_toArray, List.set_cons_zero, List.set_cons_succ, i64_w, i32_w]
          rfl
        refine pU 11 15 (tfs true [21, 3]).toArray rfl rfl HT_ ?_
        refine pU 21 25 (tfs true [22, 2]).toArray rfl rfl HT_ ?_
        refine one_ (i := 22) (N := some 3) (tfs true [23, 1]).toArray rfl rfl (one_of HT_.out (by kernel_rfl)) (by decide) (fun K hK => ?_)
        refine Sep.box_step (by rfl) (Nt := 3) rfl (cs := #[.string ⟨#[]⟩, .int .i64 0, .int .i64 0, .int .i64 0, .string ⟨#[]⟩, .int .i64 0, .string ⟨#[]⟩, .int .i64 0, .string ⟨#[]⟩]) (t := 50) (by first | (go_simp; done) | (go_simp; rfl)) ?_
        intro gE hg we hbox hb
        have n0_ := Aside0.mk (((((HS.out.box hg hbox hb).pick 3 rfl).pick 3 rfl).pick 3 rfl)); have n1_ := Aside0.mk (below_step' HB.out HS.out.size hb); clear HS HB; have HS := n0_; have HB := n1_; clear n0_ n1_; (try simp only [List.eraseIdx_cons_succ, List.eraseIdx_cons_zero] at HS)
        clear hb hbox hg
        refine hK.out _ _ ⟨((HS.out.pick 0 rfl).cell 0).trans rfl, ((HS.out.pick 0 rfl).cell 1).trans rfl, ((HS.out.pick 0 rfl).cell 2).trans rfl, ((HS.out.pick 0 rfl).cell 3).trans rfl⟩ (fun hHeld => ?_)
        clear hK K
        refine norm_ (a' := ?_) ?_ ?_
        rotate_left
        · show Act.put _ (some 3) _ = _
          simp only [Act.put, List.setIfInBounds_toArray, List.set_cons_zero, List.set_cons_succ, i64_w, i32_w]
          rfl
        refine last_ (i := 23) (N := none) (tfs true [24]).toArray rfl rfl (one_of HT_.out (by kernel_rfl)) (by decide) (fun K hK => ?_)
        have qc0 := ((HS.out.pick 3 rfl).cell 0).trans (show _ = some (.string ⟨#[]⟩) from rfl); have qf0 := (HS.out.pick 3 rfl).frozen 0
        have qc1 := ((HS.out.pick 3 rfl).cell 1).trans (show _ = some (.int .i64 0) from rfl); have qf1 := (HS.out.pick 3 rfl).frozen 1
        have qc2 := ((HS.out.pick 3 rfl).cell 2).trans (show _ = some (.int .i64 0) from rfl); have qf2 := (HS.out.pick 3 rfl).frozen 2
        have qc3 := ((HS.out.pick 3 rfl).cell 3).trans (show _ = some (.int .i64 0) from rfl); have qf3 := (HS.out.pick 3 rfl).frozen 3
        have qc4 := ((HS.out.pick 3 rfl).cell 4).trans (show _ = some (.string ⟨#[]⟩) from rfl); have qf4 := (HS.out.pick 3 rfl).frozen 4
        have qc5 := ((HS.out.pick 3 rfl).cell 5).trans (show _ = some (.int .i64 0) from rfl); have qf5 := (HS.out.pick 3 rfl).frozen 5
        have qc6 := ((HS.out.pick 3 rfl).cell 6).trans (show _ = some (.string ⟨#[]⟩) from rfl); have qf6 := (HS.out.pick 3 rfl).frozen 6
        have qc7 := ((HS.out.pick 3 rfl).cell 7).trans (show _ = some (.int .i64 0) from rfl); have qf7 := (HS.out.pick 3 rfl).frozen 7
        have qc8 := ((HS.out.pick 3 rfl).cell 8).trans (show _ = some (.string ⟨#[]⟩) from rfl); have qf8 := (HS.out.pick 3 rfl).frozen 8
        refine skip_ (w1 := ?_) (by rfl) rfl ?_ ?_
        rotate_left
        · go_simp
          rfl
        clear qc0 qf0 qc1 qf1 qc2 qf2 qc3 qf3 qc4 qf4 qc5 qf5 qc6 qf6 qc7 qf7 qc8 qf8
        have s9 := set9 (.string (rdOf ByteArray.empty ppl (n0 : Int))) (.int .i64 (1 + (n1 : Int))) (.int .i64 (n2 : Int)) (.int .i64 (1 + (n3 : Int))) (.string ⟨#[]⟩) (.int .i64 0) (.string ⟨#[]⟩) (.int .i64 0) (.string ⟨#[]⟩) (HS.out.pick 3 rfl) HB.out
        have n0_ := Aside0.mk (((((s9.1.pick 3 rfl).pick 3 rfl).pick 2 rfl).pick 3 rfl)); have n1_ := Aside0.mk (s9.2); clear HS HB; have HS := n0_; have HB := n1_; clear n0_ n1_; (try simp only [List.eraseIdx_cons_succ, List.eraseIdx_cons_zero] at HS)
        clear s9
        refine hK.out _ _ ?_
        clear hK K
        refine done_ (done_of HT_.out (by kernel_rfl)) ?_
        clear HT_ HW_
        try clear hHeld
        go_wp2
        go_meet
        case rel => exact ⟨gE, rfl, rfl, rfl, ⟨((HS.out.pick 3 rfl).drop)⟩, HB⟩
      ·
        refine Sep.box_step (by rfl) (Nt := 3) rfl (cs := #[.string ⟨#[]⟩, .int .i64 0, .int .i64 0, .int .i64 0, .string ⟨#[]⟩, .int .i64 0, .string ⟨#[]⟩, .int .i64 0, .string ⟨#[]⟩]) (t := 50) (by first | (go_simp; done) | (go_simp; rfl)) ?_
        intro gE hg we hbox hb
        have n0_ := Aside0.mk (((((HS.out.box hg hbox hb).pick 3 rfl).pick 3 rfl).pick 3 rfl)); have n1_ := Aside0.mk (below_step' HB.out HS.out.size hb); clear HS HB; have HS := n0_; have HB := n1_; clear n0_ n1_; (try simp only [List.eraseIdx_cons_succ, List.eraseIdx_cons_zero] at HS)
        clear hb hbox hg
        refine hK.out _ _ ⟨((HS.out.pick 0 rfl).cell 0).trans rfl, ((HS.out.pick 0 rfl).cell 1).trans rfl, ((HS.out.pick 0 rfl).cell 2).trans rfl, ((HS.out.pick 0 rfl).cell 3).trans rfl⟩ (fun hHeld => ?_)
        clear hK K
        refine norm_ (a' := ?_) ?_ ?_
        rotate_left
        · show Act.put _ (some 3) _ = _
          simp only [Act.put, List.setIfInBounds_toArray, List.set_cons_zero, List.set_cons_succ, i64_w, i32_w]
          rfl
        refine one_ (i := 5) (N := some 9) (tfs true [11, 1, 9, 1, 1, 1]).toArray rfl rfl (one_of HT_.out (by kernel_rfl)) (by decide) (fun K hK => ?_)
        have hx := nm_cell (HS.out.pick 2 rfl) n0 hn0.out
        refine load_step (by rfl) (v := .string (rdOf ByteArray.empty ppl (n0 : Int))) (by first | (go_simp; done) | (go_simp; with_reducible rfl)) ?_
        clear hx
        refine hK.out _ _ ⟨((HS.out.pick 0 rfl).cell 0).trans rfl, ((HS.out.pick 0 rfl).cell 1).trans rfl, ((HS.out.pick 0 rfl).cell 2).trans rfl, ((HS.out.pick 0 rfl).cell 3).trans rfl⟩ (fun hHeld => ?_)
        clear hK K
        refine norm_ (a' := ?_) ?_ ?_
        rotate_left
        · show Act.put _ (some 9) _ = _
          simp only [Act.put, List.setIfInBounds_toArray, List.set_cons_zero, List.set_cons_succ, i64_w, i32_w]
          rfl
        refine pU 11 15 (tfs true [21, 1, 1, 1]).toArray rfl rfl HT_ ?_
        refine pU 21 25 (tfs true [23, 1]).toArray rfl rfl HT_ ?_
        refine last_ (i := 23) (N := none) (tfs true [24]).toArray rfl rfl (one_of HT_.out (by kernel_rfl)) (by decide) (fun K hK => ?_)
        have qc0 := ((HS.out.pick 3 rfl).cell 0).trans (show _ = some (.string ⟨#[]⟩) from rfl); have qf0 := (HS.out.pick 3 rfl).frozen 0
        have qc1 := ((HS.out.pick 3 rfl).cell 1).trans (show _ = some (.int .i64 0) from rfl); have qf1 := (HS.out.pick 3 rfl).frozen 1
        have qc2 := ((HS.out.pick 3 rfl).cell 2).trans (show _ = some (.int .i64 0) from rfl); have qf2 := (HS.out.pick 3 rfl).frozen 2
        have qc3 := ((HS.out.pick 3 rfl).cell 3).trans (show _ = some (.int .i64 0) from rfl); have qf3 := (HS.out.pick 3 rfl).frozen 3
        have qc4 := ((HS.out.pick 3 rfl).cell 4).trans (show _ = some (.string ⟨#[]⟩) from rfl); have qf4 := (HS.out.pick 3 rfl).frozen 4
        have qc5 := ((HS.out.pick 3 rfl).cell 5).trans (show _ = some (.int .i64 0) from rfl); have qf5 := (HS.out.pick 3 rfl).frozen 5
        have qc6 := ((HS.out.pick 3 rfl).cell 6).trans (show _ = some (.string ⟨#[]⟩) from rfl); have qf6 := (HS.out.pick 3 rfl).frozen 6
        have qc7 := ((HS.out.pick 3 rfl).cell 7).trans (show _ = some (.int .i64 0) from rfl); have qf7 := (HS.out.pick 3 rfl).frozen 7
        have qc8 := ((HS.out.pick 3 rfl).cell 8).trans (show _ = some (.string ⟨#[]⟩) from rfl); have qf8 := (HS.out.pick 3 rfl).frozen 8
        refine skip_ (w1 := ?_) (by rfl) rfl ?_ ?_
        rotate_left
        · go_simp
          rfl
        clear qc0 qf0 qc1 qf1 qc2 qf2 qc3 qf3 qc4 qf4 qc5 qf5 qc6 qf6 qc7 qf7 qc8 qf8
        have s9 := set9 (.string (rdOf ByteArray.empty ppl (n0 : Int))) (.int .i64 (1 + (n1 : Int))) (.int .i64 (n2 : Int)) (.int .i64 (1 + (n3 : Int))) (.string ⟨#[]⟩) (.int .i64 0) (.string ⟨#[]⟩) (.int .i64 0) (.string ⟨#[]⟩) (HS.out.pick 3 rfl) HB.out
        have n0_ := Aside0.mk (((((s9.1.pick 3 rfl).pick 3 rfl).pick 2 rfl).pick 3 rfl)); have n1_ := Aside0.mk (s9.2); clear HS HB; have HS := n0_; have HB := n1_; clear n0_ n1_; (try simp only [List.eraseIdx_cons_succ, List.eraseIdx_cons_zero] at HS)
        clear s9
        refine hK.out _ _ ?_
        clear hK K
        refine done_ (done_of HT_.out (by kernel_rfl)) ?_
        clear HT_ HW_
        try clear hHeld
        go_wp2
        go_meet
        case rel => exact ⟨gE, rfl, rfl, rfl, ⟨((HS.out.pick 3 rfl).drop)⟩, HB⟩
    ·
      refine Sep.box_step (by rfl) (Nt := 3) rfl (cs := #[.string ⟨#[]⟩, .int .i64 0, .int .i64 0, .int .i64 0, .string ⟨#[]⟩, .int .i64 0, .string ⟨#[]⟩, .int .i64 0, .string ⟨#[]⟩]) (t := 50) (by first | (go_simp; done) | (go_simp; rfl)) ?_
      intro gE hg we hbox hb
      have n0_ := Aside0.mk ((((HS.out.box hg hbox hb).pick 2 rfl).pick 2 rfl)); have n1_ := Aside0.mk (below_step' HB.out HS.out.size hb); clear HS HB; have HS := n0_; have HB := n1_; clear n0_ n1_; (try simp only [List.eraseIdx_cons_succ, List.eraseIdx_cons_zero] at HS)
      clear hb hbox hg
      refine hK.out _ _ ⟨((HS.out.pick 0 rfl).cell 0).trans rfl, ((HS.out.pick 0 rfl).cell 1).trans rfl, ((HS.out.pick 0 rfl).cell 2).trans rfl, ((HS.out.pick 0 rfl).cell 3).trans rfl⟩ (fun hHeld => ?_)
      clear hK K
      refine norm_ (a' := ?_) ?_ ?_
      rotate_left
      · show Act.put _ (some 3) _ = _
        simp only [Act.put, List.setIfInBounds_toArray, List.set_cons_zero, List.set_cons_succ, i64_w, i32_w]
        rfl
      refine one_ (i := 0) (N := some 4) (tfs true [4, 2, 5, 1, 9, 1, 1, 1]).toArray rfl rfl (one_of HT_.out (by kernel_rfl)) (by decide) (fun K hK => ?_)
      refine goes_ Tryz.func17 (by kernel_rfl) rfl #[] (by rfl) rfl rfl (by first | rfl | simp) ?_
      with_reducible refine (sleuthlaw51_people.calls ppl _ ppl_ok).mono ?_
      rintro r_ wp3 ⟨vp, rfl, hr, hb⟩
      refine ⟨_, rfl, ?_⟩
      have n0_ := Aside0.mk (((((HS.out.made hr hb).pick 3 rfl).pick 3 rfl).pick 3 rfl)); have n1_ := Aside0.mk (below_step' HB.out HS.out.size hb); clear HS HB; have HS := n0_; have HB := n1_; clear n0_ n1_; (try simp only [List.eraseIdx_cons_succ, List.eraseIdx_cons_zero] at HS)
      clear hr hb
      obtain ⟨gw, cw, ew, _⟩ := St.row_some flatS (HS.out.pick 3 rfl) (by decide)
      subst ew
      refine hK.out _ _ ⟨((HS.out.pick 0 rfl).cell 0).trans rfl, ((HS.out.pick 0 rfl).cell 1).trans rfl, ((HS.out.pick 0 rfl).cell 2).trans rfl, ((HS.out.pick 0 rfl).cell 3).trans rfl⟩ (fun hHeld => ?_)
      clear hK K
      refine norm_ (a' := ?_) ?_ ?_
      rotate_left
      · show Act.put _ (some 4) _ = _
        simp only [Act.put, List.setIfInBounds_toArray, List.set_cons_zero, List.set_cons_succ, i64_w, i32_w]
        rfl
      refine pU 4 8 (tfs true [5, 1, 5, 1, 9, 1, 1, 1]).toArray rfl rfl HT_ ?_
      refine one_ (i := 5) (N := some 9) (tfs true [11, 1, 9, 1, 1, 1]).toArray rfl rfl (one_of HT_.out (by kernel_rfl)) (by decide) (fun K hK => ?_)
      have hx := nm_cell (HS.out.pick 3 rfl) n0 hn0.out
      refine load_step (by rfl) (v := .string (rdOf ByteArray.empty ppl (n0 : Int))) (by first | (go_simp; done) | (go_simp; with_reducible rfl)) ?_
      clear hx
      refine hK.out _ _ ⟨((HS.out.pick 0 rfl).cell 0).trans rfl, ((HS.out.pick 0 rfl).cell 1).trans rfl, ((HS.out.pick 0 rfl).cell 2).trans rfl, ((HS.out.pick 0 rfl).cell 3).trans rfl⟩ (fun hHeld => ?_)
      clear hK K
      refine norm_ (a' := ?_) ?_ ?_
      rotate_left
      · show Act.put _ (some 9) _ = _
        simp only [Act.put, List.setIfInBounds_toArray, List.set_cons_zero, List.set_cons_succ, i64_w, i32_w]
        rfl
      refine pU 11 15 (tfs true [21, 1, 1, 1]).toArray rfl rfl HT_ ?_
      refine pU 21 25 (tfs true [23, 1]).toArray rfl rfl HT_ ?_
      refine last_ (i := 23) (N := none) (tfs true [24]).toArray rfl rfl (one_of HT_.out (by kernel_rfl)) (by decide) (fun K hK => ?_)
      have qc0 := ((HS.out.pick 2 rfl).cell 0).trans (show _ = some (.string ⟨#[]⟩) from rfl); have qf0 := (HS.out.pick 2 rfl).frozen 0
      have qc1 := ((HS.out.pick 2 rfl).cell 1).trans (show _ = some (.int .i64 0) from rfl); have qf1 := (HS.out.pick 2 rfl).frozen 1
      have qc2 := ((HS.out.pick 2 rfl).cell 2).trans (show _ = some (.int .i64 0) from rfl); have qf2 := (HS.out.pick 2 rfl).frozen 2
      have qc3 := ((HS.out.pick 2 rfl).cell 3).trans (show _ = some (.int .i64 0) from rfl); have qf3 := (HS.out.pick 2 rfl).frozen 3
      have qc4 := ((HS.out.pick 2 rfl).cell 4).trans (show _ = some (.string ⟨#[]⟩) from rfl); have qf4 := (HS.out.pick 2 rfl).frozen 4
      have qc5 := ((HS.out.pick 2 rfl).cell 5).trans (show _ = some (.int .i64 0) from rfl); have qf5 := (HS.out.pick 2 rfl).frozen 5
      have qc6 := ((HS.out.pick 2 rfl).cell 6).trans (show _ = some (.string ⟨#[]⟩) from rfl); have qf6 := (HS.out.pick 2 rfl).frozen 6
      have qc7 := ((HS.out.pick 2 rfl).cell 7).trans (show _ = some (.int .i64 0) from rfl); have qf7 := (HS.out.pick 2 rfl).frozen 7
      have qc8 := ((HS.out.pick 2 rfl).cell 8).trans (show _ = some (.string ⟨#[]⟩) from rfl); have qf8 := (HS.out.pick 2 rfl).frozen 8
      refine skip_ (w1 := ?_) (by rfl) rfl ?_ ?_
      rotate_left
      · go_simp
        rfl
      clear qc0 qf0 qc1 qf1 qc2 qf2 qc3 qf3 qc4 qf4 qc5 qf5 qc6 qf6 qc7 qf7 qc8 qf8
      have s9 := set9 (.string (rdOf ByteArray.empty ppl (n0 : Int))) (.int .i64 (1 + (n1 : Int))) (.int .i64 (n2 : Int)) (.int .i64 (1 + (n3 : Int))) (.string ⟨#[]⟩) (.int .i64 0) (.string ⟨#[]⟩) (.int .i64 0) (.string ⟨#[]⟩) (HS.out.pick 2 rfl) HB.out
      have n0_ := Aside0.mk (((((s9.1.pick 3 rfl).pick 3 rfl).pick 2 rfl).pick 3 rfl)); have n1_ := Aside0.mk (s9.2); clear HS HB; have HS := n0_; have HB := n1_; clear n0_ n1_; (try simp only [List.eraseIdx_cons_succ, List.eraseIdx_cons_zero] at HS)
      clear s9
      refine hK.out _ _ ?_
      clear hK K
      refine done_ (done_of HT_.out (by kernel_rfl)) ?_
      clear HT_ HW_
      try clear hHeld
      go_wp2
      go_meet
      case rel => exact ⟨gE, rfl, rfl, rfl, ⟨((HS.out.pick 3 rfl).drop)⟩, HB⟩
  case rest =>
    clear HS HB
    obtain ⟨gE, rfl, rfl, rfl, HS, HB⟩ := hcut
    clear b0 b1 v1 v1' v2 v3 t0 t1 t2 t3 v3'
    have hk : n3 = 0 ∨ n3 = 1 ∨ n3 = 2 ∨ n3 = 3 ∨ n3 = 4 ∨ n3 = 5 ∨ n3 = 6 ∨ n3 = 7 ∨ n3 = 8 := by have := hn3.out; omega
    rcases hk with hk | hk | hk | hk | hk | hk | hk | hk | hk
    · subst hk
      obtain ⟨n7, t7, hn7, z7⟩ := tmod_lt a.f7 hu.out.r7 3 (by decide)
      replace t7 : a.f7.tmod 3 = (n7 : Int) := t7
      replace z7 : Aside0 (a.f7 % 3 = (n7 : Int)) := ⟨z7⟩
      have bb7 : ((n7 : Int) < (3 : Int)) = True := eq_true (Int.ofNat_lt.mpr hn7)
      have bt : ((n7 : Int) < (txts.length : Int)) = True := eq_true (Int.ofNat_lt.mpr hn7)
      have hd : Aside0 (decE a = ⟨⟨rdOf ByteArray.empty ppl (n0 : Int), 1 + (n1 : Int)⟩, (n2 : Int), 1, z33, e0, 0, rdOf ByteArray.empty txts (n7 : Int)⟩) := ⟨by have z := z3.out; unfold decE nm3 tx3; rw [if_pos (by omega), z0.out, z1.out, z2.out, z3.out, z7.out]; rfl⟩
      have y3 : wc.cell? ⟨gE, 3, none⟩ = some (.int .i64 1) := ((HS.out.pick 1 rfl).cell 3).trans rfl
      go_upto_region 13 with (first | ((with_reducible refine gate_dst (N := 32) rfl ?_); refine S_lit Kd.string 9 ?hg32 (Nt := 32) ?hd32 (xs := txts) (inner := [.string ⟨#[100, 105, 115, 107, 32, 102, 117, 108, 108]⟩, .string ⟨#[115, 108, 111, 119]⟩, .string ⟨#[120]⟩]) ?hr32 ?hp32 HS.out (by decide) ?_; (case hd32 => rfl); (case hg32 => rfl); (case hr32 => first | (go_simp; done) | (go_simp; rfl)); (case hp32 => exact Reps.one (show Kd.M Kd.string _ _ _ ⟨#[100, 105, 115, 107, 32, 102, 117, 108, 108]⟩ [.string ⟨#[100, 105, 115, 107, 32, 102, 117, 108, 108]⟩] from rfl) (Reps.one (show Kd.M Kd.string _ _ _ ⟨#[115, 108, 111, 119]⟩ [.string ⟨#[115, 108, 111, 119]⟩] from rfl) (Reps.one (show Kd.M Kd.string _ _ _ ⟨#[120]⟩ [.string ⟨#[120]⟩] from rfl) (Reps.none _ _)))); intro vt w3 hs hb; have n0_ := Aside0.mk ((((hs.pick 3 rfl).pick 3 rfl).pick 3 rfl)); have n1_ := Aside0.mk (below_step' HB.out HS.out.size hb); clear HS HB; have HS := n0_; have HB := n1_; clear n0_ n1_; (try simp only [List.eraseIdx_cons_succ, List.eraseIdx_cons_zero] at HS); clear hs hb y3; obtain ⟨gt, ct, et, _⟩ := St.row_some flatS (HS.out.pick 3 rfl) (by decide); subst et; have xt := tx_cell (HS.out.pick 3 rfl) n7 hn7; have y7 := ((HS.out.pick 0 rfl).cell 7).trans (show _ = some (.int .u8 a.f7) from rfl); have e8 := ((HS.out.pick 1 rfl).cell 8).trans (show _ = some (.string ⟨#[]⟩) from rfl); have f8 := (HS.out.pick 1 rfl).frozen 8))
      have h1 := (HS.out.pick 1 rfl).set 8 (.string (rdOf ByteArray.empty txts (n7 : Int))) #[.string (rdOf ByteArray.empty ppl (n0 : Int)), .int .i64 (1 + (n1 : Int)), .int .i64 (n2 : Int), .int .i64 1, .string ⟨#[]⟩, .int .i64 0, .string ⟨#[]⟩, .int .i64 0, .string (rdOf ByteArray.empty txts (n7 : Int))] rfl
      have h2 := (HS.out.pick 1 rfl).below_set (i := 8) (u := .string (rdOf ByteArray.empty txts (n7 : Int))) HB.out
      generalize World.setCell _ _ _ = w4 at h1 h2 ⊢
      clear xt y7 e8 f8
      have n0_ := Aside0.mk (h1.swap); have n1_ := Aside0.mk (h2); clear HS HB; have HS := n0_; have HB := n1_; clear n0_ n1_; (try simp only [List.eraseIdx_cons_succ, List.eraseIdx_cons_zero] at HS)
      clear h1 h2
      obtain ⟨p0, p1, p2, p3, p4, p5, p6, p7, p8⟩ := cells9 (HS.out.pick 1 rfl)
      obtain ⟨c0, c1, c2, c3, c4, c5, c6, c7, c8⟩ := cells9 (HS.out.pick 2 rfl)
      obtain ⟨f0, f1, f2, f3, f4, f5, f6, f7, f8⟩ := frozen9 (HS.out.pick 2 rfl)
      go_wp2
      have s9 := set9 (.string (rdOf ByteArray.empty ppl (n0 : Int))) (.int .i64 (1 + (n1 : Int))) (.int .i64 (n2 : Int)) (.int .i64 1) (.string ⟨#[]⟩) (.int .i64 0) (.string ⟨#[]⟩) (.int .i64 0) (.string (rdOf ByteArray.empty txts (n7 : Int))) (HS.out.pick 2 rfl) HB.out
      refine bodyPost_ret (results_cell_row rfl _ _ gR 50 _ (0, 0) _ rfl s9.1.blk Tryz.underlying50 rfl (by kernel_rfl)) rfl ?_
      exact ⟨by rw [hd.out]; rfl, s9.2⟩
    · subst hk
      obtain ⟨n7, t7, hn7, z7⟩ := tmod_lt a.f7 hu.out.r7 3 (by decide)
      replace t7 : a.f7.tmod 3 = (n7 : Int) := t7
      replace z7 : Aside0 (a.f7 % 3 = (n7 : Int)) := ⟨z7⟩
      have bb7 : ((n7 : Int) < (3 : Int)) = True := eq_true (Int.ofNat_lt.mpr hn7)
      have bt : ((n7 : Int) < (txts.length : Int)) = True := eq_true (Int.ofNat_lt.mpr hn7)
      have hd : Aside0 (decE a = ⟨⟨rdOf ByteArray.empty ppl (n0 : Int), 1 + (n1 : Int)⟩, (n2 : Int), 2, z33, e0, 0, rdOf ByteArray.empty txts (n7 : Int)⟩) := ⟨by have z := z3.out; unfold decE nm3 tx3; rw [if_pos (by omega), z0.out, z1.out, z2.out, z3.out, z7.out]; rfl⟩
      have y3 : wc.cell? ⟨gE, 3, none⟩ = some (.int .i64 2) := ((HS.out.pick 1 rfl).cell 3).trans rfl
      go_upto_region 13 with (first | ((with_reducible refine gate_dst (N := 32) rfl ?_); refine S_lit Kd.string 9 ?hg32 (Nt := 32) ?hd32 (xs := txts) (inner := [.string ⟨#[100, 105, 115, 107, 32, 102, 117, 108, 108]⟩, .string ⟨#[115, 108, 111, 119]⟩, .string ⟨#[120]⟩]) ?hr32 ?hp32 HS.out (by decide) ?_; (case hd32 => rfl); (case hg32 => rfl); (case hr32 => first | (go_simp; done) | (go_simp; rfl)); (case hp32 => exact Reps.one (show Kd.M Kd.string _ _ _ ⟨#[100, 105, 115, 107, 32, 102, 117, 108, 108]⟩ [.string ⟨#[100, 105, 115, 107, 32, 102, 117, 108, 108]⟩] from rfl) (Reps.one (show Kd.M Kd.string _ _ _ ⟨#[115, 108, 111, 119]⟩ [.string ⟨#[115, 108, 111, 119]⟩] from rfl) (Reps.one (show Kd.M Kd.string _ _ _ ⟨#[120]⟩ [.string ⟨#[120]⟩] from rfl) (Reps.none _ _)))); intro vt w3 hs hb; have n0_ := Aside0.mk ((((hs.pick 3 rfl).pick 3 rfl).pick 3 rfl)); have n1_ := Aside0.mk (below_step' HB.out HS.out.size hb); clear HS HB; have HS := n0_; have HB := n1_; clear n0_ n1_; (try simp only [List.eraseIdx_cons_succ, List.eraseIdx_cons_zero] at HS); clear hs hb y3; obtain ⟨gt, ct, et, _⟩ := St.row_some flatS (HS.out.pick 3 rfl) (by decide); subst et; have xt := tx_cell (HS.out.pick 3 rfl) n7 hn7; have y7 := ((HS.out.pick 0 rfl).cell 7).trans (show _ = some (.int .u8 a.f7) from rfl); have e8 := ((HS.out.pick 1 rfl).cell 8).trans (show _ = some (.string ⟨#[]⟩) from rfl); have f8 := (HS.out.pick 1 rfl).frozen 8))
      have h1 := (HS.out.pick 1 rfl).set 8 (.string (rdOf ByteArray.empty txts (n7 : Int))) #[.string (rdOf ByteArray.empty ppl (n0 : Int)), .int .i64 (1 + (n1 : Int)), .int .i64 (n2 : Int), .int .i64 2, .string ⟨#[]⟩, .int .i64 0, .string ⟨#[]⟩, .int .i64 0, .string (rdOf ByteArray.empty txts (n7 : Int))] rfl
      have h2 := (HS.out.pick 1 rfl).below_set (i := 8) (u := .string (rdOf ByteArray.empty txts (n7 : Int))) HB.out
      generalize World.setCell _ _ _ = w4 at h1 h2 ⊢
      clear xt y7 e8 f8
      have n0_ := Aside0.mk (h1.swap); have n1_ := Aside0.mk (h2); clear HS HB; have HS := n0_; have HB := n1_; clear n0_ n1_; (try simp only [List.eraseIdx_cons_succ, List.eraseIdx_cons_zero] at HS)
      clear h1 h2
      obtain ⟨p0, p1, p2, p3, p4, p5, p6, p7, p8⟩ := cells9 (HS.out.pick 1 rfl)
      obtain ⟨c0, c1, c2, c3, c4, c5, c6, c7, c8⟩ := cells9 (HS.out.pick 2 rfl)
      obtain ⟨f0, f1, f2, f3, f4, f5, f6, f7, f8⟩ := frozen9 (HS.out.pick 2 rfl)
      go_wp2
      have s9 := set9 (.string (rdOf ByteArray.empty ppl (n0 : Int))) (.int .i64 (1 + (n1 : Int))) (.int .i64 (n2 : Int)) (.int .i64 2) (.string ⟨#[]⟩) (.int .i64 0) (.string ⟨#[]⟩) (.int .i64 0) (.string (rdOf ByteArray.empty txts (n7 : Int))) (HS.out.pick 2 rfl) HB.out
      refine bodyPost_ret (results_cell_row rfl _ _ gR 50 _ (0, 0) _ rfl s9.1.blk Tryz.underlying50 rfl (by kernel_rfl)) rfl ?_
      exact ⟨by rw [hd.out]; rfl, s9.2⟩
    · subst hk
      obtain ⟨n7, t7, hn7, z7⟩ := tmod_lt a.f7 hu.out.r7 3 (by decide)
      replace t7 : a.f7.tmod 3 = (n7 : Int) := t7
      replace z7 : Aside0 (a.f7 % 3 = (n7 : Int)) := ⟨z7⟩
      have bb7 : ((n7 : Int) < (3 : Int)) = True := eq_true (Int.ofNat_lt.mpr hn7)
      have bt : ((n7 : Int) < (txts.length : Int)) = True := eq_true (Int.ofNat_lt.mpr hn7)
      have hd : Aside0 (decE a = ⟨⟨rdOf ByteArray.empty ppl (n0 : Int), 1 + (n1 : Int)⟩, (n2 : Int), 3, z33, e0, 0, rdOf ByteArray.empty txts (n7 : Int)⟩) := ⟨by have z := z3.out; unfold decE nm3 tx3; rw [if_pos (by omega), z0.out, z1.out, z2.out, z3.out, z7.out]; rfl⟩
      have y3 : wc.cell? ⟨gE, 3, none⟩ = some (.int .i64 3) := ((HS.out.pick 1 rfl).cell 3).trans rfl
      go_upto_region 13 with (first | ((with_reducible refine gate_dst (N := 32) rfl ?_); refine S_lit Kd.string 9 ?hg32 (Nt := 32) ?hd32 (xs := txts) (inner := [.string ⟨#[100, 105, 115, 107, 32, 102, 117, 108, 108]⟩, .string ⟨#[115, 108, 111, 119]⟩, .string ⟨#[120]⟩]) ?hr32 ?hp32 HS.out (by decide) ?_; (case hd32 => rfl); (case hg32 => rfl); (case hr32 => first | (go_simp; done) | (go_simp; rfl)); (case hp32 => exact Reps.one (show Kd.M Kd.string _ _ _ ⟨#[100, 105, 115, 107, 32, 102, 117, 108, 108]⟩ [.string ⟨#[100, 105, 115, 107, 32, 102, 117, 108, 108]⟩] from rfl) (Reps.one (show Kd.M Kd.string _ _ _ ⟨#[115, 108, 111, 119]⟩ [.string ⟨#[115, 108, 111, 119]⟩] from rfl) (Reps.one (show Kd.M Kd.string _ _ _ ⟨#[120]⟩ [.string ⟨#[120]⟩] from rfl) (Reps.none _ _)))); intro vt w3 hs hb; have n0_ := Aside0.mk ((((hs.pick 3 rfl).pick 3 rfl).pick 3 rfl)); have n1_ := Aside0.mk (below_step' HB.out HS.out.size hb); clear HS HB; have HS := n0_; have HB := n1_; clear n0_ n1_; (try simp only [List.eraseIdx_cons_succ, List.eraseIdx_cons_zero] at HS); clear hs hb y3; obtain ⟨gt, ct, et, _⟩ := St.row_some flatS (HS.out.pick 3 rfl) (by decide); subst et; have xt := tx_cell (HS.out.pick 3 rfl) n7 hn7; have y7 := ((HS.out.pick 0 rfl).cell 7).trans (show _ = some (.int .u8 a.f7) from rfl); have e8 := ((HS.out.pick 1 rfl).cell 8).trans (show _ = some (.string ⟨#[]⟩) from rfl); have f8 := (HS.out.pick 1 rfl).frozen 8))
      have h1 := (HS.out.pick 1 rfl).set 8 (.string (rdOf ByteArray.empty txts (n7 : Int))) #[.string (rdOf ByteArray.empty ppl (n0 : Int)), .int .i64 (1 + (n1 : Int)), .int .i64 (n2 : Int), .int .i64 3, .string ⟨#[]⟩, .int .i64 0, .string ⟨#[]⟩, .int .i64 0, .string (rdOf ByteArray.empty txts (n7 : Int))] rfl
      have h2 := (HS.out.pick 1 rfl).below_set (i := 8) (u := .string (rdOf ByteArray.empty txts (n7 : Int))) HB.out
      generalize World.setCell _ _ _ = w4 at h1 h2 ⊢
      clear xt y7 e8 f8
      have n0_ := Aside0.mk (h1.swap); have n1_ := Aside0.mk (h2); clear HS HB; have HS := n0_; have HB := n1_; clear n0_ n1_; (try simp only [List.eraseIdx_cons_succ, List.eraseIdx_cons_zero] at HS)
      clear h1 h2
      obtain ⟨p0, p1, p2, p3, p4, p5, p6, p7, p8⟩ := cells9 (HS.out.pick 1 rfl)
      obtain ⟨c0, c1, c2, c3, c4, c5, c6, c7, c8⟩ := cells9 (HS.out.pick 2 rfl)
      obtain ⟨f0, f1, f2, f3, f4, f5, f6, f7, f8⟩ := frozen9 (HS.out.pick 2 rfl)
      go_wp2
      have s9 := set9 (.string (rdOf ByteArray.empty ppl (n0 : Int))) (.int .i64 (1 + (n1 : Int))) (.int .i64 (n2 : Int)) (.int .i64 3) (.string ⟨#[]⟩) (.int .i64 0) (.string ⟨#[]⟩) (.int .i64 0) (.string (rdOf ByteArray.empty txts (n7 : Int))) (HS.out.pick 2 rfl) HB.out
      refine bodyPost_ret (results_cell_row rfl _ _ gR 50 _ (0, 0) _ rfl s9.1.blk Tryz.underlying50 rfl (by kernel_rfl)) rfl ?_
      exact ⟨by rw [hd.out]; rfl, s9.2⟩
    · subst hk
      obtain ⟨n4, t4, hn4, z4⟩ := tmod_lt a.f4 hu.out.r4 3 (by decide)
      replace t4 : a.f4.tmod 3 = (n4 : Int) := t4
      replace z4 : Aside0 (a.f4 % 3 = (n4 : Int)) := ⟨z4⟩
      have bb4 : ((n4 : Int) < (3 : Int)) = True := eq_true (Int.ofNat_lt.mpr hn4)
      have bt : ((n4 : Int) < (ppl.length : Int)) = True := eq_true (Int.ofNat_lt.mpr hn4)
      obtain ⟨q4, m4, tq4, tq5, tq6, tm4, tm5, hm4, zm4⟩ := tdiv_tmod a.f4 hu.out.r4
      replace zm4 := Aside0.mk zm4
      have vm4 := wrap_n m4 _ hm4 (by decide)
      have vm4' := wrap_n1 m4 _ hm4 (by decide)
      have hd : Aside0 (decE a = ⟨⟨rdOf ByteArray.empty ppl (n0 : Int), 1 + (n1 : Int)⟩, (n2 : Int), 4, ⟨rdOf ByteArray.empty ppl (n4 : Int), 1 + (m4 : Int)⟩, e0, 0, e0⟩) := ⟨by have z := z3.out; unfold decE nm3 tx3; rw [if_neg (by omega), if_pos (by omega), z0.out, z1.out, z2.out, z3.out, z4.out, zm4.out]; rfl⟩
      have y3 : wc.cell? ⟨gE, 3, none⟩ = some (.int .i64 4) := ((HS.out.pick 1 rfl).cell 3).trans rfl
      go_upto_region 10 with (fail)
      replace hn4 := Aside0.mk hn4
      clear y3
      have n0_ := Aside0.mk (HS.out.drew); have n1_ := Aside0.mk (HB.out.drew); clear HS HB; have HS := n0_; have HB := n1_; clear n0_ n1_
      refine start_ (n := 15) (S := fun w' => w'.cell? ⟨gA, 4, none⟩ = some (.int .u8 a.f4)) (ds := [14]) (tfs true [0, 15]).toArray (by kernel_rfl) rfl rfl (((HS.out.pick 0 rfl).cell 4).trans rfl) (fun hHeld => ?_); refine with_tabW evt.tab10 evt.bits10 (fun HT_ HW_ => ?_)
      generalize wc.drew = wd at HS HB hHeld ⊢
      refine pU 1 44 (tfs true [0, 1, 1, 13]).toArray rfl rfl HT_ ?_
      refine pU 6 49 (tfs true [0, 1, 1, 4, 1, 8]).toArray rfl rfl HT_ ?_
      refine tK 2 45 (tfs true [0, 1, 2, 3, 1, 8]).toArray rfl rfl HT_ HW_ hHeld ?_ (by rintro w' s0; go_simp; with_reducible rfl)
      refine pU 3 46 (tfs true [0, 1, 3, 2, 1, 8]).toArray rfl rfl HT_ ?_
      refine tK 7 50 (tfs true [0, 1, 3, 2, 2, 7]).toArray rfl rfl HT_ HW_ hHeld ?_ (by rintro w' s0; go_simp; with_reducible rfl)
      refine pU 8 51 (tfs true [0, 1, 3, 2, 3, 6]).toArray rfl rfl HT_ ?_
      refine pU 9 52 (tfs true [0, 1, 3, 2, 4, 5]).toArray rfl rfl HT_ ?_
      refine pU 10 53 (tfs true [0, 1, 3, 2, 5, 4]).toArray rfl rfl HT_ ?_
      refine pU 11 54 (tfs true [0, 1, 3, 2, 6, 3]).toArray rfl rfl HT_ ?_
      refine one_ (i := 0) (N := some 43) (tfs true [4, 2, 6, 3]).toArray rfl rfl (one_of HT_.out (by kernel_rfl)) (by decide) (fun K hK => ?_)
      refine goes_ Tryz.func17 (by kernel_rfl) rfl #[] (by rfl) rfl rfl (by first | rfl | simp) ?_
      with_reducible refine (sleuthlaw51_people.calls ppl _ ppl_ok).mono ?_
      rintro r_ wp3 ⟨vp, rfl, hr, hb⟩
      refine ⟨_, rfl, ?_⟩
      have n0_ := Aside0.mk (((((HS.out.made hr hb).pick 3 rfl).pick 3 rfl).pick 3 rfl)); have n1_ := Aside0.mk (below_step' HB.out HS.out.size hb); clear HS HB; have HS := n0_; have HB := n1_; clear n0_ n1_; (try simp only [List.eraseIdx_cons_succ, List.eraseIdx_cons_zero] at HS)
      clear hr hb
      obtain ⟨gw, cw, ew, _⟩ := St.row_some flatS (HS.out.pick 3 rfl) (by decide)
      subst ew
      refine hK.out _ _ (((HS.out.pick 0 rfl).cell 4).trans rfl) (fun hHeld => ?_)
      clear hK K
      refine norm_ (a' := ?_) ?_ ?_
      rotate_left
      · show Act.put _ (some 43) _ = _
        simp only [Act.put, List.setIfInBounds_toArray, List.set_cons_zero, List.set_cons_succ, i64_w, i32_w]
        rfl
      refine pU 4 47 (tfs true [5, 1, 6, 3]).toArray rfl rfl HT_ ?_
      refine one_ (i := 5) (N := some 48) (tfs true [12, 3]).toArray rfl rfl (one_of HT_.out (by kernel_rfl)) (by decide) (fun K hK => ?_)
      have hx := nm_cell (HS.out.pick 3 rfl) n4 hn4.out
      refine load_step (by rfl) (v := .string (rdOf ByteArray.empty ppl (n4 : Int))) (by first | (go_simp; done) | (go_simp; with_reducible rfl)) ?_
      clear hx
      refine hK.out _ _ (((HS.out.pick 0 rfl).cell 4).trans rfl) (fun hHeld => ?_)
      clear hK K
      refine norm_ (a' := ?_) ?_ ?_
      rotate_left
      · show Act.put _ (some 48) _ = _
        simp only [Act.put, List.setIfInBounds_toArray, List.set_cons_zero, List.set_cons_succ, i64_w, i32_w]
        rfl
      refine pU 12 55 (tfs true [13, 2]).toArray rfl rfl HT_ ?_
      refine pU 13 56 (tfs true [14, 1]).toArray rfl rfl HT_ ?_
      refine last_ (i := 14) (N := none) (tfs true [15]).toArray rfl rfl (one_of HT_.out (by kernel_rfl)) (by decide) (fun K hK => ?_)
      have q2 := ((HS.out.pick 1 rfl).cell 4).trans (show _ = some (.string ⟨#[]⟩) from rfl); have q3 := (HS.out.pick 1 rfl).frozen 4; have q4 := ((HS.out.pick 1 rfl).cell 5).trans (show _ = some (.int .i64 0) from rfl); have q5 := (HS.out.pick 1 rfl).frozen 5
      refine skip_ (w1 := ?_) (by rfl) rfl ?_ ?_
      rotate_left
      · go_simp
        rfl
      clear q2 q3 q4 q5
      have n0_ := Aside0.mk ((((HS.out.pick 1 rfl).set 4 (.string (rdOf ByteArray.empty ppl (n4 : Int))) #[.string (rdOf ByteArray.empty ppl (n0 : Int)), .int .i64 (1 + (n1 : Int)), .int .i64 (n2 : Int), .int .i64 4, .string (rdOf ByteArray.empty ppl (n4 : Int)), .int .i64 0, .string ⟨#[]⟩, .int .i64 0, .string ⟨#[]⟩] rfl).set 5 (.int .i64 (1 + (m4 : Int))) #[.string (rdOf ByteArray.empty ppl (n0 : Int)), .int .i64 (1 + (n1 : Int)), .int .i64 (n2 : Int), .int .i64 4, .string (rdOf ByteArray.empty ppl (n4 : Int)), .int .i64 (1 + (m4 : Int)), .string ⟨#[]⟩, .int .i64 0, .string ⟨#[]⟩] rfl).swap); have n1_ := Aside0.mk (((HS.out.pick 1 rfl).set 4 (.string (rdOf ByteArray.empty ppl (n4 : Int))) #[.string (rdOf ByteArray.empty ppl (n0 : Int)), .int .i64 (1 + (n1 : Int)), .int .i64 (n2 : Int), .int .i64 4, .string (rdOf ByteArray.empty ppl (n4 : Int)), .int .i64 0, .string ⟨#[]⟩, .int .i64 0, .string ⟨#[]⟩] rfl).below_set (i := 5) (u := .int .i64 (1 + (m4 : Int))) ((HS.out.pick 1 rfl).below_set (i := 4) (u := .string (rdOf ByteArray.empty ppl (n4 : Int))) HB.out)); clear HS HB; have HS := n0_; have HB := n1_; clear n0_ n1_; (try simp only [List.eraseIdx_cons_succ, List.eraseIdx_cons_zero] at HS)
      refine hK.out _ _ ?_
      clear hK K
      refine done_ (done_of HT_.out (by kernel_rfl)) ?_
      clear HT_ HW_
      try clear hHeld
      (try rw [show wrap64 (1 + wrap64 ((IntKind.u8.wrap (q4 : Int)).tmod 6)) = 1 + (m4 : Int) by rw [tq6, tm4, vm4, vm4']])
      go_upto_region 13 with (fail)
      generalize World.setCell _ _ _ = w4 at HS HB ⊢
      obtain ⟨p0, p1, p2, p3, p4, p5, p6, p7, p8⟩ := cells9 (HS.out.pick 1 rfl)
      obtain ⟨c0, c1, c2, c3, c4, c5, c6, c7, c8⟩ := cells9 (HS.out.pick 2 rfl)
      obtain ⟨f0, f1, f2, f3, f4, f5, f6, f7, f8⟩ := frozen9 (HS.out.pick 2 rfl)
      go_wp2
      have s9 := set9 (.string (rdOf ByteArray.empty ppl (n0 : Int))) (.int .i64 (1 + (n1 : Int))) (.int .i64 (n2 : Int)) (.int .i64 4) (.string (rdOf ByteArray.empty ppl (n4 : Int))) (.int .i64 (1 + (m4 : Int))) (.string ⟨#[]⟩) (.int .i64 0) (.string ⟨#[]⟩) (HS.out.pick 2 rfl) HB.out
      refine bodyPost_ret (results_cell_row rfl _ _ gR 50 _ (0, 0) _ rfl s9.1.blk Tryz.underlying50 rfl (by kernel_rfl)) rfl ?_
      exact ⟨by rw [hd.out]; rfl, s9.2⟩
    · subst hk
      obtain ⟨n4, t4, hn4, z4⟩ := tmod_lt a.f4 hu.out.r4 3 (by decide)
      replace t4 : a.f4.tmod 3 = (n4 : Int) := t4
      replace z4 : Aside0 (a.f4 % 3 = (n4 : Int)) := ⟨z4⟩
      have bb4 : ((n4 : Int) < (3 : Int)) = True := eq_true (Int.ofNat_lt.mpr hn4)
      have bt : ((n4 : Int) < (ppl.length : Int)) = True := eq_true (Int.ofNat_lt.mpr hn4)
      obtain ⟨q4, m4, tq4, tq5, tq6, tm4, tm5, hm4, zm4⟩ := tdiv_tmod a.f4 hu.out.r4
      replace zm4 := Aside0.mk zm4
      have vm4 := wrap_n m4 _ hm4 (by decide)
      have vm4' := wrap_n1 m4 _ hm4 (by decide)
      have hd : Aside0 (decE a = ⟨⟨rdOf ByteArray.empty ppl (n0 : Int), 1 + (n1 : Int)⟩, (n2 : Int), 5, ⟨rdOf ByteArray.empty ppl (n4 : Int), 1 + (m4 : Int)⟩, e0, 0, e0⟩) := ⟨by have z := z3.out; unfold decE nm3 tx3; rw [if_neg (by omega), if_pos (by omega), z0.out, z1.out, z2.out, z3.out, z4.out, zm4.out]; rfl⟩
      have y3 : wc.cell? ⟨gE, 3, none⟩ = some (.int .i64 5) := ((HS.out.pick 1 rfl).cell 3).trans rfl
      go_upto_region 10 with (fail)
      replace hn4 := Aside0.mk hn4
      clear y3
      have n0_ := Aside0.mk (HS.out.drew); have n1_ := Aside0.mk (HB.out.drew); clear HS HB; have HS := n0_; have HB := n1_; clear n0_ n1_
      refine start_ (n := 15) (S := fun w' => w'.cell? ⟨gA, 4, none⟩ = some (.int .u8 a.f4)) (ds := [14]) (tfs true [0, 15]).toArray (by kernel_rfl) rfl rfl (((HS.out.pick 0 rfl).cell 4).trans rfl) (fun hHeld => ?_); refine with_tabW evt.tab10 evt.bits10 (fun HT_ HW_ => ?_)
      generalize wc.drew = wd at HS HB hHeld ⊢
      refine pU 1 44 (tfs true [0, 1, 1, 13]).toArray rfl rfl HT_ ?_
      refine pU 6 49 (tfs true [0, 1, 1, 4, 1, 8]).toArray rfl rfl HT_ ?_
      refine tK 2 45 (tfs true [0, 1, 2, 3, 1, 8]).toArray rfl rfl HT_ HW_ hHeld ?_ (by rintro w' s0; go_simp; with_reducible rfl)
      refine pU 3 46 (tfs true [0, 1, 3, 2, 1, 8]).toArray rfl rfl HT_ ?_
      refine tK 7 50 (tfs true [0, 1, 3, 2, 2, 7]).toArray rfl rfl HT_ HW_ hHeld ?_ (by rintro w' s0; go_simp; with_reducible rfl)
      refine pU 8 51 (tfs true [0, 1, 3, 2, 3, 6]).toArray rfl rfl HT_ ?_
      refine pU 9 52 (tfs true [0, 1, 3, 2, 4, 5]).toArray rfl rfl HT_ ?_
      refine pU 10 53 (tfs true [0, 1, 3, 2, 5, 4]).toArray rfl rfl HT_ ?_
      refine pU 11 54 (tfs true [0, 1, 3, 2, 6, 3]).toArray rfl rfl HT_ ?_
      refine one_ (i := 0) (N := some 43) (tfs true [4, 2, 6, 3]).toArray rfl rfl (one_of HT_.out (by kernel_rfl)) (by decide) (fun K hK => ?_)
      refine goes_ Tryz.func17 (by kernel_rfl) rfl #[] (by rfl) rfl rfl (by first | rfl | simp) ?_
      with_reducible refine (sleuthlaw51_people.calls ppl _ ppl_ok).mono ?_
      rintro r_ wp3 ⟨vp, rfl, hr, hb⟩
      refine ⟨_, rfl, ?_⟩
      have n0_ := Aside0.mk (((((HS.out.made hr hb).pick 3 rfl).pick 3 rfl).pick 3 rfl)); have n1_ := Aside0.mk (below_step' HB.out HS.out.size hb); clear HS HB; have HS := n0_; have HB := n1_; clear n0_ n1_; (try simp only [List.eraseIdx_cons_succ, List.eraseIdx_cons_zero] at HS)
      clear hr hb
      obtain ⟨gw, cw, ew, _⟩ := St.row_some flatS (HS.out.pick 3 rfl) (by decide)
      subst ew
      refine hK.out _ _ (((HS.out.pick 0 rfl).cell 4).trans rfl) (fun hHeld => ?_)
      clear hK K
      refine norm_ (a' := ?_) ?_ ?_
      rotate_left
      · show Act.put _ (some 43) _ = _
        simp only [Act.put, List.setIfInBounds_toArray, List.set_cons_zero, List.set_cons_succ, i64_w, i32_w]
        rfl
      refine pU 4 47 (tfs true [5, 1, 6, 3]).toArray rfl rfl HT_ ?_
      refine one_ (i := 5) (N := some 48) (tfs true [12, 3]).toArray rfl rfl (one_of HT_.out (by kernel_rfl)) (by decide) (fun K hK => ?_)
      have hx := nm_cell (HS.out.pick 3 rfl) n4 hn4.out
      refine load_step (by rfl) (v := .string (rdOf ByteArray.empty ppl (n4 : Int))) (by first | (go_simp; done) | (go_simp; with_reducible rfl)) ?_
      clear hx
      refine hK.out _ _ (((HS.out.pick 0 rfl).cell 4).trans rfl) (fun hHeld => ?_)
      clear hK K
      refine norm_ (a' := ?_) ?_ ?_
      rotate_left
      · show Act.put _ (some 48) _ = _
        simp only [Act.put, List.setIfInBounds_toArray, List.set_cons_zero, List.set_cons_succ, i64_w, i32_w]
        rfl
      refine pU 12 55 (tfs true [13, 2]).toArray rfl rfl HT_ ?_
      refine pU 13 56 (tfs true [14, 1]).toArray rfl rfl HT_ ?_
      refine last_ (i := 14) (N := none) (tfs true [15]).toArray rfl rfl (one_of HT_.out (by kernel_rfl)) (by decide) (fun K hK => ?_)
      have q2 := ((HS.out.pick 1 rfl).cell 4).trans (show _ = some (.string ⟨#[]⟩) from rfl); have q3 := (HS.out.pick 1 rfl).frozen 4; have q4 := ((HS.out.pick 1 rfl).cell 5).trans (show _ = some (.int .i64 0) from rfl); have q5 := (HS.out.pick 1 rfl).frozen 5
      refine skip_ (w1 := ?_) (by rfl) rfl ?_ ?_
      rotate_left
      · go_simp
        rfl
      clear q2 q3 q4 q5
      have n0_ := Aside0.mk ((((HS.out.pick 1 rfl).set 4 (.string (rdOf ByteArray.empty ppl (n4 : Int))) #[.string (rdOf ByteArray.empty ppl (n0 : Int)), .int .i64 (1 + (n1 : Int)), .int .i64 (n2 : Int), .int .i64 5, .string (rdOf ByteArray.empty ppl (n4 : Int)), .int .i64 0, .string ⟨#[]⟩, .int .i64 0, .string ⟨#[]⟩] rfl).set 5 (.int .i64 (1 + (m4 : Int))) #[.string (rdOf ByteArray.empty ppl (n0 : Int)), .int .i64 (1 + (n1 : Int)), .int .i64 (n2 : Int), .int .i64 5, .string (rdOf ByteArray.empty ppl (n4 : Int)), .int .i64 (1 + (m4 : Int)), .string ⟨#[]⟩, .int .i64 0, .string ⟨#[]⟩] rfl).swap); have n1_ := Aside0.mk (((HS.out.pick 1 rfl).set 4 (.string (rdOf ByteArray.empty ppl (n4 : Int))) #[.string (rdOf ByteArray.empty ppl (n0 : Int)), .int .i64 (1 + (n1 : Int)), .int .i64 (n2 : Int), .int .i64 5, .string (rdOf ByteArray.empty ppl (n4 : Int)), .int .i64 0, .string ⟨#[]⟩, .int .i64 0, .string ⟨#[]⟩] rfl).below_set (i := 5) (u := .int .i64 (1 + (m4 : Int))) ((HS.out.pick 1 rfl).below_set (i := 4) (u := .string (rdOf ByteArray.empty ppl (n4 : Int))) HB.out)); clear HS HB; have HS := n0_; have HB := n1_; clear n0_ n1_; (try simp only [List.eraseIdx_cons_succ, List.eraseIdx_cons_zero] at HS)
      refine hK.out _ _ ?_
      clear hK K
      refine done_ (done_of HT_.out (by kernel_rfl)) ?_
      clear HT_ HW_
      try clear hHeld
      (try rw [show wrap64 (1 + wrap64 ((IntKind.u8.wrap (q4 : Int)).tmod 6)) = 1 + (m4 : Int) by rw [tq6, tm4, vm4, vm4']])
      go_upto_region 13 with (fail)
      generalize World.setCell _ _ _ = w4 at HS HB ⊢
      obtain ⟨p0, p1, p2, p3, p4, p5, p6, p7, p8⟩ := cells9 (HS.out.pick 1 rfl)
      obtain ⟨c0, c1, c2, c3, c4, c5, c6, c7, c8⟩ := cells9 (HS.out.pick 2 rfl)
      obtain ⟨f0, f1, f2, f3, f4, f5, f6, f7, f8⟩ := frozen9 (HS.out.pick 2 rfl)
      go_wp2
      have s9 := set9 (.string (rdOf ByteArray.empty ppl (n0 : Int))) (.int .i64 (1 + (n1 : Int))) (.int .i64 (n2 : Int)) (.int .i64 5) (.string (rdOf ByteArray.empty ppl (n4 : Int))) (.int .i64 (1 + (m4 : Int))) (.string ⟨#[]⟩) (.int .i64 0) (.string ⟨#[]⟩) (HS.out.pick 2 rfl) HB.out
      refine bodyPost_ret (results_cell_row rfl _ _ gR 50 _ (0, 0) _ rfl s9.1.blk Tryz.underlying50 rfl (by kernel_rfl)) rfl ?_
      exact ⟨by rw [hd.out]; rfl, s9.2⟩
    · subst hk
      have hd : Aside0 (decE a = ⟨⟨rdOf ByteArray.empty ppl (n0 : Int), 1 + (n1 : Int)⟩, (n2 : Int), 6, z33, e0, 0, e0⟩) := ⟨by have z := z3.out; unfold decE nm3 tx3; rw [if_neg (by omega), if_neg (by omega), if_neg (by omega), z0.out, z1.out, z2.out, z3.out]; rfl⟩
      have y3 : wc.cell? ⟨gE, 3, none⟩ = some (.int .i64 6) := ((HS.out.pick 1 rfl).cell 3).trans rfl
      go_upto_region 13 with (fail)
      obtain ⟨p0, p1, p2, p3, p4, p5, p6, p7, p8⟩ := cells9 (HS.out.pick 1 rfl)
      obtain ⟨c0, c1, c2, c3, c4, c5, c6, c7, c8⟩ := cells9 (HS.out.pick 2 rfl)
      obtain ⟨f0, f1, f2, f3, f4, f5, f6, f7, f8⟩ := frozen9 (HS.out.pick 2 rfl)
      go_wp2
      have s9 := set9 (.string (rdOf ByteArray.empty ppl (n0 : Int))) (.int .i64 (1 + (n1 : Int))) (.int .i64 (n2 : Int)) (.int .i64 6) (.string ⟨#[]⟩) (.int .i64 0) (.string ⟨#[]⟩) (.int .i64 0) (.string ⟨#[]⟩) (HS.out.pick 2 rfl) HB.out
      refine bodyPost_ret (results_cell_row rfl _ _ gR 50 _ (0, 0) _ rfl s9.1.blk Tryz.underlying50 rfl (by kernel_rfl)) rfl ?_
      exact ⟨by rw [hd.out]; rfl, s9.2⟩
    · subst hk
      obtain ⟨n4, t4, hn4, z4⟩ := tmod_lt a.f4 hu.out.r4 3 (by decide)
      replace t4 : a.f4.tmod 3 = (n4 : Int) := t4
      replace z4 : Aside0 (a.f4 % 3 = (n4 : Int)) := ⟨z4⟩
      have bb4 : ((n4 : Int) < (3 : Int)) = True := eq_true (Int.ofNat_lt.mpr hn4)
      have bt : ((n4 : Int) < (ppl.length : Int)) = True := eq_true (Int.ofNat_lt.mpr hn4)
      obtain ⟨q4, m4, tq4, tq5, tq6, tm4, tm5, hm4, zm4⟩ := tdiv_tmod a.f4 hu.out.r4
      replace zm4 := Aside0.mk zm4
      have vm4 := wrap_n m4 _ hm4 (by decide)
      have vm4' := wrap_n1 m4 _ hm4 (by decide)
      have hd : Aside0 (decE a = ⟨⟨rdOf ByteArray.empty ppl (n0 : Int), 1 + (n1 : Int)⟩, (n2 : Int), 7, ⟨rdOf ByteArray.empty ppl (n4 : Int), 1 + (m4 : Int)⟩, e0, 0, e0⟩) := ⟨by have z := z3.out; unfold decE nm3 tx3; rw [if_neg (by omega), if_pos (by omega), z0.out, z1.out, z2.out, z3.out, z4.out, zm4.out]; rfl⟩
      have y3 : wc.cell? ⟨gE, 3, none⟩ = some (.int .i64 7) := ((HS.out.pick 1 rfl).cell 3).trans rfl
      go_upto_region 10 with (fail)
      replace hn4 := Aside0.mk hn4
      clear y3
      have n0_ := Aside0.mk (HS.out.drew); have n1_ := Aside0.mk (HB.out.drew); clear HS HB; have HS := n0_; have HB := n1_; clear n0_ n1_
      refine start_ (n := 15) (S := fun w' => w'.cell? ⟨gA, 4, none⟩ = some (.int .u8 a.f4)) (ds := [14]) (tfs true [0, 15]).toArray (by kernel_rfl) rfl rfl (((HS.out.pick 0 rfl).cell 4).trans rfl) (fun hHeld => ?_); refine with_tabW evt.tab10 evt.bits10 (fun HT_ HW_ => ?_)
      generalize wc.drew = wd at HS HB hHeld ⊢
      refine pU 1 44 (tfs true [0, 1, 1, 13]).toArray rfl rfl HT_ ?_
      refine pU 6 49 (tfs true [0, 1, 1, 4, 1, 8]).toArray rfl rfl HT_ ?_
      refine tK 2 45 (tfs true [0, 1, 2, 3, 1, 8]).toArray rfl rfl HT_ HW_ hHeld ?_ (by rintro w' s0; go_simp; with_reducible rfl)
      refine pU 3 46 (tfs true [0, 1, 3, 2, 1, 8]).toArray rfl rfl HT_ ?_
      refine tK 7 50 (tfs true [0, 1, 3, 2, 2, 7]).toArray rfl rfl HT_ HW_ hHeld ?_ (by rintro w' s0; go_simp; with_reducible rfl)
      refine pU 8 51 (tfs true [0, 1, 3, 2, 3, 6]).toArray rfl rfl HT_ ?_
      refine pU 9 52 (tfs true [0, 1, 3, 2, 4, 5]).toArray rfl rfl HT_ ?_
      refine pU 10 53 (tfs true [0, 1, 3, 2, 5, 4]).toArray rfl rfl HT_ ?_
      refine pU 11 54 (tfs true [0, 1, 3, 2, 6, 3]).toArray rfl rfl HT_ ?_
      refine one_ (i := 0) (N := some 43) (tfs true [4, 2, 6, 3]).toArray rfl rfl (one_of HT_.out (by kernel_rfl)) (by decide) (fun K hK => ?_)
      refine goes_ Tryz.func17 (by kernel_rfl) rfl #[] (by rfl) rfl rfl (by first | rfl | simp) ?_
      with_reducible refine (sleuthlaw51_people.calls ppl _ ppl_ok).mono ?_
      rintro r_ wp3 ⟨vp, rfl, hr, hb⟩
      refine ⟨_, rfl, ?_⟩
      have n0_ := Aside0.mk (((((HS.out.made hr hb).pick 3 rfl).pick 3 rfl).pick 3 rfl)); have n1_ := Aside0.mk (below_step' HB.out HS.out.size hb); clear HS HB; have HS := n0_; have HB := n1_; clear n0_ n1_; (try simp only [List.eraseIdx_cons_succ, List.eraseIdx_cons_zero] at HS)
      clear hr hb
      obtain ⟨gw, cw, ew, _⟩ := St.row_some flatS (HS.out.pick 3 rfl) (by decide)
      subst ew
      refine hK.out _ _ (((HS.out.pick 0 rfl).cell 4).trans rfl) (fun hHeld => ?_)
      clear hK K
      refine norm_ (a' := ?_) ?_ ?_
      rotate_left
      · show Act.put _ (some 43) _ = _
        simp only [Act.put, List.setIfInBounds_toArray, List.set_cons_zero, List.set_cons_succ, i64_w, i32_w]
        rfl
      refine pU 4 47 (tfs true [5, 1, 6, 3]).toArray rfl rfl HT_ ?_
      refine one_ (i := 5) (N := some 48) (tfs true [12, 3]).toArray rfl rfl (one_of HT_.out (by kernel_rfl)) (by decide) (fun K hK => ?_)
      have hx := nm_cell (HS.out.pick 3 rfl) n4 hn4.out
      refine load_step (by rfl) (v := .string (rdOf ByteArray.empty ppl (n4 : Int))) (by first | (go_simp; done) | (go_simp; with_reducible rfl)) ?_
      clear hx
      refine hK.out _ _ (((HS.out.pick 0 rfl).cell 4).trans rfl) (fun hHeld => ?_)
      clear hK K
      refine norm_ (a' := ?_) ?_ ?_
      rotate_left
      · show Act.put _ (some 48) _ = _
        simp only [Act.put, List.setIfInBounds_toArray, List.set_cons_zero, List.set_cons_succ, i64_w, i32_w]
        rfl
      refine pU 12 55 (tfs true [13, 2]).toArray rfl rfl HT_ ?_
      refine pU 13 56 (tfs true [14, 1]).toArray rfl rfl HT_ ?_
      refine last_ (i := 14) (N := none) (tfs true [15]).toArray rfl rfl (one_of HT_.out (by kernel_rfl)) (by decide) (fun K hK => ?_)
      have q2 := ((HS.out.pick 1 rfl).cell 4).trans (show _ = some (.string ⟨#[]⟩) from rfl); have q3 := (HS.out.pick 1 rfl).frozen 4; have q4 := ((HS.out.pick 1 rfl).cell 5).trans (show _ = some (.int .i64 0) from rfl); have q5 := (HS.out.pick 1 rfl).frozen 5
      refine skip_ (w1 := ?_) (by rfl) rfl ?_ ?_
      rotate_left
      · go_simp
        rfl
      clear q2 q3 q4 q5
      have n0_ := Aside0.mk ((((HS.out.pick 1 rfl).set 4 (.string (rdOf ByteArray.empty ppl (n4 : Int))) #[.string (rdOf ByteArray.empty ppl (n0 : Int)), .int .i64 (1 + (n1 : Int)), .int .i64 (n2 : Int), .int .i64 7, .string (rdOf ByteArray.empty ppl (n4 : Int)), .int .i64 0, .string ⟨#[]⟩, .int .i64 0, .string ⟨#[]⟩] rfl).set 5 (.int .i64 (1 + (m4 : Int))) #[.string (rdOf ByteArray.empty ppl (n0 : Int)), .int .i64 (1 + (n1 : Int)), .int .i64 (n2 : Int), .int .i64 7, .string (rdOf ByteArray.empty ppl (n4 : Int)), .int .i64 (1 + (m4 : Int)), .string ⟨#[]⟩, .int .i64 0, .string ⟨#[]⟩] rfl).swap); have n1_ := Aside0.mk (((HS.out.pick 1 rfl).set 4 (.string (rdOf ByteArray.empty ppl (n4 : Int))) #[.string (rdOf ByteArray.empty ppl (n0 : Int)), .int .i64 (1 + (n1 : Int)), .int .i64 (n2 : Int), .int .i64 7, .string (rdOf ByteArray.empty ppl (n4 : Int)), .int .i64 0, .string ⟨#[]⟩, .int .i64 0, .string ⟨#[]⟩] rfl).below_set (i := 5) (u := .int .i64 (1 + (m4 : Int))) ((HS.out.pick 1 rfl).below_set (i := 4) (u := .string (rdOf ByteArray.empty ppl (n4 : Int))) HB.out)); clear HS HB; have HS := n0_; have HB := n1_; clear n0_ n1_; (try simp only [List.eraseIdx_cons_succ, List.eraseIdx_cons_zero] at HS)
      refine hK.out _ _ ?_
      clear hK K
      refine done_ (done_of HT_.out (by kernel_rfl)) ?_
      clear HT_ HW_
      try clear hHeld
      (try rw [show wrap64 (1 + wrap64 ((IntKind.u8.wrap (q4 : Int)).tmod 6)) = 1 + (m4 : Int) by rw [tq6, tm4, vm4, vm4']])
      go_upto_region 13 with (fail)
      generalize World.setCell _ _ _ = w4 at HS HB ⊢
      obtain ⟨p0, p1, p2, p3, p4, p5, p6, p7, p8⟩ := cells9 (HS.out.pick 1 rfl)
      obtain ⟨c0, c1, c2, c3, c4, c5, c6, c7, c8⟩ := cells9 (HS.out.pick 2 rfl)
      obtain ⟨f0, f1, f2, f3, f4, f5, f6, f7, f8⟩ := frozen9 (HS.out.pick 2 rfl)
      go_wp2
      have s9 := set9 (.string (rdOf ByteArray.empty ppl (n0 : Int))) (.int .i64 (1 + (n1 : Int))) (.int .i64 (n2 : Int)) (.int .i64 7) (.string (rdOf ByteArray.empty ppl (n4 : Int))) (.int .i64 (1 + (m4 : Int))) (.string ⟨#[]⟩) (.int .i64 0) (.string ⟨#[]⟩) (HS.out.pick 2 rfl) HB.out
      refine bodyPost_ret (results_cell_row rfl _ _ gR 50 _ (0, 0) _ rfl s9.1.blk Tryz.underlying50 rfl (by kernel_rfl)) rfl ?_
      exact ⟨by rw [hd.out]; rfl, s9.2⟩
    · subst hk
      have hd : Aside0 (decE a = ⟨⟨rdOf ByteArray.empty ppl (n0 : Int), 1 + (n1 : Int)⟩, (n2 : Int), 8, z33, e0, 0, e0⟩) := ⟨by have z := z3.out; unfold decE nm3 tx3; rw [if_neg (by omega), if_neg (by omega), if_neg (by omega), z0.out, z1.out, z2.out, z3.out]; rfl⟩
      have y3 : wc.cell? ⟨gE, 3, none⟩ = some (.int .i64 8) := ((HS.out.pick 1 rfl).cell 3).trans rfl
      go_upto_region 13 with (fail)
      obtain ⟨p0, p1, p2, p3, p4, p5, p6, p7, p8⟩ := cells9 (HS.out.pick 1 rfl)
      obtain ⟨c0, c1, c2, c3, c4, c5, c6, c7, c8⟩ := cells9 (HS.out.pick 2 rfl)
      obtain ⟨f0, f1, f2, f3, f4, f5, f6, f7, f8⟩ := frozen9 (HS.out.pick 2 rfl)
      go_wp2
      have s9 := set9 (.string (rdOf ByteArray.empty ppl (n0 : Int))) (.int .i64 (1 + (n1 : Int))) (.int .i64 (n2 : Int)) (.int .i64 8) (.string ⟨#[]⟩) (.int .i64 0) (.string ⟨#[]⟩) (.int .i64 0) (.string ⟨#[]⟩) (HS.out.pick 2 rfl) HB.out
      refine bodyPost_ret (results_cell_row rfl _ _ gR 50 _ (0, 0) _ rfl s9.1.blk Tryz.underlying50 rfl (by kernel_rfl)) rfl ?_
      exact ⟨by rw [hd.out]; rfl, s9.2⟩
    · subst hk
      obtain ⟨n5, t5, hn5, z5⟩ := tmod_lt a.f5 hu.out.r5 3 (by decide)
      replace t5 : a.f5.tmod 3 = (n5 : Int) := t5
      replace z5 : Aside0 (a.f5 % 3 = (n5 : Int)) := ⟨z5⟩
      have bb5 : ((n5 : Int) < (3 : Int)) = True := eq_true (Int.ofNat_lt.mpr hn5)
      obtain ⟨n6, t6, hn6, z6⟩ := tmod_lt a.f6 hu.out.r6 3 (by decide)
      replace t6 : a.f6.tmod 3 = (n6 : Int) := t6
      replace z6 : Aside0 (a.f6 % 3 = (n6 : Int)) := ⟨z6⟩
      have bb6 : ((n6 : Int) < (3 : Int)) = True := eq_true (Int.ofNat_lt.mpr hn6)
      have bt : ((n5 : Int) < (ppl.length : Int)) = True := eq_true (Int.ofNat_lt.mpr hn5)
      have v6 := wrap_n n6 _ hn6 (by decide)
      have v6' := wrap_n1 n6 _ hn6 (by decide)
      have hd : Aside0 (decE a = ⟨⟨rdOf ByteArray.empty ppl (n0 : Int), 1 + (n1 : Int)⟩, (n2 : Int), 9, z33, rdOf ByteArray.empty ppl (n5 : Int), 1 + (n6 : Int), e0⟩) := ⟨by have z := z3.out; unfold decE nm3 tx3; rw [if_neg (by omega), if_neg (by omega), if_pos (by omega), z0.out, z1.out, z2.out, z3.out, z5.out, z6.out]; rfl⟩
      have y3 : wc.cell? ⟨gE, 3, none⟩ = some (.int .i64 9) := ((HS.out.pick 1 rfl).cell 3).trans rfl
      go_upto_region 12 with (fail)
      replace hn5 := Aside0.mk hn5
      clear y3
      have n0_ := Aside0.mk (HS.out.drew); have n1_ := Aside0.mk (HB.out.drew); clear HS HB; have HS := n0_; have HB := n1_; clear n0_ n1_
      refine start_ (n := 15) (S := fun w' => w'.cell? ⟨gA, 5, none⟩ = some (.int .u8 a.f5) ∧ w'.cell? ⟨gA, 6, none⟩ = some (.int .u8 a.f6)) (ds := []) (tfs true [0, 15]).toArray (by kernel_rfl) rfl rfl ⟨((HS.out.pick 0 rfl).cell 5).trans rfl, ((HS.out.pick 0 rfl).cell 6).trans rfl⟩ (fun hHeld => ?_); refine with_tabW evt.tab12 evt.bits12 (fun HT_ HW_ => ?_)
      generalize wc.drew = wd at HS HB hHeld ⊢
      refine pU 1 60 (tfs true [0, 1, 1, 13]).toArray rfl rfl HT_ ?_
      refine pU 6 65 (tfs true [0, 1, 1, 4, 1, 8]).toArray rfl rfl HT_ ?_
      refine tK 2 61 (tfs true [0, 1, 2, 3, 1, 8]).toArray rfl rfl HT_ HW_ hHeld ?_ (by rintro w' ⟨s0, s1⟩; go_simp; with_reducible rfl)
      refine pU 3 62 (tfs true [0, 1, 3, 2, 1, 8]).toArray rfl rfl HT_ ?_
      refine tK 7 66 (tfs true [0, 1, 3, 2, 2, 7]).toArray rfl rfl HT_ HW_ hHeld ?_ (by rintro w' ⟨s0, s1⟩; go_simp; with_reducible rfl)
      refine pU 8 67 (tfs true [0, 1, 3, 2, 3, 6]).toArray rfl rfl HT_ ?_
      refine pU 9 68 (tfs true [0, 1, 3, 2, 4, 5]).toArray rfl rfl HT_ ?_
      refine pU 10 69 (tfs true [0, 1, 3, 2, 5, 4]).toArray rfl rfl HT_ ?_
      refine one_ (i := 0) (N := some 59) (tfs true [4, 2, 5, 4]).toArray rfl rfl (one_of HT_.out (by kernel_rfl)) (by decide) (fun K hK => ?_)
      refine goes_ Tryz.func17 (by kernel_rfl) rfl #[] (by rfl) rfl rfl (by first | rfl | simp) ?_
      with_reducible refine (sleuthlaw51_people.calls ppl _ ppl_ok).mono ?_
      rintro r_ wp3 ⟨vp, rfl, hr, hb⟩
      refine ⟨_, rfl, ?_⟩
      have n0_ := Aside0.mk (((((HS.out.made hr hb).pick 3 rfl).pick 3 rfl).pick 3 rfl)); have n1_ := Aside0.mk (below_step' HB.out HS.out.size hb); clear HS HB; have HS := n0_; have HB := n1_; clear n0_ n1_; (try simp only [List.eraseIdx_cons_succ, List.eraseIdx_cons_zero] at HS)
      clear hr hb
      obtain ⟨gw, cw, ew, _⟩ := St.row_some flatS (HS.out.pick 3 rfl) (by decide)
      subst ew
      refine hK.out _ _ ⟨((HS.out.pick 0 rfl).cell 5).trans rfl, ((HS.out.pick 0 rfl).cell 6).trans rfl⟩ (fun hHeld => ?_)
      clear hK K
      refine norm_ (a' := ?_) ?_ ?_
      rotate_left
      · show Act.put _ (some 59) _ = _
        simp only [Act.put, List.setIfInBounds_toArray, List.set_cons_zero, List.set_cons_succ, i64_w, i32_w]
        rfl
      refine pU 4 63 (tfs true [5, 1, 5, 4]).toArray rfl rfl HT_ ?_
      refine one_ (i := 5) (N := some 64) (tfs true [11, 4]).toArray rfl rfl (one_of HT_.out (by kernel_rfl)) (by decide) (fun K hK => ?_)
      have hx := nm_cell (HS.out.pick 3 rfl) n5 hn5.out
      refine load_step (by rfl) (v := .string (rdOf ByteArray.empty ppl (n5 : Int))) (by first | (go_simp; done) | (go_simp; with_reducible rfl)) ?_
      clear hx
      refine hK.out _ _ ⟨((HS.out.pick 0 rfl).cell 5).trans rfl, ((HS.out.pick 0 rfl).cell 6).trans rfl⟩ (fun hHeld => ?_)
      clear hK K
      refine norm_ (a' := ?_) ?_ ?_
      rotate_left
      · show Act.put _ (some 64) _ = _
        simp only [Act.put, List.setIfInBounds_toArray, List.set_cons_zero, List.set_cons_succ, i64_w, i32_w]
        rfl
      refine pU 11 70 (tfs true [12, 3]).toArray rfl rfl HT_ ?_
      refine one_ (i := 12) (N := none) (tfs true [13, 2]).toArray rfl rfl (one_of HT_.out (by kernel_rfl)) (by decide) (fun K hK => ?_)
      have q2 := ((HS.out.pick 1 rfl).cell 6).trans (show _ = some (.string ⟨#[]⟩) from rfl); have q3 := (HS.out.pick 1 rfl).frozen 6
      refine skip_ (w1 := ?_) (by rfl) rfl ?_ ?_
      rotate_left
      · go_simp
        rfl
      clear q2 q3
      have n0_ := Aside0.mk (((HS.out.pick 1 rfl).set 6 (.string (rdOf ByteArray.empty ppl (n5 : Int))) #[.string (rdOf ByteArray.empty ppl (n0 : Int)), .int .i64 (1 + (n1 : Int)), .int .i64 (n2 : Int), .int .i64 9, .string ⟨#[]⟩, .int .i64 0, .string (rdOf ByteArray.empty ppl (n5 : Int)), .int .i64 0, .string ⟨#[]⟩] rfl).swap); have n1_ := Aside0.mk ((HS.out.pick 1 rfl).below_set (i := 6) (u := .string (rdOf ByteArray.empty ppl (n5 : Int))) HB.out); clear HS HB; have HS := n0_; have HB := n1_; clear n0_ n1_; (try simp only [List.eraseIdx_cons_succ, List.eraseIdx_cons_zero] at HS)
      refine hK.out _ _ ⟨((HS.out.pick 0 rfl).cell 5).trans rfl, ((HS.out.pick 0 rfl).cell 6).trans rfl⟩ (fun hHeld => ?_)
      clear hK K
      refine pU 13 71 (tfs true [14, 1]).toArray rfl rfl HT_ ?_
      refine one_ (i := 14) (N := none) (tfs true [15]).toArray rfl rfl (one_of HT_.out (by kernel_rfl)) (by decide) (fun K hK => ?_)
      have q2 := ((HS.out.pick 1 rfl).cell 7).trans (show _ = some (.int .i64 0) from rfl); have q3 := (HS.out.pick 1 rfl).frozen 7
      refine skip_ (w1 := ?_) (by rfl) rfl ?_ ?_
      rotate_left
      · go_simp
        rfl
      clear q2 q3
      have n0_ := Aside0.mk (((HS.out.pick 1 rfl).set 7 (.int .i64 (1 + (n6 : Int))) #[.string (rdOf ByteArray.empty ppl (n0 : Int)), .int .i64 (1 + (n1 : Int)), .int .i64 (n2 : Int), .int .i64 9, .string ⟨#[]⟩, .int .i64 0, .string (rdOf ByteArray.empty ppl (n5 : Int)), .int .i64 (1 + (n6 : Int)), .string ⟨#[]⟩] rfl).swap); have n1_ := Aside0.mk ((HS.out.pick 1 rfl).below_set (i := 7) (u := .int .i64 (1 + (n6 : Int))) HB.out); clear HS HB; have HS := n0_; have HB := n1_; clear n0_ n1_; (try simp only [List.eraseIdx_cons_succ, List.eraseIdx_cons_zero] at HS)
      refine hK.out _ _ ⟨((HS.out.pick 0 rfl).cell 5).trans rfl, ((HS.out.pick 0 rfl).cell 6).trans rfl⟩ (fun hHeld => ?_)
      clear hK K
      refine done_ (done_of HT_.out (by kernel_rfl)) ?_
      clear HT_ HW_
      try clear hHeld
      go_upto_region 13 with (fail)
      generalize World.setCell _ _ _ = w4 at HS HB ⊢
      obtain ⟨p0, p1, p2, p3, p4, p5, p6, p7, p8⟩ := cells9 (HS.out.pick 1 rfl)
      obtain ⟨c0, c1, c2, c3, c4, c5, c6, c7, c8⟩ := cells9 (HS.out.pick 2 rfl)
      obtain ⟨f0, f1, f2, f3, f4, f5, f6, f7, f8⟩ := frozen9 (HS.out.pick 2 rfl)
      go_wp2
      have s9 := set9 (.string (rdOf ByteArray.empty ppl (n0 : Int))) (.int .i64 (1 + (n1 : Int))) (.int .i64 (n2 : Int)) (.int .i64 9) (.string ⟨#[]⟩) (.int .i64 0) (.string (rdOf ByteArray.empty ppl (n5 : Int))) (.int .i64 (1 + (n6 : Int))) (.string ⟨#[]⟩) (HS.out.pick 2 rfl) HB.out
      refine bodyPost_ret (results_cell_row rfl _ _ gR 50 _ (0, 0) _ rfl s9.1.blk Tryz.underlying50 rfl (by kernel_rfl)) rfl ?_
      exact ⟨by rw [hd.out]; rfl, s9.2⟩


end Go.Proofs.YtcjfgejiknlpfaaGreat.PI
