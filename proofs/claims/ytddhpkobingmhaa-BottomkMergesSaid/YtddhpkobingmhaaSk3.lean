/- Keys in order: compare, and the search for a key's place. -/
import Derived.Test.YtddhpkobingmhaaSk2
import Derived.Test.YtddhpkobingmhaaPBx8
namespace Go.Proofs.Ytddhpkobingmhaa.PB
open Go.RowKit Go.Proofs.YtddhpkobingmhaaW.PrintWords Go.Proofs.YtddhpkobingmhaaW.PrintLast Go.Proofs.YtddhpkobingmhaaW.PrintMore Go.Proofs.Ytddhpkobingmhaa.Sep
set_option linter.unusedVariables false
set_option linter.unusedSimpArgs false
set_option maxHeartbeats 8000000
set_option maxRecDepth 100000
/-- Runs of 'true' and 'false' in turn. -/
@[reducible] def tfs : Bool → List Nat → List Bool
  | _, [] => []
  | b, n :: l => List.replicate n b ++ tfs (!b) l

def icmp (a b : Int) : Int := if a < b then -1 else if b < a then 1 else 0
def bcmp (a b : ByteArray) : Int := if Op.bytesLess a.toList b.toList = true then -1 else if Op.bytesLess b.toList a.toList = true then 1 else 0
def kcmp (x y : S52) : Int := if icmp x.f0 y.f0 = 0 then bcmp x.f1 y.f1 else icmp x.f0 y.f0
theorem ci_ok (a b : Int) : cmp_Compare_int.f a b = some (icmp a b) := by
  have h : ∀ z : Int, (z != z) = false := fun z => by simp
  unfold cmp_Compare_int.f cmp_isNaN_int.f icmp
  rw [h, h, Option.bind_some, Option.bind_some, if_neg (by decide), if_neg (by decide)]
  by_cases h1 : a < b
  · rw [if_pos h1, if_pos h1]
  · rw [if_neg h1, if_neg h1]
    by_cases h2 : b < a
    · rw [if_pos h2, if_pos h2]
    · rw [if_neg h2, if_neg h2]
theorem cs_ok (a b : ByteArray) : cmp_Compare_string.f a b = some (bcmp a b) := by
  have h : ∀ z : ByteArray, (z.toList != z.toList) = false := fun z => by simp
  unfold cmp_Compare_string.f cmp_isNaN_string.f bcmp
  rw [h, h, Option.bind_some, Option.bind_some, if_neg (by decide), if_neg (by decide)]
  by_cases h1 : Op.bytesLess a.toList b.toList = true
  · rw [if_pos h1, if_pos h1]
  · rw [if_neg h1, if_neg h1]
    by_cases h2 : Op.bytesLess b.toList a.toList = true
    · rw [if_pos h2, if_pos h2]
    · rw [if_neg h2, if_neg h2]
theorem or_two (k : Nat) (a b : Int) : cmp_Or_int.f (k + 3) [a, b] = some (if a = 0 then b else a) := by
  unfold cmp_Or_int.f
  have r0 : rd [a, b] 0 = a := rfl
  have r1 : rd [a, b] 1 = b := rfl
  have l2 : (([a, b].length : Nat) : Int) = 2 := rfl
  have w0 : wrap64 (0 + 1) = 1 := by unfold wrap64; omega
  have w1 : wrap64 (1 + 1) = 2 := by unfold wrap64; omega
  rw [l2, show k + 3 = (k + 2) + 1 from rfl, cmp_Or_int.l0, if_pos (by decide), if_pos (by decide), if_pos (by rw [l2]; decide), r0]
  by_cases h : a = 0
  · rw [if_pos h, if_pos h, w0, show k + 2 = (k + 1) + 1 from rfl, cmp_Or_int.l0, if_pos (by decide), if_pos (by decide), if_pos (by rw [l2]; decide), r1]
    by_cases h2 : b = 0
    · rw [if_pos h2, w1, cmp_Or_int.l0, if_neg (by decide), h2]
    · rw [if_neg h2]
  · rw [if_neg h, if_neg h]
theorem compare_ok (k : Nat) (hk : 10 ≤ k) (x y : S52) : bottomk_compare.f k x.f0 x.f1 y.f0 y.f1 = some (kcmp x y) := by
  unfold bottomk_compare.f kcmp
  obtain ⟨k, rfl⟩ : ∃ j, k = j + 3 := ⟨k - 3, by omega⟩
  rw [ci_ok, Option.bind_some, cs_ok, Option.bind_some, or_two, Option.bind_some]

def bsf.T5 : Bool × List (List Nat × List Nat) := (true, [([], []), ([], []), ([], []), ([1, 2], [1, 2]), ([3], [3]), ([], []), ([0, 4, 5], [0, 4, 5]), ([6], [6])])
def bsf.B5 : List Nat := [0, 0, 0, 6, 14, 0, 63, 127]
theorem bsf.tab5 : rtab .any (opsOf Try.f69 5) = bsf.T5 := by kernel_rfl
theorem bsf.bits5 : waitsOk bsf.T5.2 bsf.B5 = true := by kernel_rfl
def bsf.T8 : Bool × List (List Nat × List Nat) := (true, [([], []), ([], []), ([], []), ([1, 2], [1, 2]), ([3], [3]), ([4], [4]), ([4], [4]), ([4], [4]), ([6, 7, 4], [4, 6, 7]), ([8, 4], [4, 8]), ([4], [4]), ([5, 9, 10, 4, 4], [4, 5, 9, 10]), ([11, 4], [4, 11]), ([4, 12], [4, 12]), ([0, 11, 0], [0]), ([13, 14, 0, 1, 2, 3, 4, 5, 6, 7, 8, 9, 10, 11, 12, 13, 14], [13])])
def bsf.B8 : List Nat := [0, 0, 0, 6, 14, 30, 30, 30, 222, 478, 30, 2046, 4094, 8190, 4095, 32767]
theorem bsf.tab8 : rtab .any (opsOf Try.f69 8) = bsf.T8 := by kernel_rfl
theorem bsf.bits8 : waitsOk bsf.T8.2 bsf.B8 = true := by kernel_rfl
theorem bsf_ok (A : Option Addr) (c : Nat) (l : List S52) (hl : l.length ≤ 1000000) (x : S52) (i : Nat) (hi : i ≤ l.length) (hlo : ∀ j : Nat, j < i → kcmp (rd_T52 l j) x < 0) (hhi : ∀ j : Nat, i ≤ j → j < l.length → 0 ≤ kcmp (rd_T52 l j) x) (w : World) (hc : k52.C w A l.length l) :
    Calls Try.prog 69 #[.slice A l.length c, .agg #[.int .i64 x.f0, .string x.f1], .func (.func 55) #[] #[]] w fun e w' => e = .returned (.tuple #[.int .i64 i, .bool (decide (i < l.length) && (kcmp (rd_T52 l i) x == 0))]) ∧ Below w.heap.size w w' := by
  have HS := Aside0.mk (St.none_ (N := w.heap.size) (w := w) (Nat.le_refl _))
  have HB := Aside0.mk (Below.refl w.heap.size w)
  have HC := Aside0.mk hc
  have HLO := Aside0.mk hlo
  have HHI := Aside0.mk hhi
  clear hc hlo hhi
  go_enter Try.func69, Try.ntmps69
  go_wp2_with (first | ((with_reducible refine gate_dst (N := 4) rfl ?_); refine box_event ?hg (N := 4) ?hd (cs := #[.int .i64 x.f0, .string x.f1]) (t := 52) ?hr ?_; (case hd => rfl); (case hg => rfl); (case hr => first | (go_simp; done) | (go_simp; rfl)); intro g hg w1 hbox hb; have n0_ := Aside0.mk (HS.out.box hg hbox hb); have n1_ := Aside0.mk (below_step' HB.out HS.out.size hb); clear HS HB; have HS := n0_; have HB := n1_; clear n0_ n1_; (try simp only [List.eraseIdx_cons_succ, List.eraseIdx_cons_zero] at HS); clear hb hbox hg))
  go_loopw [9, 10] (fun v9 v10 wc => ∃ lo hi : Nat, lo ≤ i ∧ i ≤ hi ∧ hi ≤ l.length ∧ v9 = .int .i64 lo ∧ v10 = .int .i64 hi ∧ Aside0 (St w.heap.size wc [Blk g #[.int .i64 x.f0, .string x.f1] 52]) ∧ Aside0 (Below w.heap.size w wc)) (fun v9 v10 _ => (intOf v10 - intOf v9).toNat)
  case atStart => exact ⟨0, l.length, by omega, hi, Nat.le_refl _, rfl, rfl, HS, HB⟩
  case round =>
    clear HS HB
    obtain ⟨lo, hi', h1, h2, h3, rfl, rfl, HS, HB⟩ := hrel
    by_cases hlt : lo < hi'
    · have hd : decide ((lo : Int) < (hi' : Int)) = true := decide_eq_true (by omega)
      obtain ⟨m, hm⟩ : ∃ m : Int, ((lo : Int) + (hi' : Int)) / 2 = m := ⟨_, rfl⟩
      have m0 : 0 ≤ m := by omega
      have m1 : (lo : Int) ≤ m := by omega
      have m2 : m < (hi' : Int) := by omega
      have q0 := eq_true m0
      have q1 := eq_true (show m < (l.length : Int) by omega)
      have q2 := decide_eq_true (show m < (l.length : Int) by omega)
      obtain ⟨ad, e, hx0, hx1⟩ := at_T52 (Kd.C_below HC.out HB.out) m m0 (by omega)
      cases e
      replace hx0 := Aside0.mk hx0
      replace hx1 := Aside0.mk hx1
      go_upto_region 5 with (fail)
      (try rw [hm])
      clear hm
      by_cases hk : kcmp (rd_T52 l m) x < 0
      · have hk2 := Aside0.mk hk
        have hk1 := decide_eq_true hk
        clear hk
        have n2_ := Aside0.mk (show wr.drew.cell? _ = _ from hx0.out); have n3_ := Aside0.mk (show wr.drew.cell? _ = _ from hx1.out); clear hx0 hx1; have hx0 := n2_; have hx1 := n3_; clear n2_ n3_
        have n0_ := Aside0.mk (HS.out.drew); have n1_ := Aside0.mk (HB.out.drew); clear HS HB; have HS := n0_; have HB := n1_; clear n0_ n1_
        refine start_ (n := 8) (S := fun w' => w'.cell? (ad.add (m.toNat * 2)) = some (.int .i64 (rd_T52 l m).f0) ∧ w'.cell? ⟨(ad.add (m.toNat * 2)).block, (ad.add (m.toNat * 2)).off + 1, none⟩ = some (.string (rd_T52 l m).f1) ∧ w'.cell? ⟨g, 0, none⟩ = some (.int .i64 x.f0) ∧ w'.cell? ⟨g, 1, none⟩ = some (.string x.f1)) (ds := []) #[false, false, false, false, false, false, false, false] (by kernel_rfl) rfl rfl ⟨hx0.out, hx1.out, ((HS.out.cell 0).trans rfl), ((HS.out.cell 1).trans rfl)⟩ (fun hHeld => ?_); refine with_tabW bsf.tab5 bsf.bits5 (fun HT_ HW_ => ?_)
        generalize wr.drew = w3 at HS HB hx0 hx1 hHeld ⊢
        refine pure_ (i := 0) (N := some 24) (v := ?_) (a' := ?_) #[true, false, false, false, false, false, false, false] rfl rfl (any_of HT_.out (by kernel_rfl)) (fun _ _ _ h => h) (Or.inl ⟨by rfl, ?_⟩) ?_ ?_
        rotate_left
        · intro w'
          go_simp
          with_reducible rfl
        rotate_left
        · simp only [Act.put, List.setIfInBounds_toArray, List.set_cons_zero, List.set_cons_succ, i64_w, i32_w]
          rfl
        refine pure_ (i := 1) (N := some 25) (v := ?_) (a' := ?_) #[true, true, false, false, false, false, false, false] rfl rfl (any_of HT_.out (by kernel_rfl)) (fun _ _ _ h => h) (Or.inl ⟨by rfl, ?_⟩) ?_ ?_
        rotate_left
        · intro w'
          go_simp
          with_reducible rfl
        rotate_left
        · simp only [Act.put, List.setIfInBounds_toArray, List.set_cons_zero, List.set_cons_succ, i64_w, i32_w]
          rfl
        refine pure_ (i := 2) (N := some 26) (v := ?_) (a' := ?_) #[true, true, true, false, false, false, false, false] rfl rfl (any_of HT_.out (by kernel_rfl)) (fun _ _ _ h => h) (Or.inl ⟨by rfl, ?_⟩) ?_ ?_
        rotate_left
        · intro w'
          go_simp
          with_reducible rfl
        rotate_left
        · simp only [Act.put, List.setIfInBounds_toArray, List.set_cons_zero, List.set_cons_succ, i64_w, i32_w]
          rfl
        refine pure_ (i := 3) (N := some 27) (v := ?_) (a' := ?_) #[true, true, true, true, false, false, false, false] rfl rfl (any_of HT_.out (by kernel_rfl)) (fun _ _ _ h => h) (Or.inl ⟨by rfl, ?_⟩) ?_ ?_
        rotate_left
        · intro w'
          go_simp
          with_reducible rfl
        rotate_left
        · simp only [Act.put, List.setIfInBounds_toArray, List.set_cons_zero, List.set_cons_succ, i64_w, i32_w]
          rfl
        refine take_ (i := 4) (N := some 28) (v := ?_) (a' := ?_) #[true, true, true, true, true, false, false, false] rfl rfl (take_ofW HT_.out HW_.out (by kernel_rfl)) (fun _ _ _ h => h) (Or.inl ⟨by rfl, ?_⟩) hHeld ?_ ?_
        rotate_left
        · rintro w' ⟨s0, s1, s2, s3⟩
          go_simp
          with_reducible rfl
        rotate_left
        · simp only [Act.put, List.setIfInBounds_toArray, List.set_cons_zero, List.set_cons_succ, i64_w, i32_w]
          rfl
        refine take_ (i := 5) (N := some 29) (v := ?_) (a' := ?_) #[true, true, true, true, true, true, false, false] rfl rfl (take_ofW HT_.out HW_.out (by kernel_rfl)) (fun _ _ _ h => h) (Or.inl ⟨by rfl, ?_⟩) hHeld ?_ ?_
        rotate_left
        · rintro w' ⟨s0, s1, s2, s3⟩
          go_simp
          with_reducible rfl
        rotate_left
        · simp only [Act.put, List.setIfInBounds_toArray, List.set_cons_zero, List.set_cons_succ, i64_w, i32_w]
          rfl
        refine one_ (i := 6) (N := some 30) #[true, true, true, true, true, true, true, false] rfl rfl (one_of HT_.out (by kernel_rfl)) (by decide) (fun K hK => ?_)
        refine goesV_ #[] Try.func55 (by kernel_rfl) rfl #[.agg #[.int .i64 (rd_T52 l m).f0, .string (rd_T52 l m).f1], .agg #[.int .i64 x.f0, .string x.f1]] (by rfl) rfl rfl (by rfl) (by (try simp only [List.map_toArray, List.map_cons, List.map_nil]); first | done | rfl | (simp; done)) ?_
        with_reducible refine (bottomk_compare.calls 10 _ _ _ _ _ _ (compare_ok 10 (by omega) (rd_T52 l m) x)).mono ?_
        rintro e w4 ⟨rfl, hb⟩
        refine ⟨_, rfl, ?_⟩
        have n0_ := Aside0.mk (HS.out.step hb); have n1_ := Aside0.mk (below_step' HB.out HS.out.size hb); clear HS HB; have HS := n0_; have HB := n1_; clear n0_ n1_; (try simp only [List.eraseIdx_cons_succ, List.eraseIdx_cons_zero] at HS)
        have n2_ := Aside0.mk ((hb.cell (World.block_lt_of_cell? _ _ hx0.out)).trans hx0.out); have n3_ := Aside0.mk ((hb.cell (World.block_lt_of_cell? _ _ hx1.out)).trans hx1.out); clear hx0 hx1 hb; have hx0 := n2_; have hx1 := n3_; clear n2_ n3_
        refine hK.out _ _ ⟨hx0.out, hx1.out, ((HS.out.cell 0).trans rfl), ((HS.out.cell 1).trans rfl)⟩ (fun hHeld => ?_)
        clear hK K
        refine norm_ (a' := ?_) ?_ ?_
        rotate_left
        · show Act.put _ (some 30) _ = _
          simp only [Act.put, List.setIfInBounds_toArray, List.set_cons_zero, List.set_cons_succ, i64_w, i32_w]
          rfl
        refine pure_ (i := 7) (N := some 31) (v := ?_) (a' := ?_) #[true, true, true, true, true, true, true, true] rfl rfl (any_of HT_.out (by kernel_rfl)) (fun _ _ _ h => h) (Or.inl ⟨by rfl, ?_⟩) ?_ ?_
        rotate_left
        · intro w'
          go_simp
          with_reducible rfl
        rotate_left
        · simp only [Act.put, List.setIfInBounds_toArray, List.set_cons_zero, List.set_cons_succ, i64_w, i32_w]
          rfl
        refine done_ (done_of HT_.out (by kernel_rfl)) ?_
        clear HT_ HW_
        try clear hHeld
        go_wp2
        go_roundw
        case rel =>
          have hk := hk2.out
          obtain ⟨M, rfl⟩ := Int.eq_ofNat_of_zero_le m0
          refine ⟨M + 1, hi', ?_, h2, h3, by go_num, rfl, HS, HB⟩
          by_cases h : M < i
          · omega
          · have := HHI.out M (by omega) (by omega); omega
        case measure => simp [intOf]; omega
      · have hk2 := Aside0.mk hk
        have hk1 := decide_eq_false hk
        clear hk
        have n2_ := Aside0.mk (show wr.drew.cell? _ = _ from hx0.out); have n3_ := Aside0.mk (show wr.drew.cell? _ = _ from hx1.out); clear hx0 hx1; have hx0 := n2_; have hx1 := n3_; clear n2_ n3_
        have n0_ := Aside0.mk (HS.out.drew); have n1_ := Aside0.mk (HB.out.drew); clear HS HB; have HS := n0_; have HB := n1_; clear n0_ n1_
        refine start_ (n := 8) (S := fun w' => w'.cell? (ad.add (m.toNat * 2)) = some (.int .i64 (rd_T52 l m).f0) ∧ w'.cell? ⟨(ad.add (m.toNat * 2)).block, (ad.add (m.toNat * 2)).off + 1, none⟩ = some (.string (rd_T52 l m).f1) ∧ w'.cell? ⟨g, 0, none⟩ = some (.int .i64 x.f0) ∧ w'.cell? ⟨g, 1, none⟩ = some (.string x.f1)) (ds := []) #[false, false, false, false, false, false, false, false] (by kernel_rfl) rfl rfl ⟨hx0.out, hx1.out, ((HS.out.cell 0).trans rfl), ((HS.out.cell 1).trans rfl)⟩ (fun hHeld => ?_); refine with_tabW bsf.tab5 bsf.bits5 (fun HT_ HW_ => ?_)
        generalize wr.drew = w3 at HS HB hx0 hx1 hHeld ⊢
        refine pure_ (i := 0) (N := some 24) (v := ?_) (a' := ?_) #[true, false, false, false, false, false, false, false] rfl rfl (any_of HT_.out (by kernel_rfl)) (fun _ _ _ h => h) (Or.inl ⟨by rfl, ?_⟩) ?_ ?_
        rotate_left
        · intro w'
          go_simp
          with_reducible rfl
        rotate_left
        · simp only [Act.put, List.setIfInBounds_toArray, List.set_cons_zero, List.set_cons_succ, i64_w, i32_w]
          rfl
        refine pure_ (i := 1) (N := some 25) (v := ?_) (a' := ?_) #[true, true, false, false, false, false, false, false] rfl rfl (any_of HT_.out (by kernel_rfl)) (fun _ _ _ h => h) (Or.inl ⟨by rfl, ?_⟩) ?_ ?_
        rotate_left
        · intro w'
          go_simp
          with_reducible rfl
        rotate_left
        · simp only [Act.put, List.setIfInBounds_toArray, List.set_cons_zero, List.set_cons_succ, i64_w, i32_w]
          rfl
        refine pure_ (i := 2) (N := some 26) (v := ?_) (a' := ?_) #[true, true, true, false, false, false, false, false] rfl rfl (any_of HT_.out (by kernel_rfl)) (fun _ _ _ h => h) (Or.inl ⟨by rfl, ?_⟩) ?_ ?_
        rotate_left
        · intro w'
          go_simp
          with_reducible rfl
        rotate_left
        · simp only [Act.put, List.setIfInBounds_toArray, List.set_cons_zero, List.set_cons_succ, i64_w, i32_w]
          rfl
        refine pure_ (i := 3) (N := some 27) (v := ?_) (a' := ?_) #[true, true, true, true, false, false, false, false] rfl rfl (any_of HT_.out (by kernel_rfl)) (fun _ _ _ h => h) (Or.inl ⟨by rfl, ?_⟩) ?_ ?_
        rotate_left
        · intro w'
          go_simp
          with_reducible rfl
        rotate_left
        · simp only [Act.put, List.setIfInBounds_toArray, List.set_cons_zero, List.set_cons_succ, i64_w, i32_w]
          rfl
        refine take_ (i := 4) (N := some 28) (v := ?_) (a' := ?_) #[true, true, true, true, true, false, false, false] rfl rfl (take_ofW HT_.out HW_.out (by kernel_rfl)) (fun _ _ _ h => h) (Or.inl ⟨by rfl, ?_⟩) hHeld ?_ ?_
        rotate_left
        · rintro w' ⟨s0, s1, s2, s3⟩
          go_simp
          with_reducible rfl
        rotate_left
        · simp only [Act.put, List.setIfInBounds_toArray, List.set_cons_zero, List.set_cons_succ, i64_w, i32_w]
          rfl
        refine take_ (i := 5) (N := some 29) (v := ?_) (a' := ?_) #[true, true, true, true, true, true, false, false] rfl rfl (take_ofW HT_.out HW_.out (by kernel_rfl)) (fun _ _ _ h => h) (Or.inl ⟨by rfl, ?_⟩) hHeld ?_ ?_
        rotate_left
        · rintro w' ⟨s0, s1, s2, s3⟩
          go_simp
          with_reducible rfl
        rotate_left
        · simp only [Act.put, List.setIfInBounds_toArray, List.set_cons_zero, List.set_cons_succ, i64_w, i32_w]
          rfl
        refine one_ (i := 6) (N := some 30) #[true, true, true, true, true, true, true, false] rfl rfl (one_of HT_.out (by kernel_rfl)) (by decide) (fun K hK => ?_)
        refine goesV_ #[] Try.func55 (by kernel_rfl) rfl #[.agg #[.int .i64 (rd_T52 l m).f0, .string (rd_T52 l m).f1], .agg #[.int .i64 x.f0, .string x.f1]] (by rfl) rfl rfl (by rfl) (by (try simp only [List.map_toArray, List.map_cons, List.map_nil]); first | done | rfl | (simp; done)) ?_
        with_reducible refine (bottomk_compare.calls 10 _ _ _ _ _ _ (compare_ok 10 (by omega) (rd_T52 l m) x)).mono ?_
        rintro e w4 ⟨rfl, hb⟩
        refine ⟨_, rfl, ?_⟩
        have n0_ := Aside0.mk (HS.out.step hb); have n1_ := Aside0.mk (below_step' HB.out HS.out.size hb); clear HS HB; have HS := n0_; have HB := n1_; clear n0_ n1_; (try simp only [List.eraseIdx_cons_succ, List.eraseIdx_cons_zero] at HS)
        have n2_ := Aside0.mk ((hb.cell (World.block_lt_of_cell? _ _ hx0.out)).trans hx0.out); have n3_ := Aside0.mk ((hb.cell (World.block_lt_of_cell? _ _ hx1.out)).trans hx1.out); clear hx0 hx1 hb; have hx0 := n2_; have hx1 := n3_; clear n2_ n3_
        refine hK.out _ _ ⟨hx0.out, hx1.out, ((HS.out.cell 0).trans rfl), ((HS.out.cell 1).trans rfl)⟩ (fun hHeld => ?_)
        clear hK K
        refine norm_ (a' := ?_) ?_ ?_
        rotate_left
        · show Act.put _ (some 30) _ = _
          simp only [Act.put, List.setIfInBounds_toArray, List.set_cons_zero, List.set_cons_succ, i64_w, i32_w]
          rfl
        refine pure_ (i := 7) (N := some 31) (v := ?_) (a' := ?_) #[true, true, true, true, true, true, true, true] rfl rfl (any_of HT_.out (by kernel_rfl)) (fun _ _ _ h => h) (Or.inl ⟨by rfl, ?_⟩) ?_ ?_
        rotate_left
        · intro w'
          go_simp
          with_reducible rfl
        rotate_left
        · simp only [Act.put, List.setIfInBounds_toArray, List.set_cons_zero, List.set_cons_succ, i64_w, i32_w]
          rfl
        refine done_ (done_of HT_.out (by kernel_rfl)) ?_
        clear HT_ HW_
        try clear hHeld
        go_wp2
        go_roundw
        case rel =>
          have hk := hk2.out
          obtain ⟨M, rfl⟩ := Int.eq_ofNat_of_zero_le m0
          refine ⟨lo, M, h1, ?_, by omega, rfl, rfl, HS, HB⟩
          by_cases h : M < i
          · have := HLO.out M h; omega
          · omega
        case measure => simp [intOf]; omega
    · obtain rfl : i = lo := by omega
      obtain rfl : i = hi' := by omega
      have hd : decide ((i : Int) < (i : Int)) = false := decide_eq_false (by omega)
      by_cases hin : i < l.length
      · have q0 := eq_true (show (0 : Int) ≤ (i : Int) by omega)
        have q2 : decide ((i : Int) < (l.length : Int)) = true := decide_eq_true (by omega)
        have q3 : decide (i < l.length) = true := decide_eq_true hin
        obtain ⟨ad, e, hx0, hx1⟩ := at_T52 (Kd.C_below HC.out HB.out) (i : Int) (by omega) (by omega)
        cases e
        rw [Int.toNat_natCast] at hx0 hx1
        replace hx0 := Aside0.mk hx0
        replace hx1 := Aside0.mk hx1
        go_upto_region 8 with (fail)
        have n2_ := Aside0.mk (show wr.drew.cell? _ = _ from hx0.out); have n3_ := Aside0.mk (show wr.drew.cell? _ = _ from hx1.out); clear hx0 hx1; have hx0 := n2_; have hx1 := n3_; clear n2_ n3_
        have n0_ := Aside0.mk (HS.out.drew); have n1_ := Aside0.mk (HB.out.drew); clear HS HB; have HS := n0_; have HB := n1_; clear n0_ n1_
        refine start_ (n := 16) (S := fun w' => w'.cell? (ad.add (i * 2)) = some (.int .i64 (rd_T52 l (i : Int)).f0) ∧ w'.cell? ⟨(ad.add (i * 2)).block, (ad.add (i * 2)).off + 1, none⟩ = some (.string (rd_T52 l (i : Int)).f1) ∧ w'.cell? ⟨g, 0, none⟩ = some (.int .i64 x.f0) ∧ w'.cell? ⟨g, 1, none⟩ = some (.string x.f1)) (ds := []) (tfs true [0, 16]).toArray (by kernel_rfl) rfl rfl ⟨hx0.out, hx1.out, ((HS.out.cell 0).trans rfl), ((HS.out.cell 1).trans rfl)⟩ (fun hHeld => ?_); refine with_tabW bsf.tab8 bsf.bits8 (fun HT_ HW_ => ?_)
        generalize wr.drew = w3 at HS HB hx0 hx1 hHeld ⊢
        refine pure_ (i := 0) (N := some 35) (v := ?_) (a' := ?_) (tfs true [1, 15]).toArray rfl rfl (any_of HT_.out (by kernel_rfl)) (fun _ _ _ h => h) (Or.inl ⟨by rfl, ?_⟩) ?_ ?_
        rotate_left
        · intro w'
          go_simp
          with_reducible rfl
        rotate_left
        · simp only [Act.put, List.setIfInBounds_toArray, List.set_cons_zero, List.set_cons_succ, i64_w, i32_w]
          rfl
        refine pure_ (i := 1) (N := some 36) (v := ?_) (a' := ?_) (tfs true [2, 14]).toArray rfl rfl (any_of HT_.out (by kernel_rfl)) (fun _ _ _ h => h) (Or.inl ⟨by rfl, ?_⟩) ?_ ?_
        rotate_left
        · intro w'
          go_simp
          with_reducible rfl
        rotate_left
        · simp only [Act.put, List.setIfInBounds_toArray, List.set_cons_zero, List.set_cons_succ, i64_w, i32_w]
          rfl
        refine pure_ (i := 2) (N := some 37) (v := ?_) (a' := ?_) (tfs true [3, 13]).toArray rfl rfl (any_of HT_.out (by kernel_rfl)) (fun _ _ _ h => h) (Or.inl ⟨by rfl, ?_⟩) ?_ ?_
        rotate_left
        · intro w'
          go_simp
          with_reducible rfl
        rotate_left
        · simp only [Act.put, List.setIfInBounds_toArray, List.set_cons_zero, List.set_cons_succ, i64_w, i32_w]
          rfl
        refine pure_ (i := 3) (N := some 38) (v := ?_) (a' := ?_) (tfs true [4, 12]).toArray rfl rfl (any_of HT_.out (by kernel_rfl)) (fun _ _ _ h => h) (Or.inl ⟨by rfl, ?_⟩) ?_ ?_
        rotate_left
        · intro w'
          go_simp
          with_reducible rfl
        rotate_left
        · simp only [Act.put, List.setIfInBounds_toArray, List.set_cons_zero, List.set_cons_succ, i64_w, i32_w]
          rfl
        refine pure_ (i := 4) (N := some 39) (v := ?_) (a' := ?_) (tfs true [5, 11]).toArray rfl rfl (any_of HT_.out (by kernel_rfl)) (fun _ _ _ h => h) (Or.inl ⟨by rfl, ?_⟩) ?_ ?_
        rotate_left
        · intro w'
          go_simp
          with_reducible rfl
        rotate_left
        · simp only [Act.put, List.setIfInBounds_toArray, List.set_cons_zero, List.set_cons_succ, i64_w, i32_w]
          rfl
        refine pure_ (i := 5) (N := some 40) (v := ?_) (a' := ?_) (tfs true [6, 10]).toArray rfl rfl (any_of HT_.out (by kernel_rfl)) (fun _ _ _ h => h) (Or.inl ⟨by rfl, ?_⟩) ?_ ?_
        rotate_left
        · intro w'
          go_simp
          with_reducible rfl
        rotate_left
        · simp only [Act.put, List.setIfInBounds_toArray, List.set_cons_zero, List.set_cons_succ, i64_w, i32_w]
          rfl
        refine pure_ (i := 6) (N := some 41) (v := ?_) (a' := ?_) (tfs true [7, 9]).toArray rfl rfl (any_of HT_.out (by kernel_rfl)) (fun _ _ _ h => h) (Or.inl ⟨by rfl, ?_⟩) ?_ ?_
        rotate_left
        · intro w'
          go_simp
          with_reducible rfl
        rotate_left
        · simp only [Act.put, List.setIfInBounds_toArray, List.set_cons_zero, List.set_cons_succ, i64_w, i32_w]
          rfl
        refine pure_ (i := 7) (N := some 42) (v := ?_) (a' := ?_) (tfs true [8, 8]).toArray rfl rfl (any_of HT_.out (by kernel_rfl)) (fun _ _ _ h => h) (Or.inl ⟨by rfl, ?_⟩) ?_ ?_
        rotate_left
        · intro w'
          go_simp
          with_reducible rfl
        rotate_left
        · simp only [Act.put, List.setIfInBounds_toArray, List.set_cons_zero, List.set_cons_succ, i64_w, i32_w]
          rfl
        refine pure_ (i := 8) (N := some 43) (v := ?_) (a' := ?_) (tfs true [9, 7]).toArray rfl rfl (any_of HT_.out (by kernel_rfl)) (fun _ _ _ h => h) (Or.inl ⟨by rfl, ?_⟩) ?_ ?_
        rotate_left
        · intro w'
          go_simp
          with_reducible rfl
        rotate_left
        · simp only [Act.put, List.setIfInBounds_toArray, List.set_cons_zero, List.set_cons_succ, i64_w, i32_w]
          rfl
        refine take_ (i := 9) (N := some 44) (v := ?_) (a' := ?_) (tfs true [10, 6]).toArray rfl rfl (take_ofW HT_.out HW_.out (by kernel_rfl)) (fun _ _ _ h => h) (Or.inl ⟨by rfl, ?_⟩) hHeld ?_ ?_
        rotate_left
        · rintro w' ⟨s0, s1, s2, s3⟩
          go_simp
          with_reducible rfl
        rotate_left
        · simp only [Act.put, List.setIfInBounds_toArray, List.set_cons_zero, List.set_cons_succ, i64_w, i32_w]
          rfl
        refine take_ (i := 10) (N := some 45) (v := ?_) (a' := ?_) (tfs true [11, 5]).toArray rfl rfl (take_ofW HT_.out HW_.out (by kernel_rfl)) (fun _ _ _ h => h) (Or.inl ⟨by rfl, ?_⟩) hHeld ?_ ?_
        rotate_left
        · rintro w' ⟨s0, s1, s2, s3⟩
          go_simp
          with_reducible rfl
        rotate_left
        · simp only [Act.put, List.setIfInBounds_toArray, List.set_cons_zero, List.set_cons_succ, i64_w, i32_w]
          rfl
        refine one_ (i := 11) (N := some 46) (tfs true [12, 4]).toArray rfl rfl (one_of HT_.out (by kernel_rfl)) (by decide) (fun K hK => ?_)
        refine goesV_ #[] Try.func55 (by kernel_rfl) rfl #[.agg #[.int .i64 (rd_T52 l (i : Int)).f0, .string (rd_T52 l (i : Int)).f1], .agg #[.int .i64 x.f0, .string x.f1]] (by rfl) rfl rfl (by rfl) (by (try simp only [List.map_toArray, List.map_cons, List.map_nil]); first | done | rfl | (simp; done)) ?_
        with_reducible refine (bottomk_compare.calls 10 _ _ _ _ _ _ (compare_ok 10 (by omega) (rd_T52 l (i : Int)) x)).mono ?_
        rintro e w4 ⟨rfl, hb⟩
        refine ⟨_, rfl, ?_⟩
        have n0_ := Aside0.mk (HS.out.step hb); have n1_ := Aside0.mk (below_step' HB.out HS.out.size hb); clear HS HB; have HS := n0_; have HB := n1_; clear n0_ n1_; (try simp only [List.eraseIdx_cons_succ, List.eraseIdx_cons_zero] at HS)
        have n2_ := Aside0.mk ((hb.cell (World.block_lt_of_cell? _ _ hx0.out)).trans hx0.out); have n3_ := Aside0.mk ((hb.cell (World.block_lt_of_cell? _ _ hx1.out)).trans hx1.out); clear hx0 hx1 hb; have hx0 := n2_; have hx1 := n3_; clear n2_ n3_
        refine hK.out _ _ ⟨hx0.out, hx1.out, ((HS.out.cell 0).trans rfl), ((HS.out.cell 1).trans rfl)⟩ (fun hHeld => ?_)
        clear hK K
        refine norm_ (a' := ?_) ?_ ?_
        rotate_left
        · show Act.put _ (some 46) _ = _
          simp only [Act.put, List.setIfInBounds_toArray, List.set_cons_zero, List.set_cons_succ, i64_w, i32_w]
          rfl
        refine pure_ (i := 12) (N := some 47) (v := ?_) (a' := ?_) (tfs true [13, 3]).toArray rfl rfl (any_of HT_.out (by kernel_rfl)) (fun _ _ _ h => h) (Or.inl ⟨by rfl, ?_⟩) ?_ ?_
        rotate_left
        · intro w'
          go_simp
          with_reducible rfl
        rotate_left
        · simp only [Act.put, List.setIfInBounds_toArray, List.set_cons_zero, List.set_cons_succ, i64_w, i32_w]
          rfl
        refine pure_ (i := 13) (N := some 48) (v := ?_) (a' := ?_) (tfs true [14, 2]).toArray rfl rfl (any_of HT_.out (by kernel_rfl)) (fun _ _ _ h => h) (Or.inl ⟨by rfl, ?_⟩) ?_ ?_
        rotate_left
        · intro w'
          go_simp
          with_reducible rfl
        rotate_left
        · simp only [Act.put, List.setIfInBounds_toArray, List.set_cons_zero, List.set_cons_succ, i64_w, i32_w]
          rfl
        refine pure_ (i := 14) (N := some 6) (v := ?_) (a' := ?_) (tfs true [15, 1]).toArray rfl rfl (any_of HT_.out (by kernel_rfl)) (fun _ _ _ h => h) (Or.inl ⟨by rfl, ?_⟩) ?_ ?_
        rotate_left
        · intro w'
          go_simp
          with_reducible rfl
        rotate_left
        · simp only [Act.put, List.setIfInBounds_toArray, List.set_cons_zero, List.set_cons_succ, i64_w, i32_w]
          rfl
        refine pure_ (i := 15) (N := some 7) (v := ?_) (a' := ?_) (tfs true [16]).toArray rfl rfl (any_of HT_.out (by kernel_rfl)) (fun _ _ _ h => h) (Or.inl ⟨by rfl, ?_⟩) ?_ ?_
        rotate_left
        · intro w'
          go_simp
          with_reducible rfl
        rotate_left
        · simp only [Act.put, List.setIfInBounds_toArray, List.set_cons_zero, List.set_cons_succ, i64_w, i32_w]
          rfl
        refine done_ (done_of HT_.out (by kernel_rfl)) ?_
        clear HT_ HW_
        try clear hHeld
        go_wp2
        go_ret2
        exact ⟨by simp [q3], HB.out⟩
      · have q2 : decide ((i : Int) < (l.length : Int)) = false := decide_eq_false (by omega)
        have q3 : decide (i < l.length) = false := decide_eq_false hin
        go_upto_region 8 with (fail)
        have n0_ := Aside0.mk (HS.out.drew); have n1_ := Aside0.mk (HB.out.drew); clear HS HB; have HS := n0_; have HB := n1_; clear n0_ n1_
        refine start_ (n := 16) (S := fun w' => True) (ds := []) (tfs true [0, 16]).toArray (by kernel_rfl) rfl rfl trivial (fun hHeld => ?_); refine with_tabW bsf.tab8 bsf.bits8 (fun HT_ HW_ => ?_)
        generalize wr.drew = w3 at HS HB hHeld ⊢
        refine pure_ (i := 0) (N := some 35) (v := ?_) (a' := ?_) (tfs true [1, 15]).toArray rfl rfl (any_of HT_.out (by kernel_rfl)) (fun _ _ _ h => h) (Or.inl ⟨by rfl, ?_⟩) ?_ ?_
        rotate_left
        · intro w'
          go_simp
          with_reducible rfl
        rotate_left
        · simp only [Act.put, List.setIfInBounds_toArray, List.set_cons_zero, List.set_cons_succ, i64_w, i32_w]
          rfl
        refine pure_ (i := 1) (N := some 36) (v := ?_) (a' := ?_) (tfs true [2, 14]).toArray rfl rfl (any_of HT_.out (by kernel_rfl)) (fun _ _ _ h => h) (Or.inl ⟨by rfl, ?_⟩) ?_ ?_
        rotate_left
        · intro w'
          go_simp
          with_reducible rfl
        rotate_left
        · simp only [Act.put, List.setIfInBounds_toArray, List.set_cons_zero, List.set_cons_succ, i64_w, i32_w]
          rfl
        refine pure_ (i := 2) (N := some 37) (v := ?_) (a' := ?_) (tfs true [3, 13]).toArray rfl rfl (any_of HT_.out (by kernel_rfl)) (fun _ _ _ h => h) (Or.inl ⟨by rfl, ?_⟩) ?_ ?_
        rotate_left
        · intro w'
          go_simp
          with_reducible rfl
        rotate_left
        · simp only [Act.put, List.setIfInBounds_toArray, List.set_cons_zero, List.set_cons_succ, i64_w, i32_w]
          rfl
        refine pure_ (i := 3) (N := some 38) (v := ?_) (a' := ?_) (tfs true [4, 12]).toArray rfl rfl (any_of HT_.out (by kernel_rfl)) (fun _ _ _ h => h) (Or.inl ⟨by rfl, ?_⟩) ?_ ?_
        rotate_left
        · intro w'
          go_simp
          with_reducible rfl
        rotate_left
        · simp only [Act.put, List.setIfInBounds_toArray, List.set_cons_zero, List.set_cons_succ, i64_w, i32_w]
          rfl
        refine pure_ (i := 4) (N := some 39) (v := ?_) (a' := ?_) (tfs true [5, 11]).toArray rfl rfl (any_of HT_.out (by kernel_rfl)) (fun _ _ _ h => h) (Or.inl ⟨by rfl, ?_⟩) ?_ ?_
        rotate_left
        · intro w'
          go_simp
          with_reducible rfl
        rotate_left
        · simp only [Act.put, List.setIfInBounds_toArray, List.set_cons_zero, List.set_cons_succ, i64_w, i32_w]
          rfl
        refine pure_ (i := 5) (N := some 40) (v := undef) (a' := ?_) (tfs true [6, 10]).toArray rfl rfl (any_of HT_.out (by kernel_rfl)) (fun _ _ _ h => h) (Or.inr ⟨by rfl, rfl⟩) ?_ ?_
        rotate_left
        · simp only [Act.put, List.setIfInBounds_toArray, List.set_cons_zero, List.set_cons_succ, i64_w, i32_w]
          rfl
        refine pure_ (i := 6) (N := some 41) (v := undef) (a' := ?_) (tfs true [7, 9]).toArray rfl rfl (any_of HT_.out (by kernel_rfl)) (fun _ _ _ h => h) (Or.inr ⟨by rfl, rfl⟩) ?_ ?_
        rotate_left
        · simp only [Act.put, List.setIfInBounds_toArray, List.set_cons_zero, List.set_cons_succ, i64_w, i32_w]
          rfl
        refine pure_ (i := 7) (N := some 42) (v := undef) (a' := ?_) (tfs true [8, 8]).toArray rfl rfl (any_of HT_.out (by kernel_rfl)) (fun _ _ _ h => h) (Or.inr ⟨by rfl, rfl⟩) ?_ ?_
        rotate_left
        · simp only [Act.put, List.setIfInBounds_toArray, List.set_cons_zero, List.set_cons_succ, i64_w, i32_w]
          rfl
        refine pure_ (i := 8) (N := some 43) (v := undef) (a' := ?_) (tfs true [9, 7]).toArray rfl rfl (any_of HT_.out (by kernel_rfl)) (fun _ _ _ h => h) (Or.inr ⟨by rfl, rfl⟩) ?_ ?_
        rotate_left
        · simp only [Act.put, List.setIfInBounds_toArray, List.set_cons_zero, List.set_cons_succ, i64_w, i32_w]
          rfl
        refine pure_ (i := 9) (N := some 44) (v := undef) (a' := ?_) (tfs true [10, 6]).toArray rfl rfl (any_of HT_.out (by kernel_rfl)) (fun _ _ _ h => h) (Or.inr ⟨by rfl, rfl⟩) ?_ ?_
        rotate_left
        · simp only [Act.put, List.setIfInBounds_toArray, List.set_cons_zero, List.set_cons_succ, i64_w, i32_w]
          rfl
        refine pure_ (i := 10) (N := some 45) (v := undef) (a' := ?_) (tfs true [11, 5]).toArray rfl rfl (any_of HT_.out (by kernel_rfl)) (fun _ _ _ h => h) (Or.inr ⟨by rfl, rfl⟩) ?_ ?_
        rotate_left
        · simp only [Act.put, List.setIfInBounds_toArray, List.set_cons_zero, List.set_cons_succ, i64_w, i32_w]
          rfl
        refine pure_ (i := 11) (N := some 46) (v := undef) (a' := ?_) (tfs true [12, 4]).toArray rfl rfl (any_of HT_.out (by kernel_rfl)) (fun _ _ _ h => h) (Or.inr ⟨by rfl, rfl⟩) ?_ ?_
        rotate_left
        · simp only [Act.put, List.setIfInBounds_toArray, List.set_cons_zero, List.set_cons_succ, i64_w, i32_w]
          rfl
        refine pure_ (i := 12) (N := some 47) (v := undef) (a' := ?_) (tfs true [13, 3]).toArray rfl rfl (any_of HT_.out (by kernel_rfl)) (fun _ _ _ h => h) (Or.inr ⟨by rfl, rfl⟩) ?_ ?_
        rotate_left
        · simp only [Act.put, List.setIfInBounds_toArray, List.set_cons_zero, List.set_cons_succ, i64_w, i32_w]
          rfl
        refine pure_ (i := 13) (N := some 48) (v := ?_) (a' := ?_) (tfs true [14, 2]).toArray rfl rfl (any_of HT_.out (by kernel_rfl)) (fun _ _ _ h => h) (Or.inl ⟨by rfl, ?_⟩) ?_ ?_
        rotate_left
        · intro w'
          go_simp
          with_reducible rfl
        rotate_left
        · simp only [Act.put, List.setIfInBounds_toArray, List.set_cons_zero, List.set_cons_succ, i64_w, i32_w]
          rfl
        refine pure_ (i := 14) (N := some 6) (v := ?_) (a' := ?_) (tfs true [15, 1]).toArray rfl rfl (any_of HT_.out (by kernel_rfl)) (fun _ _ _ h => h) (Or.inl ⟨by rfl, ?_⟩) ?_ ?_
        rotate_left
        · intro w'
          go_simp
          with_reducible rfl
        rotate_left
        · simp only [Act.put, List.setIfInBounds_toArray, List.set_cons_zero, List.set_cons_succ, i64_w, i32_w]
          rfl
        refine pure_ (i := 15) (N := some 7) (v := ?_) (a' := ?_) (tfs true [16]).toArray rfl rfl (any_of HT_.out (by kernel_rfl)) (fun _ _ _ h => h) (Or.inl ⟨by rfl, ?_⟩) ?_ ?_
        rotate_left
        · intro w'
          go_simp
          with_reducible rfl
        rotate_left
        · simp only [Act.put, List.setIfInBounds_toArray, List.set_cons_zero, List.set_cons_succ, i64_w, i32_w]
          rfl
        refine done_ (done_of HT_.out (by kernel_rfl)) ?_
        clear HT_ HW_
        try clear hHeld
        go_wp2
        go_ret2
        exact ⟨by simp [q3], HB.out⟩

end Go.Proofs.Ytddhpkobingmhaa.PB
