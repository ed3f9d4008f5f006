/- The model's counting: the events that count, in order. -/
import Derived.Test.YtcjfgejiknlpfaaGreatJ2
import Derived.Test.YtcjfgejiknlpfaaGreatJ0
import Derived.Test.YtcjfgejiknlpfaaGreatCmpW
import Derived.Test.YtcjfgejiknlpfaaGreatSq16
import Derived.Test.YtcjfgejiknlpfaaGreatSq17
namespace Go.Proofs.YtcjfgejiknlpfaaGreat.PI
open Go.RowKit Go.Proofs.YtcjfgejiknlpfaaGreatW.PrintWords Go.Proofs.YtcjfgejiknlpfaaGreatW.PrintLast Go.Proofs.YtcjfgejiknlpfaaGreatW.PrintMore Go.Proofs.YtcjfgejiknlpfaaGreat.Sep
set_option linter.unusedVariables false
set_option linter.unusedSimpArgs false
set_option maxHeartbeats 8000000
set_option maxRecDepth 100000

def cnt.T6 : Bool × List (List Nat × List Nat) := (true, [([], []), ([0], [0]), ([1], [1]), ([2], [2]), ([2], [2]), ([4, 2], [2, 4]), ([3, 5, 2], [2, 3, 5]), ([6, 2], [2, 6]), ([2], [2]), ([2], [2]), ([8, 9, 2], [2, 8, 9]), ([10, 2], [2, 10]), ([7, 11, 2, 2], [2, 7, 11]), ([12, 2], [2, 12]), ([2, 13], [2, 13])])
def cnt.B6 : List Nat := [0, 1, 3, 7, 7, 23, 63, 127, 7, 7, 775, 1799, 4095, 8191, 16383]
theorem cnt.tab6 : rtab .any (opsOf Tryz.f13 6) = cnt.T6 := by kernel_rfl
theorem cnt.bits6 : waitsOk cnt.T6.2 cnt.B6 = true := by kernel_rfl
def cnt.T8 : Bool × List (List Nat × List Nat) := (true, [([], []), ([], []), ([], []), ([1, 2], [1, 2]), ([0, 3], [0, 3]), ([], []), ([], []), ([5, 6], [5, 6]), ([7], [7]), ([8], [8]), ([4, 9, 4], [4, 9]), ([], []), ([], []), ([11, 12], [11, 12]), ([10, 13, 10], [10, 13]), ([14, 14, 0, 1, 2, 3, 4, 5, 6, 7, 8, 9, 10, 11, 12, 13, 14], [1, 11, 14])])
def cnt.B8 : List Nat := [0, 0, 0, 6, 15, 0, 0, 96, 224, 480, 1023, 0, 0, 6144, 16383, 32767]
theorem cnt.tab8 : rtab .any (opsOf Tryz.f13 8) = cnt.T8 := by kernel_rfl
theorem cnt.bits8 : waitsOk cnt.T8.2 cnt.B8 = true := by kernel_rfl
def cnt.T16 : Bool × List (List Nat × List Nat) := (true, [([], []), ([0], [0]), ([1], [1]), ([1], [1]), ([2, 3, 1], [1, 2, 3]), ([4, 1], [1, 4]), ([5, 1], [1, 5]), ([1], [1]), ([1], [1]), ([7, 8, 1], [1, 7, 8]), ([9, 1], [1, 9]), ([10, 1], [1, 10]), ([6, 11, 1], [1, 6, 11]), ([1, 12], [1, 12]), ([13, 1, 0, 1, 2, 3, 4, 5, 6, 7, 8, 9, 10, 11, 12, 13], [0, 13])])
def cnt.B16 : List Nat := [0, 1, 3, 3, 15, 31, 63, 3, 3, 387, 899, 1923, 4095, 8191, 16383]
theorem cnt.tab16 : rtab .any (opsOf Tryz.f13 16) = cnt.T16 := by kernel_rfl
theorem cnt.bits16 : waitsOk cnt.T16.2 cnt.B16 = true := by kernel_rfl
theorem Cx_take {α : Type} {k : Kd α} {w : World} {A : Option Addr} {m : Nat} {xs : List α} (h : k.C w A xs.length xs) (hm : m ≤ xs.length) : k.C w A (xs.take m).length (xs.take m) := by
  have hl : (xs.take m).length = m := by rw [List.length_take]; omega
  refine ⟨rfl, by rw [hl]; have := h.2.1; omega, fun hp => ?_⟩
  obtain ⟨ad, e, hc⟩ := h.2.2 (by omega)
  refine ⟨ad, e, fun j p hj => hc j p ?_⟩
  rw [List.getElem?_take] at hj
  split at hj
  · exact hj
  · cases hj
theorem Cx_drop {α : Type} {k : Kd α} {w : World} {A : Option Addr} {m c : Nat} {xs : List α} (h : k.C w A xs.length xs) (hm : m ≤ xs.length) (hc : xs.length ≤ c) : k.C w (if c = m then A else A.map (·.add (m * k.sz))) (xs.drop m).length (xs.drop m) := by
  have hl : (xs.drop m).length = xs.length - m := List.length_drop
  refine ⟨rfl, by rw [hl]; have := h.2.1; omega, fun hp => ?_⟩
  rw [hl] at hp
  obtain ⟨ad, rfl, hcell⟩ := h.2.2 (by omega)
  rw [if_neg (by omega)]
  refine ⟨ad.add (m * k.sz), rfl, fun j p hj => ?_⟩
  rw [List.getElem?_drop] at hj
  obtain ⟨cs, h1, h2, h3⟩ := hcell (m + j) p hj
  refine ⟨cs, h1, h2, fun i u hu => ?_⟩
  rw [add_add, show m * k.sz + (j * k.sz + i) = (m + j) * k.sz + i by rw [Nat.add_mul]; omega]
  exact h3 i u hu
theorem rowTake {N : Nat} {w : World} {L : List Res} {A : Option Addr} {n c : Nat} {xs : List S50} (h : St N w (Row k50 50 (.slice A n c) xs :: L)) (k : Nat) (hk : k ≤ xs.length) (T : List S50) (hT : xs.take k = T) : Kd.C k50 w A k T := by
  have h1 := Cx_take h.rowC.2.2 hk
  rw [List.length_take, Nat.min_eq_left hk, hT] at h1
  exact h1
theorem rowDrop {N : Nat} {w : World} {L : List Res} {A : Option Addr} {n c : Nat} {xs : List S50} (h : St N w (Row k50 50 (.slice A n c) xs :: L)) (k : Nat) (hk : k ≤ xs.length) (U : List S50) (hU : xs.drop k = U) : Kd.C k50 w (if c = k then A else A.map (·.add (k * 9))) (n - k) U := by
  have h0 := h.rowC
  have h1 := Cx_drop (c := c) h0.2.2 hk h0.2.1
  rw [List.length_drop, hU] at h1
  rw [h0.1]
  exact h1
theorem St.fin3 {N : Nat} {w : World} {a b c d : Res} {L : List Res} (h : St N w (a :: b :: c :: L)) : St N w (a :: c :: L) := h.swap.drop
theorem bf_of_pos {x y : S50} (h : 0 < ecmp y x) : Bf x y := by unfold Bf; have := cm_ev.neg y x; omega
theorem not_bf_of {x y : S50} (h : ¬ 0 < ecmp y x) : ¬ Bf x y := by unfold Bf; have := cm_ev.neg y x; omega
theorem keq_eq (x y : S50) (q : Bool) (h : decide (y.f0 = x.f0) = q) : (y.f0.f0.toList == x.f0.f0.toList && y.f0.f1 == x.f0.f1) = q := by
  have := ne27 y x
  rw [h] at this
  rw [← Bool.not_not (_ && _), Bool.not_and, this, Bool.not_not]
theorem keq_if (x y : S50) (q : Bool) (h : decide (y.f0 = x.f0) = q) : (if y.f0.f0.toList = x.f0.f0.toList then (if y.f0.f1 = x.f0.f1 then true else false) else false) = q := by
  rw [← keq_eq x y q h]
  by_cases h1 : y.f0.f0.toList = x.f0.f0.toList <;> by_cases h2 : y.f0.f1 = x.f0.f1 <;> simp [h1, h2]
theorem keq_ne {α : Type} (x y : S50) (q : Bool) (h : decide (y.f0 = x.f0) = q) (f : Bool → α) : (if y.f0.f0.toList = x.f0.f0.toList then (if y.f0.f1 = x.f0.f1 then f false else f true) else f true) = f (!q) := by
  rw [← keq_if x y q h]
  by_cases h1 : y.f0.f0.toList = x.f0.f0.toList
  · by_cases h2 : y.f0.f1 = x.f0.f1
    · rw [if_pos h1, if_pos h2, if_pos h1, if_pos h2]; rfl
    · rw [if_pos h1, if_neg h2, if_pos h1, if_neg h2]; rfl
  · rw [if_neg h1, if_neg h1]; rfl
theorem first_step (D : List S50) (x : S50) (k : Nat) (h : true = decide (∀ j : Nat, j < k → (rd_T50 D (j : Int)).f0 ≠ x.f0)) : (!decide ((rd_T50 D (k : Int)).f0 = x.f0)) = decide (∀ j : Nat, j < k + 1 → (rd_T50 D (j : Int)).f0 ≠ x.f0) := by
  have h := of_decide_eq_true h.symm
  by_cases e : (rd_T50 D (k : Int)).f0 = x.f0
  · rw [decide_eq_true e, decide_eq_false (fun h2 => h2 k (by omega) e)]; rfl
  · rw [decide_eq_false e, decide_eq_true (fun j hj => by
      by_cases e2 : j = k
      · subst e2; exact e
      · exact h j (by omega))]; rfl
theorem first_none (D : List S50) (x : S50) (k : Nat) (h : false = decide (∀ j : Nat, j < k → (rd_T50 D (j : Int)).f0 ≠ x.f0)) : false = decide (∀ j : Nat, j < k + 1 → (rd_T50 D (j : Int)).f0 ≠ x.f0) :=
  (decide_eq_false (fun h2 => of_decide_eq_false h.symm (fun j hj => h2 j (by omega)))).symm
theorem first_mem (D : List S50) (x : S50) : (∀ j : Nat, j < D.length → (rd_T50 D (j : Int)).f0 ≠ x.f0) ↔ ¬ x.f0 ∈ D.map (fun x => x.f0) := by
  constructor
  · intro h hm
    obtain ⟨y, hy, e⟩ := List.mem_map.mp hm
    obtain ⟨j, hj, rfl⟩ := List.mem_iff_getElem.mp hy
    exact h j hj (by rw [rd27_at D j hj]; exact e)
  · intro h j hj e
    rw [rd27_at D j hj] at e
    exact h (List.mem_map.mpr ⟨D[j], List.getElem_mem hj, e⟩)
theorem counting_ok {N : Nat} {w : World} {L : List Res} (A : Option Addr) (c : Nat) (zs : List S50) (hm : zs.length ≤ 100000) (HS0 : St N w (Row k50 50 (.slice A zs.length c) zs :: L)) :
    Calls Tryz.prog 13 #[.slice A zs.length c] w fun e w' => ∃ v, e = .returned v ∧ St N w' (Row k50 50 v (orderE zs) :: Row k50 50 (.slice A zs.length c) zs :: L) ∧ Below N w w' := by
  have HS := Aside0.mk HS0
  have HB := Aside0.mk (Below.refl N w)
  clear HS0
  go_enter Tryz.func13, Tryz.ntmps13
  go_upto_region 3 with (fail)
  go_loopw [3, 5] (fun v3 v5 wr => ∃ i : Nat, i ≤ zs.length ∧ v5 = .int .i64 i ∧ Aside0 (St N wr (Row k50 50 v3 (srt (zs.take i)) :: Row k50 50 (.slice A zs.length c) zs :: L)) ∧ Aside0 (Below N w wr)) (fun _ v5 _ => zs.length - (intOf v5).toNat)
  case atStart => exact ⟨0, Nat.zero_le _, rfl, ⟨HS.out.rowNil⟩, HB⟩
  case round =>
    clear HS HB
    obtain ⟨i, hi, rfl, HS, HB⟩ := hrel
    have hSl : (srt (zs.take i)).length = i := by rw [srt_length, List.length_take]; omega
    by_cases hlt : i < zs.length
    · obtain ⟨gz, cz, ez, _⟩ := St.row_some flat50 (HS.out.pick 1 rfl) (by omega)
      obtain ⟨hA, hcz⟩ : A = some ⟨gz, 0, none⟩ ∧ c = cz := by simpa using ez
      subst hA
      subst hcz
      clear ez
      have q0 : decide ((i : Int) < (zs.length : Int)) = true := decide_eq_true (by omega)
      have q1 := eq_true (show (i : Int) < (zs.length : Int) by omega)
      have q2 := eq_true (show (0 : Int) ≤ (i : Int) by omega)
      have hw : IntKind.i64.wrap ((i : Int) + 1) = (i : Int) + 1 := by rw [IntKind.wrap_i64]; omega
      have hlz : Aside0 (i < zs.length) := ⟨hlt⟩
      obtain ⟨x, hx0⟩ : ∃ x, rd_T50 zs (i : Int) = x := ⟨_, rfl⟩
      have hx := Aside0.mk hx0
      have hput := Aside0.mk (@srt_put (zs.take i) x)
      have htk : Aside0 (zs.take (i + 1) = zs.take i ++ [x]) := ⟨by rw [take_rd zs i hlt, hx0]⟩
      clear hx0
      obtain ⟨Q, hQ⟩ : ∃ Q, srt (zs.take i) = Q := ⟨_, rfl⟩
      rw [hQ] at HS hSl hput
      obtain ⟨As, cs, es, hcs, _⟩ := (HS.out.pick 0 rfl).reads
      subst es
      rw [hSl] at HS hcs ⊢
      have hcs := Aside0.mk hcs
      have hSl := Aside0.mk hSl
      replace hQ := Aside0.mk hQ
      go_upto_block 2 with (fail)
      go_cut [6] from 18 to 34 (fun v6 wc => ∃ k : Nat, k ≤ i ∧ v6 = .int .i64 k ∧ Aside0 (srt (zs.take i ++ [x]) = Q.take k ++ x :: Q.drop k) ∧ Aside0 (St N wc (Row k50 50 (.slice As i cs) Q :: Row k50 50 (.slice (some ⟨gz, 0, none⟩) zs.length c) zs :: L)) ∧ Aside0 (Below N w wc))
      case first =>
        go_wp2_with (fail)
        go_loopw [6] (fun v6 wq => ∃ k : Nat, k ≤ i ∧ v6 = .int .i64 k ∧ Aside0 (∀ j : Nat, k ≤ j → j < Q.length → Bf x (rd_T50 Q (j : Int))) ∧ Aside0 (St N wq (Row k50 50 (.slice As i cs) Q :: Row k50 50 (.slice (some ⟨gz, 0, none⟩) zs.length c) zs :: L)) ∧ Aside0 (Below N w wq)) (fun v6 _ => (intOf v6).toNat)
        case atStart => exact ⟨i, Nat.le_refl _, rfl, ⟨fun j h1 h2 => by have := hSl.out; omega⟩, HS, HB⟩
        case round =>
          clear HS HB
          obtain ⟨k, hk, rfl, HJ, HS, HB⟩ := hrel
          by_cases hk0 : k = 0
          · subst hk0
            have qk : decide ((0 : Int) < ((0 : Nat) : Int)) = false := by decide
            go_upto_region 6 with (fail)
            have n0_ := Aside0.mk (HS.out.drew); have n1_ := Aside0.mk (HB.out.drew); clear HS HB; have HS := n0_; have HB := n1_; clear n0_ n1_
            refine start_ (n := 15) (S := fun w' => True) (ds := []) (tfs true [0, 15]).toArray (by kernel_rfl) rfl rfl trivial (fun hHeld => ?_); refine with_tabW cnt.tab6 cnt.bits6 (fun HT_ HW_ => ?_)
            generalize wr.drew = wd at HS HB hHeld ⊢
            refine pU 0 18 (tfs true [1, 14]).toArray rfl rfl HT_ ?_
            refine pU 1 19 (tfs true [2, 13]).toArray rfl rfl HT_ ?_
            refine pU 2 20 (tfs true [3, 12]).toArray rfl rfl HT_ ?_
            refine pO 3 (some 21) (tfs true [4, 11]).toArray rfl rfl HT_ ?_
            refine pO 4 (some 22) (tfs true [5, 10]).toArray rfl rfl HT_ ?_
            refine pO 5 (some 23) (tfs true [6, 9]).toArray rfl rfl HT_ ?_
            refine pO 6 (some 24) (tfs true [7, 8]).toArray rfl rfl HT_ ?_
            refine pO 7 (some 25) (tfs true [8, 7]).toArray rfl rfl HT_ ?_
            refine pO 8 (some 26) (tfs true [9, 6]).toArray rfl rfl HT_ ?_
            refine pO 9 (some 27) (tfs true [10, 5]).toArray rfl rfl HT_ ?_
            refine pO 10 (some 28) (tfs true [11, 4]).toArray rfl rfl HT_ ?_
            refine pO 11 (some 29) (tfs true [12, 3]).toArray rfl rfl HT_ ?_
            refine pO 12 (some 30) (tfs true [13, 2]).toArray rfl rfl HT_ ?_
            refine pO 13 (some 31) (tfs true [14, 1]).toArray rfl rfl HT_ ?_
            refine pU 14 32 (tfs true [15]).toArray rfl rfl HT_ ?_
            refine done_ (done_of HT_.out (by kernel_rfl)) ?_
            clear HT_ HW_
            try clear hHeld
            go_wp2
            go_meet
            case rel => exact ⟨0, Nat.zero_le _, rfl, ⟨hput.out (by have := hSl.out; omega) HJ.out (fun h => absurd h (Nat.lt_irrefl _))⟩, HS, HB⟩
          · obtain ⟨m, rfl⟩ : ∃ m, k = m + 1 := ⟨k - 1, by omega⟩
            obtain ⟨K, hK⟩ : ∃ K : Int, ((m + 1 : Nat) : Int) = K := ⟨_, rfl⟩
            rw [hK]
            have qk : decide (0 < K) = true := decide_eq_true (by omega)
            have hw1 : IntKind.i64.wrap (K - 1) = (m : Int) := by rw [IntKind.wrap_i64]; omega
            have q3 := eq_true (show (m : Int) < (i : Int) by omega)
            have q4 := eq_true (show (0 : Int) ≤ (m : Int) by omega)
            have hmS : Aside0 (m < Q.length) := ⟨by have := hSl.out; omega⟩
            obtain ⟨gS, c2, e2, _⟩ := St.row_some flat50 (HS.out.pick 0 rfl) (by have := hmS.out; omega)
            rw [hSl.out] at e2
            cases e2
            obtain ⟨y, hy0⟩ : ∃ y, rd_T50 Q (m : Int) = y := ⟨_, rfl⟩
            have hy := Aside0.mk hy0
            clear hy0
            replace hK := Aside0.mk hK
            obtain ⟨bg, hbg⟩ : ∃ b, decide (0 < ecmp y x) = b := ⟨_, rfl⟩
            have qg := hbg
            replace hbg := Aside0.mk hbg
            go_upto_region 6 with (fail)
            have n0_ := Aside0.mk (HS.out.drew); have n1_ := Aside0.mk (HB.out.drew); clear HS HB; have HS := n0_; have HB := n1_; clear n0_ n1_
            refine start_ (n := 15) (S := fun w' => w'.cell? ⟨gS, m * 9, none⟩ = some (.string y.f0.f0) ∧ w'.cell? ⟨gS, m * 9 + 1, none⟩ = some (.int .i64 y.f0.f1) ∧ w'.cell? ⟨gS, m * 9 + 2, none⟩ = some (.int .i64 y.f1) ∧ w'.cell? ⟨gS, m * 9 + 3, none⟩ = some (.int .i64 y.f2) ∧ w'.cell? ⟨gS, m * 9 + 4, none⟩ = some (.string y.f3.f0) ∧ w'.cell? ⟨gS, m * 9 + 5, none⟩ = some (.int .i64 y.f3.f1) ∧ w'.cell? ⟨gS, m * 9 + 6, none⟩ = some (.string y.f4) ∧ w'.cell? ⟨gS, m * 9 + 7, none⟩ = some (.int .i64 y.f5) ∧ w'.cell? ⟨gS, m * 9 + 8, none⟩ = some (.string y.f6) ∧ w'.cell? ⟨gz, i * 9, none⟩ = some (.string x.f0.f0) ∧ w'.cell? ⟨gz, i * 9 + 1, none⟩ = some (.int .i64 x.f0.f1) ∧ w'.cell? ⟨gz, i * 9 + 2, none⟩ = some (.int .i64 x.f1) ∧ w'.cell? ⟨gz, i * 9 + 3, none⟩ = some (.int .i64 x.f2) ∧ w'.cell? ⟨gz, i * 9 + 4, none⟩ = some (.string x.f3.f0) ∧ w'.cell? ⟨gz, i * 9 + 5, none⟩ = some (.int .i64 x.f3.f1) ∧ w'.cell? ⟨gz, i * 9 + 6, none⟩ = some (.string x.f4) ∧ w'.cell? ⟨gz, i * 9 + 7, none⟩ = some (.int .i64 x.f5) ∧ w'.cell? ⟨gz, i * 9 + 8, none⟩ = some (.string x.f6)) (ds := []) (tfs true [0, 15]).toArray (by kernel_rfl) rfl rfl ⟨(evCel (HS.out.pick 0 rfl) m hmS.out y hy.out).1, (evCel (HS.out.pick 0 rfl) m hmS.out y hy.out).2.1, (evCel (HS.out.pick 0 rfl) m hmS.out y hy.out).2.2.1, (evCel (HS.out.pick 0 rfl) m hmS.out y hy.out).2.2.2.1, (evCel (HS.out.pick 0 rfl) m hmS.out y hy.out).2.2.2.2.1, (evCel (HS.out.pick 0 rfl) m hmS.out y hy.out).2.2.2.2.2.1, (evCel (HS.out.pick 0 rfl) m hmS.out y hy.out).2.2.2.2.2.2.1, (evCel (HS.out.pick 0 rfl) m hmS.out y hy.out).2.2.2.2.2.2.2.1, (evCel (HS.out.pick 0 rfl) m hmS.out y hy.out).2.2.2.2.2.2.2.2, (evCel (HS.out.pick 1 rfl) i hlz.out x hx.out).1, (evCel (HS.out.pick 1 rfl) i hlz.out x hx.out).2.1, (evCel (HS.out.pick 1 rfl) i hlz.out x hx.out).2.2.1, (evCel (HS.out.pick 1 rfl) i hlz.out x hx.out).2.2.2.1, (evCel (HS.out.pick 1 rfl) i hlz.out x hx.out).2.2.2.2.1, (evCel (HS.out.pick 1 rfl) i hlz.out x hx.out).2.2.2.2.2.1, (evCel (HS.out.pick 1 rfl) i hlz.out x hx.out).2.2.2.2.2.2.1, (evCel (HS.out.pick 1 rfl) i hlz.out x hx.out).2.2.2.2.2.2.2.1, (evCel (HS.out.pick 1 rfl) i hlz.out x hx.out).2.2.2.2.2.2.2.2⟩ (fun hHeld => ?_); refine with_tabW cnt.tab6 cnt.bits6 (fun HT_ HW_ => ?_)
            generalize wr.drew = wd at HS HB hHeld ⊢
            refine pU 0 18 (tfs true [1, 14]).toArray rfl rfl HT_ ?_
            refine pU 1 19 (tfs true [2, 13]).toArray rfl rfl HT_ ?_
            refine pU 2 20 (tfs true [3, 12]).toArray rfl rfl HT_ ?_
            refine pU 3 21 (tfs true [4, 11]).toArray rfl rfl HT_ ?_
            refine pU 4 22 (tfs true [5, 10]).toArray rfl rfl HT_ ?_
            refine pU 5 23 (tfs true [6, 9]).toArray rfl rfl HT_ ?_
            refine pU 6 24 (tfs true [7, 8]).toArray rfl rfl HT_ ?_
            refine pU 8 26 (tfs true [7, 1, 1, 6]).toArray rfl rfl HT_ ?_
            refine pU 9 27 (tfs true [7, 1, 2, 5]).toArray rfl rfl HT_ ?_
            refine pU 10 28 (tfs true [7, 1, 3, 4]).toArray rfl rfl HT_ ?_
            refine tK 7 25 (tfs true [11, 4]).toArray rfl rfl HT_ HW_ hHeld ?_ (by rintro w' ⟨s0, s1, s2, s3, s4, s5, s6, s7, s8, s9, s10, s11, s12, s13, s14, s15, s16, s17⟩; go_simp; with_reducible rfl)
            refine tK 11 29 (tfs true [12, 3]).toArray rfl rfl HT_ HW_ hHeld ?_ (by rintro w' ⟨s0, s1, s2, s3, s4, s5, s6, s7, s8, s9, s10, s11, s12, s13, s14, s15, s16, s17⟩; go_simp; with_reducible rfl)
            refine one_ (i := 12) (N := some 30) (tfs true [13, 2]).toArray rfl rfl (one_of HT_.out (by kernel_rfl)) (by decide) (fun K hK => ?_)
            refine goes_ Tryz.func33 (by kernel_rfl) rfl #[.agg #[.string y.f0.f0, .int .i64 y.f0.f1, .int .i64 y.f1, .int .i64 y.f2, .string y.f3.f0, .int .i64 y.f3.f1, .string y.f4, .int .i64 y.f5, .string y.f6], .agg #[.string x.f0.f0, .int .i64 x.f0.f1, .int .i64 x.f1, .int .i64 x.f2, .string x.f3.f0, .int .i64 x.f3.f1, .string x.f4, .int .i64 x.f5, .string x.f6]] (by rfl) rfl rfl (by (try simp only [List.map_toArray, List.map_cons, List.map_nil]); first | done | rfl | (simp only [List.length_drop, List.length_take]; rfl)) ?_
            with_reducible refine (compareM_ok y x _).mono ?_
            rintro r_ w4 ⟨rfl, hb⟩
            refine ⟨_, rfl, ?_⟩
            have n0_ := Aside0.mk (HS.out.step hb); have n1_ := Aside0.mk (below_step' HB.out HS.out.size hb); clear HS HB; have HS := n0_; have HB := n1_; clear n0_ n1_; (try simp only [List.eraseIdx_cons_succ, List.eraseIdx_cons_zero] at HS)
            clear hb
            refine hK.out _ _ ⟨(evCel (HS.out.pick 0 rfl) m hmS.out y hy.out).1, (evCel (HS.out.pick 0 rfl) m hmS.out y hy.out).2.1, (evCel (HS.out.pick 0 rfl) m hmS.out y hy.out).2.2.1, (evCel (HS.out.pick 0 rfl) m hmS.out y hy.out).2.2.2.1, (evCel (HS.out.pick 0 rfl) m hmS.out y hy.out).2.2.2.2.1, (evCel (HS.out.pick 0 rfl) m hmS.out y hy.out).2.2.2.2.2.1, (evCel (HS.out.pick 0 rfl) m hmS.out y hy.out).2.2.2.2.2.2.1, (evCel (HS.out.pick 0 rfl) m hmS.out y hy.out).2.2.2.2.2.2.2.1, (evCel (HS.out.pick 0 rfl) m hmS.out y hy.out).2.2.2.2.2.2.2.2, (evCel (HS.out.pick 1 rfl) i hlz.out x hx.out).1, (evCel (HS.out.pick 1 rfl) i hlz.out x hx.out).2.1, (evCel (HS.out.pick 1 rfl) i hlz.out x hx.out).2.2.1, (evCel (HS.out.pick 1 rfl) i hlz.out x hx.out).2.2.2.1, (evCel (HS.out.pick 1 rfl) i hlz.out x hx.out).2.2.2.2.1, (evCel (HS.out.pick 1 rfl) i hlz.out x hx.out).2.2.2.2.2.1, (evCel (HS.out.pick 1 rfl) i hlz.out x hx.out).2.2.2.2.2.2.1, (evCel (HS.out.pick 1 rfl) i hlz.out x hx.out).2.2.2.2.2.2.2.1, (evCel (HS.out.pick 1 rfl) i hlz.out x hx.out).2.2.2.2.2.2.2.2⟩ (fun hHeld => ?_)
            clear hK K
            refine norm_ (a' := ?_) ?_ ?_
            rotate_left
            · show Act.put _ (some 30) _ = _
              simp only [Act.put, List.setIfInBounds_toArray, List.set_cons_zero, List.set_cons_succ, i64_w, i32_w]
              rfl
            refine pU 13 31 (tfs true [14, 1]).toArray rfl rfl HT_ ?_
            refine pU 14 32 (tfs true [15]).toArray rfl rfl HT_ ?_
            refine done_ (done_of HT_.out (by kernel_rfl)) ?_
            clear HT_ HW_
            try clear hHeld
            clear qg
            cases bg with
            | true =>
              go_wp2
              go_roundw
              case rel =>
                refine ⟨m, by omega, by first | rfl | (rw [hw1]), ⟨fun j h1 h2 => ?_⟩, HS, HB⟩
                by_cases e : j = m
                · subst e; rw [hy.out]; exact bf_of_pos (of_decide_eq_true hbg.out)
                · exact HJ.out j (by omega) h2
              case measure => have := hK.out; simp [intOf]; omega
            | false =>
              go_wp2
              go_meet
              case rel => exact ⟨m + 1, by omega, by rw [hK.out], ⟨hput.out (by have := hSl.out; omega) HJ.out (fun _ => by rw [Nat.add_sub_cancel, hy.out]; exact not_bf_of (of_decide_eq_false hbg.out))⟩, HS, HB⟩
      case rest =>
        clear HS HB
        obtain ⟨k, hk, rfl, hnx0, HS, HB⟩ := hcut
        have hnx : Aside0 (srt (zs.take (i + 1)) = Q.take k ++ ([x] ++ Q.drop k)) := ⟨by rw [htk.out, hnx0.out]; rfl⟩
        clear hnx0
        have hkS : Aside0 (k ≤ Q.length) := ⟨by have := hSl.out; omega⟩
        obtain ⟨T, hT0⟩ : ∃ T, Q.take k = T := ⟨_, rfl⟩
        obtain ⟨U, hU0⟩ : ∃ U, Q.drop k = U := ⟨_, rfl⟩
        have lT : Aside0 (T.length = k) := ⟨by rw [← hT0, List.length_take]; have := hkS.out; omega⟩
        rw [hT0, hU0] at hnx
        have hTe := Aside0.mk hT0
        have hUe := Aside0.mk hU0
        clear hT0 hU0
        have hlens : Aside0 (i ≤ 100000 ∧ k ≤ i) := ⟨by omega, hk⟩
        have z1 := eq_true (show (k : Int) ≤ (i : Int) by omega)
        have z2 := eq_true (show (0 : Int) ≤ (k : Int) by omega)
        have z3 := eq_true (show k ≤ i from hk)
        have z4 := eq_true (show (i : Int) ≤ (cs : Int) by have := hcs.out; omega)
        have z5 := eq_true (show i ≤ cs from hcs.out)
        have z6 := eq_true (show k ≤ cs by have := hcs.out; omega)
        have z7 := eq_true (show (k : Int) ≤ (cs : Int) by have := hcs.out; omega)
        go_upto_region 8 with (fail)
        have n0_ := Aside0.mk (HS.out.drew); have n1_ := Aside0.mk (HB.out.drew); clear HS HB; have HS := n0_; have HB := n1_; clear n0_ n1_
        refine start_ (n := 16) (S := fun w' => w'.cell? ⟨gz, i * 9, none⟩ = some (.string x.f0.f0) ∧ w'.cell? ⟨gz, i * 9 + 1, none⟩ = some (.int .i64 x.f0.f1) ∧ w'.cell? ⟨gz, i * 9 + 2, none⟩ = some (.int .i64 x.f1) ∧ w'.cell? ⟨gz, i * 9 + 3, none⟩ = some (.int .i64 x.f2) ∧ w'.cell? ⟨gz, i * 9 + 4, none⟩ = some (.string x.f3.f0) ∧ w'.cell? ⟨gz, i * 9 + 5, none⟩ = some (.int .i64 x.f3.f1) ∧ w'.cell? ⟨gz, i * 9 + 6, none⟩ = some (.string x.f4) ∧ w'.cell? ⟨gz, i * 9 + 7, none⟩ = some (.int .i64 x.f5) ∧ w'.cell? ⟨gz, i * 9 + 8, none⟩ = some (.string x.f6)) (ds := []) (tfs true [0, 16]).toArray (by kernel_rfl) rfl rfl ⟨(evCel (HS.out.pick 1 rfl) i hlz.out x hx.out).1, (evCel (HS.out.pick 1 rfl) i hlz.out x hx.out).2.1, (evCel (HS.out.pick 1 rfl) i hlz.out x hx.out).2.2.1, (evCel (HS.out.pick 1 rfl) i hlz.out x hx.out).2.2.2.1, (evCel (HS.out.pick 1 rfl) i hlz.out x hx.out).2.2.2.2.1, (evCel (HS.out.pick 1 rfl) i hlz.out x hx.out).2.2.2.2.2.1, (evCel (HS.out.pick 1 rfl) i hlz.out x hx.out).2.2.2.2.2.2.1, (evCel (HS.out.pick 1 rfl) i hlz.out x hx.out).2.2.2.2.2.2.2.1, (evCel (HS.out.pick 1 rfl) i hlz.out x hx.out).2.2.2.2.2.2.2.2⟩ (fun hHeld => ?_); refine with_tabW cnt.tab8 cnt.bits8 (fun HT_ HW_ => ?_)
        generalize wc.drew = wd at HS HB hHeld ⊢
        refine pU 1 36 (tfs true [0, 1, 1, 14]).toArray rfl rfl HT_ ?_
        refine pU 2 37 (tfs true [0, 1, 2, 13]).toArray rfl rfl HT_ ?_
        refine pU 3 38 (tfs true [0, 1, 3, 12]).toArray rfl rfl HT_ ?_
        refine pU 5 40 (tfs true [0, 1, 3, 1, 1, 10]).toArray rfl rfl HT_ ?_
        refine pU 6 41 (tfs true [0, 1, 3, 1, 2, 9]).toArray rfl rfl HT_ ?_
        refine pU 7 42 (tfs true [0, 1, 3, 1, 3, 8]).toArray rfl rfl HT_ ?_
        refine pU 11 46 (tfs true [0, 1, 3, 1, 3, 3, 1, 4]).toArray rfl rfl HT_ ?_
        refine pU 12 47 (tfs true [0, 1, 3, 1, 3, 3, 2, 3]).toArray rfl rfl HT_ ?_
        refine pU 13 48 (tfs true [0, 1, 3, 1, 3, 3, 3, 2]).toArray rfl rfl HT_ ?_
        refine tK 8 43 (tfs true [0, 1, 3, 1, 4, 2, 3, 2]).toArray rfl rfl HT_ HW_ hHeld ?_ (by rintro w' ⟨s0, s1, s2, s3, s4, s5, s6, s7, s8⟩; go_simp; with_reducible rfl)
        refine two_ (i := 0) (j := 9) (Ni := some 35) (Nj := some 44) (tfs true [4, 1, 4, 2, 3, 2]).toArray (tfs true [0, 1, 3, 1, 5, 1, 3, 2]).toArray rfl rfl rfl rfl (two_of HT_.out (by kernel_rfl)) (by decide) (by decide) (fun K hK => ?_) (fun K hK => ?_)
        ·
          refine S_lit_step k50 50 (by rfl) (Nt := 35) rfl (xs := ([] : List S50)) (inner := ([] : List Value)) (by first | (go_simp; done) | (go_simp; rfl)) (Reps.none _ _) HS.out (by simp) ?_
          intro v35 we hs hb
          have n0_ := Aside0.mk (((hs.pick 2 rfl).pick 2 rfl)); have n1_ := Aside0.mk (below_step' HB.out HS.out.size hb); clear HS HB; have HS := n0_; have HB := n1_; clear n0_ n1_; (try simp only [List.eraseIdx_cons_succ, List.eraseIdx_cons_zero] at HS)
          clear hs hb
          refine hK.out _ _ ⟨(evCel (HS.out.pick 1 rfl) i hlz.out x hx.out).1, (evCel (HS.out.pick 1 rfl) i hlz.out x hx.out).2.1, (evCel (HS.out.pick 1 rfl) i hlz.out x hx.out).2.2.1, (evCel (HS.out.pick 1 rfl) i hlz.out x hx.out).2.2.2.1, (evCel (HS.out.pick 1 rfl) i hlz.out x hx.out).2.2.2.2.1, (evCel (HS.out.pick 1 rfl) i hlz.out x hx.out).2.2.2.2.2.1, (evCel (HS.out.pick 1 rfl) i hlz.out x hx.out).2.2.2.2.2.2.1, (evCel (HS.out.pick 1 rfl) i hlz.out x hx.out).2.2.2.2.2.2.2.1, (evCel (HS.out.pick 1 rfl) i hlz.out x hx.out).2.2.2.2.2.2.2.2⟩ (fun hHeld => ?_)
          clear hK K
          refine norm_ (a' := ?_) ?_ ?_
          rotate_left
          · show Act.put _ (some 35) _ = _
            simp only [Act.put, List.setIfInBounds_toArray, List.set_cons_zero, List.set_cons_succ, i64_w, i32_w]
            rfl
          refine two_ (i := 4) (j := 9) (Ni := some 39) (Nj := some 44) (tfs true [9, 2, 3, 2]).toArray (tfs true [4, 1, 5, 1, 3, 2]).toArray rfl rfl rfl rfl (two_of HT_.out (by kernel_rfl)) (by decide) (by decide) (fun K hK => ?_) (fun K hK => ?_)
          ·
            have hT := Aside0.mk (rowTake (HS.out.pick 0 rfl) k hkS.out T hTe.out)
            refine S_append_rows_step k50 (by rfl) (.tmp 35) (.tmp 38) 25 50 (.agg #[(.string ⟨#[]⟩), (.int .i64 0), (.int .i64 0), (.int .i64 0), (.string ⟨#[]⟩), (.int .i64 0), (.string ⟨#[]⟩), (.int .i64 0), (.string ⟨#[]⟩)]) 104 rfl Tryz.underlying25 info50 rfl (by decide) (by omega) v35 [] T As k cs rfl rfl (fun x cs h => by rw [flat50.K h]; exact flat_k50 _ _ x) (HS.out.pick 2 rfl) hT.out HB.out (by have := hlens.out; simp only [List.length_nil, List.length_append, List.length_singleton, lT.out]; omega) ?_
            clear hT
            intro p wq hs hb
            have n0_ := Aside0.mk (((hs.pick 2 rfl).pick 2 rfl)); have n1_ := Aside0.mk (hb); clear HS HB; have HS := n0_; have HB := n1_; clear n0_ n1_; (try simp only [List.eraseIdx_cons_succ, List.eraseIdx_cons_zero] at HS)
            clear hs hb
            refine hK.out _ _ ⟨(evCel (HS.out.pick 1 rfl) i hlz.out x hx.out).1, (evCel (HS.out.pick 1 rfl) i hlz.out x hx.out).2.1, (evCel (HS.out.pick 1 rfl) i hlz.out x hx.out).2.2.1, (evCel (HS.out.pick 1 rfl) i hlz.out x hx.out).2.2.2.1, (evCel (HS.out.pick 1 rfl) i hlz.out x hx.out).2.2.2.2.1, (evCel (HS.out.pick 1 rfl) i hlz.out x hx.out).2.2.2.2.2.1, (evCel (HS.out.pick 1 rfl) i hlz.out x hx.out).2.2.2.2.2.2.1, (evCel (HS.out.pick 1 rfl) i hlz.out x hx.out).2.2.2.2.2.2.2.1, (evCel (HS.out.pick 1 rfl) i hlz.out x hx.out).2.2.2.2.2.2.2.2⟩ (fun hHeld => ?_)
            clear hK K
            refine norm_ (a' := ?_) ?_ ?_
            rotate_left
            · show Act.put _ (some 39) _ = _
              simp only [Act.put, List.setIfInBounds_toArray, List.set_cons_zero, List.set_cons_succ, i64_w, i32_w]
              rfl
            refine one_ (i := 9) (N := some 44) (tfs true [10, 1, 3, 2]).toArray rfl rfl (one_of HT_.out (by kernel_rfl)) (by decide) (fun K hK => ?_)
            refine S_lit_step k50 50 (by rfl) (Nt := 44) rfl (xs := [x]) (inner := [.string x.f0.f0, .int .i64 x.f0.f1, .int .i64 x.f1, .int .i64 x.f2, .string x.f3.f0, .int .i64 x.f3.f1, .string x.f4, .int .i64 x.f5, .string x.f6]) (by first | (go_simp; done) | (go_simp; rfl)) ?hp HS.out (by simp) ?_
            (case hp => exact reps_encs flat50 (fun y => flat50.M _ _ _ y) [x])
            intro v44 we hs hb
            have n0_ := Aside0.mk ((((hs.pick 3 rfl).pick 3 rfl).pick 3 rfl)); have n1_ := Aside0.mk (below_step' HB.out HS.out.size hb); clear HS HB; have HS := n0_; have HB := n1_; clear n0_ n1_; (try simp only [List.eraseIdx_cons_succ, List.eraseIdx_cons_zero] at HS)
            clear hs hb
            obtain ⟨A44, c44, e44, _, _⟩ := (HS.out.pick 3 rfl).reads
            subst e44
            simp only [List.length_singleton] at HS ⊢
            refine hK.out _ _ ⟨(evCel (HS.out.pick 1 rfl) i hlz.out x hx.out).1, (evCel (HS.out.pick 1 rfl) i hlz.out x hx.out).2.1, (evCel (HS.out.pick 1 rfl) i hlz.out x hx.out).2.2.1, (evCel (HS.out.pick 1 rfl) i hlz.out x hx.out).2.2.2.1, (evCel (HS.out.pick 1 rfl) i hlz.out x hx.out).2.2.2.2.1, (evCel (HS.out.pick 1 rfl) i hlz.out x hx.out).2.2.2.2.2.1, (evCel (HS.out.pick 1 rfl) i hlz.out x hx.out).2.2.2.2.2.2.1, (evCel (HS.out.pick 1 rfl) i hlz.out x hx.out).2.2.2.2.2.2.2.1, (evCel (HS.out.pick 1 rfl) i hlz.out x hx.out).2.2.2.2.2.2.2.2⟩ (fun hHeld => ?_)
            clear hK K
            refine norm_ (a' := ?_) ?_ ?_
            rotate_left
            · show Act.put _ (some 44) _ = _
              simp only [Act.put, List.setIfInBounds_toArray, List.set_cons_zero, List.set_cons_succ, i64_w, i32_w]
              rfl
            refine one_ (i := 10) (N := some 45) (tfs true [14, 2]).toArray rfl rfl (one_of HT_.out (by kernel_rfl)) (by decide) (fun K hK => ?_)
            refine S_append_rows_step k50 (by rfl) (.tmp 39) (.tmp 44) 25 50 (.agg #[(.string ⟨#[]⟩), (.int .i64 0), (.int .i64 0), (.int .i64 0), (.string ⟨#[]⟩), (.int .i64 0), (.string ⟨#[]⟩), (.int .i64 0), (.string ⟨#[]⟩)]) 104 rfl Tryz.underlying25 info50 rfl (by decide) (by omega) p ([] ++ T) [x] A44 1 c44 rfl rfl (fun x cs h => by rw [flat50.K h]; exact flat_k50 _ _ x) (HS.out.pick 2 rfl) (HS.out.pick 3 rfl).rowC.2.2 HB.out (by have := hlens.out; simp only [List.length_nil, List.length_append, List.length_singleton, lT.out]; omega) ?_
            intro q wq hs hb
            have n0_ := Aside0.mk ((((hs.pick 3 rfl).pick 3 rfl).pick 3 rfl)); have n1_ := Aside0.mk (hb); clear HS HB; have HS := n0_; have HB := n1_; clear n0_ n1_; (try simp only [List.eraseIdx_cons_succ, List.eraseIdx_cons_zero] at HS)
            clear hs hb
            refine hK.out _ _ ⟨(evCel (HS.out.pick 1 rfl) i hlz.out x hx.out).1, (evCel (HS.out.pick 1 rfl) i hlz.out x hx.out).2.1, (evCel (HS.out.pick 1 rfl) i hlz.out x hx.out).2.2.1, (evCel (HS.out.pick 1 rfl) i hlz.out x hx.out).2.2.2.1, (evCel (HS.out.pick 1 rfl) i hlz.out x hx.out).2.2.2.2.1, (evCel (HS.out.pick 1 rfl) i hlz.out x hx.out).2.2.2.2.2.1, (evCel (HS.out.pick 1 rfl) i hlz.out x hx.out).2.2.2.2.2.2.1, (evCel (HS.out.pick 1 rfl) i hlz.out x hx.out).2.2.2.2.2.2.2.1, (evCel (HS.out.pick 1 rfl) i hlz.out x hx.out).2.2.2.2.2.2.2.2⟩ (fun hHeld => ?_)
            clear hK K
            refine norm_ (a' := ?_) ?_ ?_
            rotate_left
            · show Act.put _ (some 45) _ = _
              simp only [Act.put, List.setIfInBounds_toArray, List.set_cons_zero, List.set_cons_succ, i64_w, i32_w]
              rfl
            refine one_ (i := 14) (N := some 49) (tfs true [15, 1]).toArray rfl rfl (one_of HT_.out (by kernel_rfl)) (by decide) (fun K hK => ?_)
            have hU := Aside0.mk (rowDrop (HS.out.pick 0 rfl) k hkS.out U hUe.out)
            refine S_append_rows_step k50 (by rfl) (.tmp 45) (.tmp 48) 25 50 (.agg #[(.string ⟨#[]⟩), (.int .i64 0), (.int .i64 0), (.int .i64 0), (.string ⟨#[]⟩), (.int .i64 0), (.string ⟨#[]⟩), (.int .i64 0), (.string ⟨#[]⟩)]) 104 rfl Tryz.underlying25 info50 rfl (by decide) (by omega) q ([] ++ T ++ [x]) U (if cs = k then As else As.map (·.add (k * 9))) (i - k) (cs - k) rfl rfl (fun x cs h => by rw [flat50.K h]; exact flat_k50 _ _ x) (HS.out.pick 3 rfl) hU.out HB.out (by have := hlens.out; simp only [List.length_nil, List.length_append, List.length_singleton, lT.out]; omega) ?_
            clear hU
            intro r wq hs hb
            have n0_ := Aside0.mk ((((hs.pick 3 rfl).pick 3 rfl).pick 3 rfl)); have n1_ := Aside0.mk (hb); clear HS HB; have HS := n0_; have HB := n1_; clear n0_ n1_; (try simp only [List.eraseIdx_cons_succ, List.eraseIdx_cons_zero] at HS)
            clear hs hb
            refine hK.out _ _ ⟨(evCel (HS.out.pick 1 rfl) i hlz.out x hx.out).1, (evCel (HS.out.pick 1 rfl) i hlz.out x hx.out).2.1, (evCel (HS.out.pick 1 rfl) i hlz.out x hx.out).2.2.1, (evCel (HS.out.pick 1 rfl) i hlz.out x hx.out).2.2.2.1, (evCel (HS.out.pick 1 rfl) i hlz.out x hx.out).2.2.2.2.1, (evCel (HS.out.pick 1 rfl) i hlz.out x hx.out).2.2.2.2.2.1, (evCel (HS.out.pick 1 rfl) i hlz.out x hx.out).2.2.2.2.2.2.1, (evCel (HS.out.pick 1 rfl) i hlz.out x hx.out).2.2.2.2.2.2.2.1, (evCel (HS.out.pick 1 rfl) i hlz.out x hx.out).2.2.2.2.2.2.2.2⟩ (fun hHeld => ?_)
            clear hK K
            refine norm_ (a' := ?_) ?_ ?_
            rotate_left
            · show Act.put _ (some 49) _ = _
              simp only [Act.put, List.setIfInBounds_toArray, List.set_cons_zero, List.set_cons_succ, i64_w, i32_w]
              rfl
            refine pU 15 3 (tfs true [16]).toArray rfl rfl HT_ ?_
            refine done_ (done_of HT_.out (by kernel_rfl)) ?_
            clear HT_ HW_
            try clear hHeld
            go_wp2
            go_roundw
            case rel =>
              refine ⟨i + 1, by omega, by go_num, ?_, HB⟩
              rw [hnx.out]
              have h := ((((HS.out.pick 1 rfl).pick 3 rfl).pick 2 rfl).pick 3 rfl).drop.drop
              rw [List.nil_append, List.append_assoc] at h
              exact ⟨h⟩
            case measure => simp [intOf]; omega
          ·
            refine S_lit_step k50 50 (by rfl) (Nt := 44) rfl (xs := [x]) (inner := [.string x.f0.f0, .int .i64 x.f0.f1, .int .i64 x.f1, .int .i64 x.f2, .string x.f3.f0, .int .i64 x.f3.f1, .string x.f4, .int .i64 x.f5, .string x.f6]) (by first | (go_simp; done) | (go_simp; rfl)) ?hp HS.out (by simp) ?_
            (case hp => exact reps_encs flat50 (fun y => flat50.M _ _ _ y) [x])
            intro v44 we hs hb
            have n0_ := Aside0.mk ((((hs.pick 3 rfl).pick 3 rfl).pick 3 rfl)); have n1_ := Aside0.mk (below_step' HB.out HS.out.size hb); clear HS HB; have HS := n0_; have HB := n1_; clear n0_ n1_; (try simp only [List.eraseIdx_cons_succ, List.eraseIdx_cons_zero] at HS)
            clear hs hb
            obtain ⟨A44, c44, e44, _, _⟩ := (HS.out.pick 3 rfl).reads
            subst e44
            simp only [List.length_singleton] at HS ⊢
            refine hK.out _ _ ⟨(evCel (HS.out.pick 1 rfl) i hlz.out x hx.out).1, (evCel (HS.out.pick 1 rfl) i hlz.out x hx.out).2.1, (evCel (HS.out.pick 1 rfl) i hlz.out x hx.out).2.2.1, (evCel (HS.out.pick 1 rfl) i hlz.out x hx.out).2.2.2.1, (evCel (HS.out.pick 1 rfl) i hlz.out x hx.out).2.2.2.2.1, (evCel (HS.out.pick 1 rfl) i hlz.out x hx.out).2.2.2.2.2.1, (evCel (HS.out.pick 1 rfl) i hlz.out x hx.out).2.2.2.2.2.2.1, (evCel (HS.out.pick 1 rfl) i hlz.out x hx.out).2.2.2.2.2.2.2.1, (evCel (HS.out.pick 1 rfl) i hlz.out x hx.out).2.2.2.2.2.2.2.2⟩ (fun hHeld => ?_)
            clear hK K
            refine norm_ (a' := ?_) ?_ ?_
            rotate_left
            · show Act.put _ (some 44) _ = _
              simp only [Act.put, List.setIfInBounds_toArray, List.set_cons_zero, List.set_cons_succ, i64_w, i32_w]
              rfl
            refine one_ (i := 4) (N := some 39) (tfs true [10, 1, 3, 2]).toArray rfl rfl (one_of HT_.out (by kernel_rfl)) (by decide) (fun K hK => ?_)
            have hT := Aside0.mk (rowTake (HS.out.pick 0 rfl) k hkS.out T hTe.out)
            refine S_append_rows_step k50 (by rfl) (.tmp 35) (.tmp 38) 25 50 (.agg #[(.string ⟨#[]⟩), (.int .i64 0), (.int .i64 0), (.int .i64 0), (.string ⟨#[]⟩), (.int .i64 0), (.string ⟨#[]⟩), (.int .i64 0), (.string ⟨#[]⟩)]) 104 rfl Tryz.underlying25 info50 rfl (by decide) (by omega) v35 [] T As k cs rfl rfl (fun x cs h => by rw [flat50.K h]; exact flat_k50 _ _ x) (HS.out.pick 2 rfl) hT.out HB.out (by have := hlens.out; simp only [List.length_nil, List.length_append, List.length_singleton, lT.out]; omega) ?_
            clear hT
            intro p wq hs hb
            have n0_ := Aside0.mk ((((hs.pick 3 rfl).pick 3 rfl).pick 3 rfl)); have n1_ := Aside0.mk (hb); clear HS HB; have HS := n0_; have HB := n1_; clear n0_ n1_; (try simp only [List.eraseIdx_cons_succ, List.eraseIdx_cons_zero] at HS)
            clear hs hb
            refine hK.out _ _ ⟨(evCel (HS.out.pick 1 rfl) i hlz.out x hx.out).1, (evCel (HS.out.pick 1 rfl) i hlz.out x hx.out).2.1, (evCel (HS.out.pick 1 rfl) i hlz.out x hx.out).2.2.1, (evCel (HS.out.pick 1 rfl) i hlz.out x hx.out).2.2.2.1, (evCel (HS.out.pick 1 rfl) i hlz.out x hx.out).2.2.2.2.1, (evCel (HS.out.pick 1 rfl) i hlz.out x hx.out).2.2.2.2.2.1, (evCel (HS.out.pick 1 rfl) i hlz.out x hx.out).2.2.2.2.2.2.1, (evCel (HS.out.pick 1 rfl) i hlz.out x hx.out).2.2.2.2.2.2.2.1, (evCel (HS.out.pick 1 rfl) i hlz.out x hx.out).2.2.2.2.2.2.2.2⟩ (fun hHeld => ?_)
            clear hK K
            refine norm_ (a' := ?_) ?_ ?_
            rotate_left
            · show Act.put _ (some 39) _ = _
              simp only [Act.put, List.setIfInBounds_toArray, List.set_cons_zero, List.set_cons_succ, i64_w, i32_w]
              rfl
            refine one_ (i := 10) (N := some 45) (tfs true [14, 2]).toArray rfl rfl (one_of HT_.out (by kernel_rfl)) (by decide) (fun K hK => ?_)
            refine S_append_rows_step k50 (by rfl) (.tmp 39) (.tmp 44) 25 50 (.agg #[(.string ⟨#[]⟩), (.int .i64 0), (.int .i64 0), (.int .i64 0), (.string ⟨#[]⟩), (.int .i64 0), (.string ⟨#[]⟩), (.int .i64 0), (.string ⟨#[]⟩)]) 104 rfl Tryz.underlying25 info50 rfl (by decide) (by omega) p ([] ++ T) [x] A44 1 c44 rfl rfl (fun x cs h => by rw [flat50.K h]; exact flat_k50 _ _ x) (HS.out.pick 3 rfl) (HS.out.pick 2 rfl).rowC.2.2 HB.out (by have := hlens.out; simp only [List.length_nil, List.length_append, List.length_singleton, lT.out]; omega) ?_
            intro q wq hs hb
            have n0_ := Aside0.mk ((((hs.pick 3 rfl).pick 3 rfl).pick 3 rfl)); have n1_ := Aside0.mk (hb); clear HS HB; have HS := n0_; have HB := n1_; clear n0_ n1_; (try simp only [List.eraseIdx_cons_succ, List.eraseIdx_cons_zero] at HS)
            clear hs hb
            refine hK.out _ _ ⟨(evCel (HS.out.pick 1 rfl) i hlz.out x hx.out).1, (evCel (HS.out.pick 1 rfl) i hlz.out x hx.out).2.1, (evCel (HS.out.pick 1 rfl) i hlz.out x hx.out).2.2.1, (evCel (HS.out.pick 1 rfl) i hlz.out x hx.out).2.2.2.1, (evCel (HS.out.pick 1 rfl) i hlz.out x hx.out).2.2.2.2.1, (evCel (HS.out.pick 1 rfl) i hlz.out x hx.out).2.2.2.2.2.1, (evCel (HS.out.pick 1 rfl) i hlz.out x hx.out).2.2.2.2.2.2.1, (evCel (HS.out.pick 1 rfl) i hlz.out x hx.out).2.2.2.2.2.2.2.1, (evCel (HS.out.pick 1 rfl) i hlz.out x hx.out).2.2.2.2.2.2.2.2⟩ (fun hHeld => ?_)
            clear hK K
            refine norm_ (a' := ?_) ?_ ?_
            rotate_left
            · show Act.put _ (some 45) _ = _
              simp only [Act.put, List.setIfInBounds_toArray, List.set_cons_zero, List.set_cons_succ, i64_w, i32_w]
              rfl
            refine one_ (i := 14) (N := some 49) (tfs true [15, 1]).toArray rfl rfl (one_of HT_.out (by kernel_rfl)) (by decide) (fun K hK => ?_)
            have hU := Aside0.mk (rowDrop (HS.out.pick 0 rfl) k hkS.out U hUe.out)
            refine S_append_rows_step k50 (by rfl) (.tmp 45) (.tmp 48) 25 50 (.agg #[(.string ⟨#[]⟩), (.int .i64 0), (.int .i64 0), (.int .i64 0), (.string ⟨#[]⟩), (.int .i64 0), (.string ⟨#[]⟩), (.int .i64 0), (.string ⟨#[]⟩)]) 104 rfl Tryz.underlying25 info50 rfl (by decide) (by omega) q ([] ++ T ++ [x]) U (if cs = k then As else As.map (·.add (k * 9))) (i - k) (cs - k) rfl rfl (fun x cs h => by rw [flat50.K h]; exact flat_k50 _ _ x) (HS.out.pick 3 rfl) hU.out HB.out (by have := hlens.out; simp only [List.length_nil, List.length_append, List.length_singleton, lT.out]; omega) ?_
            clear hU
            intro r wq hs hb
            have n0_ := Aside0.mk ((((hs.pick 3 rfl).pick 3 rfl).pick 3 rfl)); have n1_ := Aside0.mk (hb); clear HS HB; have HS := n0_; have HB := n1_; clear n0_ n1_; (try simp only [List.eraseIdx_cons_succ, List.eraseIdx_cons_zero] at HS)
            clear hs hb
            refine hK.out _ _ ⟨(evCel (HS.out.pick 1 rfl) i hlz.out x hx.out).1, (evCel (HS.out.pick 1 rfl) i hlz.out x hx.out).2.1, (evCel (HS.out.pick 1 rfl) i hlz.out x hx.out).2.2.1, (evCel (HS.out.pick 1 rfl) i hlz.out x hx.out).2.2.2.1, (evCel (HS.out.pick 1 rfl) i hlz.out x hx.out).2.2.2.2.1, (evCel (HS.out.pick 1 rfl) i hlz.out x hx.out).2.2.2.2.2.1, (evCel (HS.out.pick 1 rfl) i hlz.out x hx.out).2.2.2.2.2.2.1, (evCel (HS.out.pick 1 rfl) i hlz.out x hx.out).2.2.2.2.2.2.2.1, (evCel (HS.out.pick 1 rfl) i hlz.out x hx.out).2.2.2.2.2.2.2.2⟩ (fun hHeld => ?_)
            clear hK K
            refine norm_ (a' := ?_) ?_ ?_
            rotate_left
            · show Act.put _ (some 49) _ = _
              simp only [Act.put, List.setIfInBounds_toArray, List.set_cons_zero, List.set_cons_succ, i64_w, i32_w]
              rfl
            refine pU 15 3 (tfs true [16]).toArray rfl rfl HT_ ?_
            refine done_ (done_of HT_.out (by kernel_rfl)) ?_
            clear HT_ HW_
            try clear hHeld
            go_wp2
            go_roundw
            case rel =>
              refine ⟨i + 1, by omega, by go_num, ?_, HB⟩
              rw [hnx.out]
              have h := ((((HS.out.pick 1 rfl).pick 3 rfl).pick 2 rfl).pick 3 rfl).drop.drop
              rw [List.nil_append, List.append_assoc] at h
              exact ⟨h⟩
            case measure => simp [intOf]; omega
        ·
          refine S_lit_step k50 50 (by rfl) (Nt := 44) rfl (xs := [x]) (inner := [.string x.f0.f0, .int .i64 x.f0.f1, .int .i64 x.f1, .int .i64 x.f2, .string x.f3.f0, .int .i64 x.f3.f1, .string x.f4, .int .i64 x.f5, .string x.f6]) (by first | (go_simp; done) | (go_simp; rfl)) ?hp HS.out (by simp) ?_
          (case hp => exact reps_encs flat50 (fun y => flat50.M _ _ _ y) [x])
          intro v44 we hs hb
          have n0_ := Aside0.mk (((hs.pick 2 rfl).pick 2 rfl)); have n1_ := Aside0.mk (below_step' HB.out HS.out.size hb); clear HS HB; have HS := n0_; have HB := n1_; clear n0_ n1_; (try simp only [List.eraseIdx_cons_succ, List.eraseIdx_cons_zero] at HS)
          clear hs hb
          obtain ⟨A44, c44, e44, _, _⟩ := (HS.out.pick 2 rfl).reads
          subst e44
          simp only [List.length_singleton] at HS ⊢
          refine hK.out _ _ ⟨(evCel (HS.out.pick 1 rfl) i hlz.out x hx.out).1, (evCel (HS.out.pick 1 rfl) i hlz.out x hx.out).2.1, (evCel (HS.out.pick 1 rfl) i hlz.out x hx.out).2.2.1, (evCel (HS.out.pick 1 rfl) i hlz.out x hx.out).2.2.2.1, (evCel (HS.out.pick 1 rfl) i hlz.out x hx.out).2.2.2.2.1, (evCel (HS.out.pick 1 rfl) i hlz.out x hx.out).2.2.2.2.2.1, (evCel (HS.out.pick 1 rfl) i hlz.out x hx.out).2.2.2.2.2.2.1, (evCel (HS.out.pick 1 rfl) i hlz.out x hx.out).2.2.2.2.2.2.2.1, (evCel (HS.out.pick 1 rfl) i hlz.out x hx.out).2.2.2.2.2.2.2.2⟩ (fun hHeld => ?_)
          clear hK K
          refine norm_ (a' := ?_) ?_ ?_
          rotate_left
          · show Act.put _ (some 44) _ = _
            simp only [Act.put, List.setIfInBounds_toArray, List.set_cons_zero, List.set_cons_succ, i64_w, i32_w]
            rfl
          refine one_ (i := 0) (N := some 35) (tfs true [4, 1, 5, 1, 3, 2]).toArray rfl rfl (one_of HT_.out (by kernel_rfl)) (by decide) (fun K hK => ?_)
          refine S_lit_step k50 50 (by rfl) (Nt := 35) rfl (xs := ([] : List S50)) (inner := ([] : List Value)) (by first | (go_simp; done) | (go_simp; rfl)) (Reps.none _ _) HS.out (by simp) ?_
          intro v35 we hs hb
          have n0_ := Aside0.mk ((((hs.pick 3 rfl).pick 3 rfl).pick 3 rfl)); have n1_ := Aside0.mk (below_step' HB.out HS.out.size hb); clear HS HB; have HS := n0_; have HB := n1_; clear n0_ n1_; (try simp only [List.eraseIdx_cons_succ, List.eraseIdx_cons_zero] at HS)
          clear hs hb
          refine hK.out _ _ ⟨(evCel (HS.out.pick 1 rfl) i hlz.out x hx.out).1, (evCel (HS.out.pick 1 rfl) i hlz.out x hx.out).2.1, (evCel (HS.out.pick 1 rfl) i hlz.out x hx.out).2.2.1, (evCel (HS.out.pick 1 rfl) i hlz.out x hx.out).2.2.2.1, (evCel (HS.out.pick 1 rfl) i hlz.out x hx.out).2.2.2.2.1, (evCel (HS.out.pick 1 rfl) i hlz.out x hx.out).2.2.2.2.2.1, (evCel (HS.out.pick 1 rfl) i hlz.out x hx.out).2.2.2.2.2.2.1, (evCel (HS.out.pick 1 rfl) i hlz.out x hx.out).2.2.2.2.2.2.2.1, (evCel (HS.out.pick 1 rfl) i hlz.out x hx.out).2.2.2.2.2.2.2.2⟩ (fun hHeld => ?_)
          clear hK K
          refine norm_ (a' := ?_) ?_ ?_
          rotate_left
          · show Act.put _ (some 35) _ = _
            simp only [Act.put, List.setIfInBounds_toArray, List.set_cons_zero, List.set_cons_succ, i64_w, i32_w]
            rfl
          refine one_ (i := 4) (N := some 39) (tfs true [10, 1, 3, 2]).toArray rfl rfl (one_of HT_.out (by kernel_rfl)) (by decide) (fun K hK => ?_)
          have hT := Aside0.mk (rowTake (HS.out.pick 0 rfl) k hkS.out T hTe.out)
          refine S_append_rows_step k50 (by rfl) (.tmp 35) (.tmp 38) 25 50 (.agg #[(.string ⟨#[]⟩), (.int .i64 0), (.int .i64 0), (.int .i64 0), (.string ⟨#[]⟩), (.int .i64 0), (.string ⟨#[]⟩), (.int .i64 0), (.string ⟨#[]⟩)]) 104 rfl Tryz.underlying25 info50 rfl (by decide) (by omega) v35 [] T As k cs rfl rfl (fun x cs h => by rw [flat50.K h]; exact flat_k50 _ _ x) (HS.out.pick 3 rfl) hT.out HB.out (by have := hlens.out; simp only [List.length_nil, List.length_append, List.length_singleton, lT.out]; omega) ?_
          clear hT
          intro p wq hs hb
          have n0_ := Aside0.mk ((((hs.pick 3 rfl).pick 3 rfl).pick 3 rfl)); have n1_ := Aside0.mk (hb); clear HS HB; have HS := n0_; have HB := n1_; clear n0_ n1_; (try simp only [List.eraseIdx_cons_succ, List.eraseIdx_cons_zero] at HS)
          clear hs hb
          refine hK.out _ _ ⟨(evCel (HS.out.pick 1 rfl) i hlz.out x hx.out).1, (evCel (HS.out.pick 1 rfl) i hlz.out x hx.out).2.1, (evCel (HS.out.pick 1 rfl) i hlz.out x hx.out).2.2.1, (evCel (HS.out.pick 1 rfl) i hlz.out x hx.out).2.2.2.1, (evCel (HS.out.pick 1 rfl) i hlz.out x hx.out).2.2.2.2.1, (evCel (HS.out.pick 1 rfl) i hlz.out x hx.out).2.2.2.2.2.1, (evCel (HS.out.pick 1 rfl) i hlz.out x hx.out).2.2.2.2.2.2.1, (evCel (HS.out.pick 1 rfl) i hlz.out x hx.out).2.2.2.2.2.2.2.1, (evCel (HS.out.pick 1 rfl) i hlz.out x hx.out).2.2.2.2.2.2.2.2⟩ (fun hHeld => ?_)
          clear hK K
          refine norm_ (a' := ?_) ?_ ?_
          rotate_left
          · show Act.put _ (some 39) _ = _
            simp only [Act.put, List.setIfInBounds_toArray, List.set_cons_zero, List.set_cons_succ, i64_w, i32_w]
            rfl
          refine one_ (i := 10) (N := some 45) (tfs true [14, 2]).toArray rfl rfl (one_of HT_.out (by kernel_rfl)) (by decide) (fun K hK => ?_)
          refine S_append_rows_step k50 (by rfl) (.tmp 39) (.tmp 44) 25 50 (.agg #[(.string ⟨#[]⟩), (.int .i64 0), (.int .i64 0), (.int .i64 0), (.string ⟨#[]⟩), (.int .i64 0), (.string ⟨#[]⟩), (.int .i64 0), (.string ⟨#[]⟩)]) 104 rfl Tryz.underlying25 info50 rfl (by decide) (by omega) p ([] ++ T) [x] A44 1 c44 rfl rfl (fun x cs h => by rw [flat50.K h]; exact flat_k50 _ _ x) (HS.out.pick 3 rfl) (HS.out.pick 2 rfl).rowC.2.2 HB.out (by have := hlens.out; simp only [List.length_nil, List.length_append, List.length_singleton, lT.out]; omega) ?_
          intro q wq hs hb
          have n0_ := Aside0.mk ((((hs.pick 3 rfl).pick 3 rfl).pick 3 rfl)); have n1_ := Aside0.mk (hb); clear HS HB; have HS := n0_; have HB := n1_; clear n0_ n1_; (try simp only [List.eraseIdx_cons_succ, List.eraseIdx_cons_zero] at HS)
          clear hs hb
          refine hK.out _ _ ⟨(evCel (HS.out.pick 1 rfl) i hlz.out x hx.out).1, (evCel (HS.out.pick 1 rfl) i hlz.out x hx.out).2.1, (evCel (HS.out.pick 1 rfl) i hlz.out x hx.out).2.2.1, (evCel (HS.out.pick 1 rfl) i hlz.out x hx.out).2.2.2.1, (evCel (HS.out.pick 1 rfl) i hlz.out x hx.out).2.2.2.2.1, (evCel (HS.out.pick 1 rfl) i hlz.out x hx.out).2.2.2.2.2.1, (evCel (HS.out.pick 1 rfl) i hlz.out x hx.out).2.2.2.2.2.2.1, (evCel (HS.out.pick 1 rfl) i hlz.out x hx.out).2.2.2.2.2.2.2.1, (evCel (HS.out.pick 1 rfl) i hlz.out x hx.out).2.2.2.2.2.2.2.2⟩ (fun hHeld => ?_)
          clear hK K
          refine norm_ (a' := ?_) ?_ ?_
          rotate_left
          · show Act.put _ (some 45) _ = _
            simp only [Act.put, List.setIfInBounds_toArray, List.set_cons_zero, List.set_cons_succ, i64_w, i32_w]
            rfl
          refine one_ (i := 14) (N := some 49) (tfs true [15, 1]).toArray rfl rfl (one_of HT_.out (by kernel_rfl)) (by decide) (fun K hK => ?_)
          have hU := Aside0.mk (rowDrop (HS.out.pick 0 rfl) k hkS.out U hUe.out)
          refine S_append_rows_step k50 (by rfl) (.tmp 45) (.tmp 48) 25 50 (.agg #[(.string ⟨#[]⟩), (.int .i64 0), (.int .i64 0), (.int .i64 0), (.string ⟨#[]⟩), (.int .i64 0), (.string ⟨#[]⟩), (.int .i64 0), (.string ⟨#[]⟩)]) 104 rfl Tryz.underlying25 info50 rfl (by decide) (by omega) q ([] ++ T ++ [x]) U (if cs = k then As else As.map (·.add (k * 9))) (i - k) (cs - k) rfl rfl (fun x cs h => by rw [flat50.K h]; exact flat_k50 _ _ x) (HS.out.pick 3 rfl) hU.out HB.out (by have := hlens.out; simp only [List.length_nil, List.length_append, List.length_singleton, lT.out]; omega) ?_
          clear hU
          intro r wq hs hb
          have n0_ := Aside0.mk ((((hs.pick 3 rfl).pick 3 rfl).pick 3 rfl)); have n1_ := Aside0.mk (hb); clear HS HB; have HS := n0_; have HB := n1_; clear n0_ n1_; (try simp only [List.eraseIdx_cons_succ, List.eraseIdx_cons_zero] at HS)
          clear hs hb
          refine hK.out _ _ ⟨(evCel (HS.out.pick 1 rfl) i hlz.out x hx.out).1, (evCel (HS.out.pick 1 rfl) i hlz.out x hx.out).2.1, (evCel (HS.out.pick 1 rfl) i hlz.out x hx.out).2.2.1, (evCel (HS.out.pick 1 rfl) i hlz.out x hx.out).2.2.2.1, (evCel (HS.out.pick 1 rfl) i hlz.out x hx.out).2.2.2.2.1, (evCel (HS.out.pick 1 rfl) i hlz.out x hx.out).2.2.2.2.2.1, (evCel (HS.out.pick 1 rfl) i hlz.out x hx.out).2.2.2.2.2.2.1, (evCel (HS.out.pick 1 rfl) i hlz.out x hx.out).2.2.2.2.2.2.2.1, (evCel (HS.out.pick 1 rfl) i hlz.out x hx.out).2.2.2.2.2.2.2.2⟩ (fun hHeld => ?_)
          clear hK K
          refine norm_ (a' := ?_) ?_ ?_
          rotate_left
          · show Act.put _ (some 49) _ = _
            simp only [Act.put, List.setIfInBounds_toArray, List.set_cons_zero, List.set_cons_succ, i64_w, i32_w]
            rfl
          refine pU 15 3 (tfs true [16]).toArray rfl rfl HT_ ?_
          refine done_ (done_of HT_.out (by kernel_rfl)) ?_
          clear HT_ HW_
          try clear hHeld
          go_wp2
          go_roundw
          case rel =>
            refine ⟨i + 1, by omega, by go_num, ?_, HB⟩
            rw [hnx.out]
            have h := ((((HS.out.pick 1 rfl).pick 3 rfl).pick 2 rfl).pick 3 rfl).drop.drop
            rw [List.nil_append, List.append_assoc] at h
            exact ⟨h⟩
          case measure => simp [intOf]; omega
    · obtain rfl : i = zs.length := by omega
      have q0 : decide ((zs.length : Int) < (zs.length : Int)) = false := decide_eq_false (by omega)
      rw [List.take_length] at HS
      clear hSl hlt hi
      have hle := srt_length zs
      have hoe : Aside0 (orderE zs = ded (srt zs)) := ⟨rfl⟩
      obtain ⟨l, hl0⟩ : ∃ l, srt zs = l := ⟨_, rfl⟩
      rw [hl0] at HS hle hoe
      clear hl0
      obtain ⟨Al, cl, el, _, _⟩ := (HS.out.pick 0 rfl).reads
      subst el
      have hl5 : l.length ≤ 100000 := by omega
      clear hle
      go_upto_region 10 with (fail)
      go_loopw [4, 7] (fun v4 v7 wr => ∃ i : Nat, i ≤ l.length ∧ v7 = .int .i64 i ∧ Aside0 (St N wr (Row k50 50 v4 (ded (l.take i)) :: Row k50 50 (.slice Al l.length cl) l :: Row k50 50 (.slice A zs.length c) zs :: L)) ∧ Aside0 (Below N w wr)) (fun _ v7 _ => l.length - (intOf v7).toNat)
      case atStart => exact ⟨0, Nat.zero_le _, rfl, ⟨HS.out.rowNil⟩, HB⟩
      case round =>
        clear HS HB
        obtain ⟨i, hi, rfl, HS, HB⟩ := hrel
        by_cases hlt : i < l.length
        · obtain ⟨gs, cs, es, _⟩ := St.row_some flat50 (HS.out.pick 1 rfl) (by omega)
          obtain ⟨hA, hcz⟩ : Al = some ⟨gs, 0, none⟩ ∧ cl = cs := by simpa using es
          subst hA
          subst hcz
          clear es
          have q0 : decide ((i : Int) < (l.length : Int)) = true := decide_eq_true (by omega)
          have q1 := eq_true (show (i : Int) < (l.length : Int) by omega)
          have q2 := eq_true (show (0 : Int) ≤ (i : Int) by omega)
          have hw : IntKind.i64.wrap ((i : Int) + 1) = (i : Int) + 1 := by rw [IntKind.wrap_i64]; omega
          have hil : Aside0 (i < l.length) := ⟨hlt⟩
          have hdl := Aside0.mk (ded_len l i)
          have hds := Aside0.mk (show ded (l.take (i + 1)) = dedS (ded (l.take i)) (rd_T50 l (i : Int)) by rw [take_rd l i hlt, ded_snoc])
          obtain ⟨x, hx0⟩ : ∃ x, rd_T50 l (i : Int) = x := ⟨_, rfl⟩
          rw [hx0] at hds
          have hx := Aside0.mk hx0
          clear hx0
          generalize ded (l.take i) = D at HS hdl hds
          obtain ⟨Ad, cd, ed, _, _⟩ := (HS.out.pick 0 rfl).reads
          subst ed
          have hD5 : D.length ≤ 100000 := by have := hdl.out; omega
          go_upto_block 6 with (fail)
          go_cut [8] from 56 to 75 (fun v8 wc => v8 = .bool (decide (∀ j : Nat, j < D.length → (rd_T50 D (j : Int)).f0 ≠ x.f0)) ∧ Aside0 (St N wc (Row k50 50 (.slice Ad D.length cd) D :: Row k50 50 (.slice (some ⟨gs, 0, none⟩) l.length cl) l :: Row k50 50 (.slice A zs.length c) zs :: L)) ∧ Aside0 (Below N w wc))
          case first =>
            go_wp2_with (fail)
            go_loopw [8, 9] (fun v8 v9 wr => ∃ (k : Nat) (b : Bool), k ≤ D.length ∧ v8 = .bool b ∧ v9 = .int .i64 k ∧ Aside0 (b = decide (∀ j : Nat, j < k → (rd_T50 D (j : Int)).f0 ≠ x.f0)) ∧ Aside0 (St N wr (Row k50 50 (.slice Ad D.length cd) D :: Row k50 50 (.slice (some ⟨gs, 0, none⟩) l.length cl) l :: Row k50 50 (.slice A zs.length c) zs :: L)) ∧ Aside0 (Below N w wr)) (fun _ v9 _ => D.length - (intOf v9).toNat)
            case atStart => exact ⟨0, true, Nat.zero_le _, rfl, rfl, ⟨(decide_eq_true (fun j hj => absurd hj (Nat.not_lt_zero _))).symm⟩, HS, HB⟩
            case round =>
              clear HS HB
              obtain ⟨k, b, hk, rfl, rfl, hb_, HS, HB⟩ := hrel
              by_cases hkl : k < D.length
              · have p0 : decide ((k : Int) < (D.length : Int)) = true := decide_eq_true (by omega)
                have p1 := eq_true (show (k : Int) < (D.length : Int) by omega)
                have p2 := eq_true (show (0 : Int) ≤ (k : Int) by omega)
                have pw : IntKind.i64.wrap ((k : Int) + 1) = (k : Int) + 1 := by rw [IntKind.wrap_i64]; omega
                obtain ⟨gD, cD, eD, _⟩ := St.row_some flat50 (HS.out.pick 0 rfl) (by omega)
                obtain ⟨hA, hcz⟩ : Ad = some ⟨gD, 0, none⟩ ∧ cd = cD := by simpa using eD
                subst hA
                subst hcz
                clear eD
                have hkD : Aside0 (k < D.length) := ⟨hkl⟩
                obtain ⟨y, hy0⟩ : ∃ y, rd_T50 D (k : Int) = y := ⟨_, rfl⟩
                have hy := Aside0.mk hy0
                clear hy0
                cases b with
                | true =>
                  obtain ⟨q, hq0⟩ : ∃ q : Bool, decide (y.f0 = x.f0) = q := ⟨_, rfl⟩
                  have hq := Aside0.mk hq0
                  have e1 : (if y.f0.f0.toList = x.f0.f0.toList then (if y.f0.f1 = x.f0.f1 then true else false) else false) = q := keq_if x y q hq0
                  have e2 := fun (w' : World) => keq_ne x y q hq0 (fun b => (Result.ok (Next.value (Value.bool b)) w' : Result Next))
                  clear hq0
                  go_upto_region 16 with (fail)
                  have n0_ := Aside0.mk (HS.out.drew); have n1_ := Aside0.mk (HB.out.drew); clear HS HB; have HS := n0_; have HB := n1_; clear n0_ n1_
                  refine start_ (n := 15) (S := fun w' => w'.cell? ⟨gD, k * 9, none⟩ = some (.string y.f0.f0) ∧ w'.cell? ⟨gD, k * 9 + 1, none⟩ = some (.int .i64 y.f0.f1) ∧ w'.cell? ⟨gs, i * 9, none⟩ = some (.string x.f0.f0) ∧ w'.cell? ⟨gs, i * 9 + 1, none⟩ = some (.int .i64 x.f0.f1)) (ds := []) (tfs true [0, 15]).toArray (by kernel_rfl) rfl rfl ⟨(evCel (HS.out.pick 0 rfl) k hkD.out y hy.out).1, (evCel (HS.out.pick 0 rfl) k hkD.out y hy.out).2.1, (evCel (HS.out.pick 1 rfl) i hil.out x hx.out).1, (evCel (HS.out.pick 1 rfl) i hil.out x hx.out).2.1⟩ (fun hHeld => ?_); refine with_tabW cnt.tab16 cnt.bits16 (fun HT_ HW_ => ?_)
                  generalize wr.drew = wd at HS HB hHeld ⊢
                  refine pU 0 62 (tfs true [1, 14]).toArray rfl rfl HT_ ?_
                  refine pU 1 63 (tfs true [2, 13]).toArray rfl rfl HT_ ?_
                  refine pU 2 64 (tfs true [3, 12]).toArray rfl rfl HT_ ?_
                  refine pU 3 65 (tfs true [4, 11]).toArray rfl rfl HT_ ?_
                  refine pU 4 66 (tfs true [5, 10]).toArray rfl rfl HT_ ?_
                  refine pU 5 67 (tfs true [6, 9]).toArray rfl rfl HT_ ?_
                  refine pU 7 69 (tfs true [6, 1, 1, 7]).toArray rfl rfl HT_ ?_
                  refine pU 8 70 (tfs true [6, 1, 2, 6]).toArray rfl rfl HT_ ?_
                  refine pU 9 71 (tfs true [6, 1, 3, 5]).toArray rfl rfl HT_ ?_
                  refine pU 10 72 (tfs true [6, 1, 4, 4]).toArray rfl rfl HT_ ?_
                  refine tK 6 68 (tfs true [11, 4]).toArray rfl rfl HT_ HW_ hHeld ?_ (by rintro w' ⟨s0, s1, s2, s3⟩; go_simp; with_reducible rfl)
                  refine tK 11 73 (tfs true [12, 3]).toArray rfl rfl HT_ HW_ hHeld ?_ (by rintro w' ⟨s0, s1, s2, s3⟩; go_simp; with_reducible rfl)
                  refine pU 12 74 (tfs true [13, 2]).toArray rfl rfl HT_ ?_
                  refine pU 13 75 (tfs true [14, 1]).toArray rfl rfl HT_ ?_
                  refine pU 14 8 (tfs true [15]).toArray rfl rfl HT_ ?_
                  refine done_ (done_of HT_.out (by kernel_rfl)) ?_
                  clear HT_ HW_
                  try clear hHeld
                  go_wp2
                  go_roundw
                  case rel => exact ⟨k + 1, !q, by omega, by first | rfl | (cases q <;> rfl), by go_num, ⟨by rw [← hq.out, ← hy.out]; exact first_step D x k hb_.out⟩, HS, HB⟩
                  case measure => simp [intOf]; omega
                | false =>
                  go_upto_region 16 with (fail)
                  have n0_ := Aside0.mk (HS.out.drew); have n1_ := Aside0.mk (HB.out.drew); clear HS HB; have HS := n0_; have HB := n1_; clear n0_ n1_
                  refine start_ (n := 15) (S := fun w' => True) (ds := []) (tfs true [0, 15]).toArray (by kernel_rfl) rfl rfl trivial (fun hHeld => ?_); refine with_tabW cnt.tab16 cnt.bits16 (fun HT_ HW_ => ?_)
                  generalize wr.drew = wd at HS HB hHeld ⊢
                  refine pU 0 62 (tfs true [1, 14]).toArray rfl rfl HT_ ?_
                  refine pU 1 63 (tfs true [2, 13]).toArray rfl rfl HT_ ?_
                  refine pO 2 (some 64) (tfs true [3, 12]).toArray rfl rfl HT_ ?_
                  refine pO 3 (some 65) (tfs true [4, 11]).toArray rfl rfl HT_ ?_
                  refine pO 4 (some 66) (tfs true [5, 10]).toArray rfl rfl HT_ ?_
                  refine pO 5 (some 67) (tfs true [6, 9]).toArray rfl rfl HT_ ?_
                  refine pO 6 (some 68) (tfs true [7, 8]).toArray rfl rfl HT_ ?_
                  refine pO 7 (some 69) (tfs true [8, 7]).toArray rfl rfl HT_ ?_
                  refine pO 8 (some 70) (tfs true [9, 6]).toArray rfl rfl HT_ ?_
                  refine pO 9 (some 71) (tfs true [10, 5]).toArray rfl rfl HT_ ?_
                  refine pO 10 (some 72) (tfs true [11, 4]).toArray rfl rfl HT_ ?_
                  refine pO 11 (some 73) (tfs true [12, 3]).toArray rfl rfl HT_ ?_
                  refine pO 12 (some 74) (tfs true [13, 2]).toArray rfl rfl HT_ ?_
                  refine pU 13 75 (tfs true [14, 1]).toArray rfl rfl HT_ ?_
                  refine pU 14 8 (tfs true [15]).toArray rfl rfl HT_ ?_
                  refine done_ (done_of HT_.out (by kernel_rfl)) ?_
                  clear HT_ HW_
                  try clear hHeld
                  go_wp2
                  go_roundw
                  case rel => exact ⟨k + 1, false, by omega, rfl, by go_num, ⟨first_none D x k hb_.out⟩, HS, HB⟩
                  case measure => simp [intOf]; omega
              · obtain rfl : k = D.length := by omega
                have p0 : decide ((D.length : Int) < (D.length : Int)) = false := decide_eq_false (by omega)
                go_wp2
                go_meet
                case rel => exact ⟨congrArg Value.bool hb_.out, HS, HB⟩
          case rest =>
            clear HS HB
            obtain ⟨rfl, HS, HB⟩ := hcut
            obtain ⟨z0, z1, z2, z3, z4, z5, z6, z7, z8⟩ := evCel (HS.out.pick 1 rfl) i hil.out x hx.out
            by_cases hf : ∀ j : Nat, j < D.length → (rd_T50 D (j : Int)).f0 ≠ x.f0
            · rw [decide_eq_true hf]
              have hn : Aside0 (¬ x.f0 ∈ D.map (fun x => x.f0)) := ⟨(first_mem D x).mp hf⟩
              clear hf
              go_wp2_with (first | ((with_reducible refine gate_builtin (b := .append) (xs := #[.tmp 77, .tmp 82]) rfl ?_); at_builtin; refine S_append k50 rfl (.tmp 77) (.tmp 82) 25 50 (.agg #[(.string ⟨#[]⟩), (.int .i64 0), (.int .i64 0), (.int .i64 0), (.string ⟨#[]⟩), (.int .i64 0), (.string ⟨#[]⟩), (.int .i64 0), (.string ⟨#[]⟩)]) 104 rfl Tryz.underlying25 info50 rfl (by decide) (by omega) _ _ x [.string x.f0.f0, .int .i64 x.f0.f1, .int .i64 x.f1, .int .i64 x.f2, .string x.f3.f0, .int .i64 x.f3.f1, .string x.f4, .int .i64 x.f5, .string x.f6] rfl rfl (flat_k50 _ _ x) (HS.out.pick 0 rfl) HB.out (by have := hdl.out; omega) ?_; intro v6 w6 hs hb; have n0_ := Aside0.mk (hs); have n1_ := Aside0.mk (hb); clear HS HB; have HS := n0_; have HB := n1_; clear n0_ n1_; (try simp only [List.eraseIdx_cons_succ, List.eraseIdx_cons_zero] at HS); clear hs hb z0 z1 z2 z3 z4 z5 z6 z7 z8))
              go_roundw
              case rel =>
                refine ⟨i + 1, by omega, by go_num, ?_, HB⟩
                rw [hds.out]
                unfold dedS
                rw [if_neg hn.out]
                exact HS
              case measure => simp [intOf]; omega
            · rw [decide_eq_false hf]
              have hn : Aside0 (x.f0 ∈ D.map (fun x => x.f0)) := ⟨Classical.byContradiction (fun h => hf ((first_mem D x).mpr h))⟩
              clear hf
              go_wp2
              go_roundw
              case rel =>
                refine ⟨i + 1, by omega, by go_num, ?_, HB⟩
                rw [hds.out]
                unfold dedS
                rw [if_pos hn.out]
                exact HS
              case measure => simp [intOf]; omega
        · obtain rfl : i = l.length := by omega
          have q0 : decide ((l.length : Int) < (l.length : Int)) = false := decide_eq_false (by omega)
          rw [List.take_length] at HS
          go_wp2
          go_ret
          refine ⟨_, rfl, ?_, HB.out⟩
          rw [hoe.out]
          exact HS.out.swap.drop

end Go.Proofs.YtcjfgejiknlpfaaGreat.PI
