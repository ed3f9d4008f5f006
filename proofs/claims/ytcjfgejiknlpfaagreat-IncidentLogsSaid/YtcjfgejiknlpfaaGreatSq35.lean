/- Compact over events: equal neighbours are taken together. -/
import Derived.Test.YtcjfgejiknlpfaaGreatJ0
import Derived.Test.YtcjfgejiknlpfaaGreatRowC
import Derived.Test.YtcjfgejiknlpfaaGreatSq34
namespace Go.Proofs.YtcjfgejiknlpfaaGreat.PI
open Go.RowKit Go.Proofs.YtcjfgejiknlpfaaGreatW.PrintWords Go.Proofs.YtcjfgejiknlpfaaGreatW.PrintLast Go.Proofs.YtcjfgejiknlpfaaGreatW.PrintMore Go.Proofs.YtcjfgejiknlpfaaGreat.Sep
set_option linter.unusedVariables false
set_option linter.unusedSimpArgs false
set_option maxHeartbeats 8000000
set_option maxRecDepth 100000

theorem eqE (d : Nat) (w : World) (x y : S50) : (Op.equalIn (d + 3) 50 (.agg #[.string x.f0.f0, .int .i64 x.f0.f1, .int .i64 x.f1, .int .i64 x.f2, .string x.f3.f0, .int .i64 x.f3.f1, .string x.f4, .int .i64 x.f5, .string x.f6]) (.agg #[.string y.f0.f0, .int .i64 y.f0.f1, .int .i64 y.f1, .int .i64 y.f2, .string y.f3.f0, .int .i64 y.f3.f1, .string y.f4, .int .i64 y.f5, .string y.f6])).run Tryz.prog w = .ok (decide (x = y)) w := by
  rw [eqA50, ← Bool.not_not (decide (x = y)), ← neAll]
  simp only [Bool.not_or, Bool.not_not]
attribute [local go_sem high] eqE

def cpc.T6 : Bool × List (List Nat × List Nat) := (true, [([], []), ([], []), ([0, 1], [0, 1]), ([2], [2]), ([], []), ([], []), ([5], [5]), ([4, 6], [4, 6]), ([7], [7]), ([3, 8], [3, 8])])
def cpc.B6 : List Nat := [0, 0, 3, 7, 0, 0, 32, 112, 240, 511]
theorem cpc.tab6 : rtab .any (opsOf Tryz.f52 6) = cpc.T6 := by kernel_rfl
theorem cpc.bits6 : waitsOk cpc.T6.2 cpc.B6 = true := by kernel_rfl
def cpc.T11 : Bool × List (List Nat × List Nat) := (true, [([], []), ([], []), ([0, 1], [0, 1]), ([2], [2]), ([], []), ([], []), ([5], [5]), ([4, 6], [4, 6]), ([7], [7]), ([3, 8], [3, 8])])
def cpc.B11 : List Nat := [0, 0, 3, 7, 0, 0, 32, 112, 240, 511]
theorem cpc.tab11 : rtab .any (opsOf Tryz.f52 11) = cpc.T11 := by kernel_rfl
theorem cpc.bits11 : waitsOk cpc.T11.2 cpc.B11 = true := by kernel_rfl
theorem evSub {N : Nat} {w : World} {L : List Res} {g n cap : Nat} {l : List S50} (h : St N w (Row k50 50 (.slice (some ⟨g, 0, none⟩) n cap) l :: L)) (k q : Nat) (hj : k + q < l.length) (x : S50) (hx : rd_T50 l ((k + q : Nat) : Int) = x) : w.cell? ⟨g, k * 9 + q * 9, none⟩ = some (.string x.f0.f0) ∧ w.cell? ⟨g, k * 9 + q * 9 + 1, none⟩ = some (.int .i64 x.f0.f1) ∧ w.cell? ⟨g, k * 9 + q * 9 + 2, none⟩ = some (.int .i64 x.f1) ∧ w.cell? ⟨g, k * 9 + q * 9 + 3, none⟩ = some (.int .i64 x.f2) ∧ w.cell? ⟨g, k * 9 + q * 9 + 4, none⟩ = some (.string x.f3.f0) ∧ w.cell? ⟨g, k * 9 + q * 9 + 5, none⟩ = some (.int .i64 x.f3.f1) ∧ w.cell? ⟨g, k * 9 + q * 9 + 6, none⟩ = some (.string x.f4) ∧ w.cell? ⟨g, k * 9 + q * 9 + 7, none⟩ = some (.int .i64 x.f5) ∧ w.cell? ⟨g, k * 9 + q * 9 + 8, none⟩ = some (.string x.f6) := by
  have h := evCel h (k + q) hj x hx
  rw [Nat.add_mul] at h
  exact h
theorem compact_small (l : List S50) (hl : l.length < 2) (v : Value) {N : Nat} {w : World} {L : List Res} (HS0 : St N w (Row k50 50 v l :: L)) :
    Calls Tryz.prog 52 #[v] w fun e w' => e = .returned v ∧ w' = w := by
  obtain ⟨A, c, e, _, _⟩ := HS0.reads
  subst e
  have q1 : decide ((l.length : Int) < 2) = true := decide_eq_true (by omega)
  go_enter Tryz.func52, Tryz.ntmps52
  go_wp2
  go_ret
  exact ⟨rfl, rfl⟩
theorem compact_great (l : List S50) (hl2 : 2 ≤ l.length) (hl : l.length ≤ 100000) (g cap : Nat) {N : Nat} {w : World} {L : List Res} (HS0 : St N w (Row k50 50 (.slice (some ⟨g, 0, none⟩) l.length cap) l :: L)) :
    Calls Tryz.prog 52 #[.slice (some ⟨g, 0, none⟩) l.length cap] w fun e w' => ∃ v', e = .returned v' ∧ St N w' (Row k50 50 v' (cp l l.length) :: L) ∧ Below N w w' := by
  have HS := Aside0.mk HS0
  have HB := Aside0.mk (Below.refl N w)
  clear HS0
  have q0 : decide ((l.length : Int) < 2) = false := decide_eq_false (by omega)
  have hlc := Aside0.mk HS.out.rowC.2.1
  go_enter Tryz.func52, Tryz.ntmps52
  go_upto_region 4 with (fail)
  go_loopw [3] (fun v3 wr => ∃ k : Nat, 1 ≤ k ∧ k ≤ l.length ∧ cp l k = l.take k ∧ v3 = .int .i64 k ∧ Aside0 (St N wr (Row k50 50 (.slice (some ⟨g, 0, none⟩) l.length cap) l :: L)) ∧ Aside0 (Below N w wr)) (fun v3 _ => l.length - (intOf v3).toNat)
  case atStart => exact ⟨1, Nat.le_refl _, by omega, by rw [cp_one, take_rd l 0 (by omega)]; rfl, rfl, HS, HB⟩
  case round =>
    clear HS HB
    obtain ⟨k, hk1, hkn, hcp, rfl, HS, HB⟩ := hrel
    by_cases hlt : k < l.length
    · obtain ⟨j, hj⟩ : ∃ j, k = j + 1 := ⟨k - 1, by omega⟩
      have hj' := Aside0.mk hj
      have hcp' := Aside0.mk hcp
      have hkl := Aside0.mk hlt
      have hjl : Aside0 (j < l.length) := ⟨by omega⟩
      obtain ⟨x, hx0⟩ : ∃ x, rd_T50 l (k : Int) = x := ⟨_, rfl⟩
      obtain ⟨y, hy0⟩ : ∃ y, rd_T50 l (j : Int) = y := ⟨_, rfl⟩
      have hx := Aside0.mk hx0
      have hy := Aside0.mk hy0
      have p1 := eq_true (show (0 : Int) ≤ (k : Int) by omega)
      have p2 := eq_true (show (k : Int) < (l.length : Int) by omega)
      have p3 : decide ((k : Int) < (l.length : Int)) = true := decide_eq_true (by omega)
      have p4 : IntKind.i64.wrap ((k : Int) - 1) = (j : Int) := by rw [IntKind.wrap_i64]; omega
      have p4b : IntKind.i64.wrap ((k : Int) + 1) = (k : Int) + 1 := by rw [IntKind.wrap_i64]; omega
      have p5 := eq_true (show (0 : Int) ≤ (j : Int) by omega)
      have p6 := eq_true (show (j : Int) < (l.length : Int) by omega)
      clear hj hcp hx0 hy0
      obtain ⟨b1, hb1⟩ : ∃ b, decide (x = y) = b := ⟨_, rfl⟩
      have e1 := hb1
      replace hb1 := Aside0.mk hb1
      go_upto_region 6 with (fail)
      have n0_ := Aside0.mk (HS.out.drew); have n1_ := Aside0.mk (HB.out.drew); clear HS HB; have HS := n0_; have HB := n1_; clear n0_ n1_
      refine start_ (n := 10) (S := fun w' => w'.cell? ⟨g, k * 9, none⟩ = some (.string x.f0.f0) ∧ w'.cell? ⟨g, k * 9 + 1, none⟩ = some (.int .i64 x.f0.f1) ∧ w'.cell? ⟨g, k * 9 + 2, none⟩ = some (.int .i64 x.f1) ∧ w'.cell? ⟨g, k * 9 + 3, none⟩ = some (.int .i64 x.f2) ∧ w'.cell? ⟨g, k * 9 + 4, none⟩ = some (.string x.f3.f0) ∧ w'.cell? ⟨g, k * 9 + 5, none⟩ = some (.int .i64 x.f3.f1) ∧ w'.cell? ⟨g, k * 9 + 6, none⟩ = some (.string x.f4) ∧ w'.cell? ⟨g, k * 9 + 7, none⟩ = some (.int .i64 x.f5) ∧ w'.cell? ⟨g, k * 9 + 8, none⟩ = some (.string x.f6) ∧ w'.cell? ⟨g, j * 9, none⟩ = some (.string y.f0.f0) ∧ w'.cell? ⟨g, j * 9 + 1, none⟩ = some (.int .i64 y.f0.f1) ∧ w'.cell? ⟨g, j * 9 + 2, none⟩ = some (.int .i64 y.f1) ∧ w'.cell? ⟨g, j * 9 + 3, none⟩ = some (.int .i64 y.f2) ∧ w'.cell? ⟨g, j * 9 + 4, none⟩ = some (.string y.f3.f0) ∧ w'.cell? ⟨g, j * 9 + 5, none⟩ = some (.int .i64 y.f3.f1) ∧ w'.cell? ⟨g, j * 9 + 6, none⟩ = some (.string y.f4) ∧ w'.cell? ⟨g, j * 9 + 7, none⟩ = some (.int .i64 y.f5) ∧ w'.cell? ⟨g, j * 9 + 8, none⟩ = some (.string y.f6)) (ds := []) #[false, false, false, false, false, false, false, false, false, false] (by kernel_rfl) rfl rfl ⟨(evCel (HS.out.pick 0 rfl) k hkl.out x hx.out).1, (evCel (HS.out.pick 0 rfl) k hkl.out x hx.out).2.1, (evCel (HS.out.pick 0 rfl) k hkl.out x hx.out).2.2.1, (evCel (HS.out.pick 0 rfl) k hkl.out x hx.out).2.2.2.1, (evCel (HS.out.pick 0 rfl) k hkl.out x hx.out).2.2.2.2.1, (evCel (HS.out.pick 0 rfl) k hkl.out x hx.out).2.2.2.2.2.1, (evCel (HS.out.pick 0 rfl) k hkl.out x hx.out).2.2.2.2.2.2.1, (evCel (HS.out.pick 0 rfl) k hkl.out x hx.out).2.2.2.2.2.2.2.1, (evCel (HS.out.pick 0 rfl) k hkl.out x hx.out).2.2.2.2.2.2.2.2, (evCel (HS.out.pick 0 rfl) j hjl.out y hy.out).1, (evCel (HS.out.pick 0 rfl) j hjl.out y hy.out).2.1, (evCel (HS.out.pick 0 rfl) j hjl.out y hy.out).2.2.1, (evCel (HS.out.pick 0 rfl) j hjl.out y hy.out).2.2.2.1, (evCel (HS.out.pick 0 rfl) j hjl.out y hy.out).2.2.2.2.1, (evCel (HS.out.pick 0 rfl) j hjl.out y hy.out).2.2.2.2.2.1, (evCel (HS.out.pick 0 rfl) j hjl.out y hy.out).2.2.2.2.2.2.1, (evCel (HS.out.pick 0 rfl) j hjl.out y hy.out).2.2.2.2.2.2.2.1, (evCel (HS.out.pick 0 rfl) j hjl.out y hy.out).2.2.2.2.2.2.2.2⟩ (fun hHeld => ?_); refine with_tabW cpc.tab6 cpc.bits6 (fun HT_ HW_ => ?_)
      generalize wr.drew = w2 at HS HB hHeld ⊢
      refine pU 0 16 #[true, false, false, false, false, false, false, false, false, false] rfl rfl HT_ ?_
      refine pU 1 17 #[true, true, false, false, false, false, false, false, false, false] rfl rfl HT_ ?_
      refine pU 2 18 #[true, true, true, false, false, false, false, false, false, false] rfl rfl HT_ ?_
      refine pU 4 20 #[true, true, true, false, true, false, false, false, false, false] rfl rfl HT_ ?_
      refine pU 5 21 #[true, true, true, false, true, true, false, false, false, false] rfl rfl HT_ ?_
      refine pU 6 22 #[true, true, true, false, true, true, true, false, false, false] rfl rfl HT_ ?_
      refine pU 7 23 #[true, true, true, false, true, true, true, true, false, false] rfl rfl HT_ ?_
      refine tK 3 19 #[true, true, true, true, true, true, true, true, false, false] rfl rfl HT_ HW_ hHeld ?_ (by rintro w' ⟨s0, s1, s2, s3, s4, s5, s6, s7, s8, s9, s10, s11, s12, s13, s14, s15, s16, s17⟩; go_simp; with_reducible rfl)
      refine tK 8 24 #[true, true, true, true, true, true, true, true, true, false] rfl rfl HT_ HW_ hHeld ?_ (by rintro w' ⟨s0, s1, s2, s3, s4, s5, s6, s7, s8, s9, s10, s11, s12, s13, s14, s15, s16, s17⟩; go_simp; with_reducible rfl)
      refine pU 9 25 #[true, true, true, true, true, true, true, true, true, true] rfl rfl HT_ ?_
      refine done_ (done_of HT_.out (by kernel_rfl)) ?_
      clear HT_ HW_
      try clear hHeld
      clear e1
      cases b1 with
      | true =>
        have hh : Aside0 (x = y) := ⟨of_decide_eq_true hb1.out⟩
        have r1 := eq_true (show (k : Int) ≤ (cap : Int) by have := hlc.out; omega)
        have r2 := eq_true (show (k : Int) ≤ (l.length : Int) by omega)
        have r3 : (cap = k) = False := eq_false (by have := hlc.out; omega)
        have r4 := eq_true (show k ≤ l.length by omega)
        have r5 := eq_true (show k ≤ cap by have := hlc.out; omega)
        go_upto_region 9 with (fail)
        obtain ⟨d, hd⟩ : ∃ d, d = l.length - k := ⟨_, rfl⟩
        obtain ⟨c2, hc2⟩ : ∃ c, c = cap - k := ⟨_, rfl⟩
        rw [← hd, ← hc2]
        replace hd := Aside0.mk hd
        clear r1 r2 r3 r4 r5 p1 p2 p3 p4 p4b p5 p6 hc2 hlt
        have hk1' := Aside0.mk hk1
        clear hk1 hkn
        go_loopw [3, 5] (fun v3 v5 wr => ∃ (m q : Nat) (xs : List S50), 1 ≤ q ∧ q ≤ d ∧ k ≤ m ∧ m + 1 ≤ k + q ∧ v3 = .int .i64 m ∧ v5 = .int .i64 q ∧ Aside0 (xs.length = l.length ∧ cp l (k + q) = xs.take m ∧ ∀ r, k + q ≤ r + 1 → r < l.length → rd_T50 xs (r : Int) = rd_T50 l (r : Int)) ∧ Aside0 (St N wr (Row k50 50 (.slice (some ⟨g, 0, none⟩) l.length cap) xs :: L)) ∧ Aside0 (Below N w wr)) (fun _ v5 _ => d - (intOf v5).toNat)
        case atStart =>
          refine ⟨k, 1, l, Nat.le_refl _, by have := hd.out; have := hkl.out; omega, Nat.le_refl _, Nat.le_refl _, rfl, rfl, ⟨rfl, ?_, fun _ _ _ => rfl⟩, HS, HB⟩
          rw [cp_hit l k hk1'.out (by rw [show k - 1 = j by have := hj'.out; omega, hx.out, hy.out]; exact hh.out), hcp'.out]
        case round =>
          clear HS HB
          obtain ⟨m, q, xs, hq1, hqd, hkm, hmq, rfl, rfl, HX, HS, HB⟩ := hrel
          by_cases hlt2 : q < d
          · obtain ⟨p, hp⟩ : ∃ p, q = p + 1 := ⟨q - 1, by omega⟩
            have hX := HX.out
            clear hx hy hh
            obtain ⟨xq, hx0⟩ : ∃ x, rd_T50 l ((k + q : Nat) : Int) = x := ⟨_, rfl⟩
            obtain ⟨yq, hy0⟩ : ∃ y, rd_T50 l ((k + p : Nat) : Int) = y := ⟨_, rfl⟩
            have hxv : Aside0 (rd_T50 xs ((k + q : Nat) : Int) = xq) := ⟨(hX.2.2 (k + q) (by omega) (by have := hd.out; omega)).trans hx0⟩
            have hyv : Aside0 (rd_T50 xs ((k + p : Nat) : Int) = yq) := ⟨(hX.2.2 (k + p) (by omega) (by have := hd.out; omega)).trans hy0⟩
            have hx := Aside0.mk hx0
            have hy := Aside0.mk hy0
            have p1 := eq_true (show (0 : Int) ≤ (q : Int) by omega)
            have p2 := eq_true (show (q : Int) < (d : Int) by omega)
            have p3 : decide ((q : Int) < (d : Int)) = true := decide_eq_true (by omega)
            have p4 : IntKind.i64.wrap ((q : Int) - 1) = (p : Int) := by rw [IntKind.wrap_i64]; have := hd.out; omega
            have p7 : IntKind.i64.wrap ((q : Int) + 1) = (q : Int) + 1 := by rw [IntKind.wrap_i64]; have := hd.out; omega
            have p5 := eq_true (show (0 : Int) ≤ (p : Int) by omega)
            have p6 := eq_true (show (p : Int) < (d : Int) by omega)
            have hql : Aside0 (k + q < xs.length) := ⟨by have := hX.1; have := hd.out; omega⟩
            have hpl : Aside0 (k + p < xs.length) := ⟨by have := hX.1; have := hd.out; omega⟩
            have hm : Aside0 (m < xs.length) := ⟨by have := hX.1; have := hd.out; omega⟩
            have s1 := eq_true (show (0 : Int) ≤ (m : Int) by omega)
            have s3 : IntKind.i64.wrap ((m : Int) + 1) = (m : Int) + 1 := by rw [IntKind.wrap_i64]; have := hm.out; have := hX.1; omega
            have s2 := eq_true (show (m : Int) < (l.length : Int) by have := hm.out; have := hX.1; omega)
            clear hX hx0 hy0
            replace hp := Aside0.mk hp
            replace hmq := Aside0.mk hmq
            replace hq1 := Aside0.mk hq1
            replace hqd := Aside0.mk hqd
            replace hkm := Aside0.mk hkm
            obtain ⟨b2, hb2⟩ : ∃ b, decide (xq = yq) = b := ⟨_, rfl⟩
            have e1 := hb2
            replace hb2 := Aside0.mk hb2
            go_upto_region 11 with (fail)
            have n0_ := Aside0.mk (HS.out.drew); have n1_ := Aside0.mk (HB.out.drew); clear HS HB; have HS := n0_; have HB := n1_; clear n0_ n1_
            refine start_ (n := 10) (S := fun w' => w'.cell? ⟨g, k * 9 + q * 9, none⟩ = some (.string xq.f0.f0) ∧ w'.cell? ⟨g, k * 9 + q * 9 + 1, none⟩ = some (.int .i64 xq.f0.f1) ∧ w'.cell? ⟨g, k * 9 + q * 9 + 2, none⟩ = some (.int .i64 xq.f1) ∧ w'.cell? ⟨g, k * 9 + q * 9 + 3, none⟩ = some (.int .i64 xq.f2) ∧ w'.cell? ⟨g, k * 9 + q * 9 + 4, none⟩ = some (.string xq.f3.f0) ∧ w'.cell? ⟨g, k * 9 + q * 9 + 5, none⟩ = some (.int .i64 xq.f3.f1) ∧ w'.cell? ⟨g, k * 9 + q * 9 + 6, none⟩ = some (.string xq.f4) ∧ w'.cell? ⟨g, k * 9 + q * 9 + 7, none⟩ = some (.int .i64 xq.f5) ∧ w'.cell? ⟨g, k * 9 + q * 9 + 8, none⟩ = some (.string xq.f6) ∧ w'.cell? ⟨g, k * 9 + p * 9, none⟩ = some (.string yq.f0.f0) ∧ w'.cell? ⟨g, k * 9 + p * 9 + 1, none⟩ = some (.int .i64 yq.f0.f1) ∧ w'.cell? ⟨g, k * 9 + p * 9 + 2, none⟩ = some (.int .i64 yq.f1) ∧ w'.cell? ⟨g, k * 9 + p * 9 + 3, none⟩ = some (.int .i64 yq.f2) ∧ w'.cell? ⟨g, k * 9 + p * 9 + 4, none⟩ = some (.string yq.f3.f0) ∧ w'.cell? ⟨g, k * 9 + p * 9 + 5, none⟩ = some (.int .i64 yq.f3.f1) ∧ w'.cell? ⟨g, k * 9 + p * 9 + 6, none⟩ = some (.string yq.f4) ∧ w'.cell? ⟨g, k * 9 + p * 9 + 7, none⟩ = some (.int .i64 yq.f5) ∧ w'.cell? ⟨g, k * 9 + p * 9 + 8, none⟩ = some (.string yq.f6)) (ds := []) #[false, false, false, false, false, false, false, false, false, false] (by kernel_rfl) rfl rfl ⟨(evSub (HS.out.pick 0 rfl) k q hql.out xq hxv.out).1, (evSub (HS.out.pick 0 rfl) k q hql.out xq hxv.out).2.1, (evSub (HS.out.pick 0 rfl) k q hql.out xq hxv.out).2.2.1, (evSub (HS.out.pick 0 rfl) k q hql.out xq hxv.out).2.2.2.1, (evSub (HS.out.pick 0 rfl) k q hql.out xq hxv.out).2.2.2.2.1, (evSub (HS.out.pick 0 rfl) k q hql.out xq hxv.out).2.2.2.2.2.1, (evSub (HS.out.pick 0 rfl) k q hql.out xq hxv.out).2.2.2.2.2.2.1, (evSub (HS.out.pick 0 rfl) k q hql.out xq hxv.out).2.2.2.2.2.2.2.1, (evSub (HS.out.pick 0 rfl) k q hql.out xq hxv.out).2.2.2.2.2.2.2.2, (evSub (HS.out.pick 0 rfl) k p hpl.out yq hyv.out).1, (evSub (HS.out.pick 0 rfl) k p hpl.out yq hyv.out).2.1, (evSub (HS.out.pick 0 rfl) k p hpl.out yq hyv.out).2.2.1, (evSub (HS.out.pick 0 rfl) k p hpl.out yq hyv.out).2.2.2.1, (evSub (HS.out.pick 0 rfl) k p hpl.out yq hyv.out).2.2.2.2.1, (evSub (HS.out.pick 0 rfl) k p hpl.out yq hyv.out).2.2.2.2.2.1, (evSub (HS.out.pick 0 rfl) k p hpl.out yq hyv.out).2.2.2.2.2.2.1, (evSub (HS.out.pick 0 rfl) k p hpl.out yq hyv.out).2.2.2.2.2.2.2.1, (evSub (HS.out.pick 0 rfl) k p hpl.out yq hyv.out).2.2.2.2.2.2.2.2⟩ (fun hHeld => ?_); refine with_tabW cpc.tab11 cpc.bits11 (fun HT_ HW_ => ?_)
            generalize wr.drew = w4 at HS HB hHeld ⊢
            refine pU 0 35 #[true, false, false, false, false, false, false, false, false, false] rfl rfl HT_ ?_
            refine pU 1 36 #[true, true, false, false, false, false, false, false, false, false] rfl rfl HT_ ?_
            refine pU 2 37 #[true, true, true, false, false, false, false, false, false, false] rfl rfl HT_ ?_
            refine pU 4 39 #[true, true, true, false, true, false, false, false, false, false] rfl rfl HT_ ?_
            refine pU 5 40 #[true, true, true, false, true, true, false, false, false, false] rfl rfl HT_ ?_
            refine pU 6 41 #[true, true, true, false, true, true, true, false, false, false] rfl rfl HT_ ?_
            refine pU 7 42 #[true, true, true, false, true, true, true, true, false, false] rfl rfl HT_ ?_
            refine tK 3 38 #[true, true, true, true, true, true, true, true, false, false] rfl rfl HT_ HW_ hHeld ?_ (by rintro w' ⟨s0, s1, s2, s3, s4, s5, s6, s7, s8, s9, s10, s11, s12, s13, s14, s15, s16, s17⟩; go_simp; with_reducible rfl)
            refine tK 8 43 #[true, true, true, true, true, true, true, true, true, false] rfl rfl HT_ HW_ hHeld ?_ (by rintro w' ⟨s0, s1, s2, s3, s4, s5, s6, s7, s8, s9, s10, s11, s12, s13, s14, s15, s16, s17⟩; go_simp; with_reducible rfl)
            refine pU 9 44 #[true, true, true, true, true, true, true, true, true, true] rfl rfl HT_ ?_
            refine done_ (done_of HT_.out (by kernel_rfl)) ?_
            clear HT_ HW_
            try clear hHeld
            clear e1
            cases b2 with
            | true =>
              have hh2 : Aside0 (xq = yq) := ⟨of_decide_eq_true hb2.out⟩
              go_wp2
              go_roundw
              case rel =>
                refine ⟨m, q + 1, xs, by omega, by omega, hkm.out, by have := hmq.out; omega, by go_num, by go_num, ⟨HX.out.1, ?_, fun r h1 h2 => HX.out.2.2 r (by omega) h2⟩, HS, HB⟩
                rw [show k + (q + 1) = k + q + 1 by omega, cp_hit l (k + q) (by have := hq1.out; omega) (by rw [show k + q - 1 = k + p by have := hp.out; omega, hx.out, hy.out]; exact hh2.out), HX.out.2.1]
              case measure => simp [intOf]; omega
            | false =>
              have hh2 : Aside0 (¬ xq = yq) := ⟨of_decide_eq_false hb2.out⟩
              obtain ⟨z0, z1, z2, z3, z4, z5, z6, z7, z8⟩ := evSub HS.out k q hql.out xq hxv.out
              obtain ⟨y0, y1, y2, y3, y4, y5, y6, y7, y8⟩ := evCel HS.out m hm.out _ rfl
              obtain ⟨f0, f1, f2, f3, f4, f5, f6, f7, f8⟩ : w4.frozen? ⟨g, m * 9, none⟩ = false ∧ w4.frozen? ⟨g, m * 9 + 1, none⟩ = false ∧ w4.frozen? ⟨g, m * 9 + 2, none⟩ = false ∧ w4.frozen? ⟨g, m * 9 + 3, none⟩ = false ∧ w4.frozen? ⟨g, m * 9 + 4, none⟩ = false ∧ w4.frozen? ⟨g, m * 9 + 5, none⟩ = false ∧ w4.frozen? ⟨g, m * 9 + 6, none⟩ = false ∧ w4.frozen? ⟨g, m * 9 + 7, none⟩ = false ∧ w4.frozen? ⟨g, m * 9 + 8, none⟩ = false := ⟨row_fz HS.out _, row_fz HS.out _, row_fz HS.out _, row_fz HS.out _, row_fz HS.out _, row_fz HS.out _, row_fz HS.out _, row_fz HS.out _, row_fz HS.out _⟩
              go_wp2_with (first | ((with_reducible refine gate_store (t := 50) (p := 51) rfl ?_); refine store_event (t := 50) (p := 51) (v := .tmp 50) (w1 := ?_) rfl rfl rfl ?_ ?_; rotate_left; (focus (first | (go_simp; done) | (go_simp; rfl))); intro w6 hws; have h9 := setEl xq HS.out hm.out HB.out hws; clear hws z0 z1 z2 z3 z4 z5 z6 z7 z8 y0 y1 y2 y3 y4 y5 y6 y7 y8 f0 f1 f2 f3 f4 f5 f6 f7 f8; have n0_ := Aside0.mk (h9.1); have n1_ := Aside0.mk (h9.2); clear HS HB; have HS := n0_; have HB := n1_; clear n0_ n1_; (try simp only [List.eraseIdx_cons_succ, List.eraseIdx_cons_zero] at HS); clear h9))
              go_roundw
              case rel =>
                refine ⟨m + 1, q + 1, xs.set m xq, by omega, by omega, by have := hkm.out; omega, by have := hmq.out; omega, by go_num, by go_num, ⟨by rw [List.length_set]; exact HX.out.1, ?_, fun r h1 h2 => ?_⟩, HS, HB⟩
                · rw [show k + (q + 1) = k + q + 1 by omega, cp_miss l (k + q) (by rw [show k + q - 1 = k + p by have := hp.out; omega, hx.out, hy.out]; exact hh2.out), HX.out.2.1, hx.out, take_rd _ _ (by rw [List.length_set]; exact hm.out), rd_set27 _ _ _ _ hm.out, if_pos rfl, List.take_set_of_le (Nat.le_refl _)]
                · rw [rd_set27 _ _ _ _ hm.out, if_neg (by have := hmq.out; omega)]
                  exact HX.out.2.2 r (by omega) h2
              case measure => simp [intOf]; omega
          · have p3 : decide ((q : Int) < (d : Int)) = false := decide_eq_false (by omega)
            have e9 : k + q = l.length := by have := hd.out; have := hkl.out; omega
            have hxl := HX.out.1
            have hcc := hlc.out
            have r1 := eq_true (show (m : Int) ≤ (cap : Int) by omega)
            have r2 := eq_true (show (m : Int) ≤ (l.length : Int) by omega)
            have r3 : (cap = m) = False := eq_false (by omega)
            have r4 := eq_true (show (0 : Int) ≤ (m : Int) by omega)
            have r5 := eq_true (show m ≤ l.length by omega)
            have r6 := eq_true (show m ≤ cap by omega)
            replace e9 := Aside0.mk e9
            replace hmq := Aside0.mk hmq
            clear hcc hxl hqd hq1
            go_wp2_with (first | (refine S_clear27 rfl (.tmp 56) rfl rfl g _ cap m (l.length - m) (cap - m) xs ⟨g, m * 9, none⟩ rfl (by first | rfl | (go_simp; done)) (by have := HX.out.1; have := e9.out; have := hmq.out; omega) (by have := HX.out.1; omega) HS.out HB.out ?_; intro w7 hs hb; have n0_ := Aside0.mk (hs); have n1_ := Aside0.mk (hb); clear HS HB; have HS := n0_; have HB := n1_; clear n0_ n1_; (try simp only [List.eraseIdx_cons_succ, List.eraseIdx_cons_zero] at HS); clear hs hb))
            go_ret
            refine ⟨_, rfl, ?_, HB.out⟩
            have h7 := HX.out.2.1
            rw [e9.out] at h7
            rw [h7]
            exact HS.out
      | false =>
        have hh : Aside0 (¬ x = y) := ⟨of_decide_eq_false hb1.out⟩
        go_wp2
        go_roundw
        case rel =>
          refine ⟨k + 1, by omega, by omega, ?_, by go_num, HS, HB⟩
          have hne : ¬ rd_T50 l (k : Int) = rd_T50 l ((k - 1 : Nat) : Int) := by
            rw [show k - 1 = j by have := hj'.out; omega, hx.out, hy.out]
            exact hh.out
          rw [cp_miss l k hne, hcp'.out, take_rd l k hlt]
        case measure => simp [intOf]; omega
    · have p3 : decide ((k : Int) < (l.length : Int)) = false := decide_eq_false (by omega)
      obtain rfl : k = l.length := by omega
      go_wp2
      go_ret
      refine ⟨_, rfl, ?_, HB.out⟩
      rw [hcp, List.take_length]
      exact HS.out
theorem compact_ok (l : List S50) (hl : l.length ≤ 100000) (v : Value) {N : Nat} {w : World} {L : List Res} (HS0 : St N w (Row k50 50 v l :: L)) :
    Calls Tryz.prog 52 #[v] w fun e w' => ∃ v', e = .returned v' ∧ St N w' (Row k50 50 v' (cp l l.length) :: L) ∧ Below N w w' := by
  by_cases h2 : l.length < 2
  · have hcp : cp l l.length = l := by
      match l, h2 with
      | [], _ => rfl
      | [x], _ => rfl
    refine (compact_small l h2 v HS0).mono ?_
    rintro e w' ⟨rfl, rfl⟩
    exact ⟨v, rfl, by rw [hcp]; exact HS0, Below.refl _ _⟩
  · obtain ⟨g, cap, e, _⟩ := St.row_some flat50 HS0 (by omega)
    subst e
    exact compact_great l (by omega) hl g cap HS0

end Go.Proofs.YtcjfgejiknlpfaaGreat.PI
