/- The model's same of two states that are equal. -/
import Derived.Test.YtcjfgejiknlpfaaGreatJ1
import Derived.Test.YtcjfgejiknlpfaaGreatJ2
namespace Go.Proofs.YtcjfgejiknlpfaaGreat.PI
open Go.RowKit Go.Proofs.YtcjfgejiknlpfaaGreatW.PrintWords Go.Proofs.YtcjfgejiknlpfaaGreatW.PrintLast Go.Proofs.YtcjfgejiknlpfaaGreatW.PrintMore Go.Proofs.YtcjfgejiknlpfaaGreat.Sep
set_option linter.unusedVariables false
set_option linter.unusedSimpArgs false
set_option maxHeartbeats 8000000
set_option maxRecDepth 100000

def sms.T6 : Bool × List (List Nat × List Nat) := (true, [([], []), ([0], [0]), ([], []), ([1, 2], [1, 2]), ([3], [3]), ([], []), ([5], [5]), ([], []), ([6, 7], [6, 7]), ([8], [8]), ([4, 9], [4, 9])])
def sms.B6 : List Nat := [0, 1, 0, 7, 15, 0, 32, 0, 224, 480, 1023]
theorem sms.tab6 : rtab .any (opsOf Tryz.f14 6) = sms.T6 := by kernel_rfl
theorem sms.bits6 : waitsOk sms.T6.2 sms.B6 = true := by kernel_rfl
def sms.T11 : Bool × List (List Nat × List Nat) := (true, [([], []), ([0], [0]), ([], []), ([1, 2], [1, 2]), ([3], [3]), ([], []), ([5], [5]), ([], []), ([6, 7], [6, 7]), ([8], [8]), ([4, 9], [4, 9])])
def sms.B11 : List Nat := [0, 1, 0, 7, 15, 0, 32, 0, 224, 480, 1023]
theorem sms.tab11 : rtab .any (opsOf Tryz.f14 11) = sms.T11 := by kernel_rfl
theorem sms.bits11 : waitsOk sms.T11.2 sms.B11 = true := by kernel_rfl
theorem same_self (s : PS) (A6 A7 B6 B7 : Option Addr) (c6 c7 d6 d7 : Nat) (w : World) (h1 : Kd.C k69 w A6 s.pe.length s.pe) (h2 : s.pe.length ≤ c6) (h3 : Kd.C k71 w A7 s.th.length s.th) (h4 : s.th.length ≤ c7) (h5 : Kd.C k69 w B6 s.pe.length s.pe) (h6 : s.pe.length ≤ d6) (h7 : Kd.C k71 w B7 s.th.length s.th) (h8 : s.th.length ≤ d7) (m1 : s.pe.length ≤ 100000) (m2 : s.th.length ≤ 100000) :
    Calls Tryz.prog 14 #[.agg #[.int .i64 s.st, .string s.ti, .int .i64 s.op, .int .i64 s.en, .string s.ca.f0, .int .i64 s.ca.f1, .slice A6 s.pe.length c6, .slice A7 s.th.length c7, .int .i64 s.no], .agg #[.int .i64 s.st, .string s.ti, .int .i64 s.op, .int .i64 s.en, .string s.ca.f0, .int .i64 s.ca.f1, .slice B6 s.pe.length d6, .slice B7 s.th.length d7, .int .i64 s.no]] w fun e w' => e = .returned (.bool true) ∧ Below w.heap.size w w' := by
  have HS := Aside0.mk (St.none_ (N := w.heap.size) (w := w) (Nat.le_refl _))
  have HB := Aside0.mk (Below.refl w.heap.size w)
  have HA6 := Aside0.mk h1
  have HA7 := Aside0.mk h3
  have HB6 := Aside0.mk h5
  have HB7 := Aside0.mk h7
  clear h1 h2 h3 h4 h5 h6 h7 h8
  have n0 : (s.st != s.st) = false := by simp
  have n1 : (s.ti.toList != s.ti.toList) = false := by simp
  have n2 : (s.op != s.op) = false := by simp
  have n3 : (s.en != s.en) = false := by simp
  have n4 : (s.ca.f0.toList == s.ca.f0.toList) = true := by simp
  have n5 : (s.ca.f1 == s.ca.f1) = true := by simp
  have n8 : (s.no != s.no) = false := by simp
  have n6 : ((s.pe.length : Int) != (s.pe.length : Int)) = false := by simp
  have n7 : ((s.th.length : Int) != (s.th.length : Int)) = false := by simp
  go_enter Tryz.func14, Tryz.ntmps14
  go_upto_region 1 with (first | ((with_reducible refine gate_dst (N := 2) rfl ?_); refine box_event ?hg (N := 2) ?hd (cs := #[.int .i64 s.st, .string s.ti, .int .i64 s.op, .int .i64 s.en, .string s.ca.f0, .int .i64 s.ca.f1, .slice A6 s.pe.length c6, .slice A7 s.th.length c7, .int .i64 s.no]) (t := 37) ?hr ?_; (case hd => rfl); (case hg => rfl); (case hr => first | (go_simp; done) | (go_simp; rfl)); intro gA hg w1 hbox hb; have n0_ := Aside0.mk (HS.out.box hg hbox hb); have n1_ := Aside0.mk (below_step' HB.out HS.out.size hb); clear HS HB; have HS := n0_; have HB := n1_; clear n0_ n1_; (try simp only [List.eraseIdx_cons_succ, List.eraseIdx_cons_zero] at HS); clear hb hbox hg) | ((with_reducible refine gate_dst (N := 3) rfl ?_); refine box_event ?hg (N := 3) ?hd (cs := #[.int .i64 s.st, .string s.ti, .int .i64 s.op, .int .i64 s.en, .string s.ca.f0, .int .i64 s.ca.f1, .slice B6 s.pe.length d6, .slice B7 s.th.length d7, .int .i64 s.no]) (t := 37) ?hr ?_; (case hd => rfl); (case hg => rfl); (case hr => first | (go_simp; done) | (go_simp; rfl)); intro gB hg w2 hbox hb; have n0_ := Aside0.mk (HS.out.box hg hbox hb); have n1_ := Aside0.mk (below_step' HB.out HS.out.size hb); clear HS HB; have HS := n0_; have HB := n1_; clear n0_ n1_; (try simp only [List.eraseIdx_cons_succ, List.eraseIdx_cons_zero] at HS); clear hb hbox hg))
  obtain ⟨z0, z1, z2, z3, z4, z5, z6, z7, z8⟩ := cells9 (HS.out.pick 1 rfl)
  obtain ⟨y0, y1, y2, y3, y4, y5, y6, y7, y8⟩ := cells9 (HS.out.pick 0 rfl)
  go_upto_region 3 with (fail)
  clear z0 y0 z1 y1 z2 y2 z3 y3 z4 y4 z5 y5 z6 y6 z7 y7 z8 y8 n0 n1 n2 n3 n4 n5 n6 n7 n8
  go_upto_region 4 with (fail)
  go_loopw [5] (fun v5 wr => ∃ i : Nat, i ≤ s.pe.length ∧ v5 = .int .i64 i ∧ Aside0 (St w.heap.size wr (Blk gB #[.int .i64 s.st, .string s.ti, .int .i64 s.op, .int .i64 s.en, .string s.ca.f0, .int .i64 s.ca.f1, .slice B6 s.pe.length d6, .slice B7 s.th.length d7, .int .i64 s.no] 37 :: Blk gA #[.int .i64 s.st, .string s.ti, .int .i64 s.op, .int .i64 s.en, .string s.ca.f0, .int .i64 s.ca.f1, .slice A6 s.pe.length c6, .slice A7 s.th.length c7, .int .i64 s.no] 37 :: [])) ∧ Aside0 (Below w.heap.size w wr)) (fun v5 _ => s.pe.length - (intOf v5).toNat)
  case atStart => exact ⟨0, Nat.zero_le _, rfl, HS, HB⟩
  case round =>
    clear HS HB
    obtain ⟨i, hi, rfl, HS, HB⟩ := hrel
    have z0 : wr.cell? ⟨gA, 6, none⟩ = some (.slice A6 s.pe.length c6) := ((HS.out.pick 1 rfl).cell 6).trans rfl
    by_cases hlt : i < s.pe.length
    · have q0 : decide ((i : Int) < (s.pe.length : Int)) = true := decide_eq_true (by omega)
      have q1 := eq_true (show (i : Int) < (s.pe.length : Int) by omega)
      have q2 := eq_true (show (0 : Int) ≤ (i : Int) by omega)
      have hw : IntKind.i64.wrap ((i : Int) + 1) = (i : Int) + 1 := by rw [IntKind.wrap_i64]; omega
      obtain ⟨ad, ea, hx0, hx1⟩ := at_T69 (Kd.C_below HA6.out HB.out) (i : Int) (by omega) (by omega)
      cases ea
      obtain ⟨ae, eb, hy0, hy1⟩ := at_T69 (Kd.C_below HB6.out HB.out) (i : Int) (by omega) (by omega)
      cases eb
      rw [Int.toNat_natCast] at hx0 hy0 hx1 hy1
      generalize rd_T69 s.pe (i : Int) = x at hx0 hy0 hx1 hy1
      replace hx0 := Aside0.mk hx0
      replace hx1 := Aside0.mk hx1
      replace hy0 := Aside0.mk hy0
      replace hy1 := Aside0.mk hy1
      go_upto_region 6 with (fail)
      clear z0
      have n2_ := Aside0.mk (show wr.drew.cell? _ = _ from hx0.out); clear hx0; have hx0 := n2_; clear n2_
      have n2_ := Aside0.mk (show wr.drew.cell? _ = _ from hx1.out); clear hx1; have hx1 := n2_; clear n2_
      have n2_ := Aside0.mk (show wr.drew.cell? _ = _ from hy0.out); clear hy0; have hy0 := n2_; clear n2_
      have n2_ := Aside0.mk (show wr.drew.cell? _ = _ from hy1.out); clear hy1; have hy1 := n2_; clear n2_
      have n0_ := Aside0.mk (HS.out.drew); have n1_ := Aside0.mk (HB.out.drew); clear HS HB; have HS := n0_; have HB := n1_; clear n0_ n1_
      refine start_ (n := 11) (S := fun w' => w'.cell? (ad.add (i * 2)) = some (.string x.f0) ∧ w'.cell? ⟨(ad.add (i * 2)).block, (ad.add (i * 2)).off + 1, none⟩ = some (.int .i64 x.f1) ∧ w'.cell? (ae.add (i * 2)) = some (.string x.f0) ∧ w'.cell? ⟨(ae.add (i * 2)).block, (ae.add (i * 2)).off + 1, none⟩ = some (.int .i64 x.f1) ∧ w'.cell? ⟨gA, 6, none⟩ = some (.slice (some ad) s.pe.length c6) ∧ w'.cell? ⟨gB, 6, none⟩ = some (.slice (some ae) s.pe.length d6)) (ds := []) #[false, false, false, false, false, false, false, false, false, false, false] (by kernel_rfl) rfl rfl ⟨hx0.out, hx1.out, hy0.out, hy1.out, ((HS.out.pick 1 rfl).cell 6).trans rfl, ((HS.out.pick 0 rfl).cell 6).trans rfl⟩ (fun hHeld => ?_); refine with_tabW sms.tab6 sms.bits6 (fun HT_ HW_ => ?_)
      generalize wr.drew = wd at HS HB hx0 hx1 hy0 hy1 hHeld ⊢
      refine pU 0 72 #[true, false, false, false, false, false, false, false, false, false, false] rfl rfl HT_ ?_
      refine pU 2 74 #[true, false, true, false, false, false, false, false, false, false, false] rfl rfl HT_ ?_
      refine pU 5 77 #[true, false, true, false, false, true, false, false, false, false, false] rfl rfl HT_ ?_
      refine pU 7 79 #[true, false, true, false, false, true, false, true, false, false, false] rfl rfl HT_ ?_
      refine tK 1 73 #[true, true, true, false, false, true, false, true, false, false, false] rfl rfl HT_ HW_ hHeld ?_ (by rintro w' ⟨s0, s1, s2, s3, s4, s5⟩; go_simp; with_reducible rfl)
      refine pU 3 75 #[true, true, true, true, false, true, false, true, false, false, false] rfl rfl HT_ ?_
      refine tK 4 76 #[true, true, true, true, true, true, false, true, false, false, false] rfl rfl HT_ HW_ hHeld ?_ (by rintro w' ⟨s0, s1, s2, s3, s4, s5⟩; go_simp; with_reducible rfl)
      refine tK 6 78 #[true, true, true, true, true, true, true, true, false, false, false] rfl rfl HT_ HW_ hHeld ?_ (by rintro w' ⟨s0, s1, s2, s3, s4, s5⟩; go_simp; with_reducible rfl)
      refine pU 8 80 #[true, true, true, true, true, true, true, true, true, false, false] rfl rfl HT_ ?_
      refine tK 9 81 #[true, true, true, true, true, true, true, true, true, true, false] rfl rfl HT_ HW_ hHeld ?_ (by rintro w' ⟨s0, s1, s2, s3, s4, s5⟩; go_simp; with_reducible rfl)
      refine pU 10 82 #[true, true, true, true, true, true, true, true, true, true, true] rfl rfl HT_ ?_
      refine done_ (done_of HT_.out (by kernel_rfl)) ?_
      clear HT_ HW_
      try clear hHeld
      go_wp2
      go_roundw
      case rel => exact ⟨i + 1, by omega, by go_num, HS, HB⟩
      case measure => simp [intOf]; omega
    · obtain rfl : i = s.pe.length := by omega
      have q0 : decide ((s.pe.length : Int) < (s.pe.length : Int)) = false := decide_eq_false (by omega)
      go_upto_region 9 with (fail)
      go_loopw [6] (fun v6 wr => ∃ i : Nat, i ≤ s.th.length ∧ v6 = .int .i64 i ∧ Aside0 (St w.heap.size wr (Blk gB #[.int .i64 s.st, .string s.ti, .int .i64 s.op, .int .i64 s.en, .string s.ca.f0, .int .i64 s.ca.f1, .slice B6 s.pe.length d6, .slice B7 s.th.length d7, .int .i64 s.no] 37 :: Blk gA #[.int .i64 s.st, .string s.ti, .int .i64 s.op, .int .i64 s.en, .string s.ca.f0, .int .i64 s.ca.f1, .slice A6 s.pe.length c6, .slice A7 s.th.length c7, .int .i64 s.no] 37 :: [])) ∧ Aside0 (Below w.heap.size w wr)) (fun v6 _ => s.th.length - (intOf v6).toNat)
      case atStart => exact ⟨0, Nat.zero_le _, rfl, HS, HB⟩
      case round =>
        clear HS HB
        obtain ⟨i, hi, rfl, HS, HB⟩ := hrel
        have z0 : wr.cell? ⟨gA, 7, none⟩ = some (.slice A7 s.th.length c7) := ((HS.out.pick 1 rfl).cell 7).trans rfl
        by_cases hlt : i < s.th.length
        · have q0 : decide ((i : Int) < (s.th.length : Int)) = true := decide_eq_true (by omega)
          have q1 := eq_true (show (i : Int) < (s.th.length : Int) by omega)
          have q2 := eq_true (show (0 : Int) ≤ (i : Int) by omega)
          have hw : IntKind.i64.wrap ((i : Int) + 1) = (i : Int) + 1 := by rw [IntKind.wrap_i64]; omega
          obtain ⟨ad, ea, hx0, hx1, hx2, hx3⟩ := at_T71 (Kd.C_below HA7.out HB.out) (i : Int) (by omega) (by omega)
          cases ea
          obtain ⟨ae, eb, hy0, hy1, hy2, hy3⟩ := at_T71 (Kd.C_below HB7.out HB.out) (i : Int) (by omega) (by omega)
          cases eb
          rw [Int.toNat_natCast] at hx0 hy0 hx1 hy1 hx2 hy2 hx3 hy3
          generalize rd_T71 s.th (i : Int) = x at hx0 hy0 hx1 hy1 hx2 hy2 hx3 hy3
          replace hx0 := Aside0.mk hx0
          replace hx1 := Aside0.mk hx1
          replace hx2 := Aside0.mk hx2
          replace hx3 := Aside0.mk hx3
          replace hy0 := Aside0.mk hy0
          replace hy1 := Aside0.mk hy1
          replace hy2 := Aside0.mk hy2
          replace hy3 := Aside0.mk hy3
          go_upto_region 11 with (fail)
          clear z0
          have n2_ := Aside0.mk (show wr.drew.cell? _ = _ from hx0.out); clear hx0; have hx0 := n2_; clear n2_
          have n2_ := Aside0.mk (show wr.drew.cell? _ = _ from hx1.out); clear hx1; have hx1 := n2_; clear n2_
          have n2_ := Aside0.mk (show wr.drew.cell? _ = _ from hx2.out); clear hx2; have hx2 := n2_; clear n2_
          have n2_ := Aside0.mk (show wr.drew.cell? _ = _ from hx3.out); clear hx3; have hx3 := n2_; clear n2_
          have n2_ := Aside0.mk (show wr.drew.cell? _ = _ from hy0.out); clear hy0; have hy0 := n2_; clear n2_
          have n2_ := Aside0.mk (show wr.drew.cell? _ = _ from hy1.out); clear hy1; have hy1 := n2_; clear n2_
          have n2_ := Aside0.mk (show wr.drew.cell? _ = _ from hy2.out); clear hy2; have hy2 := n2_; clear n2_
          have n2_ := Aside0.mk (show wr.drew.cell? _ = _ from hy3.out); clear hy3; have hy3 := n2_; clear n2_
          have n0_ := Aside0.mk (HS.out.drew); have n1_ := Aside0.mk (HB.out.drew); clear HS HB; have HS := n0_; have HB := n1_; clear n0_ n1_
          refine start_ (n := 11) (S := fun w' => w'.cell? (ad.add (i * 4)) = some (.string x.f0.f0) ∧ w'.cell? ⟨(ad.add (i * 4)).block, (ad.add (i * 4)).off + 1, none⟩ = some (.int .i64 x.f0.f1) ∧ w'.cell? ⟨(ad.add (i * 4)).block, (ad.add (i * 4)).off + 2, none⟩ = some (.string x.f1) ∧ w'.cell? ⟨(ad.add (i * 4)).block, (ad.add (i * 4)).off + 3, none⟩ = some (.int .i64 x.f2) ∧ w'.cell? (ae.add (i * 4)) = some (.string x.f0.f0) ∧ w'.cell? ⟨(ae.add (i * 4)).block, (ae.add (i * 4)).off + 1, none⟩ = some (.int .i64 x.f0.f1) ∧ w'.cell? ⟨(ae.add (i * 4)).block, (ae.add (i * 4)).off + 2, none⟩ = some (.string x.f1) ∧ w'.cell? ⟨(ae.add (i * 4)).block, (ae.add (i * 4)).off + 3, none⟩ = some (.int .i64 x.f2) ∧ w'.cell? ⟨gA, 7, none⟩ = some (.slice (some ad) s.th.length c7) ∧ w'.cell? ⟨gB, 7, none⟩ = some (.slice (some ae) s.th.length d7)) (ds := []) #[false, false, false, false, false, false, false, false, false, false, false] (by kernel_rfl) rfl rfl ⟨hx0.out, hx1.out, hx2.out, hx3.out, hy0.out, hy1.out, hy2.out, hy3.out, ((HS.out.pick 1 rfl).cell 7).trans rfl, ((HS.out.pick 0 rfl).cell 7).trans rfl⟩ (fun hHeld => ?_); refine with_tabW sms.tab11 sms.bits11 (fun HT_ HW_ => ?_)
          generalize wr.drew = wd at HS HB hx0 hx1 hx2 hx3 hy0 hy1 hy2 hy3 hHeld ⊢
          refine pU 0 90 #[true, false, false, false, false, false, false, false, false, false, false] rfl rfl HT_ ?_
          refine pU 2 92 #[true, false, true, false, false, false, false, false, false, false, false] rfl rfl HT_ ?_
          refine pU 5 95 #[true, false, true, false, false, true, false, false, false, false, false] rfl rfl HT_ ?_
          refine pU 7 97 #[true, false, true, false, false, true, false, true, false, false, false] rfl rfl HT_ ?_
          refine tK 1 91 #[true, true, true, false, false, true, false, true, false, false, false] rfl rfl HT_ HW_ hHeld ?_ (by rintro w' ⟨s0, s1, s2, s3, s4, s5, s6, s7, s8, s9⟩; go_simp; with_reducible rfl)
          refine pU 3 93 #[true, true, true, true, false, true, false, true, false, false, false] rfl rfl HT_ ?_
          refine tK 4 94 #[true, true, true, true, true, true, false, true, false, false, false] rfl rfl HT_ HW_ hHeld ?_ (by rintro w' ⟨s0, s1, s2, s3, s4, s5, s6, s7, s8, s9⟩; go_simp; with_reducible rfl)
          refine tK 6 96 #[true, true, true, true, true, true, true, true, false, false, false] rfl rfl HT_ HW_ hHeld ?_ (by rintro w' ⟨s0, s1, s2, s3, s4, s5, s6, s7, s8, s9⟩; go_simp; with_reducible rfl)
          refine pU 8 98 #[true, true, true, true, true, true, true, true, true, false, false] rfl rfl HT_ ?_
          refine tK 9 99 #[true, true, true, true, true, true, true, true, true, true, false] rfl rfl HT_ HW_ hHeld ?_ (by rintro w' ⟨s0, s1, s2, s3, s4, s5, s6, s7, s8, s9⟩; go_simp; with_reducible rfl)
          refine pU 10 100 #[true, true, true, true, true, true, true, true, true, true, true] rfl rfl HT_ ?_
          refine done_ (done_of HT_.out (by kernel_rfl)) ?_
          clear HT_ HW_
          try clear hHeld
          go_wp2
          go_roundw
          case rel => exact ⟨i + 1, by omega, by go_num, HS, HB⟩
          case measure => simp [intOf]; omega
        · obtain rfl : i = s.th.length := by omega
          have q0 : decide ((s.th.length : Int) < (s.th.length : Int)) = false := decide_eq_false (by omega)
          go_wp2
          go_ret
          exact ⟨rfl, HB.out⟩

end Go.Proofs.YtcjfgejiknlpfaaGreat.PI
