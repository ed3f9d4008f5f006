/- Events: acts decoded. -/
import Derived.Test.YtcjfgejiknlpfaaGreatSq17
namespace Go.Proofs.YtcjfgejiknlpfaaGreat.PI
open Go.RowKit Go.Proofs.YtcjfgejiknlpfaaGreatW.PrintWords Go.Proofs.YtcjfgejiknlpfaaGreatW.PrintLast Go.Proofs.YtcjfgejiknlpfaaGreatW.PrintMore Go.Proofs.YtcjfgejiknlpfaaGreat.Sep
set_option linter.unusedVariables false
set_option linter.unusedSimpArgs false
set_option maxHeartbeats 8000000
set_option maxRecDepth 100000

/-- The events that acts describe: of the first 24. -/
def evs (l : List S61) : List S50 := (l.take 24).map decE
theorem evs_len (l : List S61) : (evs l).length ≤ 24 := by unfold evs; rw [List.length_map, List.length_take]; omega
theorem evs_kind (l : List S61) : ∀ x ∈ evs l, 1 ≤ x.f2 ∧ x.f2 ≤ 9 := by
  intro x hx
  obtain ⟨a, _, rfl⟩ := List.mem_map.mp hx
  exact decE_kind a
theorem take_decE (l : List S61) (i : Nat) (h : i < l.length) : (l.take (i + 1)).map decE = (l.take i).map decE ++ [decE (rd_T61 l (i : Int))] := by
  rw [List.take_succ_eq_append_getElem h, List.map_append]
  simp [rd_T61, h]
theorem Events_ok {N : Nat} {w : World} {L : List Res} (A : Option Addr) (n c : Nat) (l : List S61) (hn : l.length = n) (hu : ∀ a ∈ l, U8s a) (hc : ∀ w', St N w' L → Below N w w' → Kd.C k61 w' A l.length l)
    (hc2 : ∀ w' v xs, St N w' (Row k50 50 v xs :: L) → Below N w w' → Kd.C k61 w' A l.length l) (HS0 : St N w L) :
    Calls Tryz.prog 6 #[.slice A n c] w fun e w' => ∃ v, e = .returned v ∧ St N w' (Row k50 50 v (evs l) :: L) ∧ Below N w w' := by
  subst hn
  have HS := Aside0.mk HS0
  have HB := Aside0.mk (Below.refl N w)
  have HC := Aside0.mk hc2
  have HU := Aside0.mk hu
  clear HS0 hc hc2 hu
  go_enter Tryz.func6, Tryz.ntmps6
  go_upto_region 3 with (fail)
  go_loopw [3, 4] (fun v3 v4 wr => ∃ i : Nat, i ≤ l.length ∧ i ≤ 24 ∧ v4 = .int .i64 i ∧ Aside0 (St N wr (Row k50 50 v3 ((l.take i).map decE) :: L)) ∧ Aside0 (Below N w wr)) (fun _ v4 _ => l.length - (intOf v4).toNat)
  case atStart => exact ⟨0, Nat.zero_le _, Nat.zero_le _, rfl, ⟨HS.out.rowNil⟩, HB⟩
  case round =>
    clear HS HB
    obtain ⟨i, hi, hi24, rfl, HS, HB⟩ := hrel
    by_cases hlt : i < l.length
    · have q0 : decide ((i : Int) < (l.length : Int)) = true := decide_eq_true (by omega)
      by_cases h24 : i < 24
      · have q24 : decide ((i : Int) < 24) = true := decide_eq_true (by omega)
        have q1 := eq_true (show (i : Int) < (l.length : Int) by omega)
        have q2 := eq_true (show (0 : Int) ≤ (i : Int) by omega)
        obtain ⟨ad, ea, x0, x1, x2, x3, x4, x5, x6, x7⟩ := at_T61 (HC.out _ _ _ HS.out HB.out) (i : Int) (by omega) (by omega)
        cases ea
        rw [Int.toNat_natCast] at x0 x1 x2 x3 x4 x5 x6 x7
        have hua := Aside0.mk (HU.out (rd_T61 l (i : Int)) (by simp [rd_T61, hlt]))
        have hdt := Aside0.mk (take_decE l i hlt)
        have hle : Aside0 (((l.take i).map decE).length ≤ 24) := ⟨by rw [List.length_map, List.length_take]; omega⟩
        generalize rd_T61 l (i : Int) = a at x0 x1 x2 x3 x4 x5 x6 x7 hua hdt
        generalize (l.take i).map decE = D at HS hdt hle
        have hw : IntKind.i64.wrap ((i : Int) + 1) = (i : Int) + 1 := by rw [IntKind.wrap_i64]; omega
        go_wp2_with (first | (go_at_call 25; (with_reducible refine (Event_ok a hua.out _).mono ?_); rintro r_ w4 ⟨rfl, hb⟩; have n0_ := Aside0.mk (HS.out.step hb); have n1_ := Aside0.mk (below_step' HB.out HS.out.size hb); clear HS HB; have HS := n0_; have HB := n1_; clear n0_ n1_; (try simp only [List.eraseIdx_cons_succ, List.eraseIdx_cons_zero] at HS); clear hb x0 x1 x2 x3 x4 x5 x6 x7) | ((with_reducible refine gate_builtin (b := .append) (xs := #[.tmp 15, .tmp 21]) rfl ?_); at_builtin; refine S_append k50 rfl (.tmp 15) (.tmp 21) 25 50 (.agg #[(.string ⟨#[]⟩), (.int .i64 0), (.int .i64 0), (.int .i64 0), (.string ⟨#[]⟩), (.int .i64 0), (.string ⟨#[]⟩), (.int .i64 0), (.string ⟨#[]⟩)]) 104 rfl Tryz.underlying25 info50 rfl (by decide) (by omega) _ _ (decE a) [.string (decE a).f0.f0, .int .i64 (decE a).f0.f1, .int .i64 (decE a).f1, .int .i64 (decE a).f2, .string (decE a).f3.f0, .int .i64 (decE a).f3.f1, .string (decE a).f4, .int .i64 (decE a).f5, .string (decE a).f6] rfl rfl (flat_k50 _ _ (decE a)) (HS.out.pick 0 rfl) HB.out (by have := hle.out; omega) ?_; intro v6 w6 hs hb; have n0_ := Aside0.mk (hs); have n1_ := Aside0.mk (hb); clear HS HB; have HS := n0_; have HB := n1_; clear n0_ n1_; (try simp only [List.eraseIdx_cons_succ, List.eraseIdx_cons_zero] at HS); clear hs hb))
        go_roundw
        case rel =>
          refine ⟨i + 1, by omega, by omega, by go_num, ?_, HB⟩
          rw [hdt.out]
          exact HS
        case measure => simp [intOf]; omega
      · obtain rfl : i = 24 := by omega
        have q24 : decide (((24 : Nat) : Int) < 24) = false := by decide
        go_wp2
        go_ret
        refine ⟨_, rfl, HS.out, HB.out⟩
    · obtain rfl : i = l.length := by omega
      have q0 : decide ((l.length : Int) < (l.length : Int)) = false := decide_eq_false (by omega)
      go_wp2
      go_ret
      refine ⟨_, rfl, ?_, HB.out⟩
      have h := HS.out
      rw [List.take_length] at h
      unfold evs
      rw [List.take_of_length_le hi24]
      exact h

end Go.Proofs.YtcjfgejiknlpfaaGreat.PI
