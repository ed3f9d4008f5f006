/- known: the first example's answers. -/
import Derived.Test.YtcjfgejiknlpfaaGreatSq15
import Derived.Test.YtcjfgejiknlpfaaGreatExL
import Derived.Test.YtcjfgejiknlpfaaGreatExW
namespace Go.Proofs.YtcjfgejiknlpfaaGreat.PI
open Go.RowKit Go.Proofs.YtcjfgejiknlpfaaGreatW.PrintWords Go.Proofs.YtcjfgejiknlpfaaGreatW.PrintLast Go.Proofs.YtcjfgejiknlpfaaGreatW.PrintMore Go.Proofs.YtcjfgejiknlpfaaGreat.Sep
set_option linter.unusedVariables false
set_option linter.unusedSimpArgs false
set_option maxHeartbeats 8000000
set_option maxRecDepth 100000

theorem exampleL_ok {N : Nat} {w : World} {L : List Res} (HS0 : St N w L) : Calls Tryz.prog 18 #[] w fun e w' => ∃ v, e = .returned v ∧ St N w' (Row k50 50 v exL :: L) ∧ Below N w w' := example_ok HS0
theorem row_kept {α : Type} {d : Kd α} {e : Nat} {A : Option Addr} {n c : Nat} {xs : List α} {N : Nat} {L : List Res} : ∀ w' L', St N w' (L' ++ Row d e (.slice A n c) xs :: L) → Kd.C d w' A xs.length xs := fun w' L' h => (St.pick (r := Row d e (.slice A n c) xs) h L'.length (by simp)).rowC.2.2
theorem flatI : Flat (Kd.int .i64) (fun x : Int => [Value.int .i64 x]) where
  K := fun {w x cs} h => h
  M := fun w base ok x => rfl
  sz := fun _ => rfl
  one := fun x v h => by simp at h; rw [h]; rfl
theorem at_ints {w : World} {A : Option Addr} {n : Nat} {xs : List Int} (h : Kd.C (Kd.int .i64) w A n xs) (i : Nat) (h1 : i < n) : ∃ ad, A = some ad ∧ w.cell? (ad.add i) = some (.int .i64 (xs.getD i 0)) := by
  obtain ⟨ad, c, e, _, hK, hc0⟩ := Kd.C_get h (0 : Int) (i : Int) (by omega) (by omega)
  have hc : ∀ j u, c[j]? = some u → w.cell? (ad.add ((i : Int).toNat * 1 + j)) = some u := hc0
  obtain rfl : c = [.int .i64 (xs.getD (i : Int).toNat 0)] := hK
  refine ⟨ad, e, ?_⟩
  have := hc 0 _ rfl
  rwa [Int.toNat_natCast, Nat.mul_one, Nat.add_zero] at this
theorem runP_ex : runP exL = runO exL := by unfold runP; rw [ex_order]
theorem ex_kinds : ∀ x ∈ orderE exL, 1 ≤ x.f2 ∧ x.f2 ≤ 9 := by
  rw [ex_order]
  intro x hx
  simp only [exL, List.mem_cons, List.not_mem_nil, or_false] at hx
  rcases hx with rfl | rfl | rfl | rfl | rfl | rfl <;> decide

theorem known_ok (w : World) : Calls Tryz.prog 8 #[] w fun r w' => r = .returned (.bool true) ∧ Below w.heap.size w w' := by
  have HS := Aside0.mk (St.none_ (N := w.heap.size) (w := w) (Nat.le_refl _))
  have HB := Aside0.mk (Below.refl w.heap.size w)
  go_enter Tryz.func8, Tryz.ntmps8
  go_upto_region 2 with (first | (go_at_call 18; (with_reducible refine (exampleL_ok HS.out).mono ?_); rintro r_ w1 ⟨x_, rfl, hr, hb⟩; have n0_ := Aside0.mk (hr); have n1_ := Aside0.mk (HB.out.trans hb); clear HS HB; have HS := n0_; have HB := n1_; clear n0_ n1_; (try simp only [List.eraseIdx_cons_succ, List.eraseIdx_cons_zero] at HS); clear hr hb; obtain ⟨xA, xc, xe, _, _⟩ := HS.out.reads; subst xe) | (go_at_call 28; (with_reducible refine (Fold_ok xA xc exL (by decide) ex_kinds (fun w' L' h _ => row_kept w' L' h) HS.out).mono ?_); rintro r_ w2 ⟨v5, v6, rfl, hs, hb⟩; have n0_ := Aside0.mk (hs); have n1_ := Aside0.mk (HB.out.trans hb); clear HS HB; have HS := n0_; have HB := n1_; clear n0_ n1_; (try simp only [List.eraseIdx_cons_succ, List.eraseIdx_cons_zero] at HS); clear hs hb; obtain ⟨A5, k5, e5, _, _⟩ := (HS.out.pick 0 rfl).reads; subst e5; obtain ⟨A6, k6, e6, _, _⟩ := (HS.out.pick 1 rfl).reads; subst e6; rw [runP_ex]) | fail | (go_at_call 29; (with_reducible refine (Reasons_ok xA xc exL (by decide) ex_kinds (fun w' L' h _ => row_kept w' L' h) HS.out).mono ?_); rintro r_ w4 ⟨vr, rfl, hs, hb⟩; rw [runP_ex, ex_run.1] at hs; have n0_ := Aside0.mk (hs); have n1_ := Aside0.mk (HB.out.trans hb); clear HS HB; have HS := n0_; have HB := n1_; clear n0_ n1_; (try simp only [List.eraseIdx_cons_succ, List.eraseIdx_cons_zero] at HS); clear hs hb; obtain ⟨gr, cr, er, _⟩ := St.row_some flatI HS.out (by decide); subst er))
  have hbb := below_step' HB.out HS.out.size ((Below.refl _ w4).alloc (Nat.le_refl _) (.cells #[.int .i64 (runO exL).1.st, .string (runO exL).1.ti, .int .i64 (runO exL).1.op, .int .i64 (runO exL).1.en, .string (runO exL).1.ca.f0, .int .i64 (runO exL).1.ca.f1, .slice A5 (runO exL).1.pe.length k5, .slice A6 (runO exL).1.th.length k6, .int .i64 (runO exL).1.no] 37))
  have hnb := new_cells w4 #[.int .i64 (runO exL).1.st, .string (runO exL).1.ti, .int .i64 (runO exL).1.op, .int .i64 (runO exL).1.en, .string (runO exL).1.ca.f0, .int .i64 (runO exL).1.ca.f1, .slice A5 (runO exL).1.pe.length k5, .slice A6 (runO exL).1.th.length k6, .int .i64 (runO exL).1.no] 37
  have hCr := Kd.C_below HS.out.rowC.2.2 ((Below.refl _ w4).alloc (Nat.le_refl _) (.cells #[.int .i64 (runO exL).1.st, .string (runO exL).1.ti, .int .i64 (runO exL).1.op, .int .i64 (runO exL).1.en, .string (runO exL).1.ca.f0, .int .i64 (runO exL).1.ca.f1, .slice A5 (runO exL).1.pe.length k5, .slice A6 (runO exL).1.th.length k6, .int .i64 (runO exL).1.no] 37))
  have p0 := (cells_at hnb 0).trans (show _ = some (Value.int .i64 3) by rw [← ex_run.2.1]; rfl)
  have p3 := (cells_at hnb 3).trans (show _ = some (Value.int .i64 10) by rw [← ex_run.2.2.1]; rfl)
  have p4 := (cells_at hnb 4).trans (show _ = some (Value.string bBob) by rw [show bBob = (runO exL).1.ca.f0 by rw [ex_run.2.2.2]]; rfl)
  have p5 := (cells_at hnb 5).trans (show _ = some (Value.int .i64 1) by rw [show (1 : Int) = (runO exL).1.ca.f1 by rw [ex_run.2.2.2]]; rfl)
  generalize w4.heap.size = g at p0 p3 p4 p5 ⊢
  generalize w4.alloc (.cells #[.int .i64 (runO exL).1.st, .string (runO exL).1.ti, .int .i64 (runO exL).1.op, .int .i64 (runO exL).1.en, .string (runO exL).1.ca.f0, .int .i64 (runO exL).1.ca.f1, .slice A5 (runO exL).1.pe.length k5, .slice A6 (runO exL).1.th.length k6, .int .i64 (runO exL).1.no] 37) = w5 at hbb p0 p3 p4 p5 hCr ⊢
  obtain ⟨ad, ea, x3⟩ := at_ints hCr 3 (by decide)
  cases ea
  obtain ⟨ad2, ea2, x5⟩ := at_ints hCr 5 (by decide)
  cases ea2
  simp only [List.getD_cons_zero, List.getD_cons_succ, Addr.add_lit, Nat.zero_add] at x3 x5
  clear hCr hnb
  replace hbb := Aside0.mk hbb
  clear HS HB
  unfold bBob at p4
  go_wp2
  go_ret
  exact ⟨rfl, hbb.out⟩

end Go.Proofs.YtcjfgejiknlpfaaGreat.PI
