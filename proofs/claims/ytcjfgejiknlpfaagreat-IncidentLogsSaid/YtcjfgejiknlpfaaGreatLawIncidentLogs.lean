/- The law IncidentLogs, as its row states it, for every input. -/
import Derived.Test.YtcjfgejiknlpfaaGreatRows
import Derived.Test.YtcjfgejiknlpfaaGreatSq45
import Derived.Test.YtcjfgejiknlpfaaGreatActsRow
import Derived.WalkKit
import Derived.ProofKit
import Derived.OpenShut
import Derived.ShutString
import Derived.ChangeOld
import Derived.Below
import Derived.SizedLaws
import Derived.ChangeArms
import Derived.ChangeSame
import Derived.DataElems
import Derived.Lib.SmallJoins
namespace Go.Proofs.YtcjfgejiknlpfaaGreat.incidentLogs
open Go.ChangeShapes Go.WideShapes Go.ChangeAt Go.RowKit
open Go.Proofs.YtcjfgejiknlpfaaGreatW.PrintWords
set_option linter.unusedVariables false
theorem own : ownKnob Tryz.prog.godebug = none := by kernel_rfl
theorem laidOut : laidOutB Tryz.prog = true := by kernel_rfl
set_option maxRecDepth 100000 in
theorem lifted (os : Os) (started : os.Started) (H : Type) (enc : TypeId × Value → H) :
    ReturnsInHanded {} Tryz.checked os 3 .any (Rows.incidentLogsSpec.pre6 enc Tryz.prog Tryz.f3 Rows.incidentLogsRow.domain false) (Rows.incidentLogsSpec.post enc Tryz.prog Tryz.f3 false true false false) := by
  refine returnsInHanded_of_change_sized (C := Tryz.checked) own started (by kernel_rfl) Tryz.func3
    (ChangeSpec.witness6 (enc := enc) (C := Tryz.checked) false ⟨#[], #[.slice none 0 0, .slice none 0 0], []⟩ 8 (by kernel_rfl) (by kernel_rfl) (by kernel_rfl) (by kernel_rfl)) ?_
  intro W base args ds gs before hval0 hW hcnd hsz0 _
  have hval : ∀ (j : Nat) t v, Tryz.f3.params[j]? = some t → args[j]? = some v → Value.okWide Tryz.prog W .any base t v := hval0
  have hW' := hW
  obtain ⟨p, q, hA0, hV, rfl, hfz, hnd⟩ := hW
  have hA : DataW.TrodAll enc Tryz.prog W 0 (fun _ => true) true Tryz.f3.params.toList args.toList ds p := hA0
  rw [Tryz.params3] at hA hval
  obtain ⟨v0, vs0, d0, ds0, p0, q0, hargs, rfl, rfl, h0, r0⟩ := trodAll_cons hA
  obtain ⟨v1, vs1, d1, ds1, p1, q1, rfl, rfl, rfl, h1, r1⟩ := trodAll_cons r0
  obtain ⟨rfl, rfl, rfl⟩ := trodAll_nil r1
  obtain rfl : args = #[v0, v1] := by cases args; simp_all
  obtain ⟨rfl, rfl⟩ := trodVars_none hV
  have k0 := h0
  have lt0 : ∀ x ∈ p0, x.block < W.heap.size := by obtain ⟨m, hm⟩ := k0; exact DataW.trod_lt m _ _ _ hm
  obtain ⟨a0, len0, cap0, rfl⟩ := okWide_slice Tryz.underlying22 (hval 0 22 v0 rfl rfl)
  obtain ⟨l0, hl0, hle0, hC0, hu0⟩ : ∃ l : List PI.S61, l.length = len0 ∧ len0 ≤ cap0 ∧ Kd.C PI.k61 W a0 len0 l ∧ ∀ a ∈ l, PI.U8s a := by
    obtain ⟨fuel, hf⟩ := h0
    obtain ⟨A, c, l, hcs, h1, h2, h3⟩ := PI.open_acts hf (.inr trivial)
    simp [Value.cells] at hcs
    obtain ⟨rfl, rfl, rfl⟩ := hcs
    exact ⟨l, rfl, h1, h2, h3⟩
  subst hl0
  have k1 := h1
  have lt1 : ∀ x ∈ p1, x.block < W.heap.size := by obtain ⟨m, hm⟩ := k1; exact DataW.trod_lt m _ _ _ hm
  obtain ⟨a1, len1, cap1, rfl⟩ := okWide_slice Tryz.underlying22 (hval 1 22 v1 rfl rfl)
  obtain ⟨l1, hl1, hle1, hC1, hu1⟩ : ∃ l : List PI.S61, l.length = len1 ∧ len1 ≤ cap1 ∧ Kd.C PI.k61 W a1 len1 l ∧ ∀ a ∈ l, PI.U8s a := by
    obtain ⟨fuel, hf⟩ := h1
    obtain ⟨A, c, l, hcs, h1, h2, h3⟩ := PI.open_acts hf (.inr trivial)
    simp [Value.cells] at hcs
    obtain ⟨rfl, rfl, rfl⟩ := hcs
    exact ⟨l, rfl, h1, h2, h3⟩
  subst hl1
  clear hA0 hval0 hsz0
  refine (PI.logs_walk a0 cap0 l0 hu0 a1 cap1 l1 hu1 W hC0 hC1).mono fun e W' ⟨he, bel⟩ => ?_
  subst he
  exact ⟨_, rfl, _, _, _, [], _, [], hW', trodAll_mk1 (shut_bool Tryz.underlying4 _), (trodAll_cons_mk (Below.trod laidOut (by kernel_rfl) (of_decide_eq_true (by kernel_rfl)) k0 bel lt0) (trodAll_cons_mk (Below.trod laidOut (by kernel_rfl) (of_decide_eq_true (by kernel_rfl)) k1 bel lt1) trodAll_mk0)), rfl, bel.frame _, fun h => by cases h⟩
theorem over : Rows.incidentLogsRow.holds Tryz.pinned (OpenSpec.ofChange Rows.incidentLogsSpec) :=
  OpenClaim.holds_of_wide 3 Tryz.f3 rfl rfl rfl rfl rfl rfl rfl ⟨rfl, rfl, rfl, rfl, rfl⟩ rfl rfl rfl rfl rfl (by kernel_rfl) Tryz.func3 (by kernel_rfl)
    (of_decide_eq_true (by kernel_rfl)) (by unfold Func.isWrapper; first | (rw [if_pos (by decide +kernel)]; kernel_rfl) | (rw [if_neg (by decide +kernel)]; exact ⟨rfl, rfl⟩))
    (fun os started H enc _ => lifted os started H enc)
theorem proved : Rows.IncidentLogsSaid := over
#print axioms proved
end Go.Proofs.YtcjfgejiknlpfaaGreat.incidentLogs
namespace Go.Proofs.YtcjfgejiknlpfaaGreat
/-- The row, under a short name, for the claim. -/
theorem incidentLogs_holds : Rows.IncidentLogsSaid := incidentLogs.proved
end Go.Proofs.YtcjfgejiknlpfaaGreat
