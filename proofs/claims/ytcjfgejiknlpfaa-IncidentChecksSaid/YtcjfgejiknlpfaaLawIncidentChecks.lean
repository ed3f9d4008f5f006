/- The law IncidentChecks, as its row states it, for every input. -/
import Derived.Test.YtcjfgejiknlpfaaRows
import Derived.Test.YtcjfgejiknlpfaaSq26
import Derived.Test.YtcjfgejiknlpfaaEvRow
import Derived.Test.YtcjfgejiknlpfaaActsRow
import Derived.WalkKit
import Derived.ProofKit
import Derived.OpenShut
import Derived.ShutString
import Derived.ChangeOld
import Derived.Below
import Derived.SizedLaws
import Derived.ChangeArms
import Derived.ChangeSame
import Derived.DataElems
import Derived.Lib.SmallJoins
namespace Go.Proofs.Ytcjfgejiknlpfaa.incidentChecks
open Go.ChangeShapes Go.WideShapes Go.ChangeAt Go.RowKit
open Go.Proofs.YtcjfgejiknlpfaaW.PrintWords
set_option linter.unusedVariables false
theorem own : ownKnob Try.prog.godebug = none := by kernel_rfl
theorem laidOut : laidOutB Try.prog = true := by kernel_rfl
set_option maxRecDepth 100000 in
theorem lifted (os : Os) (started : os.Started) (H : Type) (enc : TypeId × Value → H) :
    ReturnsInHanded {} Try.checked os 8 .any (Rows.incidentChecksSpec.pre6 enc Try.prog Try.f8 Rows.incidentChecksRow.domain false) (Rows.incidentChecksSpec.post enc Try.prog Try.f8 false true false false) := by
  refine returnsInHanded_of_change_sized (C := Try.checked) own started (by kernel_rfl) Try.func8
    (ChangeSpec.witness6 (enc := enc) (C := Try.checked) false ⟨#[], #[.agg #[.string ByteArray.empty, .int .i64 0, .int .i64 0, .int .i64 0, .string ByteArray.empty, .int .i64 0, .string ByteArray.empty, .int .i64 0, .string ByteArray.empty]], []⟩ 8 (by kernel_rfl) (by kernel_rfl) (by kernel_rfl) (by kernel_rfl)) ?_
  intro W base args ds gs before hval0 hW hcnd hsz0 _
  have hval : ∀ (j : Nat) t v, Try.f8.params[j]? = some t → args[j]? = some v → Value.okWide Try.prog W .any base t v := hval0
  have hW' := hW
  obtain ⟨p, q, hA0, hV, rfl, hfz, hnd⟩ := hW
  have hA : DataW.TrodAll enc Try.prog W 0 (fun _ => true) true Try.f8.params.toList args.toList ds p := hA0
  rw [Try.params8] at hA hval
  obtain ⟨v0, vs0, d0, ds0, p0, q0, hargs, rfl, rfl, h0, r0⟩ := trodAll_cons hA
  obtain ⟨rfl, rfl, rfl⟩ := trodAll_nil r0
  obtain rfl : args = #[v0] := by cases args; simp_all
  obtain ⟨rfl, rfl⟩ := trodVars_none hV
  have k0 := h0
  have lt0 : ∀ x ∈ p0, x.block < W.heap.size := by obtain ⟨m, hm⟩ := k0; exact DataW.trod_lt m _ _ _ hm
  obtain ⟨cs0, rfl, hsz0⟩ := okWide_struct Try.underlying27 (hval 0 27 v0 rfl rfl)
  obtain ⟨a0, ea0⟩ : ∃ a : PI.S27, cs0 = #[.string a.f0.f0, .int .i64 a.f0.f1, .int .i64 a.f1, .int .i64 a.f2, .string a.f3.f0, .int .i64 a.f3.f1, .string a.f4, .int .i64 a.f5, .string a.f6] := by
    obtain ⟨fuel, hf⟩ := h0
    obtain ⟨a, hcs⟩ := PI.open_event hf
    exact ⟨a, by simpa [Value.cells] using congrArg List.toArray hcs⟩
  subst ea0
  clear hA0 hval0 hsz0
  refine (PI.checks_walk a0 W).mono fun e W' ⟨he, bel⟩ => ?_
  subst he
  exact ⟨_, rfl, _, _, _, [], _, [], hW', trodAll_mk1 (shut_bool Try.underlying4 _), (trodAll_cons_mk (Below.trod laidOut (by kernel_rfl) (of_decide_eq_true (by kernel_rfl)) k0 bel lt0) trodAll_mk0), rfl, bel.frame _, fun h => by cases h⟩
theorem over : Rows.incidentChecksRow.holds Try.pinned (OpenSpec.ofChange Rows.incidentChecksSpec) :=
  OpenClaim.holds_of_wide 8 Try.f8 rfl rfl rfl rfl rfl rfl rfl ⟨rfl, rfl, rfl, rfl, rfl⟩ rfl rfl rfl rfl rfl (by kernel_rfl) Try.func8 (by kernel_rfl)
    (of_decide_eq_true (by kernel_rfl)) (by unfold Func.isWrapper; first | (rw [if_pos (by decide +kernel)]; kernel_rfl) | (rw [if_neg (by decide +kernel)]; exact ⟨rfl, rfl⟩))
    (fun os started H enc _ => lifted os started H enc)
theorem proved : Rows.IncidentChecksSaid := over
#print axioms proved
end Go.Proofs.Ytcjfgejiknlpfaa.incidentChecks
namespace Go.Proofs.Ytcjfgejiknlpfaa
/-- The row, under a short name, for the claim. -/
theorem incidentChecks_holds : Rows.IncidentChecksSaid := incidentChecks.proved
end Go.Proofs.Ytcjfgejiknlpfaa
