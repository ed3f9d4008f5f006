/- The law IncidentFolds walked. -/
import Derived.Test.YtcjfgejiknlpfaaGreatSq32
import Derived.Test.YtcjfgejiknlpfaaGreatSq18
import Derived.Test.YtcjfgejiknlpfaaGreatSamS
namespace Go.Proofs.YtcjfgejiknlpfaaGreat.PI
open Go.RowKit Go.Proofs.YtcjfgejiknlpfaaGreatW.PrintWords Go.Proofs.YtcjfgejiknlpfaaGreatW.PrintLast Go.Proofs.YtcjfgejiknlpfaaGreatW.PrintMore Go.Proofs.YtcjfgejiknlpfaaGreat.Sep
set_option linter.unusedVariables false
set_option linter.unusedSimpArgs false
set_option maxHeartbeats 8000000
set_option maxRecDepth 100000

theorem decE_ok (a : S61) : EvOk (decE a) := by
  refine ⟨decE_kind a, fun h => ?_⟩
  unfold decE at h ⊢
  split at h
  · rename_i h1
    rw [if_pos h1]
    simp only at h
    omega
  · rename_i h1
    rw [if_neg h1]
    split at h
    · rename_i h2
      rw [if_pos h2]
      simp only at h
      omega
    · rename_i h2
      rw [if_neg h2]
      split at h
      · rename_i h3
        rw [if_pos h3]
        show 1 ≤ 1 + a.f6 % 3
        omega
      · rename_i h3
        simp only at h
        omega
theorem evs_ok (l : List S61) : ∀ x ∈ evs l, EvOk x := by
  intro x hx
  obtain ⟨a, _, rfl⟩ := List.mem_map.mp hx
  exact decE_ok a
theorem rsCel {N : Nat} {w : World} {L : List Res} {g n cap : Nat} {l : List Int} (h : St N w (Row (Kd.int .i64) 3 (.slice (some ⟨g, 0, none⟩) n cap) l :: L)) (j : Nat) (hj : j < l.length) (r : Int) (hr : l[j]? = some r) : w.cell? ⟨g, j, none⟩ = some (.int .i64 r) := by
  obtain ⟨ad, ea, x0⟩ := at_ints h.rowC.2.2 j (by omega)
  cases ea
  rw [Addr.add_lit, Nat.zero_add, List.getD_eq_getElem?_getD, hr] at x0
  exact x0

end Go.Proofs.YtcjfgejiknlpfaaGreat.PI
