/- An event put into a list in order, from behind: the list in order. What the model's reason, role, appoint and accept come to. No walk. -/
import Derived.Test.YtcjfgejiknlpfaaGreatJ2
namespace Go.Proofs.YtcjfgejiknlpfaaGreat.PI
open Go.RowKit Go.Proofs.YtcjfgejiknlpfaaGreatW.PrintWords
set_option linter.unusedVariables false
set_option linter.unusedSimpArgs false
theorem rd27_at (l : List S50) (i : Nat) (h : i < l.length) : rd_T50 l (i : Int) = l[i] := by simp [rd_T50, h]
theorem put_ord {l : List S50} {x : S50} {k : Nat} (hO : Ord l) (hk : k ≤ l.length) (hi : ∀ j : Nat, k ≤ j → j < l.length → Bf x (rd_T50 l (j : Int))) (lo : 0 < k → ¬ Bf x (rd_T50 l ((k - 1 : Nat) : Int))) : Ord (l.take k ++ x :: l.drop k) := by
  have hO2 := hO
  unfold Ord at hO ⊢
  rw [← List.take_append_drop k l] at hO
  obtain ⟨h1, h2, h3⟩ := List.pairwise_append.mp hO
  have hB : ∀ y ∈ l.drop k, Bf x y := fun y hy => by
    obtain ⟨j, hj, rfl⟩ := List.mem_iff_getElem.mp hy
    rw [List.length_drop] at hj
    have := hi (k + j) (by omega) (by omega)
    rw [rd27_at l (k + j) (by omega)] at this
    rw [List.getElem_drop]
    exact this
  refine List.pairwise_append.mpr ⟨h1, List.pairwise_cons.mpr ⟨fun y hy hb => bf_asymm hb (hB y hy), h2⟩, fun a ha b hb => ?_⟩
  rcases List.mem_cons.mp hb with rfl | hb
  · intro hba
    obtain ⟨j, hj, rfl⟩ := List.mem_iff_getElem.mp ha
    rw [List.length_take] at hj
    rw [List.getElem_take] at hba
    have hl := lo (by omega)
    rw [rd27_at l (k - 1) (by omega)] at hl
    by_cases hjk : j = k - 1
    · subst hjk; exact hl hba
    · have hp := List.pairwise_iff_getElem.mp hO2 j (k - 1) (by omega) (by omega) (by omega)
      by_cases e : l[j] = l[k - 1]
      · exact hl (e ▸ hba)
      · refine hl (bf_trans hba (bf_tri hp (fun h => e h.symm)))
  · exact h3 a ha b hb
theorem srt_put {l : List S50} {x : S50} {k : Nat} (hk : k ≤ (srt l).length) (hi : ∀ j : Nat, k ≤ j → j < (srt l).length → Bf x (rd_T50 (srt l) (j : Int))) (lo : 0 < k → ¬ Bf x (rd_T50 (srt l) ((k - 1 : Nat) : Int))) : srt (l ++ [x]) = (srt l).take k ++ x :: (srt l).drop k := by
  refine (srt_unique ?_ (put_ord (srt_ord l) hk hi lo)).symm
  have h1 : ((srt l).take k ++ x :: (srt l).drop k).Perm (x :: ((srt l).take k ++ (srt l).drop k)) := List.perm_middle
  rw [List.take_append_drop] at h1
  exact h1.trans (((srt_perm l).cons x).trans (List.perm_append_comm (l₁ := [x])))
end Go.Proofs.YtcjfgejiknlpfaaGreat.PI
