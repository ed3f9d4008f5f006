/- Logs as sets of events: what has the same events is the same list. No walk. -/
import Derived.Test.YtcjfgejiknlpfaaGreatLogP
namespace Go.Proofs.YtcjfgejiknlpfaaGreat.PI
open Go.RowKit Go.Proofs.YtcjfgejiknlpfaaGreatW.PrintWords
set_option linter.unusedVariables false
set_option linter.unusedSimpArgs false
theorem cp_mem (A : List S50) : ∀ i, i ≤ A.length → ∀ x ∈ A.take i, x ∈ cp A i
  | 0, _, x, hx => by simp at hx
  | i + 1, h, x, hx => by
    have ih := cp_mem A i (by omega)
    rw [take_rd A i (by omega)] at hx
    by_cases c : 0 < i ∧ rd_T50 A (i : Int) = rd_T50 A ((i - 1 : Nat) : Int)
    · rw [cp_hit A i c.1 c.2]
      rcases List.mem_append.mp hx with hx | hx
      · exact ih x hx
      · have e : x = rd_T50 A (i : Int) := by simpa using hx
        refine ih x ?_
        rw [e, c.2, rd27_at A (i - 1) (by omega)]
        exact List.mem_iff_getElem.mpr ⟨i - 1, by rw [List.length_take]; omega, by rw [List.getElem_take]⟩
    · have e : cp A (i + 1) = cp A i ++ [rd_T50 A (i : Int)] := by rw [cp, if_neg c]
      rw [e]
      rcases List.mem_append.mp hx with hx | hx
      · exact List.mem_append_left _ (ih x hx)
      · exact List.mem_append_right _ hx
theorem mem_sdd (l : List S50) (x : S50) : x ∈ sdd l ↔ x ∈ l := by
  refine ⟨sdd_mem, fun h => ?_⟩
  unfold sdd
  refine cp_mem _ _ (Nat.le_refl _) x ?_
  rw [List.take_length]
  exact (srt_perm l).symm.subset h
/-- In order, no two alike. -/
def OrdS (l : List S50) : Prop := l.Pairwise Bf
theorem cp_last (A : List S50) : ∀ i, 0 < i → i ≤ A.length → ∃ p, cp A i = p ++ [rd_T50 A ((i - 1 : Nat) : Int)]
  | 0, h, _ => absurd h (Nat.lt_irrefl _)
  | i + 1, _, h => by
    rw [Nat.add_sub_cancel]
    by_cases c : 0 < i ∧ rd_T50 A (i : Int) = rd_T50 A ((i - 1 : Nat) : Int)
    · rw [cp_hit A i c.1 c.2, c.2]
      exact cp_last A i c.1 (by omega)
    · exact ⟨cp A i, by rw [cp, if_neg c]⟩
theorem cp_strict {A : List S50} (hO : Ord A) : ∀ i, i ≤ A.length → OrdS (cp A i)
  | 0, _ => List.Pairwise.nil
  | i + 1, h => by
    have ih := cp_strict hO i (by omega)
    by_cases c : 0 < i ∧ rd_T50 A (i : Int) = rd_T50 A ((i - 1 : Nat) : Int)
    · rw [cp_hit A i c.1 c.2]; exact ih
    · have e : cp A (i + 1) = cp A i ++ [rd_T50 A (i : Int)] := by rw [cp, if_neg c]
      rw [e]
      refine List.pairwise_append.mpr ⟨ih, List.pairwise_singleton _ _, fun a ha b hb => ?_⟩
      have eb : b = rd_T50 A (i : Int) := by simpa using hb
      subst eb
      have ha2 := (cp_sub A i (by omega)).subset ha
      obtain ⟨j, hj, rfl⟩ := List.mem_iff_getElem.mp ha2
      rw [List.length_take] at hj
      rw [List.getElem_take]
      have hi0 : 0 < i := by omega
      have hne : ¬ rd_T50 A (i : Int) = rd_T50 A ((i - 1 : Nat) : Int) := fun h => c ⟨hi0, h⟩
      rw [rd27_at A i (by omega), rd27_at A (i - 1) (by omega)] at hne
      rw [rd27_at A i (by omega)]
      have h1 : ¬ Bf A[i] A[i - 1] := List.pairwise_iff_getElem.mp hO (i - 1) i (by omega) (by omega) (by omega)
      have h2 : Bf A[i - 1] A[i] := bf_tri h1 (fun e => hne e)
      by_cases e2 : j = i - 1
      · subst e2; exact h2
      · have h3 : ¬ Bf A[i - 1] A[j] := List.pairwise_iff_getElem.mp hO j (i - 1) (by omega) (by omega) (by omega)
        by_cases e3 : A[j] = A[i - 1]
        · rw [e3]; exact h2
        · exact bf_trans (bf_tri h3 (fun e => e3 e.symm)) h2
theorem sdd_strict (l : List S50) : OrdS (sdd l) := cp_strict (srt_ord l) _ (Nat.le_refl _)
theorem strict_ext : ∀ {l m : List S50}, OrdS l → OrdS m → (∀ x, x ∈ l ↔ x ∈ m) → l = m
  | [], [], _, _, _ => rfl
  | [], y :: m, _, _, h => absurd ((h y).mpr (by simp)) (by simp)
  | x :: l, [], _, _, h => absurd ((h x).mp (by simp)) (by simp)
  | x :: l, y :: m, hl, hm, h => by
    obtain ⟨hx, hl2⟩ := List.pairwise_cons.mp hl
    obtain ⟨hy, hm2⟩ := List.pairwise_cons.mp hm
    have e : x = y := by
      rcases List.mem_cons.mp ((h x).mp (by simp)) with h1 | h1
      · exact h1
      · rcases List.mem_cons.mp ((h y).mpr (by simp)) with h2 | h2
        · exact h2.symm
        · exact absurd (hx y h2) (fun hb => bf_asymm hb (hy x h1))
    subst e
    have hmem : ∀ z, z ∈ l ↔ z ∈ m := fun z => by
      constructor
      · intro hz
        rcases List.mem_cons.mp ((h z).mp (List.mem_cons_of_mem _ hz)) with h1 | h1
        · exact absurd (hx z hz) (h1 ▸ bf_irrefl _)
        · exact h1
      · intro hz
        rcases List.mem_cons.mp ((h z).mpr (List.mem_cons_of_mem _ hz)) with h1 | h1
        · exact absurd (hy z hz) (h1 ▸ bf_irrefl _)
        · exact h1
    rw [strict_ext hl2 hm2 hmem]
theorem sdd_ext {l m : List S50} (h : ∀ x, x ∈ l ↔ x ∈ m) : sdd l = sdd m := strict_ext (sdd_strict l) (sdd_strict m) (fun x => by rw [mem_sdd, mem_sdd]; exact h x)
theorem sdd_comm (l m : List S50) : sdd (l ++ m) = sdd (m ++ l) := sdd_ext (fun x => by simp [or_comm])
/-- What is there already adds nothing. -/
theorem sdd_more {l m : List S50} (h : ∀ x ∈ m, x ∈ l) : sdd (sdd l ++ m) = sdd l := sdd_ext (fun x => by
  rw [List.mem_append, mem_sdd]
  exact ⟨fun h1 => h1.elim id (h x), .inl⟩)
/-- Two logs are alike where their union is alike with both. -/
theorem sdd_both (l m : List S50) : (sdd l = sdd m) ↔ (sdd (sdd l ++ sdd m) = sdd l ∧ sdd (sdd l ++ sdd m) = sdd m) := by
  constructor
  · intro h
    have h1 : sdd (sdd l ++ sdd m) = sdd l := sdd_more (l := l) (fun x hx => by rw [← h, mem_sdd] at hx; exact hx)
    exact ⟨h1, h1.trans h⟩
  · intro h
    exact h.1.symm.trans h.2
end Go.Proofs.YtcjfgejiknlpfaaGreat.PI
