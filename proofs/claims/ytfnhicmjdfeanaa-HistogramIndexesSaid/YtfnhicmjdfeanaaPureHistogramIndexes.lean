/- For any value, Index returns the index of the definition, whose bucket contains the value, or ErrRange; buckets follow one another, and are narrow. No condition. -/
import Derived.Test.YtfnhicmjdfeanaaMath4
import Derived.Test.YtfnhicmjdfeanaaPHx7
namespace Go.Proofs.Ytfnhicmjdfeanaa.Pure
open Go.RowKit Go.Proofs.Ytfnhicmjdfeanaa.PH Go.Proofs.YtfnhicmjdfeanaaW.PrintWords Go.Proofs.YtfnhicmjdfeanaaW.PrintLast

theorem known_at (k : Nat) (h : 400 ≤ k) : sleuthlaw21_known.f k = some true := at_rounds sleuthlaw21_known.mono h known_100
theorem HistogramIndexes : sleuthlaw21_HistogramIndexes.Pure := by
  intro v hv
  refine ⟨500, ?_⟩
  unfold sleuthlaw21_HistogramIndexes.f
  rw [known_at 500 (by omega)]
  simp only [Option.bind_some, if_true]
  by_cases hb : v < 0 ∨ v > 1099511627776
  · rw [index_bad v 499 hb]
    simp only [Option.bind_some]
    have : (if v < 0 then sleuthlaw21_HistogramIndexes.j0 500 v 0 2 true else sleuthlaw21_HistogramIndexes.j0 500 v 0 2 (decide (v > 1099511627776))) = sleuthlaw21_HistogramIndexes.j0 500 v 0 2 true := by
      by_cases h : v < 0
      · rw [if_pos h]
      · rw [if_neg h, show decide (v > 1099511627776) = true from decide_eq_true (by omega)]
    rw [this, sleuthlaw21_HistogramIndexes.j0, if_pos rfl, if_pos rfl]
    rfl
  · have h0 : 0 ≤ v := by omega
    have h1 : v ≤ 1099511627776 := by omega
    obtain ⟨r0, r1⟩ := bix_range v h0 h1
    obtain ⟨i0, i1⟩ := bix_in v h0 h1
    obtain ⟨l0, l1, l2, l3, l4⟩ := lowI_range (bix v) r0 r1
    rw [index_ok v 498 h0 h1]
    simp only [Option.bind_some]
    rw [if_neg (by omega), show decide (v > 1099511627776) = false from decide_eq_false (by omega), sleuthlaw21_HistogramIndexes.j0, if_neg (by decide), bounds_ok (bix v) 498 r0 r1]
    simp only [Option.bind_some, if_true]
    rw [law_index v 459 h0 h1]
    simp only [Option.bind_some, if_true]
    rw [if_neg (by omega), if_neg (by omega)]
    have fin : sleuthlaw21_HistogramIndexes.j1 499 v (bix v) (lowI (bix v)) false = some true := by
      rw [sleuthlaw21_HistogramIndexes.j1, if_neg (by decide)]
      by_cases hz : v = 0
      · subst hz
        rw [if_pos rfl]
        rfl
      · rw [if_neg hz, wr_small (v - 1) (by omega) (by omega), index_ok (v - 1) 496 (by omega) (by omega)]
        simp only [Option.bind_some, if_true]
        by_cases he : bix (v - 1) = bix v
        · rw [if_pos he]
        · rw [if_neg he, wr_small (bix v - 1) (by omega) (by omega)]
          rcases bix_prev v (by omega) h1 with h | ⟨h, h'⟩
          · exact absurd h he
          · rw [if_pos h, ← h']
            simp
    by_cases h16 : bix v ≥ 16
    · have hn := narrow (bix v) h16 r1
      rw [if_pos h16, wr_small (highI (bix v) - lowI (bix v)) (by omega) (by omega), wr_small (highI (bix v) - lowI (bix v) + 1) (by omega) (by omega), wr_small _ (by omega) (by omega), if_neg (by omega), if_neg (by omega)]
      exact fin
    · have e1 : lowI (bix v) = bix v := by unfold lowI; rw [if_pos (by omega)]
      have e2 : highI (bix v) = bix v := by unfold highI; rw [if_pos (by omega)]
      rw [if_neg h16, if_pos (by omega)]
      have : (lowI (bix v) != highI (bix v)) = false := by rw [e1, e2]; simp
      rw [this]
      exact fin

end Go.Proofs.Ytfnhicmjdfeanaa.Pure
