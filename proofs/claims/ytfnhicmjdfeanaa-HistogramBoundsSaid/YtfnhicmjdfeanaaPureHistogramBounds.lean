/- For any index, Bounds returns the least and the greatest value of its bucket, or ErrRange. No condition. -/
import Derived.Test.YtfnhicmjdfeanaaMath4
import Derived.Test.YtfnhicmjdfeanaaPHx8
namespace Go.Proofs.Ytfnhicmjdfeanaa.Pure
open Go.RowKit Go.Proofs.Ytfnhicmjdfeanaa.PH Go.Proofs.YtfnhicmjdfeanaaW.PrintWords Go.Proofs.YtfnhicmjdfeanaaW.PrintLast

theorem HistogramBounds : sleuthlaw21_HistogramBounds.Pure := by
  intro n hv
  refine ⟨500, ?_⟩
  unfold sleuthlaw21_HistogramBounds.f
  rw [at_rounds sleuthlaw21_known.mono (show 400 ≤ 500 by omega) known_100]
  simp only [Option.bind_some, if_true]
  by_cases hb : n < 0 ∨ n ≥ 305
  · rw [bounds_bad n 499 hb]
    simp only [Option.bind_some]
    have : (if n < 0 then sleuthlaw21_HistogramBounds.j0 500 n 0 0 2 true else sleuthlaw21_HistogramBounds.j0 500 n 0 0 2 (decide (n ≥ 305))) = sleuthlaw21_HistogramBounds.j0 500 n 0 0 2 true := by
      by_cases h : n < 0
      · rw [if_pos h]
      · rw [if_neg h, show decide (n ≥ 305) = true from decide_eq_true (by omega)]
    rw [this, sleuthlaw21_HistogramBounds.j0]
    rfl
  · have h0 : 0 ≤ n := by omega
    have h1 : n < 305 := by omega
    rw [bounds_ok n 499 h0 h1]
    simp only [Option.bind_some]
    rw [if_neg (by omega), show decide (n ≥ 305) = false from decide_eq_false (by omega), sleuthlaw21_HistogramBounds.j0, if_neg (by decide), if_pos rfl, low_ok n h0 h1]
    simp only [Option.bind_some, if_true]
    rw [high_ok n h0 h1]
    simp

end Go.Proofs.Ytfnhicmjdfeanaa.Pure
