/- For any up to 40 numbers, Of returns the histogram of these values, which Check accepts, or ErrRange; Total is their number. No condition. -/
import Derived.Test.YtfnhicmjdfeanaaMath7
import Derived.Test.YtfnhicmjdfeanaaPHx31
-- NEEDS H: sleuthlaw21_HistogramOf
namespace Go.Proofs.Ytfnhicmjdfeanaa.Pure
open Go.RowKit Go.Proofs.Ytfnhicmjdfeanaa.PH Go.Proofs.YtfnhicmjdfeanaaW.PrintWords Go.Proofs.YtfnhicmjdfeanaaW.PrintLast

theorem HistogramOf : sleuthlaw21_HistogramOf.Pure := by
  intro l hm hs hw
  refine ⟨400000, ?_⟩
  have hk : ∀ k, 400 ≤ k → sleuthlaw21_known.f k = some true := fun k h => at_rounds sleuthlaw21_known.mono h known_100
  unfold sleuthlaw21_HistogramOf.f
  rw [hk _ (by omega), Option.bind_some, if_pos rfl]
  by_cases h40 : (l.length : Int) > 40
  · rw [show decide ((l.length : Int) > 40) = true from decide_eq_true h40, sleuthlaw21_HistogramOf.j0, if_pos rfl, hk _ (by omega)]
    rfl
  · rw [show decide ((l.length : Int) > 40) = false from decide_eq_false h40, sleuthlaw21_HistogramOf.j0, if_neg (by decide)]
    obtain ⟨b, hb, hi⟩ := right_ok 399999 l (by omega) (by omega)
    by_cases hv : valid l
    · have hbt : b = true := hi.2 ⟨hv, by omega⟩
      subst hbt
      obtain ⟨c, hc, hci⟩ := same_ok 399999 (hst l) ((hst l).map t62) (by have := hst_len l; omega) (by have := hst_len l; omega)
      have hct : c = true := hci.2 rfl
      subst hct
      rw [of_ok 399999 (by omega) l hv (by omega), Option.bind_some, hb, Option.bind_some, if_pos rfl, if_pos rfl, count_ok 399999 l hv (by omega) (by omega), Option.bind_some, hc, Option.bind_some, if_pos rfl,
        hst_check 399999 (by omega) l hv (by omega), Option.bind_some, if_pos rfl, hst_total 399999 (by omega) l hv (by omega), Option.bind_some]
      simp
    · have hbf : b = false := by
        cases b with
        | false => rfl
        | true => exact absurd (hi.1 rfl).1 hv
      subst hbf
      rw [of_bad 399999 (by omega) l hv (by omega), Option.bind_some, hb, Option.bind_some]
      rfl

end Go.Proofs.Ytfnhicmjdfeanaa.Pure
