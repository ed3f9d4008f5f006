/- HistogramChecks, in plain numbers and lists. -/
import Derived.Test.YtfnhicmjdfeanaaMath1
import Derived.Test.YtfnhicmjdfeanaaPHx28
import Derived.Test.YtfnhicmjdfeanaaPHx29
-- NEEDS H: sleuthlaw21_HistogramChecks sleuthlaw21_check
namespace Go.Proofs.Ytfnhicmjdfeanaa.Pure
open Go.RowKit Go.Proofs.Ytfnhicmjdfeanaa.PH Go.Proofs.YtfnhicmjdfeanaaW.PrintWords Go.Proofs.YtfnhicmjdfeanaaW.PrintLast
set_option linter.unusedVariables false
theorem lcheck_loop (l : List S67) (hb : l.length ≤ 1000000) : ∀ (d i k : Nat) (acc : Int), i + d = l.length → 3 * d < k → sleuthlaw21_check.l0 k l acc i = some (chk (prevOf l i) (l.drop i) acc) := by
  intro d
  induction d with
  | zero =>
    intro i k acc hi hk
    obtain ⟨k, rfl⟩ : ∃ m, k = m + 1 := ⟨k - 1, by omega⟩
    rw [sleuthlaw21_check.l0, if_neg (by omega), List.drop_of_length_le (by omega)]
    simp only [chk]
    split <;> rfl
  | succ d ih =>
    intro i k acc hi hk
    obtain ⟨k, rfl⟩ : ∃ m, k = m + 3 := ⟨k - 3, by omega⟩
    have hlt : i < l.length := by omega
    have hn := ih (i + 1) k (wrap64 (acc + (rd_T67 l i).f1)) (by omega) (by omega)
    rw [prevOf_succ] at hn
    rw [sleuthlaw21_check.l0, if_pos (by omega), if_pos (by omega), rd67_drop l i hlt]
    simp only [chk]
    by_cases h1 : (rd_T67 l i).f0 < 0 ∨ (rd_T67 l i).f0 ≥ 305
    · rw [if_pos h1]
      have e : (if (rd_T67 l i).f0 < 0 then sleuthlaw21_check.j1 (k + 2) l acc i true else sleuthlaw21_check.j1 (k + 2) l acc i (decide ((rd_T67 l i).f0 ≥ 305))) = sleuthlaw21_check.j1 (k + 2) l acc i true := by
        by_cases h : (rd_T67 l i).f0 < 0
        · rw [if_pos h]
        · rw [if_neg h, show decide ((rd_T67 l i).f0 ≥ 305) = true from decide_eq_true (by omega)]
      rw [e, sleuthlaw21_check.j1, if_pos rfl]
    · rw [if_neg h1, if_neg (by omega), show decide ((rd_T67 l i).f0 ≥ 305) = false from decide_eq_false (by omega), sleuthlaw21_check.j1, if_neg (by decide)]
      have tail : ∀ q : Bool, sleuthlaw21_check.j2 (k + 1) l acc i q = some (if q = true then 8 else if (rd_T67 l i).f1 < 1 ∨ (rd_T67 l i).f1 > 1048576 then 2 else chk (some (rd_T67 l i).f0) (l.drop (i + 1)) (wrap64 (acc + (rd_T67 l i).f1))) := by
        intro q
        rw [sleuthlaw21_check.j2]
        cases q with
        | true => rfl
        | false =>
          rw [if_neg Bool.false_ne_true, if_neg Bool.false_ne_true, if_pos (by omega), if_pos (by omega)]
          by_cases h2 : (rd_T67 l i).f1 < 1
          · rw [if_pos h2, if_pos (.inl h2)]
          · rw [if_neg h2]
            by_cases h3 : (rd_T67 l i).f1 > 1048576
            · rw [if_pos h3, if_pos (.inr h3)]
            · rw [if_neg h3, if_neg (by omega), wr_succ i (by omega), hn]
      by_cases h0 : i = 0
      · rw [if_neg (by omega), tail]
        unfold prevOf
        rw [if_pos h0]
        rfl
      · rw [if_pos (by omega), wr_small ((i : Int) - 1) (by omega) (by omega), if_pos (by omega), if_pos (by omega), if_pos (by omega), if_pos (by omega), tail]
        unfold prevOf
        rw [if_neg h0]
        rfl
theorem checks_true (l : List S67) (hl : l.length ≤ 9223372036854775807) : sleuthlaw21_HistogramChecks.f 400000 l = some true := by
  have hk : ∀ k, 400 ≤ k → sleuthlaw21_known.f k = some true := fun k h => at_rounds sleuthlaw21_known.mono h known_100
  unfold sleuthlaw21_HistogramChecks.f
  rw [hk _ (by omega), Option.bind_some, if_pos rfl, show (400000 : Nat) = 399999 + 1 from rfl, sleuthlaw21_HistogramChecks.j0]
  by_cases h : (l.length : Int) > 20
  · rw [decide_eq_true h, if_pos rfl, hk _ (by omega)]; rfl
  · rw [decide_eq_false h, if_neg (by decide), check_ok _ l (by omega) (by omega), Option.bind_some]
    unfold sleuthlaw21_check.f
    have := lcheck_loop l (by omega) l.length 0 399999 0 (by omega) (by omega)
    rw [show ((0 : Nat) : Int) = 0 from rfl] at this
    rw [this]
    simp [prevOf]
end Go.Proofs.Ytfnhicmjdfeanaa.Pure
