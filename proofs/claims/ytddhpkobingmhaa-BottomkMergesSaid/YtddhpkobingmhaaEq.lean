/- Two rows of keys, compared place by place: the answer is their equality. Condition: at most a million keys. -/
import Derived.Test.YtddhpkobingmhaaTxt
import Derived.Test.YtddhpkobingmhaaSk9
import Derived.Test.YtddhpkobingmhaaPBx16

namespace Go.Proofs.Ytddhpkobingmhaa.PB
open Go.RowKit Go.Proofs.YtddhpkobingmhaaW.PrintWords Go.Proofs.YtddhpkobingmhaaW.PrintLast
set_option linter.unusedVariables false
set_option maxRecDepth 100000

theorem kne_iff (x y : S52) : ((!((x.f0) == (y.f0)) || (!(((x.f1).toList) == ((y.f1).toList)))) = true) ↔ x ≠ y := by
  obtain ⟨a, s⟩ := x
  obtain ⟨b, t⟩ := y
  constructor
  · rintro h e
    cases e
    simp at h
  · intro h
    by_cases h1 : a = b
    · subst h1
      by_cases h2 : s.toList = t.toList
      · exact absurd (congrArg _ (bytes_ext _ _ h2)) h
      · simp [h2]
    · simp [h1]
theorem rd52 (l : List S52) (j : Nat) (h : j < l.length) : rd_T52 l (j : Int) = l[j] := by
  unfold rd_T52
  rw [Int.toNat_natCast, List.getD_eq_getElem?_getD, List.getElem?_eq_getElem h]; rfl
theorem eqk_l0 (l m : List S52) (he : l.length = m.length) (hl : l.length ≤ 1000000) : ∀ (q j : Nat), j + q = l.length → l.take j = m.take j → bottomk_Key_47.l0 (q + 1) l m (l.length : Int) (j : Int) = some (decide (l = m))
  | 0, j, hj, ht => by
    rw [bottomk_Key_47.l0, if_neg (by omega)]
    rw [List.take_of_length_le (by omega), List.take_of_length_le (by omega)] at ht
    rw [decide_eq_true ht]
  | q + 1, j, hj, ht => by
    have h1 : j < l.length := by omega
    have h2 : j < m.length := by omega
    rw [bottomk_Key_47.l0, if_pos (by omega), if_pos (by omega), if_pos (by omega), if_pos (by omega), wrap64_small _ (by omega) (by omega)]
    by_cases h : rd_T52 l (j : Int) = rd_T52 m (j : Int)
    · rw [if_neg (by rw [kne_iff]; exact fun g => g h)]
      refine eqk_l0 l m he hl q (j + 1) (by omega) ?_
      rw [rd52 l j h1, rd52 m j h2] at h
      rw [List.take_add_one, List.take_add_one, ht, List.getElem?_eq_getElem h1, List.getElem?_eq_getElem h2, h]
    · rw [if_pos ((kne_iff _ _).mpr h)]
      rw [decide_eq_false]
      rintro rfl
      exact h rfl
theorem eqk_ok (l m : List S52) (hl : l.length ≤ 1000000) : bottomk_Key_47.f (l.length + 1) l m = some (decide (l = m)) := by
  unfold bottomk_Key_47.f
  by_cases he : l.length = m.length
  · rw [if_pos (by omega)]
    exact eqk_l0 l m he hl l.length 0 (by omega) (by simp)
  · rw [if_neg (by omega), decide_eq_false]
    rintro rfl
    exact he rfl
end Go.Proofs.Ytddhpkobingmhaa.PB
