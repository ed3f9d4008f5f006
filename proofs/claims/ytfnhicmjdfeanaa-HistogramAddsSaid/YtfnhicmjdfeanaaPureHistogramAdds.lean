/- For the histogram of any up to 40 values, Add returns the one with a further value, any number of times, or the first error. No condition. -/
import Derived.Test.YtfnhicmjdfeanaaMath7
import Derived.Test.YtfnhicmjdfeanaaPHx34
-- NEEDS H: sleuthlaw21_HistogramAdds
namespace Go.Proofs.Ytfnhicmjdfeanaa.Pure
open Go.RowKit Go.Proofs.Ytfnhicmjdfeanaa.PH Go.Proofs.YtfnhicmjdfeanaaW.PrintWords Go.Proofs.YtfnhicmjdfeanaaW.PrintLast

theorem adds_loop (f : Int → Int) (v n : Int) (h0 : 0 ≤ v) (h1 : v ≤ 1099511627776) (hf : ∀ m, 0 ≤ f m ∧ f m ≤ 1099511627776) (hn0 : 0 ≤ n) (hn1 : n ≤ 1048576) :
    ∀ (d i k : Nat), i + d = 305 → 2 * d + 1000 < k → sleuthlaw21_HistogramAdds.l0 k v n i (buckFrom 0 (vec f)) (buckFrom 0 (vec (fun m => f m + if m = bix v then n else 0))) = some true := by
  intro d
  induction d with
  | zero =>
    intro i k hi hk
    obtain ⟨k, rfl⟩ : ∃ m, k = m + 1 := ⟨k - 1, by omega⟩
    rw [sleuthlaw21_HistogramAdds.l0, if_neg (by omega)]
  | succ d ih =>
    intro i k hi hk
    obtain ⟨k, rfl⟩ : ∃ m, k = m + 40 + 2 := ⟨k - 42, by omega⟩
    have hl1 := buck_len305 f
    have hl2 := buck_len305 (fun m => f m + if m = bix v then n else 0)
    have hx := law_index v (k + 1) h0 h1
    have hfi := hf i
    rw [show k + 1 + 40 = k + 40 + 1 by omega] at hx
    rw [sleuthlaw21_HistogramAdds.l0, if_pos (by omega), hx, Option.bind_some]
    have tail : ∀ x, x = (if (i : Int) = bix v then n else 0) → sleuthlaw21_HistogramAdds.j5 (k + 40 + 1) v n i x (buckFrom 0 (vec f)) (buckFrom 0 (vec (fun m => f m + if m = bix v then n else 0))) = some true := by
      intro x hx
      rw [sleuthlaw21_HistogramAdds.j5, at_ok _ _ _ (by omega) (by omega), Option.bind_some, at_ok _ _ _ (by omega) (by omega), Option.bind_some, at_vec _ _ (by omega) (by omega), at_vec _ _ (by omega) (by omega), ← hx]
      have hxb : 0 ≤ x ∧ x ≤ 1048576 := by rw [hx]; split <;> omega
      rw [wr_small _ (by omega) (by omega), if_pos rfl, wr_succ i (by omega)]
      exact ih (i + 1) (k + 40) (by omega) (by omega)
    by_cases c : (i : Int) = bix v
    · rw [if_pos c]
      exact tail n (by rw [if_pos c])
    · rw [if_neg c]
      exact tail 0 (by rw [if_neg c])

theorem HistogramAdds : sleuthlaw21_HistogramAdds.Pure := by
  intro l v n hm hs hw hv hn
  refine ⟨400000, ?_⟩
  have hk : ∀ k, 400 ≤ k → sleuthlaw21_known.f k = some true := fun k h => at_rounds sleuthlaw21_known.mono h known_100
  have hval := vals_valid l
  have hlen := vals_len l
  have hhl := hst_len (vals l)
  unfold sleuthlaw21_HistogramAdds.f
  rw [hk _ (by omega), Option.bind_some, if_pos rfl, law_of _ (by omega) l (by omega), Option.bind_some]
  by_cases hb : (v < 0 ∨ v > 1099511627776) ∨ n < 0 ∨ n > 1048576
  · rw [add_bad _ (by omega) _ _ _ hb, Option.bind_some]
    have tail : sleuthlaw21_HistogramAdds.j0 400000 l v n 2 0 true (hst (vals l)) [] = some true := by
      rw [sleuthlaw21_HistogramAdds.j0, if_pos rfl, sleuthlaw21_HistogramAdds.j1, if_pos rfl, sleuthlaw21_HistogramAdds.j2]
      rfl
    by_cases c1 : v < 0
    · rw [if_pos c1]; exact tail
    · rw [if_neg c1]
      by_cases c2 : v > 1099511627776
      · rw [if_pos c2]; exact tail
      · rw [if_neg c2]
        by_cases c3 : n < 0
        · rw [if_pos c3]; exact tail
        · rw [if_neg c3, show decide (n > 1048576) = true from decide_eq_true (by omega)]; exact tail
  · have a0 : 0 ≤ v := by omega
    have a1 : v ≤ 1099511627776 := by omega
    have a2 : 0 ≤ n := by omega
    have a3 : n ≤ 1048576 := by omega
    rw [add_ok _ (by omega) _ hval hlen v n a0 a1 a2 a3]
    have e0 : ∀ b : List S67 × Int, (if v < 0 then sleuthlaw21_HistogramAdds.j0 400000 l v n b.2 0 true (hst (vals l)) b.1 else (if v > 1099511627776 then sleuthlaw21_HistogramAdds.j0 400000 l v n b.2 0 true (hst (vals l)) b.1 else (if n < 0 then sleuthlaw21_HistogramAdds.j0 400000 l v n b.2 0 true (hst (vals l)) b.1 else sleuthlaw21_HistogramAdds.j0 400000 l v n b.2 0 (decide (n > 1048576)) (hst (vals l)) b.1))) = sleuthlaw21_HistogramAdds.j0 400000 l v n b.2 0 false (hst (vals l)) b.1 := by
      intro b
      rw [if_neg (by omega), if_neg (by omega), if_neg (by omega), show decide (n > 1048576) = false from decide_eq_false (by omega)]
    by_cases c : ((vals l).length : Int) + n > 1048576
    · rw [if_pos c, Option.bind_some, e0, sleuthlaw21_HistogramAdds.j0, if_neg (by decide), hst_total _ (by omega) _ hval (by omega), Option.bind_some, wr_small _ (by omega) (by omega), if_pos (by omega), sleuthlaw21_HistogramAdds.j1, if_pos rfl, sleuthlaw21_HistogramAdds.j2]
      rfl
    · rw [if_neg c, Option.bind_some, e0, sleuthlaw21_HistogramAdds.j0, if_neg (by decide), hst_total _ (by omega) _ hval (by omega), Option.bind_some, wr_small _ (by omega) (by omega), if_neg (by omega), sleuthlaw21_HistogramAdds.j1, if_pos rfl, sleuthlaw21_HistogramAdds.j2, if_neg (by decide)]
      have hfb : ∀ m, 0 ≤ cnt (vals l) m + (if m = bix v then n else 0) ∧ cnt (vals l) m + (if m = bix v then n else 0) ≤ 1099511627776 := fun m => by
        have := cnt_range (vals l) m
        split <;> omega
      have hr := bix_range v a0 a1
      have hsum : isum (vec (fun i => cnt (vals l) i + if i = bix v then n else 0)) = ((vals l).length : Int) + n := by
        unfold vec
        rw [isum_add, isum_one, if_pos (by omega)]
        have := isum_cnt (vals l) hval
        unfold vec at this
        rw [this]
      obtain ⟨b, hb1, hb2⟩ := same_ok 399997 (hst (vals l)) ((hst (vals l)).map t62) (by omega) (by omega)
      have hbt : b = true := hb2.2 rfl
      subst hbt
      rw [vec_check _ _ (by omega) hfb (by rw [hsum]; omega), Option.bind_some, if_pos rfl, vec_total _ _ (by omega) hfb, Option.bind_some, hsum, hst_total _ (by omega) _ hval (by omega), Option.bind_some, wr_small _ (by omega) (by omega), if_pos rfl,
        values_ok _ (by omega) l (by omega), Option.bind_some, count_ok _ _ hval (by omega) (by omega), Option.bind_some, hb1, Option.bind_some, sleuthlaw21_HistogramAdds.j3]
      rw [if_neg (by decide)]
      exact adds_loop (cnt (vals l)) v n a0 a1 (cnt_bd _ (by omega)) a2 a3 305 0 399996 (by omega) (by omega)

end Go.Proofs.Ytfnhicmjdfeanaa.Pure
