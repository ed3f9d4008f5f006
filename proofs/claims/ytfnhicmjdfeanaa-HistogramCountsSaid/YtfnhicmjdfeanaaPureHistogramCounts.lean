/- For any up to 40 values and any number, AtMost returns the bounds of the definition, between which the number of values at most this number lies; so does the sum between those of Sum. No condition. -/
import Derived.Test.YtfnhicmjdfeanaaMath7
import Derived.Test.YtfnhicmjdfeanaaPHx23
-- NEEDS H: sleuthlaw21_HistogramCounts
namespace Go.Proofs.Ytfnhicmjdfeanaa.Pure
open Go.RowKit Go.Proofs.Ytfnhicmjdfeanaa.PH Go.Proofs.YtfnhicmjdfeanaaW.PrintWords Go.Proofs.YtfnhicmjdfeanaaW.PrintLast

theorem lsum_le (f g : Int → Int) : ∀ l : List Int, (∀ v, v ∈ l → f v ≤ g v) → lsum f l ≤ lsum g l
  | [], _ => Int.le_refl _
  | v :: l, h => by
    have := h v List.mem_cons_self
    have := lsum_le f g l (fun x hx => h x (List.mem_cons_of_mem _ hx))
    simp only [lsum]
    omega
/-- The loop over the values: what has been counted, and what is still to come. -/
theorem counts_loop (v : Int) (l : List Int) (hl : l.length ≤ 40) (hv : valid l) (A B C D : Int) :
    ∀ (d i k : Nat) (n s le mo be ab : Int), i + d = l.length → 3 * d + 100 < k → 0 ≤ n → n ≤ i → 0 ≤ s → s ≤ (i : Int) * 1099511627776 → 0 ≤ le → le ≤ i → 0 ≤ mo → mo ≤ i → 0 ≤ be → be ≤ (i : Int) * 1099511627776 → 0 ≤ ab → ab ≤ (i : Int) * 1099511627776 →
    le ≤ n → n ≤ mo → be ≤ s → s ≤ ab → A = le + lsum (fun x => ind (highI (bix x) ≤ v)) (l.drop i) → B = mo + lsum (fun x => ind (lowI (bix x) ≤ v)) (l.drop i) → C = be + lsum (fun x => lowI (bix x)) (l.drop i) → D = ab + lsum (fun x => highI (bix x)) (l.drop i) →
    sleuthlaw21_HistogramCounts.l0 k v l A B C D n s le mo be ab i = some true := by
  intro d
  induction d with
  | zero =>
    intro i k n s le mo be ab hi hk n0 n1 s0 s1 le0 le1 mo0 mo1 be0 be1 ab0 ab1 h1 h2 h3 h4 hA hB hC hD
    obtain ⟨k, rfl⟩ : ∃ m, k = m + 1 := ⟨k - 1, by omega⟩
    rw [List.drop_of_length_le (by omega)] at hA hB hC hD
    simp only [lsum, Int.add_zero] at hA hB hC hD
    rw [sleuthlaw21_HistogramCounts.l0, if_neg (by omega), if_pos hA, if_pos hB, if_pos (by omega), if_pos (by omega), if_pos hC, if_pos hD, if_pos (by omega), decide_eq_true (by omega)]
  | succ d ih =>
    intro i k n s le mo be ab hi hk n0 n1 s0 s1 le0 le1 mo0 mo1 be0 be1 ab0 ab1 h1 h2 h3 h4 hA hB hC hD
    obtain ⟨k, rfl⟩ : ∃ m, k = m + 3 + 40 := ⟨k - 43, by omega⟩
    have hlt : i < l.length := by omega
    obtain ⟨x, hx⟩ : ∃ x, rd l i = x := ⟨_, rfl⟩
    have hv0 := hv (rd l i) (List.mem_of_mem_drop (i := i) (by rw [rd_drop l i hlt]; exact List.mem_cons_self))
    rw [rd_drop l i hlt, hx] at hA hB hC hD
    rw [hx] at hv0
    have hr := bix_range x hv0.1 hv0.2
    have hin := bix_in x hv0.1 hv0.2
    have hlo := low_ok (bix x) hr.1 hr.2
    have hhi := high_ok (bix x) hr.1 hr.2
    have hlr := lowI_range (bix x) hr.1 hr.2
    have hix := law_index x (k + 2) hv0.1 hv0.2
    simp only [lsum] at hA hB hC hD
    have e1 : (((i + 1 : Nat)) : Int) * 1099511627776 = (i : Int) * 1099511627776 + 1099511627776 := by omega
    have e2 : (i : Int) * 1099511627776 ≤ 43980465111040 := by omega
    generalize lowI (bix x) = L at *
    generalize highI (bix x) = H at *
    have tail : ∀ (n' le' mo' : Int), 0 ≤ n' → n' ≤ i + 1 → 0 ≤ le' → le' ≤ i + 1 → 0 ≤ mo' → mo' ≤ i + 1 → le' ≤ n' → n' ≤ mo' → A = le' + lsum (fun x => ind (highI (bix x) ≤ v)) (l.drop (i + 1)) → B = mo' + lsum (fun x => ind (lowI (bix x) ≤ v)) (l.drop (i + 1)) → C = be + L + lsum (fun x => lowI (bix x)) (l.drop (i + 1)) → D = ab + H + lsum (fun x => highI (bix x)) (l.drop (i + 1)) →
        sleuthlaw21_HistogramCounts.l0 (k + 40) v l A B C D n' (wrap64 (s + x)) le' mo' (wrap64 (be + L)) (wrap64 (ab + H)) (wrap64 ((i : Int) + 1)) = some true := by
      intro n' le' mo' a1 a2 a3 a4 a5 a6 a7 a8 a9 a10 a11 a12
      rw [wr_small (s + x) (by omega) (by omega), wr_small (be + L) (by omega) (by omega), wr_small (ab + H) (by omega) (by omega), wr_succ i (by omega)]
      exact ih (i + 1) (k + 40) n' (s + x) le' mo' (be + L) (ab + H) (by omega) (by omega) a1 (by omega) (by omega) (by rw [e1]; omega) a3 (by omega) a5 (by omega) (by omega) (by rw [e1]; omega) (by omega) (by rw [e1]; omega) a7 a8 (by omega) (by omega) a9 a10 a11 a12
    rw [show k + 3 + 40 = (k + 2 + 40) + 1 by omega, sleuthlaw21_HistogramCounts.l0, if_pos (by omega), if_pos (by omega), hx, hix, Option.bind_some]
    have j1_ : ∀ n' : Int, 0 ≤ n' → n' ≤ i + 1 → (L ≤ v → (v < x → n' = n)) → n' = n + ind (x ≤ v) → sleuthlaw21_HistogramCounts.j1 (k + 2 + 40) v l A B C D n' s le mo be ab i (bix x) = some true := by
      intro n' q0 q1 _ q2
      have j2_ : ∀ le' : Int, le' = le + ind (H ≤ v) → sleuthlaw21_HistogramCounts.j2 (k + 1 + 40) v l A B C D n' s le' mo be ab i (bix x) = some true := by
        intro le' q3
        rw [show k + 1 + 40 = (k + 40) + 1 by omega, sleuthlaw21_HistogramCounts.j2, hlo, Option.bind_some]
        by_cases c : L ≤ v
        · rw [if_pos c, if_pos (by omega), if_pos (by omega), Option.bind_some, hhi, Option.bind_some, hx, wr_small (mo + 1) (by omega) (by omega)]
          have y0 : ind (L ≤ v) = 1 := by simp [ind, c]
          have y1 : ind (x ≤ v) ≤ 1 := by unfold ind; split <;> omega
          have y2 : ind (H ≤ v) ≤ ind (x ≤ v) := by unfold ind; split <;> split <;> omega
          have y3 : 0 ≤ ind (H ≤ v) := by unfold ind; split <;> omega
          exact tail n' le' (mo + 1) (by omega) (by omega) (by omega) (by omega) (by omega) (by omega) (by omega) (by omega) (by omega) (by omega) (by omega) (by omega)
        · rw [if_neg c, if_pos (by omega), if_pos (by omega), Option.bind_some, hhi, Option.bind_some, hx]
          have y0 : ind (L ≤ v) = 0 := by simp [ind, c]
          have y1 : ind (x ≤ v) = 0 := by unfold ind; rw [if_neg (by omega)]
          have y2 : ind (H ≤ v) = 0 := by unfold ind; rw [if_neg (by omega)]
          exact tail n' le' mo (by omega) (by omega) (by omega) (by omega) (by omega) (by omega) (by omega) (by omega) (by omega) (by omega) (by omega) (by omega)
      rw [show k + 2 + 40 = (k + 1 + 40) + 1 by omega, sleuthlaw21_HistogramCounts.j1, hhi, Option.bind_some]
      by_cases c : H ≤ v
      · rw [if_pos c, wr_small (le + 1) (by omega) (by omega)]
        exact j2_ _ (by simp [ind, c])
      · rw [if_neg c]
        exact j2_ _ (by simp [ind, c])
    by_cases c : x ≤ v
    · rw [if_pos c, wr_small (n + 1) (by omega) (by omega)]
      exact j1_ _ (by omega) (by omega) (fun _ _ => by omega) (by simp [ind, c])
    · rw [if_neg c]
      exact j1_ _ (by omega) (by omega) (fun _ _ => by omega) (by simp [ind, c])

theorem HistogramCounts : sleuthlaw21_HistogramCounts.Pure := by
  intro l v hm hs hw hv
  refine ⟨2000, ?_⟩
  have hk : ∀ k, 400 ≤ k → sleuthlaw21_known.f k = some true := fun k h => at_rounds sleuthlaw21_known.mono h known_100
  have hval := vals_valid l
  have hlen := vals_len l
  have hhl := hst_len (vals l)
  unfold sleuthlaw21_HistogramCounts.f
  rw [hk _ (by omega), Option.bind_some, if_pos rfl, law_of 2000 (by omega) l (by omega), Option.bind_some, values_ok 2000 (by omega) l (by omega), Option.bind_some,
    atmost_ok 2000 v (hst (vals l)) (by omega) (by omega) (fun b hb => by have := hst_mem _ b hb; omega), Option.bind_some, sum_ok 2000 (hst (vals l)) (by omega) (by omega) (fun b hb => by have := hst_mem _ b hb; omega), Option.bind_some]
  dsimp only
  unfold hst
  rw [wsum_buck, wsum_buck, wsum_buck, wsum_buck, zsum_cnt _ _ hval, zsum_cnt _ _ hval, zsum_cnt _ _ hval, zsum_cnt _ _ hval]
  have := counts_loop v (vals l) hlen hval _ _ _ _ (vals l).length 0 2000 0 0 0 0 0 0 (by omega) (by omega) (by omega) (by omega) (by omega) (by omega) (by omega) (by omega) (by omega) (by omega) (by omega) (by omega) (by omega) (by omega) (by omega) (by omega) (by omega) (by omega) rfl rfl rfl rfl
  simpa using this

end Go.Proofs.Ytfnhicmjdfeanaa.Pure
