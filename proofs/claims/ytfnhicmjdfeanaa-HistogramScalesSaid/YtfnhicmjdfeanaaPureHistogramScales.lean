/- HistogramScales, in plain numbers and lists. -/
import Derived.Test.YtfnhicmjdfeanaaMath5
import Derived.Test.YtfnhicmjdfeanaaPHx39
-- NEEDS H: sleuthlaw21_HistogramScales
namespace Go.Proofs.Ytfnhicmjdfeanaa.Pure
open Go.RowKit Go.Proofs.Ytfnhicmjdfeanaa.PH Go.Proofs.YtfnhicmjdfeanaaW.PrintWords Go.Proofs.YtfnhicmjdfeanaaW.PrintLast
set_option linter.unusedVariables false
theorem scales_loop (l : List Int) (hval : valid l) (hl : l.length ≤ 40) (b : Int) (h0 : 0 ≤ b) (h1 : l = [] ∨ b ≤ 1048576) (hs : (l.length : Int) * b ≤ 1048576) :
    ∀ (d i k : Nat), i + d = 305 → 2 * d + 2000 < k → sleuthlaw21_HistogramScales.l0 k b (l.length : Int) 0 i (hst l) (buckFrom 0 (vec (fun n => cnt l n * b))) = some true := by
  intro d
  have hx := buck_len305 (fun n => cnt l n * b)
  have hh := hst_len l
  have hsum : ∀ c : Int, isum (vec (fun n => cnt l n * c)) = l.length * c := by
    intro c
    unfold vec
    rw [isum_mul]
    have := isum_cnt l hval
    unfold vec at this
    rw [this]
  induction d with
  | zero =>
    intro i k hi hk
    obtain ⟨k, rfl⟩ : ∃ m, k = m + 1 := ⟨k - 1, by omega⟩
    have hm : histogram_Merge.f k (hst l) (hst l) = some (buckFrom 0 (vec (fun n => cnt l n * 2)), 0) := by
      have e : vec (fun n => cnt l n + cnt l n) = vec (fun n => cnt l n * 2) := vec_congr (fun i _ _ => by omega)
      unfold hst
      rw [merge_ok k (by omega) _ _ (fun n => by have := cnt_range l n; omega) (fun n => by have := cnt_range l n; omega), e, hsum 2, if_neg (by omega)]
    have ht : histogram_Scale.f k (hst l) 2 = some (buckFrom 0 (vec (fun n => cnt l n * 2)), 0) := by
      unfold histogram_Scale.f
      rw [if_neg (by omega), hst_total k (by omega) l hval (by omega), Option.bind_some, scale_ok l hl 2 (by omega) (by by_cases h : l = []; exact .inl h; exact .inr (by omega))]
      by_cases h : (l.length : Int) > 0
      · have hd : 26214 ≤ (1048576 : Int) / (l.length : Int) := by
          apply Int.le_ediv_of_mul_le h
          have : 26214 * (l.length : Int) ≤ 26214 * 40 := by omega
          omega
        have hd2 : (1048576 : Int) / (l.length : Int) ≤ 1048576 := Int.ediv_le_self _ (by omega)
        rw [if_pos h, wr_small _ (by omega) (by omega), if_neg (by omega)]
      · rw [if_neg h]
    have hx2 := buck_len305 (fun n => cnt l n * 2)
    rw [sleuthlaw21_HistogramScales.l0, if_neg (by omega), hm, Option.bind_some, ht, Option.bind_some, if_pos rfl]
    rw [vec_check k _ (by omega) (fun n => by have := scaled_bd l hl b h0 h1 n; omega) (by rw [hsum b]; omega), Option.bind_some, if_pos rfl, if_pos rfl, if_pos rfl]
    dsimp only
    rw [equal_self k _ (by omega) (by omega), Option.bind_some, if_pos rfl]
    by_cases h : (l.length : Int) > 0
    · rw [if_pos h]
    · rw [if_neg h]
      have : l = [] := by
        cases l with
        | nil => rfl
        | cons a t => exact absurd (show ((a :: t).length : Int) > 0 by rw [List.length_cons]; omega) h
      subst this
      rw [cnt_nil_mul]
      rfl
  | succ d ih =>
    intro i k hi hk
    obtain ⟨k, rfl⟩ : ∃ m, k = m + 1 := ⟨k - 1, by omega⟩
    have hb := scaled_bd l hl b h0 h1 i
    rw [sleuthlaw21_HistogramScales.l0, if_pos (by omega), at_ok _ _ _ (by omega) (by omega), Option.bind_some, at_ok _ _ _ (by omega) (by omega), Option.bind_some, at_vec _ _ (by omega) (by omega)]
    unfold hst
    rw [at_vec _ _ (by omega) (by omega), wr_small _ (by omega) (by omega), if_pos rfl, wr_succ i (by omega)]
    exact ih (i + 1) k (by omega) (by omega)

theorem HistogramScales : sleuthlaw21_HistogramScales.Pure := by
  intro l b hm hs hw hb
  refine ⟨400000, ?_⟩
  have hk : ∀ k, 400 ≤ k → sleuthlaw21_known.f k = some true := fun k h => at_rounds sleuthlaw21_known.mono h known_100
  have hval := vals_valid l
  have hlen := vals_len l
  unfold sleuthlaw21_HistogramScales.f
  rw [hk _ (by omega), Option.bind_some, if_pos rfl, law_of _ (by omega) l (by omega), Option.bind_some, hst_total _ (by omega) _ hval (by omega), Option.bind_some]
  generalize vals l = L at *
  -- the full histogram
  have hfull : histogram_Add.f 400000 [] 7 1048576 = some (buckFrom 0 (vec (fun i => cnt [] i + if i = bix 7 then 1048576 else 0)), 0) := by
    have h := add_ok 400000 (by omega) [] (fun v hv => by simp at hv) (by simp) 7 1048576 (by omega) (by omega) (by omega) (by omega)
    rw [hst_nil] at h
    rw [h, if_neg (by simp)]
  have hr := bix_range 7 (by omega) (by omega)
  have hmerge : histogram_Merge.f 400000 (buckFrom 0 (vec (fun i => cnt [] i + if i = bix 7 then 1048576 else 0))) (hst L) = if (L.length : Int) > 0 then some ([], 20) else some (buckFrom 0 (vec (fun n => (cnt [] n + if n = bix 7 then 1048576 else 0) + cnt L n)), 0) := by
    unfold hst
    have c0 : ∀ n, cnt [] n = 0 := fun _ => rfl
    rw [merge_ok _ (by omega) _ _ (fun n => by rw [c0]; split <;> omega) (fun n => by have := cnt_range L n; omega)]
    have e : isum (vec (fun n => (cnt [] n + if n = bix 7 then 1048576 else 0) + cnt L n)) = 1048576 + L.length := by
      unfold vec
      rw [isum_add, isum_add, isum_one, if_pos (by omega)]
      have h1 := isum_cnt L hval
      have h2 := isum_cnt [] (fun v hv => by simp at hv)
      unfold vec at h1 h2
      rw [h1, h2]
      simp
    rw [e]
    by_cases h : (L.length : Int) > 0
    · rw [if_pos h, if_pos (by omega)]
    · rw [if_neg h, if_neg (by omega)]
  have j0 : ∀ x e, histogram_Scale.f 400000 (hst L) b = some (x, e) → sleuthlaw21_HistogramScales.j0 400000 b (L.length : Int) e false (hst L) x = some true := by
    intro x e hx
    unfold histogram_Scale.f at hx
    rw [show (400000 : Nat) = 399999 + 1 from rfl, sleuthlaw21_HistogramScales.j0, if_neg (by decide)]
    by_cases c1 : b < 0
    · rw [if_pos c1] at hx ⊢
      obtain ⟨rfl, rfl⟩ := Prod.mk.inj (Option.some.inj hx)
      rfl
    · rw [if_neg c1, hst_total _ (by omega) _ hval (by omega), Option.bind_some] at hx
      rw [if_neg c1]
      by_cases c2 : (L.length : Int) > 0
      · have hd0 : 0 ≤ (1048576 : Int) / (L.length : Int) := Int.ediv_nonneg (by omega) (by omega)
        have hd2 : (1048576 : Int) / (L.length : Int) ≤ 1048576 := Int.ediv_le_self _ (by omega)
        rw [if_pos c2, wr_small _ (by omega) (by omega)] at hx
        rw [if_pos c2, if_neg (by omega), wr_small _ (by omega) (by omega)]
        by_cases c3 : b > (1048576 : Int) / (L.length : Int)
        · rw [if_pos c3] at hx ⊢
          obtain ⟨rfl, rfl⟩ := Prod.mk.inj (Option.some.inj hx)
          rfl
        · rw [if_neg c3, scale_ok L hlen b (by omega) (.inr (by omega))] at hx
          obtain ⟨rfl, rfl⟩ := Prod.mk.inj (Option.some.inj hx)
          have hsb : (L.length : Int) * b ≤ 1048576 := by
            have h1 : (L.length : Int) * b ≤ (L.length : Int) * ((1048576 : Int) / (L.length : Int)) := Int.mul_le_mul_of_nonneg_left (by omega) (by omega)
            have h2 := Int.mul_ediv_add_emod 1048576 (L.length : Int)
            have h3 := Int.emod_nonneg 1048576 (show (L.length : Int) ≠ 0 by omega)
            omega
          rw [if_neg c3, show (399999 : Nat) = 399998 + 1 from rfl, sleuthlaw21_HistogramScales.j1]
          exact scales_loop L hval hlen b (by omega) (.inr (by omega)) hsb 305 0 399998 (by omega) (by omega)
      · have hnil : L = [] := by
          cases L with
          | nil => rfl
          | cons a t => exact absurd (show ((a :: t).length : Int) > 0 by rw [List.length_cons]; omega) c2
        rw [if_neg c2, scale_ok L hlen b (by omega) (.inl hnil)] at hx
        obtain ⟨rfl, rfl⟩ := Prod.mk.inj (Option.some.inj hx)
        rw [if_neg c2, show (399999 : Nat) = 399998 + 1 from rfl, sleuthlaw21_HistogramScales.j1]
        exact scales_loop L hval hlen b (by omega) (.inl hnil) (by rw [hnil]; simp) 305 0 399998 (by omega) (by omega)
  obtain ⟨⟨x, e⟩, hx⟩ : ∃ p, histogram_Scale.f 400000 (hst L) b = some p := by
    unfold histogram_Scale.f
    by_cases c1 : b < 0
    · rw [if_pos c1]; exact ⟨_, rfl⟩
    · rw [if_neg c1, hst_total _ (by omega) _ hval (by omega), Option.bind_some]
      by_cases c2 : (L.length : Int) > 0
      · have hd2 : (1048576 : Int) / (L.length : Int) ≤ 1048576 := Int.ediv_le_self _ (by omega)
        have hd0 : 0 ≤ (1048576 : Int) / (L.length : Int) := Int.ediv_nonneg (by omega) (by omega)
        rw [if_pos c2, wr_small _ (by omega) (by omega)]
        by_cases c3 : b > (1048576 : Int) / (L.length : Int)
        · rw [if_pos c3]; exact ⟨_, rfl⟩
        · rw [if_neg c3, scale_ok L hlen b (by omega) (.inr (by omega))]; exact ⟨_, rfl⟩
      · have hnil : L = [] := by
          cases L with
          | nil => rfl
          | cons a t => exact absurd (show ((a :: t).length : Int) > 0 by rw [List.length_cons]; omega) c2
        rw [if_neg c2, scale_ok L hlen b (by omega) (.inl hnil)]; exact ⟨_, rfl⟩
  rw [hx, Option.bind_some, hfull, Option.bind_some, hmerge]
  dsimp only
  by_cases c : (L.length : Int) > 0
  · rw [if_pos c, Option.bind_some]
    dsimp only
    have hq : ((L.length : Int) == 0) = false := beq_eq_false_iff_ne.mpr (by omega)
    rw [if_pos rfl, hq, if_neg (by decide), if_neg (by decide)]
    exact j0 x e hx
  · rw [if_neg c, Option.bind_some]
    dsimp only
    have hq : ((L.length : Int) == 0) = true := beq_iff_eq.mpr (by omega)
    rw [if_pos rfl, hq, if_neg (by decide), if_pos rfl]
    exact j0 x e hx
end Go.Proofs.Ytfnhicmjdfeanaa.Pure
