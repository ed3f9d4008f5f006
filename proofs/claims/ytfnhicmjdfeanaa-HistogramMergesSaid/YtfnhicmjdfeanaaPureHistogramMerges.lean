/- HistogramMerges, in plain numbers and lists. -/
import Derived.Test.YtfnhicmjdfeanaaMath1
import Derived.Test.YtfnhicmjdfeanaaPHx38
-- NEEDS H: sleuthlaw21_HistogramMerges
namespace Go.Proofs.Ytfnhicmjdfeanaa.Pure
open Go.RowKit Go.Proofs.Ytfnhicmjdfeanaa.PH Go.Proofs.YtfnhicmjdfeanaaW.PrintWords Go.Proofs.YtfnhicmjdfeanaaW.PrintLast
set_option linter.unusedVariables false
set_option linter.unusedSimpArgs false

theorem sub_buck (g : Int → Int) (hg : ∀ n, 0 ≤ g n ∧ g n ≤ 1099511627776) : ∀ (d s : Nat) (f : Int → Int), s + d ≤ 305 → (∀ n : Int, (s : Int) ≤ n → 0 ≤ f n ∧ f n ≤ 1099511627776) →
    ((∃ m : Int, (s : Int) ≤ m ∧ m < s + d ∧ f m < g m) → subLoop (buckFrom s (vecFrom g s d)) (vec f) = some ([], 17)) ∧
    ((∀ m : Int, (s : Int) ≤ m → m < s + d → g m ≤ f m) → subLoop (buckFrom s (vecFrom g s d)) (vec f) = some (buckFrom 0 (vec (fun n => if (s : Int) ≤ n ∧ n < s + d then f n - g n else f n)), 0)) := by
  intro d
  induction d with
  | zero =>
    intro s f hs hf
    refine ⟨fun ⟨m, h1, h2, _⟩ => by omega, fun _ => ?_⟩
    simp only [vecFrom, List.range'_zero, List.map_nil, buckFrom, subLoop]
    congr 2
    refine congrArg _ (vec_congr (fun i _ _ => ?_))
    rw [if_neg (by omega)]
  | succ d ih =>
    intro s f hs hf
    rw [vecFrom_succ]
    simp only [buckFrom]
    have hgs := hg s
    have hfs := hf s (Int.le_refl _)
    by_cases e : g s = 0
    · rw [if_pos e, show (s : Int) + 1 = ((s + 1 : Nat) : Int) by omega]
      obtain ⟨ih1, ih2⟩ := ih (s + 1) f (by omega) (fun n hn => hf n (by omega))
      refine ⟨fun ⟨m, h1, h2, h3⟩ => ih1 ⟨m, ?_, by omega, h3⟩, fun h => ?_⟩
      · by_cases c : m = s
        · subst c; omega
        · omega
      · rw [ih2 (fun m h1 h2 => h m (by omega) (by omega))]
        congr 2
        refine congrArg _ (vec_congr (fun i _ _ => ?_))
        by_cases c : i = s
        · subst c
          rw [if_neg (by omega), if_pos (by omega), e]; omega
        · by_cases c2 : ((s + 1 : Nat) : Int) ≤ i ∧ i < ((s + 1 : Nat) : Int) + d
          · rw [if_pos c2, if_pos (by omega)]
          · rw [if_neg c2, if_neg (by omega)]
    · rw [if_neg e]
      simp only [subLoop]
      rw [if_pos (by omega), if_pos (by omega), vec_at f s (by omega) (by omega), wr_small _ (by omega) (by omega)]
      by_cases c0 : f s - g s < 0
      · rw [if_pos c0]
        exact ⟨fun _ => rfl, fun h => by have := h s (by omega) (by omega); omega⟩
      · rw [if_neg c0, vec_set f s (by omega) (by omega), show (s : Int) + 1 = ((s + 1 : Nat) : Int) by omega]
        obtain ⟨ih1, ih2⟩ := ih (s + 1) (fun n => if n = (s : Int) then f s - g s else f n) (by omega) (fun n hn => by rw [if_neg (by omega)]; exact hf n (by omega))
        refine ⟨fun ⟨m, h1, h2, h3⟩ => ?_, fun h => ?_⟩
        · have hm : m ≠ s := fun c => by subst c; omega
          exact ih1 ⟨m, by omega, by omega, by rw [if_neg hm]; exact h3⟩
        · rw [ih2 (fun m h1 h2 => by rw [if_neg (by omega)]; exact h m (by omega) (by omega))]
          congr 2
          refine congrArg _ (vec_congr (fun i _ _ => ?_))
          by_cases c : i = s
          · subst c
            rw [if_neg (by omega), if_pos rfl, if_pos (by omega)]
          · by_cases c2 : ((s + 1 : Nat) : Int) ≤ i ∧ i < ((s + 1 : Nat) : Int) + d
            · rw [if_pos c2, if_neg c, if_pos (by omega)]
            · rw [if_neg c2, if_neg c, if_neg (by omega)]
theorem subtract_ok (f g : Int → Int) (hf : ∀ n, 0 ≤ f n ∧ f n ≤ 1099511627776) (hg : ∀ n, 0 ≤ g n ∧ g n ≤ 1099511627776) (h : ∀ n : Int, 0 ≤ n → n < 305 → g n ≤ f n) :
    histogram_Subtract.f (buckFrom 0 (vec f)) (buckFrom 0 (vec g)) = some (buckFrom 0 (vec (fun n => f n - g n)), 0) := by
  unfold histogram_Subtract.f
  rw [accum_zero f hf, Option.bind_some]
  have h2 := (sub_buck g hg 305 0 f (by omega) (fun n _ => hf n)).2 (fun m h0 h1 => h m (by omega) (by omega))
  rw [show ((0 : Nat) : Int) = 0 from rfl, show vecFrom g 0 305 = vec g from rfl] at h2
  rw [h2, vec_congr (g := fun n => f n - g n) (fun i h0 h1 => by rw [if_pos ⟨h0, by omega⟩])]
theorem subtract_bad (f g : Int → Int) (hf : ∀ n, 0 ≤ f n ∧ f n ≤ 1099511627776) (hg : ∀ n, 0 ≤ g n ∧ g n ≤ 1099511627776) (h : ∃ n : Int, 0 ≤ n ∧ n < 305 ∧ f n < g n) :
    histogram_Subtract.f (buckFrom 0 (vec f)) (buckFrom 0 (vec g)) = some ([], 17) := by
  unfold histogram_Subtract.f
  rw [accum_zero f hf, Option.bind_some]
  obtain ⟨n, h0, h1, h2⟩ := h
  have h2 := (sub_buck g hg 305 0 f (by omega) (fun n _ => hf n)).1 ⟨n, by omega, by omega, h2⟩
  rw [show ((0 : Nat) : Int) = 0 from rfl, show vecFrom g 0 305 = vec g from rfl] at h2
  exact h2
theorem t62_inj : ∀ (a b : List S67), a.map t62 = b.map t62 → a = b
  | [], [], _ => rfl
  | [], _ :: _, h => by simp at h
  | _ :: _, [], h => by simp at h
  | x :: a, y :: b, h => by
    simp only [List.map_cons, List.cons.injEq] at h
    obtain ⟨h1, h2⟩ := h
    rw [t62_inj a b h2]
    cases x; cases y
    simp only [t62, S62.mk.injEq] at h1
    rw [h1.1, h1.2]
theorem conf_loop (A B : List Int) : ∀ (d i k : Nat) (b : Bool), i + d = 305 → 2 * d + 1000 < k → (b = true ∨ ∃ m : Int, (i : Int) ≤ m ∧ m < 305 ∧ cnt A m < cnt B m) →
    sleuthlaw21_HistogramMerges.l0 k 17 b i (hst A) (hst B) [] = some true := by
  intro d
  have ha := hst_len A
  have hb := hst_len B
  induction d with
  | zero =>
    intro i k b hi hk h
    have e : b = true := by
      rcases h with h | ⟨m, h1, h2, _⟩
      · exact h
      · omega
    subst e
    obtain ⟨k, rfl⟩ : ∃ m, k = m + 1 := ⟨k - 1, by omega⟩
    rw [sleuthlaw21_HistogramMerges.l0, if_neg (by omega), if_pos rfl, if_pos rfl]
    rfl
  | succ d ih =>
    intro i k b hi hk h
    obtain ⟨k, rfl⟩ : ∃ m, k = m + 2 := ⟨k - 2, by omega⟩
    have tail : ∀ b', (b' = true ∨ ∃ m : Int, ((i + 1 : Nat) : Int) ≤ m ∧ m < 305 ∧ cnt A m < cnt B m) → sleuthlaw21_HistogramMerges.j2 (k + 1) 17 b' i (hst A) (hst B) [] = some true := by
      intro b' h'
      rw [sleuthlaw21_HistogramMerges.j2, if_neg (by omega), wr_succ i (by omega)]
      exact ih (i + 1) k b' (by omega) (by omega) h'
    rw [sleuthlaw21_HistogramMerges.l0, if_pos (by omega)]
    cases b with
    | true => rw [if_pos rfl]; exact tail true (.inl rfl)
    | false =>
      rw [if_neg (by decide), at_ok _ _ _ (by omega) (by omega), Option.bind_some, at_ok _ _ _ (by omega) (by omega), Option.bind_some]
      unfold hst at *
      rw [at_vec _ _ (by omega) (by omega), at_vec _ _ (by omega) (by omega)]
      refine tail _ ?_
      by_cases c : cnt B i > cnt A i
      · exact .inl (decide_eq_true c)
      · rcases h with h | ⟨m, h1, h2, h3⟩
        · cases h
        · refine .inr ⟨m, ?_, h2, h3⟩
          by_cases e : m = i
          · subst e; omega
          · omega
theorem good_loop (A B : List Int) (hA : A.length ≤ 40) (hB : B.length ≤ 40) (hvA : valid A) (hvB : valid B) (hle : ∀ n : Int, 0 ≤ n → n < 305 → cnt B n ≤ cnt A n) : ∀ (d i k : Nat), i + d = 305 → 2 * d + 2000 < k →
    sleuthlaw21_HistogramMerges.l0 k 0 false i (hst A) (hst B) (buckFrom 0 (vec (fun n => cnt A n - cnt B n))) = some true := by
  intro d
  have ha := hst_len A
  have hb := hst_len B
  have hw := buck_len305 (fun n => cnt A n - cnt B n)
  induction d with
  | zero =>
    intro i k hi hk
    obtain ⟨k, rfl⟩ : ∃ m, k = m + 1 := ⟨k - 1, by omega⟩
    rw [sleuthlaw21_HistogramMerges.l0, if_neg (by omega), if_neg (by decide), if_pos rfl]
    have e : vec (fun n => cnt A n - cnt B n) = vec (fun n => if 0 ≤ n ∧ n < 305 then cnt A n - cnt B n else 0) := vec_congr (fun n h0 h1 => by rw [if_pos ⟨h0, h1⟩])
    have hs : isum (vec (fun n => cnt A n - cnt B n)) + isum (vec (cnt B)) = isum (vec (cnt A)) := by
      have := isum_add (fun n => cnt A n - cnt B n) (cnt B) 305 0
      unfold vec
      rw [← this]
      congr 1
      exact congrArg (fun f => vecFrom f 0 305) (funext fun n => by omega)
    rw [isum_cnt A hvA, isum_cnt B hvB] at hs
    have hc := vec_check k (fun n => if 0 ≤ n ∧ n < 305 then cnt A n - cnt B n else 0) (by omega) (fun n => by
      by_cases c : 0 ≤ n ∧ n < 305
      · have := hle n c.1 c.2; have := cnt_range A n; have := cnt_range B n; rw [if_pos c]; omega
      · rw [if_neg c]; omega) (by rw [← e]; omega)
    rw [← e] at hc
    rw [hc]
    rfl
  | succ d ih =>
    intro i k hi hk
    obtain ⟨k, rfl⟩ : ∃ m, k = m + 2 := ⟨k - 2, by omega⟩
    have h1 := hle i (by omega) (by omega)
    have r1 := cnt_range A i
    have r2 := cnt_range B i
    rw [sleuthlaw21_HistogramMerges.l0, if_pos (by omega), if_neg (by decide), at_ok _ _ _ (by omega) (by omega), Option.bind_some, at_ok _ _ _ (by omega) (by omega), Option.bind_some]
    have ea : atS (hst A) i = cnt A i := by unfold hst; exact at_vec _ _ (by omega) (by omega)
    have eb : atS (hst B) i = cnt B i := by unfold hst; exact at_vec _ _ (by omega) (by omega)
    rw [ea, eb, show decide (cnt B i > cnt A i) = false from decide_eq_false (by omega), sleuthlaw21_HistogramMerges.j2, if_pos rfl, at_ok _ _ _ (by omega) (by omega), Option.bind_some, at_ok _ _ _ (by omega) (by omega), Option.bind_some, at_ok _ _ _ (by omega) (by omega), Option.bind_some, ea, eb, at_vec _ _ (by omega) (by omega), wr_small _ (by omega) (by omega), if_pos rfl, wr_succ i (by omega)]
    exact ih (i + 1) k (by omega) (by omega)

theorem HistogramMerges : sleuthlaw21_HistogramMerges.Pure := by
  intro l m hm hs hw hm2 hs2 hw2
  refine ⟨400000, ?_⟩
  have hk : ∀ k, 400 ≤ k → sleuthlaw21_known.f k = some true := fun k h => at_rounds sleuthlaw21_known.mono h known_100
  have hvA := vals_valid l
  have hlA := vals_len l
  have hvB := vals_valid m
  have hlB := vals_len m
  unfold sleuthlaw21_HistogramMerges.f
  rw [hk _ (by omega), Option.bind_some, if_pos rfl, law_of _ (by omega) l (by omega), Option.bind_some, law_of _ (by omega) m (by omega), Option.bind_some, values_ok _ (by omega) l (by omega), values_ok _ (by omega) m (by omega)]
  generalize vals l = A at *
  generalize vals m = B at *
  have rA := cnt_range A
  have rB := cnt_range B
  have hvAB : valid (A ++ B) := fun v hv => by
    rcases List.mem_append.mp hv with h | h
    · exact hvA v h
    · exact hvB v h
  have hlAB : (A ++ B).length ≤ 80 := by rw [List.length_append]; omega
  have lA := hst_len A
  have lB := hst_len B
  have lAB := hst_len (A ++ B)
  have e1 : vec (fun n => cnt A n + cnt B n) = vec (cnt (A ++ B)) := vec_congr (fun i _ _ => (cnt_append A B i).symm)
  have e2 : vec (fun n => cnt B n + cnt A n) = vec (cnt (A ++ B)) := vec_congr (fun i _ _ => by rw [cnt_append]; omega)
  have m1 : histogram_Merge.f 400000 (hst A) (hst B) = some (hst (A ++ B), 0) := by
    unfold hst
    rw [merge_ok _ (by omega) _ _ (fun n => by have := rA n; omega) (fun n => by have := rB n; omega), e1, isum_cnt _ hvAB, if_neg (by omega)]
  have m2 : histogram_Merge.f 400000 (hst B) (hst A) = some (hst (A ++ B), 0) := by
    unfold hst
    rw [merge_ok _ (by omega) _ _ (fun n => by have := rB n; omega) (fun n => by have := rA n; omega), e2, isum_cnt _ hvAB, if_neg (by omega)]
  have s1 : histogram_Subtract.f (hst (A ++ B)) (hst A) = some (hst B, 0) := by
    unfold hst
    rw [subtract_ok _ _ (cnt_bd _ (by omega)) (cnt_bd _ (by omega)) (fun n _ _ => by rw [cnt_append]; have := rB n; omega)]
    congr 2
    exact congrArg _ (vec_congr (fun i _ _ => by rw [cnt_append]; omega))
  rw [m1, Option.bind_some]
  dsimp only
  rw [m2, Option.bind_some]
  dsimp only
  rw [s1, Option.bind_some]
  dsimp only
  rw [if_pos rfl, if_pos rfl, if_pos rfl, Option.bind_some, Option.bind_some, if_pos (by omega), count_ok _ _ hvAB (by omega) (by omega), Option.bind_some]
  obtain ⟨b1, hb1, ib1⟩ := same_ok 400000 (hst (A ++ B)) ((hst (A ++ B)).map t62) (by omega) (by omega)
  rw [hb1, ib1.mpr rfl, Option.bind_some, if_pos rfl, equal_self _ _ (by omega) (by omega), Option.bind_some, if_pos rfl, equal_self _ _ (by omega) (by omega), Option.bind_some, if_pos rfl]
  obtain ⟨b2, hb2, ib2⟩ := equal_ok 400000 (hst A) (hst B) (by omega) (by omega)
  rw [hb2, Option.bind_some, Option.bind_some, count_ok _ _ hvA (by omega) (by omega), Option.bind_some, Option.bind_some, count_ok _ _ hvB (by omega) (by omega), Option.bind_some]
  have j0 : sleuthlaw21_HistogramMerges.j0 400000 false (hst A) (hst B) = some true := by
    rw [sleuthlaw21_HistogramMerges.j0, if_neg (by decide)]
    by_cases c : ∃ n : Int, 0 ≤ n ∧ n < 305 ∧ cnt A n < cnt B n
    · have hsub : histogram_Subtract.f (hst A) (hst B) = some ([], 17) := by
        unfold hst; exact subtract_bad _ _ (cnt_bd _ (by omega)) (cnt_bd _ (by omega)) c
      rw [hsub, Option.bind_some]
      exact conf_loop A B 305 0 _ false (by omega) (by omega) (.inr c)
    · have hle : ∀ n : Int, 0 ≤ n → n < 305 → cnt B n ≤ cnt A n := fun n h0 h1 => by
        by_cases q : cnt B n ≤ cnt A n
        · exact q
        · exact absurd ⟨n, h0, h1, by omega⟩ c
      have hsub : histogram_Subtract.f (hst A) (hst B) = some (buckFrom 0 (vec (fun n => cnt A n - cnt B n)), 0) := by
        unfold hst; exact subtract_ok _ _ (cnt_bd _ (by omega)) (cnt_bd _ (by omega)) hle
      rw [hsub, Option.bind_some]
      exact good_loop A B (by omega) (by omega) hvA hvB hle 305 0 _ (by omega) (by omega)
  by_cases c : ((((hst A).map t62).length : Nat) : Int) = ((((hst B).map t62).length : Nat) : Int)
  · rw [if_pos c]
    obtain ⟨b3, hb3, ib3⟩ := same_ok 400000 (hst A) ((hst B).map t62) (by omega) (by omega)
    rw [Option.bind_some, count_ok _ _ hvB (by omega) (by omega), Option.bind_some, hb3, Option.bind_some]
    have e : b2 = b3 := by
      have h : b2 = true ↔ b3 = true := ⟨fun h => ib3.mpr (by rw [ib2.mp h]), fun h => ib2.mpr (t62_inj _ _ (ib3.mp h))⟩
      cases b2 <;> cases b3 <;> simp_all
    rw [e, show (b3 != b3) = false by cases b3 <;> rfl]
    exact j0
  · rw [if_neg c]
    have e : b2 = false := by
      cases b2 with
      | false => rfl
      | true => exact absurd (by rw [ib2.mp rfl]) c
    rw [e]
    exact j0
end Go.Proofs.Ytfnhicmjdfeanaa.Pure
