/- Keys of two sets taken together: sorted, equal neighbours taken together, and what is kept of them. No program in sight. -/
import Derived.Test.YtddhpkobingmhaaRowP
import Derived.Shelf.SlSortCmp.Insertion

namespace Go.Proofs.Ytddhpkobingmhaa.PB
open Go.RowKit Go.Proofs.YtddhpkobingmhaaW.PrintWords Go.Proofs.YtddhpkobingmhaaW.PrintLast
set_option linter.unusedVariables false

theorem inc_unique : ∀ (a b : List S52), Inc a → Inc b → (∀ x, x ∈ a ↔ x ∈ b) → a = b
  | [], [], _, _, _ => rfl
  | [], y :: b, _, _, h => absurd ((h y).mpr List.mem_cons_self) (by simp)
  | x :: a, [], _, _, h => absurd ((h x).mp List.mem_cons_self) (by simp)
  | x :: a, y :: b, ha, hb, h => by
    obtain ⟨ha1, ha2⟩ := List.pairwise_cons.mp ha
    obtain ⟨hb1, hb2⟩ := List.pairwise_cons.mp hb
    have e : x = y := by
      rcases List.mem_cons.mp ((h x).mp List.mem_cons_self) with e | hx
      · exact e
      · rcases List.mem_cons.mp ((h y).mpr List.mem_cons_self) with e | hy
        · exact e.symm
        · exact (bf_asymm (ha1 y hy) (hb1 x hx)).elim
    subst e
    rw [inc_unique a b ha2 hb2 (fun z => ?_)]
    constructor
    · intro hz
      rcases List.mem_cons.mp ((h z).mp (List.mem_cons_of_mem _ hz)) with e | hz2
      · exact (bf_irrefl _ (e ▸ ha1 z hz)).elim
      · exact hz2
    · intro hz
      rcases List.mem_cons.mp ((h z).mpr (List.mem_cons_of_mem _ hz)) with e | hz2
      · exact (bf_irrefl _ (e ▸ hb1 z hz)).elim
      · exact hz2
theorem sub_tail {a b : List S52} {x y : S52} (ha : Inc (x :: a)) (hb : Inc (y :: b)) (h : ∀ z ∈ x :: a, z ∈ y :: b) (e : x = y) : ∀ z ∈ a, z ∈ b := by
  intro z hz
  rcases List.mem_cons.mp (h z (List.mem_cons_of_mem _ hz)) with e2 | h2
  · exact (bf_irrefl _ (by have := (List.pairwise_cons.mp ha).1 z hz; rw [e, ← e2] at this; exact this)).elim
  · exact h2
theorem sub_skip {a b : List S52} {x y : S52} (ha : Inc (x :: a)) (hb : Inc (y :: b)) (h : ∀ z ∈ x :: a, z ∈ y :: b) (e : ¬ x = y) : ∀ z ∈ x :: a, z ∈ b := by
  have hx : x ∈ b := by
    rcases List.mem_cons.mp (h x List.mem_cons_self) with e2 | h2
    · exact absurd e2 e
    · exact h2
  intro z hz
  rcases List.mem_cons.mp (h z hz) with e2 | h2
  · subst e2
    rcases List.mem_cons.mp hz with e3 | h3
    · exact absurd e3.symm e
    · exact (bf_asymm ((List.pairwise_cons.mp ha).1 z h3) ((List.pairwise_cons.mp hb).1 x hx)).elim
  · exact h2
theorem len_sub : ∀ (a b : List S52), Inc a → Inc b → (∀ x ∈ a, x ∈ b) → a.length ≤ b.length
  | [], _, _, _, _ => Nat.zero_le _
  | x :: a, [], _, _, h => absurd (h x List.mem_cons_self) (by simp)
  | x :: a, y :: b, ha, hb, h => by
    have ha2 := (List.pairwise_cons.mp ha).2
    have hb2 := (List.pairwise_cons.mp hb).2
    by_cases e : x = y
    · have := len_sub a b ha2 hb2 (sub_tail ha hb h e)
      simpa using this
    · have := len_sub (x :: a) b ha hb2 (sub_skip ha hb h e)
      simp at this ⊢
      omega
theorem take_sub : ∀ (K : Nat) (a b : List S52), Inc a → Inc b → (∀ x ∈ a, x ∈ b) → ∀ x ∈ a, x ∈ b.take K → x ∈ a.take K
  | 0, _, _, _, _, _, x, _, h => by simp at h
  | K + 1, [], _, _, _, _, x, hx, _ => by simp at hx
  | K + 1, x :: a, [], _, _, h, z, hz, _ => absurd (h z hz) (by simp)
  | K + 1, x :: a, y :: b, ha, hb, h, z, hz, hk => by
    have ha2 := (List.pairwise_cons.mp ha).2
    have hb2 := (List.pairwise_cons.mp hb).2
    rw [List.take_succ_cons] at hk ⊢
    by_cases e : x = y
    · rcases List.mem_cons.mp hz with e2 | h2
      · exact List.mem_cons.mpr (.inl e2)
      · refine List.mem_cons_of_mem _ (take_sub K a b ha2 hb2 (sub_tail ha hb h e) z h2 ?_)
        rcases List.mem_cons.mp hk with e3 | h3
        · exact (bf_irrefl _ (by have := (List.pairwise_cons.mp ha).1 z h2; rw [e, ← e3] at this; exact this)).elim
        · exact h3
    · have hb3 := sub_skip ha hb h e
      have hk2 : z ∈ b.take K := by
        rcases List.mem_cons.mp hk with e3 | h3
        · have := hb3 z hz
          exact (bf_irrefl _ (by have := (List.pairwise_cons.mp hb).1 z this; rw [← e3] at this; exact this)).elim
        · exact h3
      have := take_sub K (x :: a) b ha hb2 hb3 z hz hk2
      have h5 : z ∈ (x :: a).take (K + 1) := (List.take_sublist_take_left (Nat.le_succ K)).subset this
      rwa [List.take_succ_cons] at h5
theorem take_eq : ∀ (K : Nat) (a b : List S52), Inc a → Inc b → (∀ x ∈ a, x ∈ b) → (∀ x ∈ b.take K, x ∈ a) → a.take K = b.take K
  | 0, _, _, _, _, _, _ => by simp
  | K + 1, [], [], _, _, _, _ => rfl
  | K + 1, [], y :: b, _, _, _, h2 => absurd (h2 y (by simp)) (by simp)
  | K + 1, x :: a, [], _, _, h, _ => absurd (h x List.mem_cons_self) (by simp)
  | K + 1, x :: a, y :: b, ha, hb, h, h2 => by
    have ha2 := (List.pairwise_cons.mp ha).2
    have hb2 := (List.pairwise_cons.mp hb).2
    by_cases e : x = y
    · subst e
      rw [List.take_succ_cons, List.take_succ_cons, take_eq K a b ha2 hb2 (sub_tail ha hb h rfl) (fun z hz => ?_)]
      rcases List.mem_cons.mp (h2 z (by rw [List.take_succ_cons]; exact List.mem_cons_of_mem _ hz)) with e3 | h3
      · exact (bf_irrefl _ (by have := (List.pairwise_cons.mp hb).1 z (List.mem_of_mem_take hz); rw [← e3] at this; exact this)).elim
      · exact h3
    · have hy := h2 y (by simp)
      have := sub_skip ha hb h e y hy
      exact (bf_irrefl _ ((List.pairwise_cons.mp hb).1 y this)).elim
/-- cp of a sorted row: in order, with the same keys. -/
theorem cp_sorted (l : List S52) (hs : ∀ i j, i < j → j < l.length → ¬ Bf (rd_T52 l (j : Int)) (rd_T52 l (i : Int))) : ∀ i, i ≤ l.length → Inc (cp l i) ∧ ∀ x, x ∈ cp l i ↔ ∃ k, k < i ∧ x = rd_T52 l (k : Int)
  | 0, _ => ⟨List.Pairwise.nil, fun x => ⟨fun h => by simp [cp] at h, fun ⟨k, h, _⟩ => absurd h (Nat.not_lt_zero k)⟩⟩
  | i + 1, hi => by
    obtain ⟨ih1, ih2⟩ := cp_sorted l hs i (by omega)
    by_cases h : 0 < i ∧ rd_T52 l (i : Int) = rd_T52 l ((i - 1 : Nat) : Int)
    · rw [cp, if_pos h]
      refine ⟨ih1, fun x => ?_⟩
      rw [ih2 x]
      constructor
      · rintro ⟨k, hk, e⟩; exact ⟨k, by omega, e⟩
      · rintro ⟨k, hk, e⟩
        by_cases hki : k = i
        · exact ⟨i - 1, by omega, by rw [e, hki, h.2]⟩
        · exact ⟨k, by omega, e⟩
    · rw [cp, if_neg h]
      constructor
      · refine List.pairwise_append.mpr ⟨ih1, List.pairwise_singleton _ _, ?_⟩
        intro y hy z hz
        rw [List.mem_singleton] at hz
        subst hz
        obtain ⟨k, hk, rfl⟩ := (ih2 y).mp hy
        by_cases hb : Bf (rd_T52 l (k : Int)) (rd_T52 l (i : Int))
        · exact hb
        · exfalso
          have h1 := hs k i hk (by omega)
          have e : rd_T52 l (k : Int) = rd_T52 l (i : Int) := by
            by_cases e : rd_T52 l (k : Int) = rd_T52 l (i : Int)
            · exact e
            · exact absurd (bf_tri hb e) h1
          apply h
          refine ⟨by omega, ?_⟩
          by_cases hk1 : k = i - 1
          · rw [← hk1]; exact e.symm
          · have h2 := hs k (i - 1) (by omega) (by omega)
            have h3 := hs (i - 1) i (by omega) (by omega)
            rw [e] at h2
            by_cases e2 : rd_T52 l (i : Int) = rd_T52 l ((i - 1 : Nat) : Int)
            · exact e2
            · exact absurd (bf_tri h3 e2) h2
      · intro x
        rw [List.mem_append, List.mem_singleton, ih2 x]
        constructor
        · rintro (⟨k, hk, e⟩ | e)
          · exact ⟨k, by omega, e⟩
          · exact ⟨i, by omega, e⟩
        · rintro ⟨k, hk, e⟩
          by_cases hki : k = i
          · exact .inr (hki ▸ e)
          · exact .inl ⟨k, by omega, e⟩
theorem mem_rd (l : List S52) (x : S52) : x ∈ l ↔ ∃ k, k < l.length ∧ x = rd_T52 l (k : Int) := by
  constructor
  · intro h
    obtain ⟨k, hk, e⟩ := List.mem_iff_getElem.mp h
    exact ⟨k, hk, by rw [rd52 l k hk, e]⟩
  · rintro ⟨k, hk, rfl⟩
    rw [rd52 l k hk]
    exact List.getElem_mem _
theorem cp_whole (l : List S52) (hs : ∀ i j, i < j → j < l.length → ¬ Bf (rd_T52 l (j : Int)) (rd_T52 l (i : Int))) : Inc (cp l l.length) ∧ ∀ x, x ∈ cp l l.length ↔ x ∈ l := by
  obtain ⟨h1, h2⟩ := cp_sorted l hs l.length (Nat.le_refl _)
  exact ⟨h1, fun x => by rw [h2 x, mem_rd l x]⟩
/-- What is kept of two sets, out of what is kept of each. -/
theorem merge_take (K : Nat) (l m W U : List S52) (hl : Inc l) (hm : Inc m) (hW : Inc W) (hU : Inc U) (hWm : ∀ x, x ∈ W ↔ x ∈ l ∨ x ∈ m) (hUm : ∀ x, x ∈ U ↔ x ∈ l.take K ∨ x ∈ m.take K) :
    U.take K = W.take K ∧ ((decide (K < l.length) || decide (K < m.length)) || decide (K < U.length)) = decide (K < W.length) := by
  have hUW : ∀ x ∈ U, x ∈ W := fun x hx => (hWm x).mpr (((hUm x).mp hx).imp List.mem_of_mem_take List.mem_of_mem_take)
  refine ⟨take_eq K U W hU hW hUW ?_, ?_⟩
  · intro x hx
    rcases (hWm x).mp (List.mem_of_mem_take hx) with h | h
    · exact (hUm x).mpr (.inl (take_sub K l W hl hW (fun y hy => (hWm y).mpr (.inl hy)) x h hx))
    · exact (hUm x).mpr (.inr (take_sub K m W hm hW (fun y hy => (hWm y).mpr (.inr hy)) x h hx))
  · have e1 := len_sub l W hl hW (fun y hy => (hWm y).mpr (.inl hy))
    have e2 := len_sub m W hm hW (fun y hy => (hWm y).mpr (.inr hy))
    have e3 := len_sub U W hU hW hUW
    by_cases h : K < W.length
    · rw [decide_eq_true h]
      by_cases h1 : K < l.length
      · simp [h1]
      · by_cases h2 : K < m.length
        · simp [h2]
        · have e : U = W := inc_unique U W hU hW (fun x => by rw [hUm x, hWm x, List.take_of_length_le (by omega), List.take_of_length_le (by omega)])
          simp [h1, h2, e, h]
    · rw [decide_eq_false h, decide_eq_false (by omega : ¬ K < l.length), decide_eq_false (by omega : ¬ K < m.length), decide_eq_false (by omega : ¬ K < U.length)]
      rfl
theorem mem_foldl (hs : ByteArray → Int) (x : S52) : ∀ (ts : List ByteArray) (l : List S52), x ∈ ts.foldl (fun l t => ins ⟨hs t, t⟩ l) l ↔ x ∈ l ∨ ∃ t ∈ ts, x = ⟨hs t, t⟩
  | [], l => by simp
  | t :: ts, l => by
    rw [List.foldl_cons, mem_foldl hs x ts, mem_ins]
    constructor
    · rintro ((e | h) | ⟨t', h, e⟩)
      · exact .inr ⟨t, List.mem_cons_self, e⟩
      · exact .inl h
      · exact .inr ⟨t', List.mem_cons_of_mem _ h, e⟩
    · rintro (h | ⟨t', h, e⟩)
      · exact .inl (.inr h)
      · rcases List.mem_cons.mp h with rfl | h
        · exact .inl (.inl e)
        · exact .inr ⟨t', h, e⟩
theorem mem_foldk (hs : ByteArray → Int) (ts : List ByteArray) (x : S52) : x ∈ foldk hs ts ↔ ∃ t ∈ ts, x = ⟨hs t, t⟩ := by
  unfold foldk
  rw [mem_foldl]
  simp
theorem mem_both (hs : ByteArray → Int) (ts us : List ByteArray) (x : S52) : x ∈ foldk hs (ts ++ us) ↔ x ∈ foldk hs ts ∨ x ∈ foldk hs us := by
  rw [mem_foldk, mem_foldk, mem_foldk]
  constructor
  · rintro ⟨t, h, e⟩
    rcases List.mem_append.mp h with h | h
    · exact .inl ⟨t, h, e⟩
    · exact .inr ⟨t, h, e⟩
  · rintro (⟨t, h, e⟩ | ⟨t, h, e⟩)
    · exact ⟨t, List.mem_append_left _ h, e⟩
    · exact ⟨t, List.mem_append_right _ h, e⟩
theorem swo_k : Go.Sort.SWO (ltOf kcmp) where
  irrefl x := by
    unfold ltOf
    rw [decide_eq_false]
    exact bf_irrefl x
  trans x y z h1 h2 := by
    unfold ltOf at *
    exact decide_eq_true (bf_trans (of_decide_eq_true h1) (of_decide_eq_true h2))
  ntrans x y z h1 h2 := by
    unfold ltOf at *
    have h1 := of_decide_eq_false h1
    have h2 := of_decide_eq_false h2
    refine decide_eq_false (fun h3 => ?_)
    by_cases e : x = y
    · subst e; exact h2 h3
    · by_cases e2 : y = z
      · subst e2; exact h1 h3
      · exact bf_irrefl x (bf_trans (bf_trans h3 (bf_tri h2 e2)) (bf_tri h1 e))
end Go.Proofs.Ytddhpkobingmhaa.PB
