/- What a log comes to, plainly: the different events in order count as the list does; later events do not change what was. No walk. -/
import Derived.Test.YtcjfgejiknlpfaaGreatSq38
import Derived.Test.YtcjfgejiknlpfaaGreatSq18
import Derived.Test.YtcjfgejiknlpfaaGreatRes
namespace Go.Proofs.YtcjfgejiknlpfaaGreat.PI
open Go.RowKit Go.Proofs.YtcjfgejiknlpfaaGreatW.PrintWords
set_option linter.unusedVariables false
set_option linter.unusedSimpArgs false
theorem ded_keys (l : List S50) : ∀ x ∈ l, x.f0 ∈ (ded l).map (fun x => x.f0) := snoc_ind (p := fun l => ∀ x ∈ l, x.f0 ∈ (ded l).map (fun x => x.f0)) (fun x hx => by cases hx) (fun l e ih x hx => by
  rw [ded_snoc]
  unfold dedS
  rcases List.mem_append.mp hx with hx | hx
  · have h := ih x hx
    split
    · exact h
    · rw [List.map_append]; exact List.mem_append_left _ h
  · have e1 : x = e := by simpa using hx
    subst e1
    split
    · assumption
    · rw [List.map_append]; simp) l
theorem ded_cp (A : List S50) : ∀ i, i ≤ A.length → ded (cp A i) = ded (A.take i)
  | 0, _ => rfl
  | i + 1, h => by
    have ih := ded_cp A i (by omega)
    rw [take_rd A i (by omega), ded_snoc]
    by_cases c : 0 < i ∧ rd_T50 A (i : Int) = rd_T50 A ((i - 1 : Nat) : Int)
    · rw [cp_hit A i c.1 c.2, ih]
      have hm : rd_T50 A (i : Int) ∈ A.take i := by
        rw [c.2, rd27_at A (i - 1) (by omega)]
        exact List.mem_iff_getElem.mpr ⟨i - 1, by rw [List.length_take]; omega, by rw [List.getElem_take]⟩
      unfold dedS
      rw [if_pos (ded_keys _ _ hm)]
    · have e : cp A (i + 1) = cp A i ++ [rd_T50 A (i : Int)] := by rw [cp, if_neg c]
      rw [e, ded_snoc, ih]
theorem cp_sub (A : List S50) : ∀ i, i ≤ A.length → (cp A i).Sublist (A.take i)
  | 0, _ => List.Sublist.refl _
  | i + 1, h => by
    have ih := cp_sub A i (by omega)
    rw [take_rd A i (by omega), cp]
    split
    · exact ih.trans (List.sublist_append_left _ _)
    · exact ih.append (List.Sublist.refl _)
theorem sdd_ord (l : List S50) : Ord (sdd l) := by
  have h := cp_sub (srt l) (srt l).length (Nat.le_refl _)
  rw [List.take_length] at h
  exact (srt_ord l).sublist h
theorem order_sdd (l : List S50) : orderE (sdd l) = orderE l := by
  have h : srt (sdd l) = sdd l := (srt_unique (List.Perm.refl _) (sdd_ord l)).symm
  show ded (srt (sdd l)) = ded (srt l)
  rw [h]
  unfold sdd
  rw [ded_cp _ _ (Nat.le_refl _), List.take_length]
theorem sdd_mem {l : List S50} {x : S50} (h : x ∈ sdd l) : x ∈ l := by
  have h1 := cp_sub (srt l) (srt l).length (Nat.le_refl _)
  rw [List.take_length] at h1
  exact (srt_perm l).subset (h1.subset h)
/-! ### later events -/
theorem upTo_all {t : Int} {l : List S50} (h : ∀ x ∈ l, x.f1 ≤ t) : upTo t l = l := by
  unfold upTo
  rw [List.filter_eq_self]
  intro x hx
  have := h x hx
  simp; omega
theorem upTo_app (t : Int) (l m : List S50) : upTo t (l ++ m) = upTo t l ++ upTo t m := List.filter_append ..
theorem upTo_fold {t : Int} : ∀ (B D : List S50), (∀ x ∈ B, t < x.f1) → upTo t (B.foldl dedS D) = upTo t D
  | [], D, _ => rfl
  | e :: B, D, h => by
    rw [List.foldl_cons, upTo_fold B _ (fun x hx => h x (by simp [hx]))]
    unfold dedS
    split
    · rfl
    · rw [upTo_app]
      have : upTo t [e] = [] := by
        have := h e (by simp)
        unfold upTo
        simp [this]
      rw [this, List.append_nil]
theorem bf_at {x y : S50} (h : x.f1 < y.f1) : Bf x y := by
  unfold Bf ecmp thn icmp
  rw [if_pos h, if_neg (by decide)]
  decide
theorem srt_late {t : Int} {x y : List S50} (hx : ∀ a ∈ x, a.f1 ≤ t) (hy : ∀ b ∈ y, t < b.f1) : srt (x ++ y) = srt x ++ srt y := by
  refine (srt_unique ((srt_perm x).append (srt_perm y)) ?_).symm
  refine List.pairwise_append.mpr ⟨srt_ord x, srt_ord y, fun a ha b hb hba => ?_⟩
  have h1 := hx a ((srt_perm x).subset ha)
  have h2 := hy b ((srt_perm y).subset hb)
  exact bf_asymm hba (bf_at (by omega))
theorem late_order {t : Int} {x y : List S50} (hx : ∀ a ∈ x, a.f1 ≤ t) (hy : ∀ b ∈ y, t < b.f1) : upTo t (orderE (x ++ y)) = orderE x := by
  unfold orderE
  rw [srt_late hx hy]
  show upTo t ((srt x ++ srt y).foldl dedS []) = _
  rw [List.foldl_append, upTo_fold _ _ (fun b hb => hy b ((srt_perm y).subset hb))]
  exact upTo_all (fun a ha => hx a ((srt_perm x).subset ((ded_sub _).subset ha)))
/-! ### what is described has no error -/
theorem nm_0 : isN (rdOf ByteArray.empty ppl 0) = true := by kernel_rfl
theorem nm_1 : isN (rdOf ByteArray.empty ppl 1) = true := by kernel_rfl
theorem nm_2 : isN (rdOf ByteArray.empty ppl 2) = true := by kernel_rfl
theorem nm3_ok (i : Int) : isN (nm3 i) = true := by
  have h : i % 3 = 0 ∨ i % 3 = 1 ∨ i % 3 = 2 := by omega
  unfold nm3
  rcases h with h | h | h
  · rw [h]; exact nm_0
  · rw [h]; exact nm_1
  · rw [h]; exact nm_2
theorem tx_0 : ¬ rdOf ByteArray.empty txts 0 = e0 ∧ (rdOf ByteArray.empty txts 0).size ≤ 4096 ∧ (rdOf ByteArray.empty txts 0).data.toList.all okB = true := ⟨by intro h; have := congrArg ByteArray.size h; revert this; decide, by decide, by decide⟩
theorem tx_1 : ¬ rdOf ByteArray.empty txts 1 = e0 ∧ (rdOf ByteArray.empty txts 1).size ≤ 4096 ∧ (rdOf ByteArray.empty txts 1).data.toList.all okB = true := ⟨by intro h; have := congrArg ByteArray.size h; revert this; decide, by decide, by decide⟩
theorem tx_2 : ¬ rdOf ByteArray.empty txts 2 = e0 ∧ (rdOf ByteArray.empty txts 2).size ≤ 4096 ∧ (rdOf ByteArray.empty txts 2).data.toList.all okB = true := ⟨by intro h; have := congrArg ByteArray.size h; revert this; decide, by decide, by decide⟩
theorem tx3_ok (i : Int) : ¬ tx3 i = e0 ∧ (tx3 i).size ≤ 4096 ∧ (tx3 i).data.toList.all okB = true := by
  have h : i % 3 = 0 ∨ i % 3 = 1 ∨ i % 3 = 2 := by omega
  unfold tx3
  rcases h with h | h | h
  · rw [h]; exact tx_0
  · rw [h]; exact tx_1
  · rw [h]; exact tx_2
theorem keyN_ok (i n : Int) (h : 1 ≤ n ∧ n ≤ 6) : keyE (nm3 i) n = 0 := by
  unfold keyE
  rw [if_pos (nm3_ok i), if_neg (by omega), if_neg (by omega)]
/-- An event, later by d. -/
def later (d : Int) (x : S50) : S50 := { x with f1 := x.f1 + d }
theorem later_zero (x : S50) : later 0 x = x := by unfold later; rw [Int.add_zero]
theorem decE_at (a : S61) : 0 ≤ (decE a).f1 ∧ (decE a).f1 ≤ 39 := by
  unfold decE
  split
  · simp only; omega
  · split
    · simp only; omega
    · split <;> (simp only; omega)
theorem fine_dec (a : S61) (d : Int) (hd : 0 ≤ d ∧ d ≤ 40) : Fine (later d (decE a)) := by
  have ha := decE_at a
  have hk : keyE (nm3 a.f0) (1 + a.f1 % 6) = 0 := keyN_ok _ _ (by omega)
  have hn9 : a.f3 % 9 < 9 ∧ 0 ≤ a.f3 % 9 := by omega
  unfold decE at ha ⊢
  unfold later
  split
  · rename_i h
    rw [if_pos h] at ha
    have e1 : saysK (1 + a.f3 % 9) = true := decide_eq_true h
    have e2 : aimsK (1 + a.f3 % 9) = false := decide_eq_false (by omega)
    have e3 : givesK (1 + a.f3 % 9) = false := decide_eq_false (by omega)
    exact ⟨hk, by simp only at ha ⊢; omega, by simp only; omega, .inl ⟨e1, e2, e3, rfl, rfl, rfl, tx3_ok a.f7⟩⟩
  · rename_i h
    rw [if_neg h] at ha
    have e1 : saysK (1 + a.f3 % 9) = false := decide_eq_false h
    split
    · rename_i h2
      rw [if_pos h2] at ha
      have e2 : aimsK (1 + a.f3 % 9) = true := decide_eq_true h2
      have e3 : givesK (1 + a.f3 % 9) = false := decide_eq_false (by omega)
      exact ⟨hk, by simp only at ha ⊢; omega, by simp only; omega, .inr (.inl ⟨e1, e2, e3, rfl, rfl, rfl, keyN_ok a.f4 (1 + a.f4 / 3 % 6) (by omega)⟩)⟩
    · rename_i h2
      rw [if_neg h2] at ha
      have e2 : aimsK (1 + a.f3 % 9) = false := decide_eq_false h2
      split
      · rename_i h3
        rw [if_pos h3] at ha
        have e3 : givesK (1 + a.f3 % 9) = true := decide_eq_true h3
        exact ⟨hk, by simp only at ha ⊢; omega, by simp only; omega, .inr (.inr (.inl ⟨e1, e2, e3, rfl, rfl, nm3_ok a.f5, by simp only; omega⟩))⟩
      · rename_i h3
        rw [if_neg h3] at ha
        have e3 : givesK (1 + a.f3 % 9) = false := decide_eq_false h3
        exact ⟨hk, by simp only at ha ⊢; omega, by simp only; omega, .inr (.inr (.inr ⟨e1, e2, e3, rfl, rfl, rfl, rfl⟩))⟩
theorem evs_err (l : List S61) (d : Int) (hd : 0 ≤ d ∧ d ≤ 40) : ∀ x ∈ (evs l).map (later d), Fine x := by
  intro x hx
  obtain ⟨y, hy, rfl⟩ := List.mem_map.mp hx
  obtain ⟨a, _, rfl⟩ := List.mem_map.mp hy
  exact fine_dec a d hd
theorem evs_at (l : List S61) : ∀ x ∈ evs l, 0 ≤ x.f1 ∧ x.f1 ≤ 39 := by
  intro x hx
  obtain ⟨a, _, rfl⟩ := List.mem_map.mp hx
  exact decE_at a
end Go.Proofs.YtcjfgejiknlpfaaGreat.PI
