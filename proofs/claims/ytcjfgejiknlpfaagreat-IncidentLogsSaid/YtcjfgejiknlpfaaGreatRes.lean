/- A resolved incident has a confirmed cause, which somebody else than its author confirmed. No walk. -/
import Derived.Test.YtcjfgejiknlpfaaGreatJ4
import Derived.Test.YtcjfgejiknlpfaaGreatJ2
namespace Go.Proofs.YtcjfgejiknlpfaaGreat.PI
open Go.RowKit Go.Proofs.YtcjfgejiknlpfaaGreatW.PrintWords
set_option linter.unusedVariables false
set_option linter.unusedSimpArgs false
/-! ### the order of what is in order -/
theorem dedS_keys (out : List S50) (e : S50) (h : (out.map (fun x => x.f0)).Nodup) : ((dedS out e).map (fun x => x.f0)).Nodup := by
  unfold dedS
  split
  · exact h
  · rename_i hn
    rw [List.map_append, List.nodup_append]
    refine ⟨h, by simp, fun a ha b hb => ?_⟩
    simp at hb
    subst hb
    exact fun e1 => hn (e1 ▸ ha)
theorem ded_rev : ∀ (l : List S50), ded (l.reverse.reverse) = ded l := fun l => by rw [List.reverse_reverse]
theorem snoc_ind {α : Type} {p : List α → Prop} (h0 : p []) (h1 : ∀ l x, p l → p (l ++ [x])) (l : List α) : p l := by
  have : ∀ m : List α, p m.reverse := fun m => by
    induction m with
    | nil => exact h0
    | cons x m ih => rw [List.reverse_cons]; exact h1 _ _ ih
  have h := this l.reverse
  rwa [List.reverse_reverse] at h
theorem ded_nodup (l : List S50) : ((ded l).map (fun x => x.f0)).Nodup := snoc_ind (p := fun l => ((ded l).map (fun x => x.f0)).Nodup) (by simp [ded]) (fun l x h => by rw [ded_snoc]; exact dedS_keys _ _ h) l
theorem ded_sub (l : List S50) : (ded l).Sublist l := snoc_ind (p := fun l => (ded l).Sublist l) (by simp [ded]) (fun l x h => by
  rw [ded_snoc]
  unfold dedS
  split
  · exact h.trans (List.sublist_append_left _ _)
  · exact h.append (List.Sublist.refl _)) l
theorem ded_self (l : List S50) : (l.map (fun x => x.f0)).Nodup → ded l = l := snoc_ind (p := fun l => (l.map (fun x => x.f0)).Nodup → ded l = l) (fun _ => by simp [ded]) (fun l x h hn => by
  rw [List.map_append, List.nodup_append] at hn
  rw [ded_snoc, h hn.1]
  unfold dedS
  rw [if_neg (fun hm => hn.2.2 _ hm _ (by simp) rfl)]) l
theorem order_ord (l : List S50) : Ord (orderE l) := (srt_ord l).sublist (ded_sub _)
theorem order_idem (l : List S50) : orderE (orderE l) = orderE l := by
  have h : srt (orderE l) = orderE l := (srt_unique (List.Perm.refl _) (order_ord l)).symm
  show ded (srt (orderE l)) = orderE l
  rw [h]
  exact ded_self _ (ded_nodup _)
theorem order_mem {l : List S50} {x : S50} (h : x ∈ orderE l) : x ∈ l := (srt_perm l).subset ((ded_sub _).subset h)
theorem runP_order (l : List S50) : runP (orderE l) = runO (orderE l) := by unfold runP; rw [order_idem]
theorem ord_at {x y : S50} (h : ¬ Bf y x) : x.f1 ≤ y.f1 := by
  unfold Bf ecmp at h
  by_cases h1 : y.f1 < x.f1
  · exact absurd (by unfold thn icmp; rw [if_pos h1, if_neg (by decide)]; decide) h
  · omega
theorem ord_snoc {l : List S50} {e : S50} (h : Ord (l ++ [e])) : Ord l ∧ ∀ x ∈ l, x.f1 ≤ e.f1 := by
  obtain ⟨h1, _, h2⟩ := List.pairwise_append.mp h
  exact ⟨h1, fun x hx => ord_at (h2 x hx e (by simp))⟩
/-! ### accepted events -/
theorem acc_target {s : PS} {e : S50} (h : reasonP s e = 0) : targetP s e = 0 ∧ (e.f2 = 1 → s.st = 0) ∧ (e.f2 ≠ 1 → s.st ≠ 0) := by
  unfold reasonP at h
  split at h
  · cases h
  · rename_i h1
    split at h
    · cases h
    · rename_i h2
      split at h
      · cases h
      · split at h
        · cases h
        · split at h
          · cases h
          · refine ⟨h, fun hk => ?_, fun hk hs => h1 ⟨hs, hk⟩⟩
            by_cases hs : s.st = 0
            · exact hs
            · exact absurd ⟨hs, hk⟩ h2
theorem acc_mitigate {s : PS} {e : S50} (h : reasonP s e = 0) (hk : e.f2 = 6) : s.st = 1 := by
  have ht := (acc_target h).1
  unfold targetP at ht
  rw [if_pos hk] at ht
  split at ht
  · assumption
  · cases ht
theorem acc_cause {s : PS} {e : S50} (h : reasonP s e = 0) (hk : e.f2 = 4 ∨ e.f2 = 5 ∨ e.f2 = 7) : (∃ j : Nat, j < s.th.length ∧ thIx e.f3 s.th = (j : Int) ∧ (rd_T71 s.th (j : Int)).f0 = e.f3) ∧ (e.f2 = 4 → e.f3.f0 ≠ e.f0.f0) ∧ (e.f2 = 7 → (rd_T71 s.th (thIx e.f3 s.th)).f2 = 2) := by
  have h0 := acc_theory h hk
  have ht := (acc_target h).1
  have h6 : ¬ e.f2 = 6 := by omega
  unfold targetP at ht
  rw [if_neg h6, if_pos hk, if_neg (by omega)] at ht
  refine ⟨?_, fun h4 ha => ?_, fun h7 => ?_⟩
  · rcases thIx_range e.f3 s.th with h1 | h1
    · omega
    · exact h1
  · rw [if_pos ⟨h4, ha⟩] at ht; cases ht
  · rw [if_neg (fun h => by omega)] at ht
    split at ht
    · cases ht
    · rename_i hn
      by_cases h2 : (rd_T71 s.th (thIx e.f3 s.th)).f2 = 2
      · exact h2
      · exact absurd ⟨h7, h2⟩ hn
/-! ### the invariant -/
def Wit (p : List S50) (rs : List Int) (k : S33) (i : Nat) (x : S50) : Prop := rs[i]? = some 0 ∧ p[i]? = some x ∧ x.f2 = 4 ∧ x.f3 = k ∧ x.f0.f0 ≠ k.f0
theorem Wit.more {p : List S50} {rs : List Int} {k : S33} {i : Nat} {x : S50} (h : Wit p rs k i x) (e : S50) (r : Int) : Wit (p ++ [e]) (rs ++ [r]) k i x := by
  obtain ⟨h1, h2, h3⟩ := h
  exact ⟨by rw [List.getElem?_append_left (List.getElem?_eq_some_iff.mp h1).1]; exact h1, by rw [List.getElem?_append_left (List.getElem?_eq_some_iff.mp h2).1]; exact h2, h3⟩
structure RInv (p : List S50) (s : PS) (rs : List Int) : Prop where
  len : rs.length = p.length
  fresh : s.st ≠ 3 → s.ca = z33 ∧ s.en = 0
  conf : ∀ t ∈ s.th, t.f2 = 2 → ∃ i x, Wit p rs t.f0 i x
  res : s.st = 3 → ∃ i x, Wit p rs s.ca i x ∧ x.f1 ≤ s.en
theorem mem_statP {k : S33} {v : Int} {l : List S71} {t : S71} (h : t ∈ statP k v l) : t ∈ l ∨ t = ⟨(rd_T71 l (thIx k l)).f0, (rd_T71 l (thIx k l)).f1, v⟩ := by
  unfold statP at h
  rcases List.mem_or_eq_of_mem_set h with h | h
  · exact .inl h
  · exact .inr h
theorem rinv_step {p : List S50} {s : PS} {rs : List Int} (h : RInv p s rs) (e : S50) (hat : ∀ x ∈ p, x.f1 ≤ e.f1) : RInv (p ++ [e]) (stepP (s, rs) e).1 (stepP (s, rs) e).2 := by
  obtain ⟨r, hr⟩ : ∃ r, reasonP s e = r := ⟨_, rfl⟩
  have hlen : (rs ++ [r]).length = (p ++ [e]).length := by simp [h.len]
  have hconf : ∀ t ∈ s.th, t.f2 = 2 → ∃ i x, Wit (p ++ [e]) (rs ++ [r]) t.f0 i x := fun t ht h2 => by
    obtain ⟨i, x, hw⟩ := h.conf t ht h2
    exact ⟨i, x, hw.more e r⟩
  have hres : s.st = 3 → ∃ i x, Wit (p ++ [e]) (rs ++ [r]) s.ca i x ∧ x.f1 ≤ s.en := fun h3 => by
    obtain ⟨i, x, hw, hx⟩ := h.res h3
    exact ⟨i, x, hw.more e r, hx⟩
  unfold stepP
  simp only [hr]
  by_cases h0 : r = 0
  · subst h0
    rw [if_pos rfl]
    unfold effP
    by_cases k1 : e.f2 = 1
    · rw [if_pos k1]
      have hs := (acc_target hr).2.1 k1
      have hf := h.fresh (by omega)
      exact ⟨hlen, fun _ => hf, hconf, fun h3 => by simp at h3⟩
    · rw [if_neg k1]
      by_cases k2 : e.f2 = 2
      · rw [if_pos k2]; exact ⟨hlen, h.fresh, hconf, hres⟩
      · rw [if_neg k2]
        by_cases k3 : e.f2 = 3
        · rw [if_pos k3]
          refine ⟨hlen, h.fresh, fun t ht h2 => ?_, hres⟩
          rcases List.mem_append.mp ht with ht | ht
          · exact hconf t ht h2
          · simp at ht; rw [ht] at h2; simp at h2
        · rw [if_neg k3]
          by_cases k4 : e.f2 = 4
          · rw [if_pos k4]
            obtain ⟨⟨j, hj, hti, hjk⟩, hna, _⟩ := acc_cause hr (.inl k4)
            refine ⟨hlen, h.fresh, fun t ht h2 => ?_, hres⟩
            rcases mem_statP ht with ht | ht
            · exact hconf t ht h2
            · rw [hti, hjk] at ht
              subst ht
              refine ⟨p.length, e, ?_, by simp, k4, rfl, fun h => hna k4 h.symm⟩
              rw [← h.len]; simp
          · rw [if_neg k4]
            by_cases k5 : e.f2 = 5
            · rw [if_pos k5]
              refine ⟨hlen, h.fresh, fun t ht h2 => ?_, hres⟩
              rcases mem_statP ht with ht | ht
              · exact hconf t ht h2
              · rw [ht] at h2; simp at h2
            · rw [if_neg k5]
              by_cases k6 : e.f2 = 6
              · rw [if_pos k6]
                have hs := acc_mitigate hr k6
                exact ⟨hlen, fun _ => h.fresh (by omega), hconf, fun h3 => by simp at h3⟩
              · rw [if_neg k6]
                by_cases k7 : e.f2 = 7
                · rw [if_pos k7]
                  obtain ⟨⟨j, hj, hti, hjk⟩, _, h2⟩ := acc_cause hr (.inr (.inr k7))
                  have h2 := h2 k7
                  rw [hti] at h2
                  refine ⟨hlen, fun h => absurd rfl h, hconf, fun _ => ?_⟩
                  obtain ⟨i, x, hw⟩ := h.conf (rd_T71 s.th (j : Int)) (by simp [rd_T71, hj]) h2
                  rw [hjk] at hw
                  exact ⟨i, x, hw.more e 0, hat x (List.mem_of_getElem? hw.2.1)⟩
                · rw [if_neg k7]
                  by_cases k8 : e.f2 = 8
                  · rw [if_pos k8]
                    exact ⟨hlen, fun _ => ⟨rfl, rfl⟩, hconf, fun h3 => by simp at h3⟩
                  · rw [if_neg k8]
                    exact ⟨hlen, h.fresh, hconf, hres⟩
  · rw [if_neg h0]
    exact ⟨hlen, h.fresh, hconf, hres⟩
theorem rinv_run (l : List S50) : Ord l → RInv l (runO l).1 (runO l).2 := snoc_ind (p := fun l => Ord l → RInv l (runO l).1 (runO l).2)
  (fun _ => ⟨rfl, fun _ => ⟨rfl, rfl⟩, fun t ht => absurd ht (by simp [runO, PS0]), fun h => absurd h (by decide)⟩)
  (fun l e ih h => by
    obtain ⟨h1, h2⟩ := ord_snoc h
    rw [runO_snoc]
    exact rinv_step (ih h1) e h2) l
end Go.Proofs.YtcjfgejiknlpfaaGreat.PI
