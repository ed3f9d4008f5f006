/- Events that are not accepted can be left out; guests change nothing but the number of notes. No walk. -/
import Derived.Test.YtcjfgejiknlpfaaRes
import Derived.Test.YtcjfgejiknlpfaaDec
namespace Go.Proofs.Ytcjfgejiknlpfaa.PI
open Go.RowKit Go.Proofs.YtcjfgejiknlpfaaW.PrintWords
set_option linter.unusedVariables false
set_option linter.unusedSimpArgs false
/-- The events whose reason is 0. -/
def accR : List S27 → List Int → List S27
  | x :: l, r :: rs => if r = 0 then x :: accR l rs else accR l rs
  | _, _ => []
theorem accR_snoc : ∀ (p : List S27) (q : List Int) (x : S27) (r : Int), p.length = q.length → accR (p ++ [x]) (q ++ [r]) = accR p q ++ (if r = 0 then [x] else [])
  | [], [], x, r, _ => by by_cases h : r = 0 <;> simp [accR, h]
  | [], _ :: _, _, _, h => by simp at h
  | _ :: _, [], _, _, h => by simp at h
  | y :: p, s :: q, x, r, h => by
    have ih := accR_snoc p q x r (by simpa using h)
    by_cases hs : s = 0
    · simp only [List.cons_append, accR, if_pos hs, ih]
    · simp only [List.cons_append, accR, if_neg hs, ih]
theorem accR_sub : ∀ (l : List S27) (rs : List Int), (accR l rs).Sublist l
  | [], _ => by simp [accR]
  | x :: l, [] => by simp [accR]
  | x :: l, r :: rs => by
    unfold accR
    split
    · exact (accR_sub l rs).cons_cons x
    · exact (accR_sub l rs).cons x
theorem rej_run (l : List S27) : (runO (accR l (runO l).2)).1 = (runO l).1 := snoc_ind (p := fun l => (runO (accR l (runO l).2)).1 = (runO l).1) rfl (fun l e ih => by
  rw [runO_snoc]
  have hl : l.length = (runO l).2.length := (run_length l).symm
  have h2 : (stepP (runO l) e).2 = (runO l).2 ++ [reasonP (runO l).1 e] := rfl
  rw [h2, accR_snoc _ _ _ _ hl]
  by_cases h : reasonP (runO l).1 e = 0
  · rw [if_pos h, runO_snoc]
    unfold stepP
    simp only [ih]
  · rw [if_neg h, List.append_nil, ih]
    unfold stepP
    simp only [if_neg h]) l
theorem order_fix {l : List S27} (h : Ord l) (hn : (l.map (fun x => x.f0)).Nodup) : orderE l = l := by
  have h1 : srt l = l := (srt_unique (List.Perm.refl _) h).symm
  show ded (srt l) = l
  rw [h1]
  exact ded_self l hn
theorem rej_runP (ev : List S27) : (runP (accR (orderE ev) (runO (orderE ev)).2)).1 = (runO (orderE ev)).1 := by
  have hs := accR_sub (orderE ev) (runO (orderE ev)).2
  have h : orderE (accR (orderE ev) (runO (orderE ev)).2) = accR (orderE ev) (runO (orderE ev)).2 := order_fix ((order_ord ev).sublist hs) ((ded_nodup _).sublist (hs.map _))
  unfold runP
  rw [h, rej_run]
/-! ### guests -/
def bZoe : ByteArray := ⟨#[122, 111, 101]⟩
def guest (x : S27) : S27 := ⟨⟨bZoe, x.f0.f1⟩, x.f1 + 40, if x.f2 = 1 then 2 else x.f2, x.f3, x.f4, x.f5, x.f6⟩
theorem nm3_mem (i : Int) : nm3 i ∈ ppl := by
  have h : i % 3 = 0 ∨ i % 3 = 1 ∨ i % 3 = 2 := by omega
  unfold nm3
  rcases h with h | h | h <;> rw [h] <;> simp [rdOf, ppl]
theorem decE_facts (a : S23) : (decE a).f0.f0 ∈ ppl ∧ ((decE a).f2 = 9 → (decE a).f4 ∈ ppl) ∧ 0 ≤ (decE a).f1 ∧ (decE a).f1 ≤ 39 := by
  have h0 := nm3_mem a.f0
  have h5 := nm3_mem a.f5
  unfold decE
  split
  · rename_i h
    exact ⟨h0, fun h9 => by simp only at h9; omega, by simp only; omega, by simp only; omega⟩
  · split
    · rename_i h
      exact ⟨h0, fun h9 => by simp only at h9; omega, by simp only; omega, by simp only; omega⟩
    · split
      · exact ⟨h0, fun _ => h5, by simp only; omega, by simp only; omega⟩
      · rename_i h
        exact ⟨h0, fun h9 => absurd h9 h, by simp only; omega, by simp only; omega⟩
theorem hitP_mem {nm : ByteArray} : ∀ {l : List S49}, hitP nm l = true → ∃ x ∈ l, x.f0 = nm
  | [], h => by simp [hitP, plcP] at h
  | y :: l, h => by
    by_cases hb : bcmp y.f0 nm < 0
    · rw [(hitP_lt hb).2] at h
      obtain ⟨x, hx, e⟩ := hitP_mem h
      exact ⟨x, List.mem_cons_of_mem _ hx, e⟩
    · rw [(hitP_ge hb).2] at h
      exact ⟨y, List.mem_cons_self, (bcmp_zero_iff _ _).mp (of_decide_eq_true h)⟩
def Names (s : PS) : Prop := ∀ x ∈ s.pe, x.f0 ∈ ppl
theorem names_step {s : PS} {rs : List Int} (h : Names s) (e : S27) (h0 : e.f0.f0 ∈ ppl) (h9 : e.f2 = 9 → e.f4 ∈ ppl) (hk : e.f2 ≤ 9) (hk1 : 1 ≤ e.f2) : Names (stepP (s, rs) e).1 := by
  have hA : ∀ nm r, nm ∈ ppl → Names { s with pe := assignP nm r s.pe } := fun nm r hn x hx => by
    rw [show ({ s with pe := assignP nm r s.pe } : PS).pe = assignP nm r s.pe from rfl, assign_is] at hx
    rcases asgR_mem hx with e1 | ⟨y, hy, e1⟩
    · rw [e1]; exact hn
    · rw [e1]; exact h y hy
  unfold stepP
  by_cases hr : reasonP s e = 0
  · simp only [if_pos hr]
    unfold effP
    by_cases k1 : e.f2 = 1
    · rw [if_pos k1]; exact hA _ _ h0
    · rw [if_neg k1]
      by_cases k2 : e.f2 = 2
      · rw [if_pos k2]; exact h
      · rw [if_neg k2]
        by_cases k3 : e.f2 = 3
        · rw [if_pos k3]; exact h
        · rw [if_neg k3]
          by_cases k4 : e.f2 = 4
          · rw [if_pos k4]; exact h
          · rw [if_neg k4]
            by_cases k5 : e.f2 = 5
            · rw [if_pos k5]; exact h
            · rw [if_neg k5]
              by_cases k6 : e.f2 = 6
              · rw [if_pos k6]; exact h
              · rw [if_neg k6]
                by_cases k7 : e.f2 = 7
                · rw [if_pos k7]; exact h
                · rw [if_neg k7]
                  by_cases k8 : e.f2 = 8
                  · rw [if_pos k8]; exact h
                  · rw [if_neg k8]; exact hA _ _ (h9 (by omega))
  · simp only [if_neg hr]; exact h
theorem names_run (l : List S27) : (∀ x ∈ l, x.f0.f0 ∈ ppl ∧ (x.f2 = 9 → x.f4 ∈ ppl) ∧ 1 ≤ x.f2 ∧ x.f2 ≤ 9) → Names (runO l).1 := snoc_ind (p := fun l => (∀ x ∈ l, x.f0.f0 ∈ ppl ∧ (x.f2 = 9 → x.f4 ∈ ppl) ∧ 1 ≤ x.f2 ∧ x.f2 ≤ 9) → Names (runO l).1)
  (fun _ x hx => absurd hx (by simp [runO, PS0]))
  (fun l e ih h => by
    obtain ⟨h1, h2, h3, h4⟩ := h e (by simp)
    rw [runO_snoc]
    exact names_step (ih (fun x hx => h x (by simp [hx]))) e h1 h2 h4 h3) l
theorem zoe_not : bZoe ∉ ppl := by
  intro h
  simp [bZoe, ppl, bAnn, bBob, bEve] at h
theorem guest_step {s : PS} {rs : List Int} (h : Names s) (e : S27) (hz : e.f0.f0 = bZoe) (h2 : 2 ≤ e.f2) (h9 : e.f2 ≤ 9) : ∃ n, (stepP (s, rs) e).1 = { s with no := n } := by
  have hr : roleP e.f0.f0 s.pe = 1 := by
    unfold roleP
    rw [if_neg]
    intro hh
    obtain ⟨x, hx, e1⟩ := hitP_mem hh
    exact zoe_not (by rw [← hz, ← e1]; exact h x hx)
  unfold stepP
  by_cases h0 : reasonP s e = 0
  · simp only [if_pos h0]
    have hk : e.f2 = 2 := by
      unfold reasonP at h0
      split at h0
      · cases h0
      · split at h0
        · cases h0
        · split at h0
          · cases h0
          · split at h0
            · cases h0
            · rw [hr] at h0
              by_cases hk : e.f2 = 2
              · exact hk
              · rw [if_pos (by unfold rightP; split <;> (try split) <;> omega)] at h0
                cases h0
    unfold effP
    rw [if_neg (by omega), if_pos hk]
    exact ⟨_, rfl⟩
  · simp only [if_neg h0]
    exact ⟨s.no, rfl⟩
theorem guests_run (l : List S27) (hn : Names (runO l).1) (X : List S27) : (∀ x ∈ X, x.f0.f0 = bZoe ∧ 2 ≤ x.f2 ∧ x.f2 ≤ 9) → ∃ n, (runO (l ++ X)).1 = { (runO l).1 with no := n } := snoc_ind (p := fun X => (∀ x ∈ X, x.f0.f0 = bZoe ∧ 2 ≤ x.f2 ∧ x.f2 ≤ 9) → ∃ n, (runO (l ++ X)).1 = { (runO l).1 with no := n })
  (fun _ => ⟨(runO l).1.no, by rw [List.append_nil]⟩)
  (fun X e ih h => by
    obtain ⟨n, hn1⟩ := ih (fun x hx => h x (by simp [hx]))
    obtain ⟨h1, h2, h3⟩ := h e (by simp)
    rw [← List.append_assoc, runO_snoc]
    have hN : Names (runO (l ++ X)).1 := by rw [hn1]; exact hn
    obtain ⟨m, hm⟩ := guest_step (rs := (runO (l ++ X)).2) hN e h1 h2 h3
    exact ⟨m, by rw [show stepP (runO (l ++ X)) e = stepP ((runO (l ++ X)).1, (runO (l ++ X)).2) e from rfl, hm, hn1]⟩) X
theorem ded_from (l : List S27) (S : List S27) : ∃ X, (∀ x ∈ X, x ∈ S) ∧ S.foldl dedS l = l ++ X := snoc_ind (p := fun S => ∃ X, (∀ x ∈ X, x ∈ S) ∧ S.foldl dedS l = l ++ X)
  ⟨[], by simp, by simp⟩
  (fun S e ⟨X, h1, h2⟩ => by
    rw [List.foldl_append, h2]
    simp only [List.foldl_cons, List.foldl_nil]
    unfold dedS
    split
    · exact ⟨X, fun x hx => by simp [h1 x hx], rfl⟩
    · refine ⟨X ++ [e], fun x hx => ?_, by rw [List.append_assoc]⟩
      rcases List.mem_append.mp hx with hx | hx
      · simp [h1 x hx]
      · simp at hx; simp [hx]) S
theorem bf_late {x y : S27} (h : x.f1 < y.f1) : ¬ Bf y x := by
  unfold Bf ecmp thn icmp
  rw [if_neg (show ¬ y.f1 < x.f1 by omega), if_pos h]
  simp
theorem rej_guests (ev m : List S27) (he : ∀ x ∈ ev, x.f0.f0 ∈ ppl ∧ (x.f2 = 9 → x.f4 ∈ ppl) ∧ 1 ≤ x.f2 ∧ x.f2 ≤ 9 ∧ x.f1 ≤ 39) (hm : ∀ x ∈ m, 0 ≤ x.f1 ∧ 1 ≤ x.f2 ∧ x.f2 ≤ 9) :
    ∃ n, (runP (orderE ev ++ m.map guest)).1 = { (runO (orderE ev)).1 with no := n } := by
  have hG : ∀ x ∈ m.map guest, x.f0.f0 = bZoe ∧ 2 ≤ x.f2 ∧ x.f2 ≤ 9 ∧ 40 ≤ x.f1 := fun x hx => by
    obtain ⟨y, hy, rfl⟩ := List.mem_map.mp hx
    obtain ⟨h1, h2, h3⟩ := hm y hy
    refine ⟨rfl, ?_, ?_, by show 40 ≤ y.f1 + 40; omega⟩
    · show 2 ≤ (if y.f2 = 1 then 2 else y.f2); split <;> omega
    · show (if y.f2 = 1 then 2 else y.f2) ≤ 9; split <;> omega
  generalize m.map guest = G at hG
  have hs : srt (orderE ev ++ G) = orderE ev ++ srt G := (srt_unique ((srt_perm G).append_left _) (List.pairwise_append.mpr ⟨order_ord ev, srt_ord G, fun x hx y hy => bf_late (by
    have := (he x (order_mem hx)).2.2.2.2
    have := (hG y ((srt_perm G).subset hy)).2.2.2
    omega)⟩)).symm
  have ho : ∃ X, (∀ x ∈ X, x ∈ G) ∧ orderE (orderE ev ++ G) = orderE ev ++ X := by
    obtain ⟨X, h1, h2⟩ := ded_from (orderE ev) (srt G)
    refine ⟨X, fun x hx => (srt_perm G).subset (h1 x hx), ?_⟩
    show ded (srt (orderE ev ++ G)) = _
    rw [hs]
    unfold ded
    rw [List.foldl_append]
    have : List.foldl dedS [] (orderE ev) = orderE ev := ded_self _ (ded_nodup _)
    rw [this]
    exact h2
  obtain ⟨X, h1, h2⟩ := ho
  have hN : Names (runO (orderE ev)).1 := names_run _ (fun x hx => by
    obtain ⟨a, b, c, d, _⟩ := he x (order_mem hx)
    exact ⟨a, b, c, d⟩)
  unfold runP
  rw [h2]
  exact guests_run _ hN X (fun x hx => by
    obtain ⟨a, b, c, _⟩ := hG x (h1 x hx)
    exact ⟨a, b, c⟩)
end Go.Proofs.Ytcjfgejiknlpfaa.PI
