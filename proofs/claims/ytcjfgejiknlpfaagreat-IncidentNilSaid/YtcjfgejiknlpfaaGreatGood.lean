/- What stays true of a state, event by event. No walk. -/
import Derived.Test.YtcjfgejiknlpfaaGreatJ2
namespace Go.Proofs.YtcjfgejiknlpfaaGreat.PI
open Go.RowKit Go.Proofs.YtcjfgejiknlpfaaGreatW.PrintWords
set_option linter.unusedVariables false
set_option linter.unusedSimpArgs false
def asgR (nm : ByteArray) (r : Int) : List S69 → List S69
  | [] => [⟨nm, r⟩]
  | y :: l => if bcmp y.f0 nm < 0 then y :: asgR nm r l else if bcmp y.f0 nm = 0 then ⟨y.f0, r⟩ :: l else ⟨nm, r⟩ :: y :: l
theorem hitP_lt {nm : ByteArray} {y : S69} {l : List S69} (h : bcmp y.f0 nm < 0) : plcP nm (y :: l) = plcP nm l + 1 ∧ hitP nm (y :: l) = hitP nm l := by
  have e : plcP nm (y :: l) = plcP nm l + 1 := by rw [plcP, if_pos h]
  refine ⟨e, ?_⟩
  unfold hitP
  rw [e, rdP_cons]
  congr 1
  simp
theorem hitP_ge {nm : ByteArray} {y : S69} {l : List S69} (h : ¬ bcmp y.f0 nm < 0) : plcP nm (y :: l) = 0 ∧ hitP nm (y :: l) = decide (bcmp y.f0 nm = 0) := by
  have e : plcP nm (y :: l) = 0 := by rw [plcP, if_neg h]
  refine ⟨e, ?_⟩
  unfold hitP
  rw [e]
  have : rd_T69 (y :: l) ((0 : Nat) : Int) = y := by simp [rd_T69]
  rw [this]
  by_cases h0 : bcmp y.f0 nm = 0 <;> simp [h0]
theorem assign_is (nm : ByteArray) (r : Int) : ∀ l, assignP nm r l = asgR nm r l
  | [] => by simp [assignP, hitP, plcP, asgR]
  | y :: l => by
    have ih := assign_is nm r l
    unfold asgR
    by_cases h : bcmp y.f0 nm < 0
    · obtain ⟨h1, h2⟩ := hitP_lt (l := l) h
      rw [if_pos h, ← ih]
      unfold assignP
      rw [h1, h2, rdP_cons]
      by_cases hh : hitP nm l = true
      · rw [if_pos hh, if_pos hh]; rfl
      · rw [if_neg hh, if_neg hh]; rfl
    · obtain ⟨h1, h2⟩ := hitP_ge (l := l) h
      rw [if_neg h]
      unfold assignP
      rw [h1, h2]
      have e : rd_T69 (y :: l) ((0 : Nat) : Int) = y := by simp [rd_T69]
      rw [e]
      by_cases h0 : bcmp y.f0 nm = 0
      · rw [if_pos h0, if_pos (decide_eq_true h0)]; rfl
      · rw [if_neg h0, if_neg (by simpa using h0)]; rfl
theorem asgR_mem {nm : ByteArray} {r : Int} {x : S69} : ∀ {l : List S69}, x ∈ asgR nm r l → x.f0 = nm ∨ ∃ y ∈ l, x.f0 = y.f0
  | [], h => by simp [asgR] at h; exact .inl (by rw [h])
  | y :: l, h => by
    unfold asgR at h
    split at h
    · rcases List.mem_cons.mp h with rfl | h
      · exact .inr ⟨x, List.mem_cons_self, rfl⟩
      · rcases asgR_mem h with h | ⟨z, hz, h⟩
        · exact .inl h
        · exact .inr ⟨z, List.mem_cons_of_mem _ hz, h⟩
    · split at h
      · rcases List.mem_cons.mp h with rfl | h
        · exact .inr ⟨y, List.mem_cons_self, rfl⟩
        · exact .inr ⟨x, List.mem_cons_of_mem _ h, rfl⟩
      · rcases List.mem_cons.mp h with rfl | h
        · exact .inl rfl
        · exact .inr ⟨x, h, rfl⟩
theorem asgR_inc (nm : ByteArray) (r : Int) : ∀ {l : List S69}, IncP l → IncP (asgR nm r l)
  | [], _ => List.pairwise_singleton _ _
  | y :: l, h => by
    obtain ⟨hy, hl⟩ := List.pairwise_cons.mp h
    unfold asgR
    split
    · rename_i hb
      refine List.pairwise_cons.mpr ⟨fun x hx => ?_, asgR_inc nm r hl⟩
      rcases asgR_mem hx with e | ⟨z, hz, e⟩
      · rw [e]; exact hb
      · rw [e]; exact hy z hz
    · rename_i hb
      split
      · exact List.pairwise_cons.mpr ⟨fun x hx => hy x hx, hl⟩
      · rename_i h0
        have hn : bcmp nm y.f0 < 0 := by have := bcmp_neg y.f0 nm; omega
        refine List.pairwise_cons.mpr ⟨fun x hx => ?_, h⟩
        rcases List.mem_cons.mp hx with rfl | hx
        · exact hn
        · exact bcmp_lt_trans hn (hy x hx)
theorem asgR_len (nm : ByteArray) (r : Int) : ∀ l : List S69, (asgR nm r l).length ≤ l.length + 1
  | [] => Nat.le_refl _
  | y :: l => by
    have := asgR_len nm r l
    unfold asgR
    split
    · simpa using this
    · split <;> simp
structure Good (s : PS) (n : Nat) : Prop where
  inc : IncP s.pe
  lp : s.pe.length ≤ n
  lt : s.th.length ≤ n
  n0 : 0 ≤ s.no
  n1 : s.no ≤ n
theorem good_zero : Good PS0 0 := ⟨List.Pairwise.nil, Nat.le_refl _, Nat.le_refl _, Int.le_refl _, Int.le_refl _⟩
theorem Good.up {s : PS} {n : Nat} (h : Good s n) : Good s (n + 1) := ⟨h.inc, by have := h.lp; omega, by have := h.lt; omega, h.n0, by have := h.n1; omega⟩
theorem good_eff {s : PS} {n : Nat} (h : Good s n) (e : S50) : Good (effP s e) (n + 1) := by
  have hA : ∀ nm r, IncP (assignP nm r s.pe) ∧ (assignP nm r s.pe).length ≤ n + 1 := fun nm r => by
    rw [assign_is]
    exact ⟨asgR_inc nm r h.inc, by have := asgR_len nm r s.pe; have := h.lp; omega⟩
  have h2 := h.up
  unfold effP
  split
  · exact ⟨(hA _ _).1, (hA _ _).2, h2.lt, h2.n0, h2.n1⟩
  · split
    · exact ⟨h2.inc, h2.lp, h2.lt, by have := h.n0; show 0 ≤ s.no + 1; omega, by have := h.n1; show s.no + 1 ≤ _; omega⟩
    · split
      · exact ⟨h2.inc, h2.lp, by have := h.lt; show (s.th ++ [_]).length ≤ _; simp; exact this, h2.n0, h2.n1⟩
      · split
        · exact ⟨h2.inc, h2.lp, by show (statP _ _ _).length ≤ _; unfold statP; rw [List.length_set]; exact h2.lt, h2.n0, h2.n1⟩
        · split
          · exact ⟨h2.inc, h2.lp, by show (statP _ _ _).length ≤ _; unfold statP; rw [List.length_set]; exact h2.lt, h2.n0, h2.n1⟩
          · split
            · exact ⟨h2.inc, h2.lp, h2.lt, h2.n0, h2.n1⟩
            · split
              · exact ⟨h2.inc, h2.lp, h2.lt, h2.n0, h2.n1⟩
              · split
                · exact ⟨h2.inc, h2.lp, h2.lt, h2.n0, h2.n1⟩
                · exact ⟨(hA _ _).1, (hA _ _).2, h2.lt, h2.n0, h2.n1⟩
theorem good_step {x : PS × List Int} {n : Nat} (h : Good x.1 n) (e : S50) : Good (stepP x e).1 (n + 1) := by
  unfold stepP
  by_cases h0 : reasonP x.1 e = 0
  · rw [if_pos h0]; exact good_eff h e
  · rw [if_neg h0]; exact h.up
theorem good_take (l : List S50) : ∀ i, i ≤ l.length → Good (runO (l.take i)).1 i
  | 0, _ => by rw [List.take_zero]; exact good_zero
  | i + 1, h => by
    rw [List.take_succ_eq_append_getElem (by omega), runO_snoc]
    exact good_step (good_take l i (by omega)) _
theorem good_run (l : List S50) : Good (runO l).1 l.length := by
  have := good_take l l.length (Nat.le_refl _)
  rwa [List.take_length] at this
theorem run_len (l : List S50) : ∀ i, i ≤ l.length → (runO (l.take i)).2.length = i
  | 0, _ => by rw [List.take_zero]; rfl
  | i + 1, h => by
    rw [List.take_succ_eq_append_getElem (by omega), runO_snoc]
    show ((runO (l.take i)).2 ++ [_]).length = _
    rw [List.length_append, run_len l i (by omega)]; rfl
theorem run_length (l : List S50) : (runO l).2.length = l.length := by
  have := run_len l l.length (Nat.le_refl _)
  rwa [List.take_length] at this
/-- An accepted Confirm or Refute names a theory. -/
theorem acc_theory {s : PS} {e : S50} (h : reasonP s e = 0) (hk : e.f2 = 4 ∨ e.f2 = 5 ∨ e.f2 = 7) : 0 ≤ thIx e.f3 s.th := by
  have h6 : ¬ e.f2 = 6 := by omega
  unfold reasonP at h
  have ht : targetP s e = 0 := by
    split at h
    · cases h
    · split at h
      · cases h
      · split at h
        · cases h
        · split at h
          · cases h
          · split at h
            · cases h
            · exact h
  unfold targetP at ht
  rw [if_neg h6, if_pos hk] at ht
  split at ht
  · cases ht
  · omega
end Go.Proofs.YtcjfgejiknlpfaaGreat.PI
