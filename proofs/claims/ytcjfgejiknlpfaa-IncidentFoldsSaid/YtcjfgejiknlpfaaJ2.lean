/- Texts of this claim, taken together: Pl, Good, Res, EqB, ModP, Cnt. -/
import Derived.Test.YtcjfgejiknlpfaaSq5
import Derived.Test.YtcjfgejiknlpfaaJ0
/-! # Pl -/
section
namespace Go.Proofs.Ytcjfgejiknlpfaa.PI
open Go.RowKit Go.Proofs.YtcjfgejiknlpfaaW.PrintWords
set_option linter.unusedVariables false
set_option linter.unusedSimpArgs false
structure PS where
  st : Int
  ti : ByteArray
  op : Int
  en : Int
  ca : S25
  pe : List S49
  th : List S51
  no : Int
def PS0 : PS := ⟨0, ⟨#[]⟩, 0, 0, z25, [], [], 0⟩
/-- The index of the theory with a key, or -1. -/
def thIxN (k : S25) : List S51 → Nat → Int
  | [], _ => -1
  | t :: l, i => if t.f0 = k then (i : Int) else thIxN k l (i + 1)
def thIx (k : S25) (l : List S51) : Int := thIxN k l 0
theorem thIxN_hit (k : S25) : ∀ (l : List S51) (i j : Nat), j < l.length → (∀ m : Nat, m < j → (rd_T51 l m).f0 ≠ k) → (rd_T51 l j).f0 = k → thIxN k l i = ((i + j : Nat) : Int)
  | [], _, _, h, _, _ => absurd h (Nat.not_lt_zero _)
  | t :: l, i, 0, _, _, h => by
    unfold thIxN
    rw [if_pos (by simpa [rd_T51] using h)]; rfl
  | t :: l, i, j + 1, hj, hm, h => by
    unfold thIxN
    have h0 : ¬ t.f0 = k := by have := hm 0 (by omega); simpa [rd_T51] using this
    rw [if_neg h0, thIxN_hit k l (i + 1) j (by simpa using hj) (fun m hm2 => by have := hm (m + 1) (by omega); simpa [rd_T51] using this) (by simpa [rd_T51] using h)]
    congr 1; omega
theorem thIxN_none (k : S25) : ∀ (l : List S51) (i : Nat), (∀ m : Nat, m < l.length → (rd_T51 l m).f0 ≠ k) → thIxN k l i = -1
  | [], _, _ => rfl
  | t :: l, i, hm => by
    unfold thIxN
    have h0 : ¬ t.f0 = k := by have := hm 0 (by simp); simpa [rd_T51] using this
    rw [if_neg h0, thIxN_none k l (i + 1) (fun m hm2 => by have := hm (m + 1) (by simpa using hm2); simpa [rd_T51] using this)]
theorem thIx_hit {k : S25} {l : List S51} {j : Nat} (hj : j < l.length) (hm : ∀ m : Nat, m < j → (rd_T51 l m).f0 ≠ k) (h : (rd_T51 l j).f0 = k) : thIx k l = (j : Int) := by
  have := thIxN_hit k l 0 j hj hm h
  unfold thIx
  rw [this, Nat.zero_add]
theorem thIx_none {k : S25} {l : List S51} (hm : ∀ m : Nat, m < l.length → (rd_T51 l m).f0 ≠ k) : thIx k l = -1 := thIxN_none k l 0 hm
theorem thIxN_range (k : S25) : ∀ (l : List S51) (i : Nat), thIxN k l i = -1 ∨ ∃ j : Nat, j < l.length ∧ thIxN k l i = ((i + j : Nat) : Int) ∧ (rd_T51 l j).f0 = k
  | [], _ => .inl rfl
  | t :: l, i => by
    unfold thIxN
    by_cases h : t.f0 = k
    · rw [if_pos h]; exact .inr ⟨0, by simp, rfl, by simpa [rd_T51] using h⟩
    · rw [if_neg h]
      rcases thIxN_range k l (i + 1) with h1 | ⟨j, h1, h2, h3⟩
      · exact .inl h1
      · exact .inr ⟨j + 1, by simpa using h1, by rw [h2]; congr 1; omega, by simpa [rd_T51] using h3⟩
theorem thIx_range (k : S25) (l : List S51) : thIx k l = -1 ∨ ∃ j : Nat, j < l.length ∧ thIx k l = (j : Int) ∧ (rd_T51 l j).f0 = k := by
  rcases thIxN_range k l 0 with h | ⟨j, h1, h2, h3⟩
  · exact .inl h
  · exact .inr ⟨j, h1, by unfold thIx; rw [h2, Nat.zero_add], h3⟩
/-! ### people, by name -/
def IncP (l : List S49) : Prop := l.Pairwise fun x y => bcmp x.f0 y.f0 < 0
/-- Where somebody is, or would be. -/
def plcP (nm : ByteArray) : List S49 → Nat
  | [] => 0
  | x :: l => if bcmp x.f0 nm < 0 then plcP nm l + 1 else 0
def hitP (nm : ByteArray) (l : List S49) : Bool := decide (plcP nm l < l.length) && (bcmp (rd_T49 l (plcP nm l)).f0 nm == 0)
theorem plcP_le (nm : ByteArray) : ∀ l, plcP nm l ≤ l.length
  | [] => Nat.le_refl _
  | x :: l => by
    unfold plcP
    split
    · have := plcP_le nm l; simp; omega
    · exact Nat.zero_le _
theorem rdP_cons (y : S49) (l : List S49) (j : Nat) : rd_T49 (y :: l) ((j + 1 : Nat) : Int) = rd_T49 l (j : Int) := by simp [rd_T49]
theorem plcP_lo (nm : ByteArray) : ∀ (l : List S49) (j : Nat), j < plcP nm l → bcmp (rd_T49 l (j : Int)).f0 nm < 0
  | [], j, h => absurd h (Nat.not_lt_zero _)
  | x :: l, j, h => by
    unfold plcP at h
    split at h
    · rename_i hx
      cases j with
      | zero => simpa [rd_T49] using hx
      | succ j => rw [rdP_cons]; exact plcP_lo nm l j (by omega)
    · exact absurd h (Nat.not_lt_zero _)
theorem bcmp_lt_trans {a b c : ByteArray} (h1 : bcmp a b < 0) (h2 : bcmp b c < 0) : bcmp a c < 0 := (bcmp_neg_iff _ _).mpr (bl_trans _ _ _ ((bcmp_neg_iff _ _).mp h1) ((bcmp_neg_iff _ _).mp h2))
theorem plcP_hi (nm : ByteArray) : ∀ (l : List S49), IncP l → ∀ j : Nat, plcP nm l ≤ j → j < l.length → 0 ≤ bcmp (rd_T49 l (j : Int)).f0 nm
  | [], _, j, _, h => absurd h (Nat.not_lt_zero _)
  | x :: l, hI, j, hj, hl => by
    obtain ⟨hx, hI2⟩ := List.pairwise_cons.mp hI
    unfold plcP at hj
    split at hj
    · cases j with
      | zero => omega
      | succ j => rw [rdP_cons]; exact plcP_hi nm l hI2 j (by omega) (by simpa using hl)
    · rename_i hn
      cases j with
      | zero => rw [show rd_T49 (x :: l) ((0 : Nat) : Int) = x by simp [rd_T49]]; omega
      | succ j =>
        rw [rdP_cons]
        have hj2 : j < l.length := by simpa using hl
        have hm := hx (rd_T49 l (j : Int)) (by simp [rd_T49, hj2])
        by_cases h : bcmp (rd_T49 l (j : Int)).f0 nm < 0
        · exact absurd (bcmp_lt_trans hm h) hn
        · omega
def roleP (nm : ByteArray) (l : List S49) : Int := if hitP nm l = true then (rd_T49 l (plcP nm l : Nat)).f1 else 1
def rightP (k : Int) : Int := if k = 7 ∨ k = 8 ∨ k = 9 then 3 else if k = 3 ∨ k = 4 ∨ k = 5 ∨ k = 6 then 2 else 1
theorem right_ok (k : Int) : incident_right.f 2 k = some (rightP k) := by
  unfold incident_right.f rightP
  by_cases h7 : k = 7
  · subst h7; rfl
  · by_cases h8 : k = 8
    · subst h8; rfl
    · by_cases h9 : k = 9
      · subst h9; rfl
      · simp only [h7, h8, h9, if_false, false_or, incident_right.j0, beq_iff_eq]
        by_cases h3 : k = 3
        · simp [h3]
        · by_cases h4 : k = 4
          · simp [h4]
          · by_cases h5 : k = 5
            · simp [h5]
            · by_cases h6 : k = 6 <;> simp [h3, h4, h5, h6]
def targetP (s : PS) (e : S27) : Int :=
  if e.f2 = 6 then (if s.st = 1 then 0 else 9)
  else if e.f2 = 4 ∨ e.f2 = 5 ∨ e.f2 = 7 then
    if thIx e.f3 s.th < 0 then 5
    else if e.f2 = 4 ∧ e.f3.f0 = e.f0.f0 then 6
    else if e.f2 = 7 ∧ (rd_T51 s.th (thIx e.f3 s.th)).f2 ≠ 2 then 7
    else 0
  else 0
def reasonP (s : PS) (e : S27) : Int :=
  if s.st = 0 ∧ e.f2 ≠ 1 then 1
  else if s.st ≠ 0 ∧ e.f2 = 1 then 2
  else if s.st = 3 ∧ e.f2 ≠ 2 ∧ e.f2 ≠ 8 ∧ e.f2 ≠ 1 then 3
  else if e.f2 = 8 ∧ s.st ≠ 3 then 8
  else if roleP e.f0.f0 s.pe < rightP e.f2 then 4
  else targetP s e
/-- Somebody gets a role. -/
def assignP (nm : ByteArray) (r : Int) (l : List S49) : List S49 :=
  if hitP nm l = true then l.set (plcP nm l) ⟨(rd_T49 l (plcP nm l : Nat)).f0, r⟩ else l.take (plcP nm l) ++ ⟨nm, r⟩ :: l.drop (plcP nm l)
/-- A theory's status turns. -/
def statP (k : S25) (v : Int) (l : List S51) : List S51 := l.set (thIx k l).toNat ⟨(rd_T51 l (thIx k l)).f0, (rd_T51 l (thIx k l)).f1, v⟩
def effP (s : PS) (e : S27) : PS :=
  if e.f2 = 1 then { s with st := 1, ti := e.f6, op := e.f1, pe := assignP e.f0.f0 3 s.pe }
  else if e.f2 = 2 then { s with no := s.no + 1 }
  else if e.f2 = 3 then { s with th := s.th ++ [⟨e.f0, e.f6, 1⟩] }
  else if e.f2 = 4 then { s with th := statP e.f3 2 s.th }
  else if e.f2 = 5 then { s with th := statP e.f3 3 s.th }
  else if e.f2 = 6 then { s with st := 2 }
  else if e.f2 = 7 then { s with st := 3, en := e.f1, ca := e.f3 }
  else if e.f2 = 8 then { s with st := 1, en := 0, ca := z25 }
  else { s with pe := assignP e.f4 e.f5 s.pe }
def stepP (x : PS × List Int) (e : S27) : PS × List Int :=
  (if reasonP x.1 e = 0 then effP x.1 e else x.1, x.2 ++ [reasonP x.1 e])
def runO (l : List S27) : PS × List Int := l.foldl stepP (PS0, [])
def runP (l : List S27) : PS × List Int := runO (orderE l)
theorem runO_snoc (l : List S27) (e : S27) : runO (l ++ [e]) = stepP (runO l) e := by simp [runO, List.foldl_append]
end Go.Proofs.Ytcjfgejiknlpfaa.PI
end

/-! # Good -/
section
namespace Go.Proofs.Ytcjfgejiknlpfaa.PI
open Go.RowKit Go.Proofs.YtcjfgejiknlpfaaW.PrintWords
set_option linter.unusedVariables false
set_option linter.unusedSimpArgs false
def asgR (nm : ByteArray) (r : Int) : List S49 → List S49
  | [] => [⟨nm, r⟩]
  | y :: l => if bcmp y.f0 nm < 0 then y :: asgR nm r l else if bcmp y.f0 nm = 0 then ⟨y.f0, r⟩ :: l else ⟨nm, r⟩ :: y :: l
theorem hitP_lt {nm : ByteArray} {y : S49} {l : List S49} (h : bcmp y.f0 nm < 0) : plcP nm (y :: l) = plcP nm l + 1 ∧ hitP nm (y :: l) = hitP nm l := by
  have e : plcP nm (y :: l) = plcP nm l + 1 := by rw [plcP, if_pos h]
  refine ⟨e, ?_⟩
  unfold hitP
  rw [e, rdP_cons]
  congr 1
  simp
theorem hitP_ge {nm : ByteArray} {y : S49} {l : List S49} (h : ¬ bcmp y.f0 nm < 0) : plcP nm (y :: l) = 0 ∧ hitP nm (y :: l) = decide (bcmp y.f0 nm = 0) := by
  have e : plcP nm (y :: l) = 0 := by rw [plcP, if_neg h]
  refine ⟨e, ?_⟩
  unfold hitP
  rw [e]
  have : rd_T49 (y :: l) ((0 : Nat) : Int) = y := by simp [rd_T49]
  rw [this]
  by_cases h0 : bcmp y.f0 nm = 0 <;> simp [h0]
theorem assign_is (nm : ByteArray) (r : Int) : ∀ l, assignP nm r l = asgR nm r l
  | [] => by simp [assignP, hitP, plcP, asgR]
  | y :: l => by
    have ih := assign_is nm r l
    unfold asgR
    by_cases h : bcmp y.f0 nm < 0
    · obtain ⟨h1, h2⟩ := hitP_lt (l := l) h
      rw [if_pos h, ← ih]
      unfold assignP
      rw [h1, h2, rdP_cons]
      by_cases hh : hitP nm l = true
      · rw [if_pos hh, if_pos hh]; rfl
      · rw [if_neg hh, if_neg hh]; rfl
    · obtain ⟨h1, h2⟩ := hitP_ge (l := l) h
      rw [if_neg h]
      unfold assignP
      rw [h1, h2]
      have e : rd_T49 (y :: l) ((0 : Nat) : Int) = y := by simp [rd_T49]
      rw [e]
      by_cases h0 : bcmp y.f0 nm = 0
      · rw [if_pos h0, if_pos (decide_eq_true h0)]; rfl
      · rw [if_neg h0, if_neg (by simpa using h0)]; rfl
theorem asgR_mem {nm : ByteArray} {r : Int} {x : S49} : ∀ {l : List S49}, x ∈ asgR nm r l → x.f0 = nm ∨ ∃ y ∈ l, x.f0 = y.f0
  | [], h => by simp [asgR] at h; exact .inl (by rw [h])
  | y :: l, h => by
    unfold asgR at h
    split at h
    · rcases List.mem_cons.mp h with rfl | h
      · exact .inr ⟨x, List.mem_cons_self, rfl⟩
      · rcases asgR_mem h with h | ⟨z, hz, h⟩
        · exact .inl h
        · exact .inr ⟨z, List.mem_cons_of_mem _ hz, h⟩
    · split at h
      · rcases List.mem_cons.mp h with rfl | h
        · exact .inr ⟨y, List.mem_cons_self, rfl⟩
        · exact .inr ⟨x, List.mem_cons_of_mem _ h, rfl⟩
      · rcases List.mem_cons.mp h with rfl | h
        · exact .inl rfl
        · exact .inr ⟨x, h, rfl⟩
theorem asgR_inc (nm : ByteArray) (r : Int) : ∀ {l : List S49}, IncP l → IncP (asgR nm r l)
  | [], _ => List.pairwise_singleton _ _
  | y :: l, h => by
    obtain ⟨hy, hl⟩ := List.pairwise_cons.mp h
    unfold asgR
    split
    · rename_i hb
      refine List.pairwise_cons.mpr ⟨fun x hx => ?_, asgR_inc nm r hl⟩
      rcases asgR_mem hx with e | ⟨z, hz, e⟩
      · rw [e]; exact hb
      · rw [e]; exact hy z hz
    · rename_i hb
      split
      · exact List.pairwise_cons.mpr ⟨fun x hx => hy x hx, hl⟩
      · rename_i h0
        have hn : bcmp nm y.f0 < 0 := by have := bcmp_neg y.f0 nm; omega
        refine List.pairwise_cons.mpr ⟨fun x hx => ?_, h⟩
        rcases List.mem_cons.mp hx with rfl | hx
        · exact hn
        · exact bcmp_lt_trans hn (hy x hx)
theorem asgR_len (nm : ByteArray) (r : Int) : ∀ l : List S49, (asgR nm r l).length ≤ l.length + 1
  | [] => Nat.le_refl _
  | y :: l => by
    have := asgR_len nm r l
    unfold asgR
    split
    · simpa using this
    · split <;> simp
structure Good (s : PS) (n : Nat) : Prop where
  inc : IncP s.pe
  lp : s.pe.length ≤ n
  lt : s.th.length ≤ n
  n0 : 0 ≤ s.no
  n1 : s.no ≤ n
theorem good_zero : Good PS0 0 := ⟨List.Pairwise.nil, Nat.le_refl _, Nat.le_refl _, Int.le_refl _, Int.le_refl _⟩
theorem Good.up {s : PS} {n : Nat} (h : Good s n) : Good s (n + 1) := ⟨h.inc, by have := h.lp; omega, by have := h.lt; omega, h.n0, by have := h.n1; omega⟩
theorem good_eff {s : PS} {n : Nat} (h : Good s n) (e : S27) : Good (effP s e) (n + 1) := by
  have hA : ∀ nm r, IncP (assignP nm r s.pe) ∧ (assignP nm r s.pe).length ≤ n + 1 := fun nm r => by
    rw [assign_is]
    exact ⟨asgR_inc nm r h.inc, by have := asgR_len nm r s.pe; have := h.lp; omega⟩
  have h2 := h.up
  unfold effP
  split
  · exact ⟨(hA _ _).1, (hA _ _).2, h2.lt, h2.n0, h2.n1⟩
  · split
    · exact ⟨h2.inc, h2.lp, h2.lt, by have := h.n0; show 0 ≤ s.no + 1; omega, by have := h.n1; show s.no + 1 ≤ _; omega⟩
    · split
      · exact ⟨h2.inc, h2.lp, by have := h.lt; show (s.th ++ [_]).length ≤ _; simp; exact this, h2.n0, h2.n1⟩
      · split
        · exact ⟨h2.inc, h2.lp, by show (statP _ _ _).length ≤ _; unfold statP; rw [List.length_set]; exact h2.lt, h2.n0, h2.n1⟩
        · split
          · exact ⟨h2.inc, h2.lp, by show (statP _ _ _).length ≤ _; unfold statP; rw [List.length_set]; exact h2.lt, h2.n0, h2.n1⟩
          · split
            · exact ⟨h2.inc, h2.lp, h2.lt, h2.n0, h2.n1⟩
            · split
              · exact ⟨h2.inc, h2.lp, h2.lt, h2.n0, h2.n1⟩
              · split
                · exact ⟨h2.inc, h2.lp, h2.lt, h2.n0, h2.n1⟩
                · exact ⟨(hA _ _).1, (hA _ _).2, h2.lt, h2.n0, h2.n1⟩
theorem good_step {x : PS × List Int} {n : Nat} (h : Good x.1 n) (e : S27) : Good (stepP x e).1 (n + 1) := by
  unfold stepP
  by_cases h0 : reasonP x.1 e = 0
  · rw [if_pos h0]; exact good_eff h e
  · rw [if_neg h0]; exact h.up
theorem good_take (l : List S27) : ∀ i, i ≤ l.length → Good (runO (l.take i)).1 i
  | 0, _ => by rw [List.take_zero]; exact good_zero
  | i + 1, h => by
    rw [List.take_succ_eq_append_getElem (by omega), runO_snoc]
    exact good_step (good_take l i (by omega)) _
theorem good_run (l : List S27) : Good (runO l).1 l.length := by
  have := good_take l l.length (Nat.le_refl _)
  rwa [List.take_length] at this
theorem run_len (l : List S27) : ∀ i, i ≤ l.length → (runO (l.take i)).2.length = i
  | 0, _ => by rw [List.take_zero]; rfl
  | i + 1, h => by
    rw [List.take_succ_eq_append_getElem (by omega), runO_snoc]
    show ((runO (l.take i)).2 ++ [_]).length = _
    rw [List.length_append, run_len l i (by omega)]; rfl
theorem run_length (l : List S27) : (runO l).2.length = l.length := by
  have := run_len l l.length (Nat.le_refl _)
  rwa [List.take_length] at this
/-- An accepted Confirm or Refute names a theory. -/
theorem acc_theory {s : PS} {e : S27} (h : reasonP s e = 0) (hk : e.f2 = 4 ∨ e.f2 = 5 ∨ e.f2 = 7) : 0 ≤ thIx e.f3 s.th := by
  have h6 : ¬ e.f2 = 6 := by omega
  unfold reasonP at h
  have ht : targetP s e = 0 := by
    split at h
    · cases h
    · split at h
      · cases h
      · split at h
        · cases h
        · split at h
          · cases h
          · split at h
            · cases h
            · exact h
  unfold targetP at ht
  rw [if_neg h6, if_pos hk] at ht
  split at ht
  · cases ht
  · omega
end Go.Proofs.Ytcjfgejiknlpfaa.PI
end

/-! # Res -/
section
namespace Go.Proofs.Ytcjfgejiknlpfaa.PI
open Go.RowKit Go.Proofs.YtcjfgejiknlpfaaW.PrintWords
set_option linter.unusedVariables false
set_option linter.unusedSimpArgs false
/-! ### the order of what is in order -/
theorem dedS_keys (out : List S27) (e : S27) (h : (out.map (fun x => x.f0)).Nodup) : ((dedS out e).map (fun x => x.f0)).Nodup := by
  unfold dedS
  split
  · exact h
  · rename_i hn
    rw [List.map_append, List.nodup_append]
    refine ⟨h, by simp, fun a ha b hb => ?_⟩
    simp at hb
    subst hb
    exact fun e1 => hn (e1 ▸ ha)
theorem ded_rev : ∀ (l : List S27), ded (l.reverse.reverse) = ded l := fun l => by rw [List.reverse_reverse]
theorem snoc_ind {α : Type} {p : List α → Prop} (h0 : p []) (h1 : ∀ l x, p l → p (l ++ [x])) (l : List α) : p l := by
  have : ∀ m : List α, p m.reverse := fun m => by
    induction m with
    | nil => exact h0
    | cons x m ih => rw [List.reverse_cons]; exact h1 _ _ ih
  have h := this l.reverse
  rwa [List.reverse_reverse] at h
theorem ded_nodup (l : List S27) : ((ded l).map (fun x => x.f0)).Nodup := snoc_ind (p := fun l => ((ded l).map (fun x => x.f0)).Nodup) (by simp [ded]) (fun l x h => by rw [ded_snoc]; exact dedS_keys _ _ h) l
theorem ded_sub (l : List S27) : (ded l).Sublist l := snoc_ind (p := fun l => (ded l).Sublist l) (by simp [ded]) (fun l x h => by
  rw [ded_snoc]
  unfold dedS
  split
  · exact h.trans (List.sublist_append_left _ _)
  · exact h.append (List.Sublist.refl _)) l
theorem ded_self (l : List S27) : (l.map (fun x => x.f0)).Nodup → ded l = l := snoc_ind (p := fun l => (l.map (fun x => x.f0)).Nodup → ded l = l) (fun _ => by simp [ded]) (fun l x h hn => by
  rw [List.map_append, List.nodup_append] at hn
  rw [ded_snoc, h hn.1]
  unfold dedS
  rw [if_neg (fun hm => hn.2.2 _ hm _ (by simp) rfl)]) l
theorem order_ord (l : List S27) : Ord (orderE l) := (srt_ord l).sublist (ded_sub _)
theorem order_idem (l : List S27) : orderE (orderE l) = orderE l := by
  have h : srt (orderE l) = orderE l := (srt_unique (List.Perm.refl _) (order_ord l)).symm
  show ded (srt (orderE l)) = orderE l
  rw [h]
  exact ded_self _ (ded_nodup _)
theorem order_mem {l : List S27} {x : S27} (h : x ∈ orderE l) : x ∈ l := (srt_perm l).subset ((ded_sub _).subset h)
theorem runP_order (l : List S27) : runP (orderE l) = runO (orderE l) := by unfold runP; rw [order_idem]
theorem ord_at {x y : S27} (h : ¬ Bf y x) : x.f1 ≤ y.f1 := by
  unfold Bf ecmp at h
  by_cases h1 : y.f1 < x.f1
  · exact absurd (by unfold thn icmp; rw [if_pos h1, if_neg (by decide)]; decide) h
  · omega
theorem ord_snoc {l : List S27} {e : S27} (h : Ord (l ++ [e])) : Ord l ∧ ∀ x ∈ l, x.f1 ≤ e.f1 := by
  obtain ⟨h1, _, h2⟩ := List.pairwise_append.mp h
  exact ⟨h1, fun x hx => ord_at (h2 x hx e (by simp))⟩
/-! ### accepted events -/
theorem acc_target {s : PS} {e : S27} (h : reasonP s e = 0) : targetP s e = 0 ∧ (e.f2 = 1 → s.st = 0) ∧ (e.f2 ≠ 1 → s.st ≠ 0) := by
  unfold reasonP at h
  split at h
  · cases h
  · rename_i h1
    split at h
    · cases h
    · rename_i h2
      split at h
      · cases h
      · split at h
        · cases h
        · split at h
          · cases h
          · refine ⟨h, fun hk => ?_, fun hk hs => h1 ⟨hs, hk⟩⟩
            by_cases hs : s.st = 0
            · exact hs
            · exact absurd ⟨hs, hk⟩ h2
theorem acc_mitigate {s : PS} {e : S27} (h : reasonP s e = 0) (hk : e.f2 = 6) : s.st = 1 := by
  have ht := (acc_target h).1
  unfold targetP at ht
  rw [if_pos hk] at ht
  split at ht
  · assumption
  · cases ht
theorem acc_cause {s : PS} {e : S27} (h : reasonP s e = 0) (hk : e.f2 = 4 ∨ e.f2 = 5 ∨ e.f2 = 7) : (∃ j : Nat, j < s.th.length ∧ thIx e.f3 s.th = (j : Int) ∧ (rd_T51 s.th (j : Int)).f0 = e.f3) ∧ (e.f2 = 4 → e.f3.f0 ≠ e.f0.f0) ∧ (e.f2 = 7 → (rd_T51 s.th (thIx e.f3 s.th)).f2 = 2) := by
  have h0 := acc_theory h hk
  have ht := (acc_target h).1
  have h6 : ¬ e.f2 = 6 := by omega
  unfold targetP at ht
  rw [if_neg h6, if_pos hk, if_neg (by omega)] at ht
  refine ⟨?_, fun h4 ha => ?_, fun h7 => ?_⟩
  · rcases thIx_range e.f3 s.th with h1 | h1
    · omega
    · exact h1
  · rw [if_pos ⟨h4, ha⟩] at ht; cases ht
  · rw [if_neg (fun h => by omega)] at ht
    split at ht
    · cases ht
    · rename_i hn
      by_cases h2 : (rd_T51 s.th (thIx e.f3 s.th)).f2 = 2
      · exact h2
      · exact absurd ⟨h7, h2⟩ hn
/-! ### the invariant -/
def Wit (p : List S27) (rs : List Int) (k : S25) (i : Nat) (x : S27) : Prop := rs[i]? = some 0 ∧ p[i]? = some x ∧ x.f2 = 4 ∧ x.f3 = k ∧ x.f0.f0 ≠ k.f0
theorem Wit.more {p : List S27} {rs : List Int} {k : S25} {i : Nat} {x : S27} (h : Wit p rs k i x) (e : S27) (r : Int) : Wit (p ++ [e]) (rs ++ [r]) k i x := by
  obtain ⟨h1, h2, h3⟩ := h
  exact ⟨by rw [List.getElem?_append_left (List.getElem?_eq_some_iff.mp h1).1]; exact h1, by rw [List.getElem?_append_left (List.getElem?_eq_some_iff.mp h2).1]; exact h2, h3⟩
structure RInv (p : List S27) (s : PS) (rs : List Int) : Prop where
  len : rs.length = p.length
  fresh : s.st ≠ 3 → s.ca = z25 ∧ s.en = 0
  conf : ∀ t ∈ s.th, t.f2 = 2 → ∃ i x, Wit p rs t.f0 i x
  res : s.st = 3 → ∃ i x, Wit p rs s.ca i x ∧ x.f1 ≤ s.en
theorem mem_statP {k : S25} {v : Int} {l : List S51} {t : S51} (h : t ∈ statP k v l) : t ∈ l ∨ t = ⟨(rd_T51 l (thIx k l)).f0, (rd_T51 l (thIx k l)).f1, v⟩ := by
  unfold statP at h
  rcases List.mem_or_eq_of_mem_set h with h | h
  · exact .inl h
  · exact .inr h
theorem rinv_step {p : List S27} {s : PS} {rs : List Int} (h : RInv p s rs) (e : S27) (hat : ∀ x ∈ p, x.f1 ≤ e.f1) : RInv (p ++ [e]) (stepP (s, rs) e).1 (stepP (s, rs) e).2 := by
  obtain ⟨r, hr⟩ : ∃ r, reasonP s e = r := ⟨_, rfl⟩
  have hlen : (rs ++ [r]).length = (p ++ [e]).length := by simp [h.len]
  have hconf : ∀ t ∈ s.th, t.f2 = 2 → ∃ i x, Wit (p ++ [e]) (rs ++ [r]) t.f0 i x := fun t ht h2 => by
    obtain ⟨i, x, hw⟩ := h.conf t ht h2
    exact ⟨i, x, hw.more e r⟩
  have hres : s.st = 3 → ∃ i x, Wit (p ++ [e]) (rs ++ [r]) s.ca i x ∧ x.f1 ≤ s.en := fun h3 => by
    obtain ⟨i, x, hw, hx⟩ := h.res h3
    exact ⟨i, x, hw.more e r, hx⟩
  unfold stepP
  simp only [hr]
  by_cases h0 : r = 0
  · subst h0
    rw [if_pos rfl]
    unfold effP
    by_cases k1 : e.f2 = 1
    · rw [if_pos k1]
      have hs := (acc_target hr).2.1 k1
      have hf := h.fresh (by omega)
      exact ⟨hlen, fun _ => hf, hconf, fun h3 => by simp at h3⟩
    · rw [if_neg k1]
      by_cases k2 : e.f2 = 2
      · rw [if_pos k2]; exact ⟨hlen, h.fresh, hconf, hres⟩
      · rw [if_neg k2]
        by_cases k3 : e.f2 = 3
        · rw [if_pos k3]
          refine ⟨hlen, h.fresh, fun t ht h2 => ?_, hres⟩
          rcases List.mem_append.mp ht with ht | ht
          · exact hconf t ht h2
          · simp at ht; rw [ht] at h2; simp at h2
        · rw [if_neg k3]
          by_cases k4 : e.f2 = 4
          · rw [if_pos k4]
            obtain ⟨⟨j, hj, hti, hjk⟩, hna, _⟩ := acc_cause hr (.inl k4)
            refine ⟨hlen, h.fresh, fun t ht h2 => ?_, hres⟩
            rcases mem_statP ht with ht | ht
            · exact hconf t ht h2
            · rw [hti, hjk] at ht
              subst ht
              refine ⟨p.length, e, ?_, by simp, k4, rfl, fun h => hna k4 h.symm⟩
              rw [← h.len]; simp
          · rw [if_neg k4]
            by_cases k5 : e.f2 = 5
            · rw [if_pos k5]
              refine ⟨hlen, h.fresh, fun t ht h2 => ?_, hres⟩
              rcases mem_statP ht with ht | ht
              · exact hconf t ht h2
              · rw [ht] at h2; simp at h2
            · rw [if_neg k5]
              by_cases k6 : e.f2 = 6
              · rw [if_pos k6]
                have hs := acc_mitigate hr k6
                exact ⟨hlen, fun _ => h.fresh (by omega), hconf, fun h3 => by simp at h3⟩
              · rw [if_neg k6]
                by_cases k7 : e.f2 = 7
                · rw [if_pos k7]
                  obtain ⟨⟨j, hj, hti, hjk⟩, _, h2⟩ := acc_cause hr (.inr (.inr k7))
                  have h2 := h2 k7
                  rw [hti] at h2
                  refine ⟨hlen, fun h => absurd rfl h, hconf, fun _ => ?_⟩
                  obtain ⟨i, x, hw⟩ := h.conf (rd_T51 s.th (j : Int)) (by simp [rd_T51, hj]) h2
                  rw [hjk] at hw
                  exact ⟨i, x, hw.more e 0, hat x (List.mem_of_getElem? hw.2.1)⟩
                · rw [if_neg k7]
                  by_cases k8 : e.f2 = 8
                  · rw [if_pos k8]
                    exact ⟨hlen, fun _ => ⟨rfl, rfl⟩, hconf, fun h3 => by simp at h3⟩
                  · rw [if_neg k8]
                    exact ⟨hlen, h.fresh, hconf, hres⟩
  · rw [if_neg h0]
    exact ⟨hlen, h.fresh, hconf, hres⟩
theorem rinv_run (l : List S27) : Ord l → RInv l (runO l).1 (runO l).2 := snoc_ind (p := fun l => Ord l → RInv l (runO l).1 (runO l).2)
  (fun _ => ⟨rfl, fun _ => ⟨rfl, rfl⟩, fun t ht => absurd ht (by simp [runO, PS0]), fun h => absurd h (by decide)⟩)
  (fun l e ih h => by
    obtain ⟨h1, h2⟩ := ord_snoc h
    rw [runO_snoc]
    exact rinv_step (ih h1) e h2) l
end Go.Proofs.Ytcjfgejiknlpfaa.PI
end

/-! # EqB -/
section
namespace Go.Proofs.Ytcjfgejiknlpfaa.PI
open Go.RowKit Go.Proofs.YtcjfgejiknlpfaaW.PrintWords
set_option linter.unusedVariables false
set_option linter.unusedSimpArgs false
theorem bytes_iff (a b : ByteArray) : (a.toList == b.toList) = decide (a = b) := by
  by_cases h : a = b
  · subst h; simp
  · have h2 : ¬ a.toList = b.toList := fun e => h (bytes_ext _ _ e)
    rw [decide_eq_false h]
    simpa using h2
instance decS49 : DecidableEq S49 := fun x y => decidable_of_iff (x.f0 = y.f0 ∧ x.f1 = y.f1) (by obtain ⟨a, b⟩ := x; obtain ⟨c, d⟩ := y; simp)
instance decS51 : DecidableEq S51 := fun x y => decidable_of_iff (x.f0 = y.f0 ∧ x.f1 = y.f1 ∧ x.f2 = y.f2) (by obtain ⟨a, b, e⟩ := x; obtain ⟨c, d, f⟩ := y; simp)
theorem w64 (i : Nat) (h : i < 1000000) : wrap64 ((i : Int) + 1) = ((i + 1 : Nat) : Int) := by unfold wrap64; omega
theorem ne49 (x y : S49) : ((!(x.f0.toList == y.f0.toList)) || (!(x.f1 == y.f1))) = !decide (x = y) := by
  rw [bytes_iff]
  obtain ⟨a, b⟩ := x
  obtain ⟨c, d⟩ := y
  by_cases h1 : a = c <;> by_cases h2 : b = d <;> simp [h1, h2]
theorem ne51 (x y : S51) : (((!(x.f0.f0.toList == y.f0.f0.toList)) || (!(x.f0.f1 == y.f0.f1))) || ((!(x.f1.toList == y.f1.toList)) || (!(x.f2 == y.f2)))) = !decide (x = y) := by
  rw [bytes_iff, bytes_iff]
  obtain ⟨⟨a, a2⟩, b, e⟩ := x
  obtain ⟨⟨c, c2⟩, d, f⟩ := y
  by_cases h1 : a = c <;> by_cases h2 : b = d <;> by_cases h3 : a2 = c2 <;> by_cases h4 : e = f <;> simp [h1, h2, h3, h4]
instance decPS : DecidableEq PS := fun x y => decidable_of_iff (x.st = y.st ∧ x.ti = y.ti ∧ x.op = y.op ∧ x.en = y.en ∧ x.ca = y.ca ∧ x.pe = y.pe ∧ x.th = y.th ∧ x.no = y.no) (by obtain ⟨⟩ := x; obtain ⟨⟩ := y; simp)
end Go.Proofs.Ytcjfgejiknlpfaa.PI
end

/-! # ModP -/
section
namespace Go.Proofs.Ytcjfgejiknlpfaa.PI
open Go.RowKit Go.Proofs.YtcjfgejiknlpfaaW.PrintWords
set_option linter.unusedVariables false
set_option linter.unusedSimpArgs false
def roleM (nm : ByteArray) : List S49 → Int
  | [] => 1
  | p :: l => if p.f0 = nm then p.f1 else roleM nm l
theorem bcmp_self (a : ByteArray) : bcmp a a = 0 := (bcmp_zero_iff a a).mpr rfl
theorem roleM_none (nm : ByteArray) : ∀ l : List S49, (∀ p ∈ l, ¬ p.f0 = nm) → roleM nm l = 1
  | [], _ => rfl
  | p :: l, h => by rw [roleM, if_neg (h p (by simp)), roleM_none nm l (fun q hq => h q (by simp [hq]))]
theorem role_is (nm : ByteArray) : ∀ l : List S49, IncP l → roleM nm l = roleP nm l
  | [], _ => by simp [roleM, roleP, hitP, plcP]
  | y :: l, h => by
    obtain ⟨hy, hl⟩ := List.pairwise_cons.mp h
    have ih := role_is nm l hl
    unfold roleM
    by_cases hb : bcmp y.f0 nm < 0
    · obtain ⟨h1, h2⟩ := hitP_lt (l := l) hb
      have hne : ¬ y.f0 = nm := fun e => by rw [e, bcmp_self] at hb; omega
      rw [if_neg hne, ih]
      unfold roleP
      rw [h1, h2, rdP_cons]
    · obtain ⟨h1, h2⟩ := hitP_ge (l := l) hb
      have er : rd_T49 (y :: l) ((0 : Nat) : Int) = y := by simp [rd_T49]
      unfold roleP
      rw [h1, h2, er]
      by_cases h0 : bcmp y.f0 nm = 0
      · rw [if_pos ((bcmp_zero_iff _ _).mp h0), if_pos (decide_eq_true h0)]
      · rw [if_neg (fun e => h0 ((bcmp_zero_iff _ _).mpr e)), if_neg (by simpa using h0)]
        refine roleM_none nm l (fun p hp e => ?_)
        have h3 := hy p hp
        rw [e] at h3
        exact hb h3
/-- What appoint makes, element by element: the list, and whether somebody is in it. -/
def appS (nm : ByteArray) (r : Int) (x : List S49 × Bool) (p : S49) : List S49 × Bool :=
  let y := if x.2 = false ∧ 0 ≤ bcmp p.f0 nm then (x.1 ++ [⟨nm, r⟩], true) else x
  if p.f0 = nm then y else (y.1 ++ [p], y.2)
def appF (nm : ByteArray) (r : Int) (l : List S49) : List S49 × Bool := l.foldl (appS nm r) ([], false)
def appM (nm : ByteArray) (r : Int) (l : List S49) : List S49 := if (appF nm r l).2 = true then (appF nm r l).1 else (appF nm r l).1 ++ [⟨nm, r⟩]
theorem appF_snoc (nm : ByteArray) (r : Int) (l : List S49) (p : S49) : appF nm r (l ++ [p]) = appS nm r (appF nm r l) p := by simp [appF, List.foldl_append]
theorem app_done (nm : ByteArray) (r : Int) : ∀ (l a : List S49), (∀ p ∈ l, ¬ p.f0 = nm) → l.foldl (appS nm r) (a, true) = (a ++ l, true)
  | [], a, _ => by simp
  | p :: l, a, h => by
    have e : appS nm r (a, true) p = (a ++ [p], true) := by simp [appS, h p (by simp)]
    rw [List.foldl_cons, e, app_done nm r l (a ++ [p]) (fun q hq => h q (by simp [hq]))]
    simp
theorem app_from (nm : ByteArray) (r : Int) : ∀ (l a : List S49), IncP l → (if (l.foldl (appS nm r) (a, false)).2 = true then (l.foldl (appS nm r) (a, false)).1 else (l.foldl (appS nm r) (a, false)).1 ++ [⟨nm, r⟩]) = a ++ asgR nm r l
  | [], a, _ => by simp [asgR]
  | y :: l, a, h => by
    obtain ⟨hy, hl⟩ := List.pairwise_cons.mp h
    unfold asgR
    rw [List.foldl_cons]
    by_cases hb : bcmp y.f0 nm < 0
    · have hne : ¬ y.f0 = nm := fun e => by rw [e, bcmp_self] at hb; omega
      have e : appS nm r (a, false) y = (a ++ [y], false) := by
        have hn : ¬ (0 ≤ bcmp y.f0 nm) := by omega
        simp [appS, hne, hn]
      rw [e, if_pos hb, app_from nm r l (a ++ [y]) hl]
      simp
    · have hne : ∀ p ∈ l, ¬ p.f0 = nm := fun p hp e => by
        have h3 := hy p hp
        rw [e] at h3
        exact hb h3
      have hp : 0 ≤ bcmp y.f0 nm := by omega
      rw [if_neg hb]
      by_cases h0 : bcmp y.f0 nm = 0
      · have e0 := (bcmp_zero_iff _ _).mp h0
        have e : appS nm r (a, false) y = (a ++ [⟨nm, r⟩], true) := by simp [appS, e0, bcmp_self]
        rw [e, if_pos h0, app_done nm r l _ hne, if_pos rfl, e0]
        simp
      · have e0 : ¬ y.f0 = nm := fun e => h0 ((bcmp_zero_iff _ _).mpr e)
        have e : appS nm r (a, false) y = (a ++ [⟨nm, r⟩] ++ [y], true) := by simp [appS, e0, hp]
        rw [e, if_neg h0, app_done nm r l _ hne, if_pos rfl]
        simp
theorem app_is (nm : ByteArray) (r : Int) (l : List S49) (h : IncP l) : appM nm r l = assignP nm r l := by
  rw [assign_is]
  have := app_from nm r l [] h
  rwa [List.nil_append] at this
def needM (k : Int) : Int := if k = 2 then 1 else if k = 3 ∨ k = 4 ∨ k = 5 ∨ k = 6 then 2 else if k = 7 ∨ k = 8 ∨ k = 9 then 3 else 0
def aimsM (k : Int) : Prop := k = 4 ∨ k = 5 ∨ k = 7
def reasonM (s : PS) (e : S27) : Int :=
  if s.st = 0 ∧ e.f2 ≠ 1 then 1
  else if s.st ≠ 0 ∧ e.f2 = 1 then 2
  else if s.st = 3 ∧ e.f2 ≠ 2 ∧ e.f2 ≠ 8 then 3
  else if e.f2 = 8 ∧ s.st ≠ 3 then 8
  else if roleM e.f0.f0 s.pe < needM e.f2 then 4
  else if (e.f2 = 4 ∨ e.f2 = 5 ∨ e.f2 = 7) ∧ thIx e.f3 s.th < 0 then 5
  else if e.f2 = 4 ∧ e.f3.f0 = e.f0.f0 then 6
  else if e.f2 = 7 ∧ 0 ≤ thIx e.f3 s.th ∧ thIx e.f3 s.th < s.th.length ∧ (rd_T51 s.th (thIx e.f3 s.th)).f2 ≠ 2 then 7
  else if e.f2 = 6 ∧ s.st ≠ 1 then 9
  else 0
/-- Everybody has a role. -/
def Roles (l : List S49) : Prop := ∀ p ∈ l, 1 ≤ p.f1
theorem roleM_pos (nm : ByteArray) : ∀ l, Roles l → 1 ≤ roleM nm l
  | [], _ => by simp [roleM]
  | p :: l, h => by
    unfold roleM
    split
    · exact h p (by simp)
    · exact roleM_pos nm l (fun q hq => h q (by simp [hq]))
theorem reason_is (s : PS) (e : S27) (hI : IncP s.pe) (hR : Roles s.pe) (hk : 1 ≤ e.f2 ∧ e.f2 ≤ 9) : reasonM s e = reasonP s e := by
  have hr := roleM_pos e.f0.f0 s.pe hR
  unfold reasonM reasonP
  rw [← role_is e.f0.f0 s.pe hI]
  by_cases c1 : s.st = 0 ∧ e.f2 ≠ 1
  · rw [if_pos c1, if_pos c1]
  · rw [if_neg c1, if_neg c1]
    by_cases c2 : s.st ≠ 0 ∧ e.f2 = 1
    · rw [if_pos c2, if_pos c2]
    · rw [if_neg c2, if_neg c2]
      by_cases c3 : s.st = 3 ∧ e.f2 ≠ 2 ∧ e.f2 ≠ 8
      · rw [if_pos c3, if_pos (show s.st = 3 ∧ e.f2 ≠ 2 ∧ e.f2 ≠ 8 ∧ e.f2 ≠ 1 from ⟨c3.1, c3.2.1, c3.2.2, fun h => c2 ⟨by omega, h⟩⟩)]
      · rw [if_neg c3, if_neg (show ¬ (s.st = 3 ∧ e.f2 ≠ 2 ∧ e.f2 ≠ 8 ∧ e.f2 ≠ 1) from fun h => c3 ⟨h.1, h.2.1, h.2.2.1⟩)]
        by_cases c4 : e.f2 = 8 ∧ s.st ≠ 3
        · rw [if_pos c4, if_pos c4]
        · rw [if_neg c4, if_neg c4]
          have hq : (roleM e.f0.f0 s.pe < needM e.f2) ↔ (roleM e.f0.f0 s.pe < rightP e.f2) := by
            unfold needM rightP
            generalize roleM e.f0.f0 s.pe = q at hr
            have : e.f2 = 1 ∨ e.f2 = 2 ∨ e.f2 = 3 ∨ e.f2 = 4 ∨ e.f2 = 5 ∨ e.f2 = 6 ∨ e.f2 = 7 ∨ e.f2 = 8 ∨ e.f2 = 9 := by omega
            rcases this with h | h | h | h | h | h | h | h | h <;> rw [h] <;> simp <;> omega
          by_cases c5 : roleM e.f0.f0 s.pe < rightP e.f2
          · rw [if_pos (hq.mpr c5), if_pos c5]
          · rw [if_neg (fun h => c5 (hq.mp h)), if_neg c5]
            unfold targetP
            by_cases k6 : e.f2 = 6
            · rw [if_neg (by omega), if_neg (by omega), if_neg (by omega), if_pos k6]
              by_cases c : s.st = 1
              · rw [if_neg (by omega), if_pos c]
              · rw [if_pos ⟨k6, c⟩, if_neg c]
            · rw [if_neg k6]
              by_cases k4 : e.f2 = 4 ∨ e.f2 = 5 ∨ e.f2 = 7
              · rw [if_pos k4]
                by_cases c : thIx e.f3 s.th < 0
                · rw [if_pos ⟨k4, c⟩, if_pos c]
                · rw [if_neg (fun h => c h.2), if_neg c]
                  by_cases c6 : e.f2 = 4 ∧ e.f3.f0 = e.f0.f0
                  · rw [if_pos c6, if_pos c6]
                  · rw [if_neg c6, if_neg c6]
                    have hlt : thIx e.f3 s.th < s.th.length := by
                      rcases thIx_range e.f3 s.th with h | ⟨j, h1, h2, _⟩
                      · omega
                      · omega
                    by_cases c7 : e.f2 = 7 ∧ (rd_T51 s.th (thIx e.f3 s.th)).f2 ≠ 2
                    · rw [if_pos ⟨c7.1, by omega, hlt, c7.2⟩, if_pos c7]
                    · rw [if_neg (fun h => c7 ⟨h.1, h.2.2.2⟩), if_neg c7, if_neg (fun h => k6 h.1)]
              · rw [if_neg k4, if_neg (fun h => k4 h.1), if_neg (fun h => k4 (.inl h.1)), if_neg (fun h => k4 (.inr (.inr h.1))), if_neg (fun h => k6 h.1)]
/-- The model's accept. -/
def accM (s : PS) (e : S27) : PS :=
  if e.f2 = 1 then { s with st := 1, ti := e.f6, op := e.f1, pe := appM e.f0.f0 3 s.pe }
  else if e.f2 = 2 then { s with no := s.no + 1 }
  else if e.f2 = 3 then { s with th := s.th ++ [⟨e.f0, e.f6, 1⟩] }
  else if e.f2 = 4 then { s with th := statP e.f3 2 s.th }
  else if e.f2 = 5 then { s with th := statP e.f3 3 s.th }
  else if e.f2 = 6 then { s with st := 2 }
  else if e.f2 = 7 then { s with st := 3, en := e.f1, ca := e.f3 }
  else if e.f2 = 8 then { s with st := 1, en := 0, ca := z25 }
  else { s with pe := appM e.f4 e.f5 s.pe }
theorem acc_is (s : PS) (e : S27) (h : IncP s.pe) : accM s e = effP s e := by
  unfold accM effP
  rw [app_is _ _ _ h, app_is _ _ _ h]
def stepM (x : PS × List Int) (e : S27) : PS × List Int := (if reasonM x.1 e = 0 then accM x.1 e else x.1, x.2 ++ [reasonM x.1 e])
def runM (l : List S27) : PS × List Int := l.foldl stepM (PS0, [])
theorem runM_snoc (l : List S27) (e : S27) : runM (l ++ [e]) = stepM (runM l) e := by simp [runM, List.foldl_append]
theorem asgR_roles {nm : ByteArray} {r : Int} (hr : 1 ≤ r) : ∀ {l : List S49}, Roles l → Roles (asgR nm r l)
  | [], _ => fun p hp => by simp [asgR] at hp; rw [hp]; exact hr
  | y :: l, h => by
    have h2 : Roles l := fun q hq => h q (by simp [hq])
    unfold asgR
    split
    · intro p hp
      rcases List.mem_cons.mp hp with rfl | hp
      · exact h _ (by simp)
      · exact asgR_roles hr h2 p hp
    · split
      · intro p hp
        rcases List.mem_cons.mp hp with rfl | hp
        · exact hr
        · exact h2 p hp
      · intro p hp
        rcases List.mem_cons.mp hp with rfl | hp
        · exact hr
        · exact h p hp
/-- What is asked of the events: their kinds, and a role where one is given. -/
def EvOk (x : S27) : Prop := (1 ≤ x.f2 ∧ x.f2 ≤ 9) ∧ (x.f2 = 9 → 1 ≤ x.f5)
theorem eff_roles {s : PS} {e : S27} (h : Roles s.pe) (he : EvOk e) : Roles (effP s e).pe := by
  unfold effP
  split
  · show Roles (assignP _ _ _); rw [assign_is]; exact asgR_roles (by decide) h
  · split
    · exact h
    · split
      · exact h
      · split
        · exact h
        · split
          · exact h
          · split
            · exact h
            · split
              · exact h
              · split
                · exact h
                · show Roles (assignP _ _ _); rw [assign_is]; exact asgR_roles (he.2 (by have := he.1; omega)) h
theorem run_roles (l : List S27) : (∀ x ∈ l, EvOk x) → Roles (runO l).1.pe := snoc_ind (p := fun l => (∀ x ∈ l, EvOk x) → Roles (runO l).1.pe) (fun _ p hp => by cases hp) (fun l e ih h => by
  rw [runO_snoc]
  have h1 := ih (fun x hx => h x (by simp [hx]))
  unfold stepP
  by_cases c : reasonP (runO l).1 e = 0
  · simp only [if_pos c]; exact eff_roles h1 (h e (by simp))
  · simp only [if_neg c]; exact h1) l
theorem run_is (l : List S27) : (∀ x ∈ l, EvOk x) → runM l = runO l := snoc_ind (p := fun l => (∀ x ∈ l, EvOk x) → runM l = runO l) (fun _ => rfl) (fun l e ih h => by
  have h0 : ∀ x ∈ l, EvOk x := fun x hx => h x (by simp [hx])
  rw [runM_snoc, runO_snoc, ih h0]
  have hg := (good_run l).inc
  unfold stepM stepP
  rw [reason_is _ e hg (run_roles l h0) (h e (by simp)).1, acc_is _ e hg]) l
end Go.Proofs.Ytcjfgejiknlpfaa.PI
end

/-! # Cnt -/
section
namespace Go.Proofs.Ytcjfgejiknlpfaa.PI
open Go.RowKit Go.Proofs.YtcjfgejiknlpfaaW.PrintWords
set_option linter.unusedVariables false
set_option linter.unusedSimpArgs false
theorem rd27_at (l : List S27) (i : Nat) (h : i < l.length) : rd_T27 l (i : Int) = l[i] := by simp [rd_T27, h]
theorem put_ord {l : List S27} {x : S27} {k : Nat} (hO : Ord l) (hk : k ≤ l.length) (hi : ∀ j : Nat, k ≤ j → j < l.length → Bf x (rd_T27 l (j : Int))) (lo : 0 < k → ¬ Bf x (rd_T27 l ((k - 1 : Nat) : Int))) : Ord (l.take k ++ x :: l.drop k) := by
  have hO2 := hO
  unfold Ord at hO ⊢
  rw [← List.take_append_drop k l] at hO
  obtain ⟨h1, h2, h3⟩ := List.pairwise_append.mp hO
  have hB : ∀ y ∈ l.drop k, Bf x y := fun y hy => by
    obtain ⟨j, hj, rfl⟩ := List.mem_iff_getElem.mp hy
    rw [List.length_drop] at hj
    have := hi (k + j) (by omega) (by omega)
    rw [rd27_at l (k + j) (by omega)] at this
    rw [List.getElem_drop]
    exact this
  refine List.pairwise_append.mpr ⟨h1, List.pairwise_cons.mpr ⟨fun y hy hb => bf_asymm hb (hB y hy), h2⟩, fun a ha b hb => ?_⟩
  rcases List.mem_cons.mp hb with rfl | hb
  · intro hba
    obtain ⟨j, hj, rfl⟩ := List.mem_iff_getElem.mp ha
    rw [List.length_take] at hj
    rw [List.getElem_take] at hba
    have hl := lo (by omega)
    rw [rd27_at l (k - 1) (by omega)] at hl
    by_cases hjk : j = k - 1
    · subst hjk; exact hl hba
    · have hp := List.pairwise_iff_getElem.mp hO2 j (k - 1) (by omega) (by omega) (by omega)
      by_cases e : l[j] = l[k - 1]
      · exact hl (e ▸ hba)
      · refine hl (bf_trans hba (bf_tri hp (fun h => e h.symm)))
  · exact h3 a ha b hb
theorem srt_put {l : List S27} {x : S27} {k : Nat} (hk : k ≤ (srt l).length) (hi : ∀ j : Nat, k ≤ j → j < (srt l).length → Bf x (rd_T27 (srt l) (j : Int))) (lo : 0 < k → ¬ Bf x (rd_T27 (srt l) ((k - 1 : Nat) : Int))) : srt (l ++ [x]) = (srt l).take k ++ x :: (srt l).drop k := by
  refine (srt_unique ?_ (put_ord (srt_ord l) hk hi lo)).symm
  have h1 : ((srt l).take k ++ x :: (srt l).drop k).Perm (x :: ((srt l).take k ++ (srt l).drop k)) := List.perm_middle
  rw [List.take_append_drop] at h1
  exact h1.trans (((srt_perm l).cons x).trans (List.perm_append_comm (l₁ := [x])))
end Go.Proofs.Ytcjfgejiknlpfaa.PI
end
