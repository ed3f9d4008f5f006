/- The state of an incident, plainly: what becomes of an event, and what it does. No walk. -/
import Derived.Test.YtcjfgejiknlpfaaSq5
import Derived.Test.YtcjfgejiknlpfaaPIx12
namespace Go.Proofs.Ytcjfgejiknlpfaa.PI
open Go.RowKit Go.Proofs.YtcjfgejiknlpfaaW.PrintWords
set_option linter.unusedVariables false
set_option linter.unusedSimpArgs false
structure PS where
  st : Int
  ti : ByteArray
  op : Int
  en : Int
  ca : S25
  pe : List S49
  th : List S51
  no : Int
def PS0 : PS := ⟨0, ⟨#[]⟩, 0, 0, z25, [], [], 0⟩
/-- The index of the theory with a key, or -1. -/
def thIxN (k : S25) : List S51 → Nat → Int
  | [], _ => -1
  | t :: l, i => if t.f0 = k then (i : Int) else thIxN k l (i + 1)
def thIx (k : S25) (l : List S51) : Int := thIxN k l 0
theorem thIxN_hit (k : S25) : ∀ (l : List S51) (i j : Nat), j < l.length → (∀ m : Nat, m < j → (rd_T51 l m).f0 ≠ k) → (rd_T51 l j).f0 = k → thIxN k l i = ((i + j : Nat) : Int)
  | [], _, _, h, _, _ => absurd h (Nat.not_lt_zero _)
  | t :: l, i, 0, _, _, h => by
    unfold thIxN
    rw [if_pos (by simpa [rd_T51] using h)]; rfl
  | t :: l, i, j + 1, hj, hm, h => by
    unfold thIxN
    have h0 : ¬ t.f0 = k := by have := hm 0 (by omega); simpa [rd_T51] using this
    rw [if_neg h0, thIxN_hit k l (i + 1) j (by simpa using hj) (fun m hm2 => by have := hm (m + 1) (by omega); simpa [rd_T51] using this) (by simpa [rd_T51] using h)]
    congr 1; omega
theorem thIxN_none (k : S25) : ∀ (l : List S51) (i : Nat), (∀ m : Nat, m < l.length → (rd_T51 l m).f0 ≠ k) → thIxN k l i = -1
  | [], _, _ => rfl
  | t :: l, i, hm => by
    unfold thIxN
    have h0 : ¬ t.f0 = k := by have := hm 0 (by simp); simpa [rd_T51] using this
    rw [if_neg h0, thIxN_none k l (i + 1) (fun m hm2 => by have := hm (m + 1) (by simpa using hm2); simpa [rd_T51] using this)]
theorem thIx_hit {k : S25} {l : List S51} {j : Nat} (hj : j < l.length) (hm : ∀ m : Nat, m < j → (rd_T51 l m).f0 ≠ k) (h : (rd_T51 l j).f0 = k) : thIx k l = (j : Int) := by
  have := thIxN_hit k l 0 j hj hm h
  unfold thIx
  rw [this, Nat.zero_add]
theorem thIx_none {k : S25} {l : List S51} (hm : ∀ m : Nat, m < l.length → (rd_T51 l m).f0 ≠ k) : thIx k l = -1 := thIxN_none k l 0 hm
theorem thIxN_range (k : S25) : ∀ (l : List S51) (i : Nat), thIxN k l i = -1 ∨ ∃ j : Nat, j < l.length ∧ thIxN k l i = ((i + j : Nat) : Int) ∧ (rd_T51 l j).f0 = k
  | [], _ => .inl rfl
  | t :: l, i => by
    unfold thIxN
    by_cases h : t.f0 = k
    · rw [if_pos h]; exact .inr ⟨0, by simp, rfl, by simpa [rd_T51] using h⟩
    · rw [if_neg h]
      rcases thIxN_range k l (i + 1) with h1 | ⟨j, h1, h2, h3⟩
      · exact .inl h1
      · exact .inr ⟨j + 1, by simpa using h1, by rw [h2]; congr 1; omega, by simpa [rd_T51] using h3⟩
theorem thIx_range (k : S25) (l : List S51) : thIx k l = -1 ∨ ∃ j : Nat, j < l.length ∧ thIx k l = (j : Int) ∧ (rd_T51 l j).f0 = k := by
  rcases thIxN_range k l 0 with h | ⟨j, h1, h2, h3⟩
  · exact .inl h
  · exact .inr ⟨j, h1, by unfold thIx; rw [h2, Nat.zero_add], h3⟩
/-! ### people, by name -/
def IncP (l : List S49) : Prop := l.Pairwise fun x y => bcmp x.f0 y.f0 < 0
/-- Where somebody is, or would be. -/
def plcP (nm : ByteArray) : List S49 → Nat
  | [] => 0
  | x :: l => if bcmp x.f0 nm < 0 then plcP nm l + 1 else 0
def hitP (nm : ByteArray) (l : List S49) : Bool := decide (plcP nm l < l.length) && (bcmp (rd_T49 l (plcP nm l)).f0 nm == 0)
theorem plcP_le (nm : ByteArray) : ∀ l, plcP nm l ≤ l.length
  | [] => Nat.le_refl _
  | x :: l => by
    unfold plcP
    split
    · have := plcP_le nm l; simp; omega
    · exact Nat.zero_le _
theorem rdP_cons (y : S49) (l : List S49) (j : Nat) : rd_T49 (y :: l) ((j + 1 : Nat) : Int) = rd_T49 l (j : Int) := by simp [rd_T49]
theorem plcP_lo (nm : ByteArray) : ∀ (l : List S49) (j : Nat), j < plcP nm l → bcmp (rd_T49 l (j : Int)).f0 nm < 0
  | [], j, h => absurd h (Nat.not_lt_zero _)
  | x :: l, j, h => by
    unfold plcP at h
    split at h
    · rename_i hx
      cases j with
      | zero => simpa [rd_T49] using hx
      | succ j => rw [rdP_cons]; exact plcP_lo nm l j (by omega)
    · exact absurd h (Nat.not_lt_zero _)
theorem bcmp_lt_trans {a b c : ByteArray} (h1 : bcmp a b < 0) (h2 : bcmp b c < 0) : bcmp a c < 0 := (bcmp_neg_iff _ _).mpr (bl_trans _ _ _ ((bcmp_neg_iff _ _).mp h1) ((bcmp_neg_iff _ _).mp h2))
theorem plcP_hi (nm : ByteArray) : ∀ (l : List S49), IncP l → ∀ j : Nat, plcP nm l ≤ j → j < l.length → 0 ≤ bcmp (rd_T49 l (j : Int)).f0 nm
  | [], _, j, _, h => absurd h (Nat.not_lt_zero _)
  | x :: l, hI, j, hj, hl => by
    obtain ⟨hx, hI2⟩ := List.pairwise_cons.mp hI
    unfold plcP at hj
    split at hj
    · cases j with
      | zero => omega
      | succ j => rw [rdP_cons]; exact plcP_hi nm l hI2 j (by omega) (by simpa using hl)
    · rename_i hn
      cases j with
      | zero => rw [show rd_T49 (x :: l) ((0 : Nat) : Int) = x by simp [rd_T49]]; omega
      | succ j =>
        rw [rdP_cons]
        have hj2 : j < l.length := by simpa using hl
        have hm := hx (rd_T49 l (j : Int)) (by simp [rd_T49, hj2])
        by_cases h : bcmp (rd_T49 l (j : Int)).f0 nm < 0
        · exact absurd (bcmp_lt_trans hm h) hn
        · omega
def roleP (nm : ByteArray) (l : List S49) : Int := if hitP nm l = true then (rd_T49 l (plcP nm l : Nat)).f1 else 1
def rightP (k : Int) : Int := if k = 7 ∨ k = 8 ∨ k = 9 then 3 else if k = 3 ∨ k = 4 ∨ k = 5 ∨ k = 6 then 2 else 1
theorem right_ok (k : Int) : incident_right.f 2 k = some (rightP k) := by
  unfold incident_right.f rightP
  by_cases h7 : k = 7
  · subst h7; rfl
  · by_cases h8 : k = 8
    · subst h8; rfl
    · by_cases h9 : k = 9
      · subst h9; rfl
      · simp only [h7, h8, h9, if_false, false_or, incident_right.j0, beq_iff_eq]
        by_cases h3 : k = 3
        · simp [h3]
        · by_cases h4 : k = 4
          · simp [h4]
          · by_cases h5 : k = 5
            · simp [h5]
            · by_cases h6 : k = 6 <;> simp [h3, h4, h5, h6]
def targetP (s : PS) (e : S27) : Int :=
  if e.f2 = 6 then (if s.st = 1 then 0 else 9)
  else if e.f2 = 4 ∨ e.f2 = 5 ∨ e.f2 = 7 then
    if thIx e.f3 s.th < 0 then 5
    else if e.f2 = 4 ∧ e.f3.f0 = e.f0.f0 then 6
    else if e.f2 = 7 ∧ (rd_T51 s.th (thIx e.f3 s.th)).f2 ≠ 2 then 7
    else 0
  else 0
def reasonP (s : PS) (e : S27) : Int :=
  if s.st = 0 ∧ e.f2 ≠ 1 then 1
  else if s.st ≠ 0 ∧ e.f2 = 1 then 2
  else if s.st = 3 ∧ e.f2 ≠ 2 ∧ e.f2 ≠ 8 ∧ e.f2 ≠ 1 then 3
  else if e.f2 = 8 ∧ s.st ≠ 3 then 8
  else if roleP e.f0.f0 s.pe < rightP e.f2 then 4
  else targetP s e
/-- Somebody gets a role. -/
def assignP (nm : ByteArray) (r : Int) (l : List S49) : List S49 :=
  if hitP nm l = true then l.set (plcP nm l) ⟨(rd_T49 l (plcP nm l : Nat)).f0, r⟩ else l.take (plcP nm l) ++ ⟨nm, r⟩ :: l.drop (plcP nm l)
/-- A theory's status turns. -/
def statP (k : S25) (v : Int) (l : List S51) : List S51 := l.set (thIx k l).toNat ⟨(rd_T51 l (thIx k l)).f0, (rd_T51 l (thIx k l)).f1, v⟩
def effP (s : PS) (e : S27) : PS :=
  if e.f2 = 1 then { s with st := 1, ti := e.f6, op := e.f1, pe := assignP e.f0.f0 3 s.pe }
  else if e.f2 = 2 then { s with no := s.no + 1 }
  else if e.f2 = 3 then { s with th := s.th ++ [⟨e.f0, e.f6, 1⟩] }
  else if e.f2 = 4 then { s with th := statP e.f3 2 s.th }
  else if e.f2 = 5 then { s with th := statP e.f3 3 s.th }
  else if e.f2 = 6 then { s with st := 2 }
  else if e.f2 = 7 then { s with st := 3, en := e.f1, ca := e.f3 }
  else if e.f2 = 8 then { s with st := 1, en := 0, ca := z25 }
  else { s with pe := assignP e.f4 e.f5 s.pe }
def stepP (x : PS × List Int) (e : S27) : PS × List Int :=
  (if reasonP x.1 e = 0 then effP x.1 e else x.1, x.2 ++ [reasonP x.1 e])
def runO (l : List S27) : PS × List Int := l.foldl stepP (PS0, [])
def runP (l : List S27) : PS × List Int := runO (orderE l)
theorem runO_snoc (l : List S27) (e : S27) : runO (l ++ [e]) = stepP (runO l) e := by simp [runO, List.foldl_append]
end Go.Proofs.Ytcjfgejiknlpfaa.PI
