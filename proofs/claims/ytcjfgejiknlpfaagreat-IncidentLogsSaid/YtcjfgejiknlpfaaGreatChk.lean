/- What the checks of an event answer, plainly: names, texts, keys. No walk. -/
import Derived.Test.YtcjfgejiknlpfaaGreatSq23
import Derived.Test.YtcjfgejiknlpfaaGreatEqB
import Derived.Test.YtcjfgejiknlpfaaGreatDec
import Derived.Test.YtcjfgejiknlpfaaGreatJ0
namespace Go.Proofs.YtcjfgejiknlpfaaGreat.PI
open Go.RowKit Go.Proofs.YtcjfgejiknlpfaaGreatW.PrintWords
set_option linter.unusedVariables false
set_option linter.unusedSimpArgs false
theorem within_some (t : ByteArray) (a b : Int) (hm : t.size ≤ 64) : ∀ (k i : Nat), t.size < k + i → i ≤ t.size → ∃ r, attribute_within.l0 k t a b (t.size : Int) (i : Int) = some r
  | 0, i, h, hi => by omega
  | k + 1, i, h, hi => by
    unfold attribute_within.l0
    by_cases hl : i < t.size
    · rw [if_pos (by omega), if_pos (by omega), if_pos (by omega)]
      split
      · exact ⟨_, rfl⟩
      · split
        · exact ⟨_, rfl⟩
        · rw [w64 i (by omega)]
          exact within_some t a b hm k (i + 1) (by omega) (by omega)
    · rw [if_neg (by omega)]
      exact ⟨_, rfl⟩
def isN (t : ByteArray) : Bool := (attribute_IsName.f 100 t).getD false
theorem isN_ok (t : ByteArray) : attribute_IsName.f 100 t = some (isN t) := by
  have h : ∃ r, attribute_IsName.f 100 t = some r := by
    unfold attribute_IsName.f
    split
    · exact ⟨_, rfl⟩
    · split
      · obtain ⟨r, hr⟩ := within_some t 33 126 (by omega) 100 0 (by omega) (Nat.zero_le _)
        have hr2 : attribute_within.f 100 t 33 126 = some r := hr
        rw [hr2]
        exact ⟨r, rfl⟩
      · exact ⟨_, rfl⟩
  obtain ⟨r, hr⟩ := h
  unfold isN
  rw [hr]
  rfl
/-- The error of a text. -/
def textE (t : ByteArray) : Int := if t.toList = [] then 7 else if (t.size : Int) > 4096 then 5 else if t.data.toList.all okB = true then 0 else 3
theorem text_from (t : ByteArray) (hm : t.size ≤ 4096) : ∀ (k i : Nat), t.size < k + i → i ≤ t.size → sleuthlaw51_text.l0 k t (i : Int) = some (if (t.data.toList.drop i).all okB = true then 0 else 3)
  | 0, i, h, hi => by omega
  | k + 1, i, h, hi => by
    unfold sleuthlaw51_text.l0
    by_cases hl : i < t.size
    · have hb : bt t (i : Int) = ((t[i]'hl).toNat : Int) := (bt_at t (i : Int) hl).symm
      rw [if_pos (by omega), if_pos (by omega), hb, all_drop t i hl]
      by_cases h1 : (t[i]'hl).toNat < 32
      · rw [if_pos (by omega)]
        have : okB (t[i]'hl) = false := decide_eq_false (by omega)
        rw [this]; rfl
      · rw [if_neg (by omega)]
        by_cases h2 : (t[i]'hl).toNat > 126
        · rw [if_pos (by omega)]
          have : okB (t[i]'hl) = false := decide_eq_false (by omega)
          rw [this]; rfl
        · rw [if_neg (by omega), w64 i (by omega), text_from t hm k (i + 1) (by omega) (by omega)]
          have : okB (t[i]'hl) = true := decide_eq_true (by omega)
          rw [this, Bool.true_and]
    · obtain rfl : i = t.size := by omega
      rw [if_neg (by omega), List.drop_of_length_le (by simp)]
      rfl
theorem text_ok (t : ByteArray) : sleuthlaw51_text.f 5000 t = some (textE t) := by
  unfold sleuthlaw51_text.f textE
  split
  · rfl
  · split
    · rfl
    · have h := text_from t (by omega) 5000 0 (by omega) (Nat.zero_le _)
      rw [List.drop_zero] at h
      exact h
/-- The error of a key. -/
def keyE (t : ByteArray) (n : Int) : Int := if isN t = true then (if n < 1 then 2 else if n > 1048576 then 2 else 0) else 11
theorem key_ok (t : ByteArray) (n : Int) : incident_checkKey.f 100 t n = some (keyE t n) := by
  unfold incident_checkKey.f keyE
  rw [isN_ok, Option.bind_some]
  split
  · split
    · rfl
    · split <;> rfl
  · rfl
def saysK (k : Int) : Bool := decide (k = 1 ∨ k = 2 ∨ k = 3)
def aimsK (k : Int) : Bool := decide (k = 4 ∨ k = 5 ∨ k = 7)
def givesK (k : Int) : Bool := decide (k = 9)
theorem has_ok (k : Int) : incident_has.f 5 k = some (saysK k, aimsK k, givesK k) := by
  unfold saysK aimsK givesK
  unfold incident_has.f
  by_cases h1 : k = 1
  · subst h1; rfl
  · by_cases h2 : k = 2
    · subst h2; rfl
    · by_cases h3 : k = 3
      · subst h3; rfl
      · by_cases h4 : k = 4
        · subst h4; rfl
        · by_cases h5 : k = 5
          · subst h5; rfl
          · by_cases h7 : k = 7
            · subst h7; rfl
            · by_cases h9 : k = 9
              · subst h9; rfl
              · simp [incident_has.j0, incident_has.j1, h1, h2, h3, h4, h5, h7, h9]
/-- The first error of an event. -/
def errE (e : S50) : Int :=
  if keyE e.f0.f0 e.f0.f1 ≠ 0 then keyE e.f0.f0 e.f0.f1
  else if e.f1 < 0 ∨ e.f1 > 1099511627776 then 32
  else if e.f2 < 1 ∨ e.f2 > 9 then 12
  else if (saysK e.f2 = false ∧ e.f6 ≠ e0) ∨ (aimsK e.f2 = false ∧ e.f3 ≠ z33) ∨ (givesK e.f2 = false ∧ (e.f4 ≠ e0 ∨ e.f5 ≠ 0)) then 3
  else if saysK e.f2 = true then textE e.f6
  else if aimsK e.f2 = true then keyE e.f3.f0 e.f3.f1
  else if givesK e.f2 = true then (if isN e.f4 = true then (if e.f5 < 1 ∨ e.f5 > 3 then 2 else 0) else 11)
  else 0
end Go.Proofs.YtcjfgejiknlpfaaGreat.PI
