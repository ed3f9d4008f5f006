/- The model's role, appoint, reason, accept and fold, plainly: they answer as the program does. No walk. -/
import Derived.Test.YtcjfgejiknlpfaaGreatRes
namespace Go.Proofs.YtcjfgejiknlpfaaGreat.PI
open Go.RowKit Go.Proofs.YtcjfgejiknlpfaaGreatW.PrintWords
set_option linter.unusedVariables false
set_option linter.unusedSimpArgs false
def roleM (nm : ByteArray) : List S69 → Int
  | [] => 1
  | p :: l => if p.f0 = nm then p.f1 else roleM nm l
theorem bcmp_self (a : ByteArray) : bcmp a a = 0 := (bcmp_zero_iff a a).mpr rfl
theorem roleM_none (nm : ByteArray) : ∀ l : List S69, (∀ p ∈ l, ¬ p.f0 = nm) → roleM nm l = 1
  | [], _ => rfl
  | p :: l, h => by rw [roleM, if_neg (h p (by simp)), roleM_none nm l (fun q hq => h q (by simp [hq]))]
theorem role_is (nm : ByteArray) : ∀ l : List S69, IncP l → roleM nm l = roleP nm l
  | [], _ => by simp [roleM, roleP, hitP, plcP]
  | y :: l, h => by
    obtain ⟨hy, hl⟩ := List.pairwise_cons.mp h
    have ih := role_is nm l hl
    unfold roleM
    by_cases hb : bcmp y.f0 nm < 0
    · obtain ⟨h1, h2⟩ := hitP_lt (l := l) hb
      have hne : ¬ y.f0 = nm := fun e => by rw [e, bcmp_self] at hb; omega
      rw [if_neg hne, ih]
      unfold roleP
      rw [h1, h2, rdP_cons]
    · obtain ⟨h1, h2⟩ := hitP_ge (l := l) hb
      have er : rd_T69 (y :: l) ((0 : Nat) : Int) = y := by simp [rd_T69]
      unfold roleP
      rw [h1, h2, er]
      by_cases h0 : bcmp y.f0 nm = 0
      · rw [if_pos ((bcmp_zero_iff _ _).mp h0), if_pos (decide_eq_true h0)]
      · rw [if_neg (fun e => h0 ((bcmp_zero_iff _ _).mpr e)), if_neg (by simpa using h0)]
        refine roleM_none nm l (fun p hp e => ?_)
        have h3 := hy p hp
        rw [e] at h3
        exact hb h3
/-- What appoint makes, element by element: the list, and whether somebody is in it. -/
def appS (nm : ByteArray) (r : Int) (x : List S69 × Bool) (p : S69) : List S69 × Bool :=
  let y := if x.2 = false ∧ 0 ≤ bcmp p.f0 nm then (x.1 ++ [⟨nm, r⟩], true) else x
  if p.f0 = nm then y else (y.1 ++ [p], y.2)
def appF (nm : ByteArray) (r : Int) (l : List S69) : List S69 × Bool := l.foldl (appS nm r) ([], false)
def appM (nm : ByteArray) (r : Int) (l : List S69) : List S69 := if (appF nm r l).2 = true then (appF nm r l).1 else (appF nm r l).1 ++ [⟨nm, r⟩]
theorem appF_snoc (nm : ByteArray) (r : Int) (l : List S69) (p : S69) : appF nm r (l ++ [p]) = appS nm r (appF nm r l) p := by simp [appF, List.foldl_append]
theorem app_done (nm : ByteArray) (r : Int) : ∀ (l a : List S69), (∀ p ∈ l, ¬ p.f0 = nm) → l.foldl (appS nm r) (a, true) = (a ++ l, true)
  | [], a, _ => by simp
  | p :: l, a, h => by
    have e : appS nm r (a, true) p = (a ++ [p], true) := by simp [appS, h p (by simp)]
    rw [List.foldl_cons, e, app_done nm r l (a ++ [p]) (fun q hq => h q (by simp [hq]))]
    simp
theorem app_from (nm : ByteArray) (r : Int) : ∀ (l a : List S69), IncP l → (if (l.foldl (appS nm r) (a, false)).2 = true then (l.foldl (appS nm r) (a, false)).1 else (l.foldl (appS nm r) (a, false)).1 ++ [⟨nm, r⟩]) = a ++ asgR nm r l
  | [], a, _ => by simp [asgR]
  | y :: l, a, h => by
    obtain ⟨hy, hl⟩ := List.pairwise_cons.mp h
    unfold asgR
    rw [List.foldl_cons]
    by_cases hb : bcmp y.f0 nm < 0
    · have hne : ¬ y.f0 = nm := fun e => by rw [e, bcmp_self] at hb; omega
      have e : appS nm r (a, false) y = (a ++ [y], false) := by
        have hn : ¬ (0 ≤ bcmp y.f0 nm) := by omega
        simp [appS, hne, hn]
      rw [e, if_pos hb, app_from nm r l (a ++ [y]) hl]
      simp
    · have hne : ∀ p ∈ l, ¬ p.f0 = nm := fun p hp e => by
        have h3 := hy p hp
        rw [e] at h3
        exact hb h3
      have hp : 0 ≤ bcmp y.f0 nm := by omega
      rw [if_neg hb]
      by_cases h0 : bcmp y.f0 nm = 0
      · have e0 := (bcmp_zero_iff _ _).mp h0
        have e : appS nm r (a, false) y = (a ++ [⟨nm, r⟩], true) := by simp [appS, e0, bcmp_self]
        rw [e, if_pos h0, app_done nm r l _ hne, if_pos rfl, e0]
        simp
      · have e0 : ¬ y.f0 = nm := fun e => h0 ((bcmp_zero_iff _ _).mpr e)
        have e : appS nm r (a, false) y = (a ++ [⟨nm, r⟩] ++ [y], true) := by simp [appS, e0, hp]
        rw [e, if_neg h0, app_done nm r l _ hne, if_pos rfl]
        simp
theorem app_is (nm : ByteArray) (r : Int) (l : List S69) (h : IncP l) : appM nm r l = assignP nm r l := by
  rw [assign_is]
  have := app_from nm r l [] h
  rwa [List.nil_append] at this
def needM (k : Int) : Int := if k = 2 then 1 else if k = 3 ∨ k = 4 ∨ k = 5 ∨ k = 6 then 2 else if k = 7 ∨ k = 8 ∨ k = 9 then 3 else 0
def aimsM (k : Int) : Prop := k = 4 ∨ k = 5 ∨ k = 7
def reasonM (s : PS) (e : S50) : Int :=
  if s.st = 0 ∧ e.f2 ≠ 1 then 1
  else if s.st ≠ 0 ∧ e.f2 = 1 then 2
  else if s.st = 3 ∧ e.f2 ≠ 2 ∧ e.f2 ≠ 8 then 3
  else if e.f2 = 8 ∧ s.st ≠ 3 then 8
  else if roleM e.f0.f0 s.pe < needM e.f2 then 4
  else if (e.f2 = 4 ∨ e.f2 = 5 ∨ e.f2 = 7) ∧ thIx e.f3 s.th < 0 then 5
  else if e.f2 = 4 ∧ e.f3.f0 = e.f0.f0 then 6
  else if e.f2 = 7 ∧ 0 ≤ thIx e.f3 s.th ∧ thIx e.f3 s.th < s.th.length ∧ (rd_T71 s.th (thIx e.f3 s.th)).f2 ≠ 2 then 7
  else if e.f2 = 6 ∧ s.st ≠ 1 then 9
  else 0
/-- Everybody has a role. -/
def Roles (l : List S69) : Prop := ∀ p ∈ l, 1 ≤ p.f1
theorem roleM_pos (nm : ByteArray) : ∀ l, Roles l → 1 ≤ roleM nm l
  | [], _ => by simp [roleM]
  | p :: l, h => by
    unfold roleM
    split
    · exact h p (by simp)
    · exact roleM_pos nm l (fun q hq => h q (by simp [hq]))
theorem reason_is (s : PS) (e : S50) (hI : IncP s.pe) (hR : Roles s.pe) (hk : 1 ≤ e.f2 ∧ e.f2 ≤ 9) : reasonM s e = reasonP s e := by
  have hr := roleM_pos e.f0.f0 s.pe hR
  unfold reasonM reasonP
  rw [← role_is e.f0.f0 s.pe hI]
  by_cases c1 : s.st = 0 ∧ e.f2 ≠ 1
  · rw [if_pos c1, if_pos c1]
  · rw [if_neg c1, if_neg c1]
    by_cases c2 : s.st ≠ 0 ∧ e.f2 = 1
    · rw [if_pos c2, if_pos c2]
    · rw [if_neg c2, if_neg c2]
      by_cases c3 : s.st = 3 ∧ e.f2 ≠ 2 ∧ e.f2 ≠ 8
      · rw [if_pos c3, if_pos (show s.st = 3 ∧ e.f2 ≠ 2 ∧ e.f2 ≠ 8 ∧ e.f2 ≠ 1 from ⟨c3.1, c3.2.1, c3.2.2, fun h => c2 ⟨by omega, h⟩⟩)]
      · rw [if_neg c3, if_neg (show ¬ (s.st = 3 ∧ e.f2 ≠ 2 ∧ e.f2 ≠ 8 ∧ e.f2 ≠ 1) from fun h => c3 ⟨h.1, h.2.1, h.2.2.1⟩)]
        by_cases c4 : e.f2 = 8 ∧ s.st ≠ 3
        · rw [if_pos c4, if_pos c4]
        · rw [if_neg c4, if_neg c4]
          have hq : (roleM e.f0.f0 s.pe < needM e.f2) ↔ (roleM e.f0.f0 s.pe < rightP e.f2) := by
            unfold needM rightP
            generalize roleM e.f0.f0 s.pe = q at hr
            have : e.f2 = 1 ∨ e.f2 = 2 ∨ e.f2 = 3 ∨ e.f2 = 4 ∨ e.f2 = 5 ∨ e.f2 = 6 ∨ e.f2 = 7 ∨ e.f2 = 8 ∨ e.f2 = 9 := by omega
            rcases this with h | h | h | h | h | h | h | h | h <;> rw [h] <;> simp <;> omega
          by_cases c5 : roleM e.f0.f0 s.pe < rightP e.f2
          · rw [if_pos (hq.mpr c5), if_pos c5]
          · rw [if_neg (fun h => c5 (hq.mp h)), if_neg c5]
            unfold targetP
            by_cases k6 : e.f2 = 6
            · rw [if_neg (by omega), if_neg (by omega), if_neg (by omega), if_pos k6]
              by_cases c : s.st = 1
              · rw [if_neg (by omega), if_pos c]
              · rw [if_pos ⟨k6, c⟩, if_neg c]
            · rw [if_neg k6]
              by_cases k4 : e.f2 = 4 ∨ e.f2 = 5 ∨ e.f2 = 7
              · rw [if_pos k4]
                by_cases c : thIx e.f3 s.th < 0
                · rw [if_pos ⟨k4, c⟩, if_pos c]
                · rw [if_neg (fun h => c h.2), if_neg c]
                  by_cases c6 : e.f2 = 4 ∧ e.f3.f0 = e.f0.f0
                  · rw [if_pos c6, if_pos c6]
                  · rw [if_neg c6, if_neg c6]
                    have hlt : thIx e.f3 s.th < s.th.length := by
                      rcases thIx_range e.f3 s.th with h | ⟨j, h1, h2, _⟩
                      · omega
                      · omega
                    by_cases c7 : e.f2 = 7 ∧ (rd_T71 s.th (thIx e.f3 s.th)).f2 ≠ 2
                    · rw [if_pos ⟨c7.1, by omega, hlt, c7.2⟩, if_pos c7]
                    · rw [if_neg (fun h => c7 ⟨h.1, h.2.2.2⟩), if_neg c7, if_neg (fun h => k6 h.1)]
              · rw [if_neg k4, if_neg (fun h => k4 h.1), if_neg (fun h => k4 (.inl h.1)), if_neg (fun h => k4 (.inr (.inr h.1))), if_neg (fun h => k6 h.1)]
/-- The model's accept. -/
def accM (s : PS) (e : S50) : PS :=
  if e.f2 = 1 then { s with st := 1, ti := e.f6, op := e.f1, pe := appM e.f0.f0 3 s.pe }
  else if e.f2 = 2 then { s with no := s.no + 1 }
  else if e.f2 = 3 then { s with th := s.th ++ [⟨e.f0, e.f6, 1⟩] }
  else if e.f2 = 4 then { s with th := statP e.f3 2 s.th }
  else if e.f2 = 5 then { s with th := statP e.f3 3 s.th }
  else if e.f2 = 6 then { s with st := 2 }
  else if e.f2 = 7 then { s with st := 3, en := e.f1, ca := e.f3 }
  else if e.f2 = 8 then { s with st := 1, en := 0, ca := z33 }
  else { s with pe := appM e.f4 e.f5 s.pe }
theorem acc_is (s : PS) (e : S50) (h : IncP s.pe) : accM s e = effP s e := by
  unfold accM effP
  rw [app_is _ _ _ h, app_is _ _ _ h]
def stepM (x : PS × List Int) (e : S50) : PS × List Int := (if reasonM x.1 e = 0 then accM x.1 e else x.1, x.2 ++ [reasonM x.1 e])
def runM (l : List S50) : PS × List Int := l.foldl stepM (PS0, [])
theorem runM_snoc (l : List S50) (e : S50) : runM (l ++ [e]) = stepM (runM l) e := by simp [runM, List.foldl_append]
theorem asgR_roles {nm : ByteArray} {r : Int} (hr : 1 ≤ r) : ∀ {l : List S69}, Roles l → Roles (asgR nm r l)
  | [], _ => fun p hp => by simp [asgR] at hp; rw [hp]; exact hr
  | y :: l, h => by
    have h2 : Roles l := fun q hq => h q (by simp [hq])
    unfold asgR
    split
    · intro p hp
      rcases List.mem_cons.mp hp with rfl | hp
      · exact h _ (by simp)
      · exact asgR_roles hr h2 p hp
    · split
      · intro p hp
        rcases List.mem_cons.mp hp with rfl | hp
        · exact hr
        · exact h2 p hp
      · intro p hp
        rcases List.mem_cons.mp hp with rfl | hp
        · exact hr
        · exact h p hp
/-- What is asked of the events: their kinds, and a role where one is given. -/
def EvOk (x : S50) : Prop := (1 ≤ x.f2 ∧ x.f2 ≤ 9) ∧ (x.f2 = 9 → 1 ≤ x.f5)
theorem eff_roles {s : PS} {e : S50} (h : Roles s.pe) (he : EvOk e) : Roles (effP s e).pe := by
  unfold effP
  split
  · show Roles (assignP _ _ _); rw [assign_is]; exact asgR_roles (by decide) h
  · split
    · exact h
    · split
      · exact h
      · split
        · exact h
        · split
          · exact h
          · split
            · exact h
            · split
              · exact h
              · split
                · exact h
                · show Roles (assignP _ _ _); rw [assign_is]; exact asgR_roles (he.2 (by have := he.1; omega)) h
theorem run_roles (l : List S50) : (∀ x ∈ l, EvOk x) → Roles (runO l).1.pe := snoc_ind (p := fun l => (∀ x ∈ l, EvOk x) → Roles (runO l).1.pe) (fun _ p hp => by cases hp) (fun l e ih h => by
  rw [runO_snoc]
  have h1 := ih (fun x hx => h x (by simp [hx]))
  unfold stepP
  by_cases c : reasonP (runO l).1 e = 0
  · simp only [if_pos c]; exact eff_roles h1 (h e (by simp))
  · simp only [if_neg c]; exact h1) l
theorem run_is (l : List S50) : (∀ x ∈ l, EvOk x) → runM l = runO l := snoc_ind (p := fun l => (∀ x ∈ l, EvOk x) → runM l = runO l) (fun _ => rfl) (fun l e ih h => by
  have h0 : ∀ x ∈ l, EvOk x := fun x hx => h x (by simp [hx])
  rw [runM_snoc, runO_snoc, ih h0]
  have hg := (good_run l).inc
  unfold stepM stepP
  rw [reason_is _ e hg (run_roles l h0) (h e (by simp)).1, acc_is _ e hg]) l
end Go.Proofs.YtcjfgejiknlpfaaGreat.PI
