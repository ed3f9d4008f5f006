/- Equal compares all fields of two states. No walk. -/
import Derived.Test.YtcjfgejiknlpfaaGreatEqB
import Derived.Test.YtcjfgejiknlpfaaGreatPIx32
namespace Go.Proofs.YtcjfgejiknlpfaaGreat.PI
open Go.RowKit Go.Proofs.YtcjfgejiknlpfaaGreatW.PrintWords
set_option linter.unusedVariables false
set_option linter.unusedSimpArgs false
theorem people_from : ∀ (k : Nat) (l m : List S69) (i : Nat), l.length < k + i → l.length ≤ 100000 → m.length = l.length → i ≤ l.length → incident_Person.l0 k l m (l.length : Int) (i : Int) = some (decide (l.drop i = m.drop i))
  | 0, l, m, i, h, _, _, hi => by omega
  | k + 1, l, m, i, h, hm, he, hi => by
    unfold incident_Person.l0
    by_cases hl : i < l.length
    · have hl2 : i < m.length := by omega
      have e1 : rd_T69 l (i : Int) = l[i] := by simp [rd_T69, hl]
      have e2 : rd_T69 m (i : Int) = m[i] := by simp [rd_T69, hl2]
      rw [if_pos (by omega), if_pos (by omega), if_pos (by omega), if_pos (by omega), ne49, e1, e2, List.drop_eq_getElem_cons hl, List.drop_eq_getElem_cons hl2]
      by_cases hx : l[i] = m[i]
      · rw [decide_eq_true hx, if_neg (by simp), w64 i (by omega), people_from k l m (i + 1) (by omega) hm he (by omega)]
        exact congrArg some (decide_eq_decide.mpr (by rw [hx]; exact ⟨fun h => by rw [h], fun h => (List.cons.inj h).2⟩))
      · rw [decide_eq_false hx, if_pos (by simp), decide_eq_false (fun h => hx (List.cons.inj h).1)]
    · obtain rfl : i = l.length := by omega
      rw [if_neg (by omega), List.drop_of_length_le (Nat.le_refl _), List.drop_of_length_le (by omega)]
      rfl
theorem people_eq (k : Nat) (l m : List S69) (h : l.length < k) (hm : l.length ≤ 100000) : incident_Person.f k l m = some (decide (l = m)) := by
  unfold incident_Person.f
  by_cases he : m.length = l.length
  · rw [if_pos (by omega)]
    exact people_from k l m 0 h hm he (Nat.zero_le _)
  · rw [if_neg (by omega), decide_eq_false (fun e => he (by rw [e]))]
theorem theories_from : ∀ (k : Nat) (l m : List S71) (i : Nat), l.length < k + i → l.length ≤ 100000 → m.length = l.length → i ≤ l.length → incident_Theory_41.l0 k l m (l.length : Int) (i : Int) = some (decide (l.drop i = m.drop i))
  | 0, l, m, i, h, _, _, hi => by omega
  | k + 1, l, m, i, h, hm, he, hi => by
    unfold incident_Theory_41.l0
    by_cases hl : i < l.length
    · have hl2 : i < m.length := by omega
      have e1 : rd_T71 l (i : Int) = l[i] := by simp [rd_T71, hl]
      have e2 : rd_T71 m (i : Int) = m[i] := by simp [rd_T71, hl2]
      rw [if_pos (by omega), if_pos (by omega), if_pos (by omega), if_pos (by omega), ne51, e1, e2, List.drop_eq_getElem_cons hl, List.drop_eq_getElem_cons hl2]
      by_cases hx : l[i] = m[i]
      · rw [decide_eq_true hx, if_neg (by simp), w64 i (by omega), theories_from k l m (i + 1) (by omega) hm he (by omega)]
        exact congrArg some (decide_eq_decide.mpr (by rw [hx]; exact ⟨fun h => by rw [h], fun h => (List.cons.inj h).2⟩))
      · rw [decide_eq_false hx, if_pos (by simp), decide_eq_false (fun h => hx (List.cons.inj h).1)]
    · obtain rfl : i = l.length := by omega
      rw [if_neg (by omega), List.drop_of_length_le (Nat.le_refl _), List.drop_of_length_le (by omega)]
      rfl
theorem theories_eq (k : Nat) (l m : List S71) (h : l.length < k) (hm : l.length ≤ 100000) : incident_Theory_41.f k l m = some (decide (l = m)) := by
  unfold incident_Theory_41.f
  by_cases he : m.length = l.length
  · rw [if_pos (by omega)]
    exact theories_from k l m 0 h hm he (Nat.zero_le _)
  · rw [if_neg (by omega), decide_eq_false (fun e => he (by rw [e]))]
theorem equal_ok (k : Nat) (s t : PS) (h1 : s.pe.length < k) (h2 : s.th.length < k) (m1 : s.pe.length ≤ 100000) (m2 : s.th.length ≤ 100000) :
    incident_Equal.f k s.st s.ti s.op s.en s.ca.f0 s.ca.f1 s.pe s.th s.no t.st t.ti t.op t.en t.ca.f0 t.ca.f1 t.pe t.th t.no = some (decide (s = t)) := by
  unfold incident_Equal.f
  rw [people_eq k _ _ h1 m1, theories_eq k _ _ h2 m2, bytes_iff]
  obtain ⟨a1, a2, a3, a4, ⟨a5, a6⟩, a7, a8, a9⟩ := s
  obtain ⟨b1, b2, b3, b4, ⟨b5, b6⟩, b7, b8, b9⟩ := t
  simp only [PS.mk.injEq, S33.mk.injEq]
  by_cases c1 : a1 = b1
  · rw [if_pos c1]
    by_cases c2 : a2 = b2
    · rw [if_pos (by rw [c2])]
      by_cases c3 : a3 = b3
      · rw [if_pos c3]
        by_cases c4 : a4 = b4
        · rw [if_pos c4]
          by_cases c5 : a5 = b5 ∧ a6 = b6
          · rw [if_pos (by simp [c5.1, c5.2])]
            by_cases c9 : a9 = b9
            · rw [if_pos c9, Option.bind_some]
              by_cases c7 : a7 = b7
              · rw [if_pos (by simp [c7]), Option.bind_some]
                simp [c1, c2, c3, c4, c5.1, c5.2, c7, c9]
              · rw [if_neg (by simp [c7])]
                simp [c7]
            · rw [if_neg c9]
              simp [c9]
          · rw [if_neg (by simpa using fun h => fun h' => c5 ⟨h, h'⟩)]
            rw [decide_eq_false (fun h => c5 h.2.2.2.2.1)]
        · rw [if_neg c4]
          simp [c4]
      · rw [if_neg c3]
        simp [c3]
    · rw [if_neg (fun h => c2 (bytes_ext _ _ h))]
      simp [c2]
  · rw [if_neg c1]
    simp [c1]
theorem equal_self (k : Nat) (s t : PS) (e : s = t) (h1 : s.pe.length < k) (h2 : s.th.length < k) (m1 : s.pe.length ≤ 100000) (m2 : s.th.length ≤ 100000) :
    incident_Equal.f k s.st s.ti s.op s.en s.ca.f0 s.ca.f1 s.pe s.th s.no t.st t.ti t.op t.en t.ca.f0 t.ca.f1 t.pe t.th t.no = some true := by rw [equal_ok k s t h1 h2 m1 m2, decide_eq_true e]

/-- Equal at one state, twice in memory. -/
theorem equal_same (s : PS) (A6 A7 B6 B7 : Option Addr) (c6 c7 d6 d7 : Nat) (w : World) (h1 : Kd.C k69 w A6 s.pe.length s.pe) (h2 : s.pe.length ≤ c6) (h3 : Kd.C k71 w A7 s.th.length s.th) (h4 : s.th.length ≤ c7)
    (h5 : Kd.C k69 w B6 s.pe.length s.pe) (h6 : s.pe.length ≤ d6) (h7 : Kd.C k71 w B7 s.th.length s.th) (h8 : s.th.length ≤ d7) (m1 : s.pe.length ≤ 100000) (m2 : s.th.length ≤ 100000) :
    Calls Tryz.prog 22 #[.agg #[.int .i64 s.st, .string s.ti, .int .i64 s.op, .int .i64 s.en, .string s.ca.f0, .int .i64 s.ca.f1, .slice A6 s.pe.length c6, .slice A7 s.th.length c7, .int .i64 s.no], .agg #[.int .i64 s.st, .string s.ti, .int .i64 s.op, .int .i64 s.en, .string s.ca.f0, .int .i64 s.ca.f1, .slice B6 s.pe.length d6, .slice B7 s.th.length d7, .int .i64 s.no]] w fun e w' => e = .returned (.bool true) ∧ Below w.heap.size w w' :=
  incident_Equal.calls (s.pe.length + s.th.length + 1) s.st s.ti s.op s.en s.ca.f0 s.ca.f1 A6 c6 s.pe A7 c7 s.th s.no s.st s.ti s.op s.en s.ca.f0 s.ca.f1 B6 d6 s.pe B7 d7 s.th s.no true w h1 h2 h3 h4 h5 h6 h7 h8 (equal_self _ s s rfl (by omega) (by omega) m1 m2)
end Go.Proofs.YtcjfgejiknlpfaaGreat.PI
