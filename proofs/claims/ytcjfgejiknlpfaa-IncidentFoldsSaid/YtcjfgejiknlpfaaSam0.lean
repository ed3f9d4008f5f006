/- The model's same compares all fields of two states, too; Equal's contract for two states. No walk. -/
import Derived.Test.YtcjfgejiknlpfaaJ2
import Derived.Test.YtcjfgejiknlpfaaPIx22
namespace Go.Proofs.Ytcjfgejiknlpfaa.PI
open Go.RowKit Go.Proofs.YtcjfgejiknlpfaaW.PrintWords
set_option linter.unusedVariables false
set_option linter.unusedSimpArgs false
theorem same_l1 (s t : PS) (hm : s.th.length ≤ 100000) (he : t.th.length = s.th.length) : ∀ (k : Nat) (i : Nat), s.th.length < k + i → i ≤ s.th.length → sleuthlaw51_same.l1 k (i : Int) s.st s.ti s.op s.en s.ca.f0 s.ca.f1 s.pe s.th s.no t.st t.ti t.op t.en t.ca.f0 t.ca.f1 t.pe t.th t.no = some (decide (s.th.drop i = t.th.drop i))
  | 0, i, h, hi => by omega
  | k + 1, i, h, hi => by
    unfold sleuthlaw51_same.l1
    by_cases hl : i < s.th.length
    · have hl2 : i < t.th.length := by omega
      have e1 : rd_T51 s.th (i : Int) = s.th[i] := by simp [rd_T51, hl]
      have e2 : rd_T51 t.th (i : Int) = t.th[i] := by simp [rd_T51, hl2]
      rw [if_pos (by omega), if_pos (by omega), if_pos (by omega), ne51, e1, e2, List.drop_eq_getElem_cons hl, List.drop_eq_getElem_cons hl2]
      by_cases hx : s.th[i] = t.th[i]
      · rw [decide_eq_true hx, if_neg (by simp), w64 i (by omega), same_l1 s t hm he k (i + 1) (by omega) (by omega)]
        exact congrArg some (decide_eq_decide.mpr (by rw [hx]; exact ⟨fun h => by rw [h], fun h => (List.cons.inj h).2⟩))
      · rw [decide_eq_false hx, if_pos (by simp), decide_eq_false (fun h => hx (List.cons.inj h).1)]
    · obtain rfl : i = s.th.length := by omega
      rw [if_neg (by omega), List.drop_of_length_le (Nat.le_refl _), List.drop_of_length_le (by omega)]
      rfl
theorem same_l0 (s t : PS) (hm : s.pe.length ≤ 100000) (hm2 : s.th.length ≤ 100000) (he : t.pe.length = s.pe.length) (he2 : t.th.length = s.th.length) : ∀ (k : Nat) (i : Nat), s.pe.length + s.th.length + 1 < k + i → i ≤ s.pe.length → sleuthlaw51_same.l0 k (i : Int) s.st s.ti s.op s.en s.ca.f0 s.ca.f1 s.pe s.th s.no t.st t.ti t.op t.en t.ca.f0 t.ca.f1 t.pe t.th t.no = some (decide (s.pe.drop i = t.pe.drop i ∧ s.th = t.th))
  | 0, i, h, hi => by omega
  | k + 1, i, h, hi => by
    unfold sleuthlaw51_same.l0
    by_cases hl : i < s.pe.length
    · have hl2 : i < t.pe.length := by omega
      have e1 : rd_T49 s.pe (i : Int) = s.pe[i] := by simp [rd_T49, hl]
      have e2 : rd_T49 t.pe (i : Int) = t.pe[i] := by simp [rd_T49, hl2]
      rw [if_pos (by omega), if_pos (by omega), if_pos (by omega), ne49, e1, e2, List.drop_eq_getElem_cons hl, List.drop_eq_getElem_cons hl2]
      by_cases hx : s.pe[i] = t.pe[i]
      · rw [decide_eq_true hx, if_neg (by simp), w64 i (by omega), same_l0 s t hm hm2 he he2 k (i + 1) (by omega) (by omega)]
        exact congrArg some (decide_eq_decide.mpr (by rw [hx]; exact ⟨fun h => ⟨by rw [h.1], h.2⟩, fun h => ⟨(List.cons.inj h.1).2, h.2⟩⟩))
      · rw [decide_eq_false hx, if_pos (by simp), decide_eq_false (fun h => hx (List.cons.inj h.1).1)]
    · obtain rfl : i = s.pe.length := by omega
      rw [if_neg (by omega), show (0 : Int) = ((0 : Nat) : Int) from rfl, same_l1 s t hm2 he2 k 0 (by omega) (by omega), List.drop_zero, List.drop_zero, List.drop_of_length_le (l := s.pe) (Nat.le_refl _), List.drop_of_length_le (l := t.pe) (by omega)]
      simp
theorem same_j1 (s t : PS) (k : Nat) (hk : 0 < k) : sleuthlaw51_same.j0 k true s.st s.ti s.op s.en s.ca.f0 s.ca.f1 s.pe s.th s.no t.st t.ti t.op t.en t.ca.f0 t.ca.f1 t.pe t.th t.no = some false := by
  obtain ⟨k, rfl⟩ : ∃ m, k = m + 1 := ⟨k - 1, by omega⟩
  simp only [sleuthlaw51_same.j0]
  rw [if_pos trivial]
theorem same_j0 (s t : PS) (hm : s.pe.length ≤ 100000) (hm2 : s.th.length ≤ 100000) (he : t.pe.length = s.pe.length) (k : Nat) (hk : s.pe.length + s.th.length + 2 < k) : sleuthlaw51_same.j0 k ((s.th.length : Int) != (t.th.length : Int)) s.st s.ti s.op s.en s.ca.f0 s.ca.f1 s.pe s.th s.no t.st t.ti t.op t.en t.ca.f0 t.ca.f1 t.pe t.th t.no = some (decide (s.pe = t.pe ∧ s.th = t.th)) := by
  obtain ⟨k, rfl⟩ : ∃ m, k = m + 1 := ⟨k - 1, by omega⟩
  simp only [sleuthlaw51_same.j0]
  by_cases he2 : t.th.length = s.th.length
  · rw [if_neg (by rw [he2]; simp), show (0 : Int) = ((0 : Nat) : Int) from rfl, same_l0 s t hm hm2 he he2 k 0 (by omega) (by omega)]
    simp
  · rw [if_pos (by simpa using fun h => he2 (by omega)), decide_eq_false (fun h => he2 (by rw [h.2]))]
theorem same_ok (k : Nat) (s t : PS) (hk : s.pe.length + s.th.length + 2 < k) (m1 : s.pe.length ≤ 100000) (m2 : s.th.length ≤ 100000) : sleuthlaw51_same.f k s.st s.ti s.op s.en s.ca.f0 s.ca.f1 s.pe s.th s.no t.st t.ti t.op t.en t.ca.f0 t.ca.f1 t.pe t.th t.no = some (decide (s = t)) := by
  have hj := same_j1 s t k (by omega)
  have hne : ∀ {p : Prop}, ¬ p → (s = t → p) → some false = some (decide (s = t)) := fun hp h => by rw [decide_eq_false (fun e => hp (h e))]
  unfold sleuthlaw51_same.f
  simp only [hj]
  by_cases c1 : s.st = t.st
  · rw [if_pos c1]
    by_cases c2 : s.ti = t.ti
    · rw [if_pos (by rw [c2])]
      by_cases c3 : s.op = t.op
      · rw [if_pos c3]
        by_cases c4 : s.en = t.en
        · rw [if_pos c4]
          by_cases c5 : s.ca.f0 = t.ca.f0 ∧ s.ca.f1 = t.ca.f1
          · rw [if_neg (by simp [c5.1, c5.2])]
            by_cases c9 : s.no = t.no
            · rw [if_pos c9]
              by_cases c7 : s.pe.length = t.pe.length
              · rw [if_pos (by rw [c7]), same_j0 s t m1 m2 c7.symm k hk]
                obtain ⟨a1, a2, a3, a4, ⟨a5, a6⟩, a7, a8, a9⟩ := s
                obtain ⟨b1, b2, b3, b4, ⟨b5, b6⟩, b7, b8, b9⟩ := t
                simp only at c1 c2 c3 c4 c5 c9 ⊢
                simp only [PS.mk.injEq, S25.mk.injEq, c1, c2, c3, c4, c5.1, c5.2, c9, true_and, and_true]
              · rw [if_neg (by omega)]; exact hne c7 (fun e => by rw [e])
            · rw [if_neg c9]; exact hne c9 (fun e => by rw [e])
          · rw [if_pos (by rw [bytes_iff]; by_cases d : s.ca.f0 = t.ca.f0 <;> by_cases d2 : s.ca.f1 = t.ca.f1 <;> simp [d, d2] at c5 ⊢)]
            exact hne c5 (fun e => by rw [e]; exact ⟨rfl, rfl⟩)
        · rw [if_neg c4]; exact hne c4 (fun e => by rw [e])
      · rw [if_neg c3]; exact hne c3 (fun e => by rw [e])
    · rw [if_neg (fun h => c2 (bytes_ext _ _ h))]; exact hne c2 (fun e => by rw [e])
  · rw [if_neg c1]; exact hne c1 (fun e => by rw [e])
theorem same_two (s t : PS) (A6 A7 B6 B7 : Option Addr) (c6 c7 d6 d7 : Nat) (w : World) (h1 : Kd.C k49 w A6 s.pe.length s.pe) (h2 : s.pe.length ≤ c6) (h3 : Kd.C k51 w A7 s.th.length s.th) (h4 : s.th.length ≤ c7) (h5 : Kd.C k49 w B6 t.pe.length t.pe) (h6 : t.pe.length ≤ d6) (h7 : Kd.C k51 w B7 t.th.length t.th) (h8 : t.th.length ≤ d7) (m1 : s.pe.length ≤ 100000) (m2 : s.th.length ≤ 100000) :
    Calls Try.prog 21 #[.agg #[.int .i64 s.st, .string s.ti, .int .i64 s.op, .int .i64 s.en, .string s.ca.f0, .int .i64 s.ca.f1, .slice A6 s.pe.length c6, .slice A7 s.th.length c7, .int .i64 s.no], .agg #[.int .i64 t.st, .string t.ti, .int .i64 t.op, .int .i64 t.en, .string t.ca.f0, .int .i64 t.ca.f1, .slice B6 t.pe.length d6, .slice B7 t.th.length d7, .int .i64 t.no]] w fun e w' => e = .returned (.bool (decide (s = t))) ∧ Below w.heap.size w w' :=
  sleuthlaw51_same.calls (s.pe.length + s.th.length + 3) s.st s.ti s.op s.en s.ca.f0 s.ca.f1 A6 c6 s.pe A7 c7 s.th s.no t.st t.ti t.op t.en t.ca.f0 t.ca.f1 B6 d6 t.pe B7 d7 t.th t.no (decide (s = t)) w h1 h2 h3 h4 h5 h6 h7 h8 (same_ok _ s t (by omega) m1 m2)
end Go.Proofs.Ytcjfgejiknlpfaa.PI
