/- slices.Equal of events. No walk. -/
import Derived.Test.YtcjfgejiknlpfaaGreatJ0
namespace Go.Proofs.YtcjfgejiknlpfaaGreat.PI
open Go.RowKit Go.Proofs.YtcjfgejiknlpfaaGreatW.PrintWords
set_option linter.unusedVariables false
set_option linter.unusedSimpArgs false
theorem eqEv_from (l m : List S50) (hm : l.length ≤ 100000) (he : m.length = l.length) : ∀ (k : Nat) (i : Nat), l.length < k + i → i ≤ l.length → incident_Event_39.l0 k l m (l.length : Int) (i : Int) = some (decide (l.drop i = m.drop i))
  | 0, i, h, hi => by omega
  | k + 1, i, h, hi => by
    unfold incident_Event_39.l0
    by_cases hl : i < l.length
    · have hl2 : i < m.length := by omega
      have e1 : rd_T50 l (i : Int) = l[i] := by simp [rd_T50, hl]
      have e2 : rd_T50 m (i : Int) = m[i] := by simp [rd_T50, hl2]
      rw [if_pos (by omega), if_pos (by omega), if_pos (by omega), if_pos (by omega), neAll, e1, e2, List.drop_eq_getElem_cons hl, List.drop_eq_getElem_cons hl2]
      by_cases hx : l[i] = m[i]
      · rw [decide_eq_true hx, if_neg (by simp), w64_ i (by omega), eqEv_from l m hm he k (i + 1) (by omega) (by omega)]
        exact congrArg some (decide_eq_decide.mpr (by rw [hx]; exact ⟨fun h => by rw [h], fun h => (List.cons.inj h).2⟩))
      · rw [decide_eq_false hx, if_pos (by simp), decide_eq_false (fun h => hx (List.cons.inj h).1)]
    · obtain rfl : i = l.length := by omega
      rw [if_neg (by omega), List.drop_of_length_le (Nat.le_refl _), List.drop_of_length_le (by omega)]
      rfl
theorem eqEv_ok (k : Nat) (l m : List S50) (hm : l.length ≤ 100000) (hk : l.length < k) : incident_Event_39.f k l m = some (decide (l = m)) := by
  unfold incident_Event_39.f
  by_cases he : m.length = l.length
  · rw [if_pos (by omega), show (0 : Int) = ((0 : Nat) : Int) from rfl, eqEv_from l m hm he k 0 (by omega) (by omega), List.drop_zero, List.drop_zero]
  · rw [if_neg (by omega), decide_eq_false (fun h => he (by rw [h]))]
theorem eqEvents_ok (A0 A1 : Option Addr) (c0 c1 : Nat) (l m : List S50) (w : World) (hm : l.length ≤ 100000) (h0 : Kd.C k50 w A0 l.length l) (hc0 : l.length ≤ c0) (h1 : Kd.C k50 w A1 m.length m) (hc1 : m.length ≤ c1) (b : Bool) (hb : decide (l = m) = b) :
    Calls Tryz.prog 39 #[.slice A0 l.length c0, .slice A1 m.length c1] w fun e w' => e = .returned (.bool b) ∧ Drawn0 w w' :=
  incident_Event_39.calls (l.length + 1) A0 c0 l A1 c1 m b w h0 hc0 h1 hc1 (hb ▸ eqEv_ok _ l m hm (by omega))
end Go.Proofs.YtcjfgejiknlpfaaGreat.PI
