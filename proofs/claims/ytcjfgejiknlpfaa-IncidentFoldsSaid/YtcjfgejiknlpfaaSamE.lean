/- The model's compare is the order of two events; sameEvents compares two lists. No walk. -/
import Derived.Test.YtcjfgejiknlpfaaCmp
import Derived.Test.YtcjfgejiknlpfaaPIx15
import Derived.Test.YtcjfgejiknlpfaaPIx16
namespace Go.Proofs.Ytcjfgejiknlpfaa.PI
open Go.RowKit Go.Proofs.YtcjfgejiknlpfaaW.PrintWords
set_option linter.unusedVariables false
set_option linter.unusedSimpArgs false
theorem bytes_iff_ (a b : ByteArray) : (a.toList == b.toList) = decide (a = b) := by
  by_cases h : a = b
  · subst h; simp
  · have h2 : ¬ a.toList = b.toList := fun e => h (bytes_ext _ _ e)
    rw [decide_eq_false h]
    simpa using h2
theorem w64_ (i : Nat) (h : i < 1000000) : wrap64 ((i : Int) + 1) = ((i + 1 : Nat) : Int) := by unfold wrap64; omega
theorem cmp_from : ∀ (k : Nat) (l : List Int) (i : Nat), l.length < k + i → l.length ≤ 100000 → i ≤ l.length → sleuthlaw51_compare.l0 k l (i : Int) = some (fnz (l.drop i))
  | 0, l, i, h, _, hi => by omega
  | k + 1, l, i, h, hm, hi => by
    unfold sleuthlaw51_compare.l0
    by_cases hl : i < l.length
    · have ew : wrap64 ((i : Int) + 1) = ((i + 1 : Nat) : Int) := by unfold wrap64; omega
      have er : rd l (i : Int) = l[i] := by simp [rd, hl]
      rw [if_pos (by omega), if_pos (by omega), er, ew, cmp_from k l (i + 1) (by omega) hm (by omega), List.drop_eq_getElem_cons hl, fnz, thn]
      by_cases h0 : l[i] = 0
      · rw [if_pos h0, if_pos h0]
      · rw [if_neg h0, if_neg h0]
    · obtain rfl : i = l.length := by omega
      rw [if_neg (by omega), List.drop_of_length_le (Nat.le_refl _)]
      rfl
theorem ord_ok (a b : Int) : sleuthlaw51_order.f a b = some (icmp a b) := by
  unfold sleuthlaw51_order.f icmp
  by_cases h1 : a < b
  · rw [if_pos h1, if_pos h1]
  · rw [if_neg h1, if_neg h1]
    by_cases h2 : b < a
    · rw [if_pos h2, if_pos h2]
    · rw [if_neg h2, if_neg h2]
theorem word_ok (a b : ByteArray) : sleuthlaw51_word.f a b = some (bcmp a b) := by
  unfold sleuthlaw51_word.f bcmp
  by_cases h1 : Op.bytesLess a.toList b.toList = true
  · rw [if_pos h1, if_pos h1]
  · rw [if_neg h1, if_neg h1]
    by_cases h2 : Op.bytesLess b.toList a.toList = true
    · rw [if_pos h2, if_pos h2]
    · rw [if_neg h2, if_neg h2]
theorem nine_is (x y : S27) : fnz [icmp x.f1 y.f1, bcmp x.f0.f0 y.f0.f0, icmp x.f0.f1 y.f0.f1, icmp x.f2 y.f2, bcmp x.f3.f0 y.f3.f0, icmp x.f3.f1 y.f3.f1, bcmp x.f4 y.f4, icmp x.f5 y.f5, bcmp x.f6 y.f6] = ecmp x y := by
  unfold ecmp kcmp
  simp only [fnz, thn_zero, thn_assoc]
theorem cmpM_ok (x y : S27) : sleuthlaw51_compare.f 10 x.f0.f0 x.f0.f1 x.f1 x.f2 x.f3.f0 x.f3.f1 x.f4 x.f5 x.f6 y.f0.f0 y.f0.f1 y.f1 y.f2 y.f3.f0 y.f3.f1 y.f4 y.f5 y.f6 = some (ecmp x y) := by
  unfold sleuthlaw51_compare.f
  simp only [ord_ok, word_ok, Option.bind_some]
  rw [show (0 : Int) = ((0 : Nat) : Int) from rfl, cmp_from 10 _ 0 (by simp) (by simp) (by simp), List.drop_zero, nine_is]
theorem compareM_ok (x y : S27) (w : World) :
    Calls Try.prog 14 #[.agg #[.string x.f0.f0, .int .i64 x.f0.f1, .int .i64 x.f1, .int .i64 x.f2, .string x.f3.f0, .int .i64 x.f3.f1, .string x.f4, .int .i64 x.f5, .string x.f6], .agg #[.string y.f0.f0, .int .i64 y.f0.f1, .int .i64 y.f1, .int .i64 y.f2, .string y.f3.f0, .int .i64 y.f3.f1, .string y.f4, .int .i64 y.f5, .string y.f6]] w fun e w' => e = .returned (.int .i64 (ecmp x y)) ∧ Below w.heap.size w w' :=
  sleuthlaw51_compare.calls 10 x.f0.f0 x.f0.f1 x.f1 x.f2 x.f3.f0 x.f3.f1 x.f4 x.f5 x.f6 y.f0.f0 y.f0.f1 y.f1 y.f2 y.f3.f0 y.f3.f1 y.f4 y.f5 y.f6 (ecmp x y) w (cmpM_ok x y)
theorem ne27 (x y : S27) : ((!(x.f0.f0.toList == y.f0.f0.toList)) || (!(x.f0.f1 == y.f0.f1))) = !decide (x.f0 = y.f0) := by
  rw [bytes_iff_]
  obtain ⟨⟨a, b⟩, _⟩ := x
  obtain ⟨⟨c, d⟩, _⟩ := y
  by_cases h1 : a = c <;> by_cases h2 : b = d <;> simp [h1, h2]
theorem neAll (x y : S27) : (((!(x.f0.f0.toList == y.f0.f0.toList)) || (!(x.f0.f1 == y.f0.f1))) || (!(x.f1 == y.f1) || (!(x.f2 == y.f2) || (((!(x.f3.f0.toList == y.f3.f0.toList)) || (!(x.f3.f1 == y.f3.f1))) || (!(x.f4.toList == y.f4.toList) || (!(x.f5 == y.f5) || (!(x.f6.toList == y.f6.toList)))))))) = !decide (x = y) := by
  rw [bytes_iff_, bytes_iff_, bytes_iff_, bytes_iff_]
  obtain ⟨⟨a0, a1⟩, a2, a3, ⟨a4, a5⟩, a6, a7, a8⟩ := x
  obtain ⟨⟨b0, b1⟩, b2, b3, ⟨b4, b5⟩, b6, b7, b8⟩ := y
  simp only [S27.mk.injEq, S25.mk.injEq]
  by_cases h0 : a0 = b0
  · by_cases h1 : a1 = b1
    · by_cases h2 : a2 = b2
      · by_cases h3 : a3 = b3
        · by_cases h4 : a4 = b4
          · by_cases h5 : a5 = b5
            · by_cases h6 : a6 = b6
              · by_cases h7 : a7 = b7
                · by_cases h8 : a8 = b8 <;> simp [h0, h1, h2, h3, h4, h5, h6, h7, h8]
                · simp [h7]
              · simp [h6]
            · simp [h5]
          · simp [h4]
        · simp [h3]
      · simp [h2]
    · simp [h1]
  · simp [h0]
theorem sameE_from (l m : List S27) (hm : l.length ≤ 100000) (he : m.length = l.length) : ∀ (k : Nat) (i : Nat), l.length < k + i → i ≤ l.length → sleuthlaw51_sameEvents.l0 k l m (i : Int) = some (decide (l.drop i = m.drop i))
  | 0, i, h, hi => by omega
  | k + 1, i, h, hi => by
    unfold sleuthlaw51_sameEvents.l0
    by_cases hl : i < l.length
    · have hl2 : i < m.length := by omega
      have e1 : rd_T27 l (i : Int) = l[i] := by simp [rd_T27, hl]
      have e2 : rd_T27 m (i : Int) = m[i] := by simp [rd_T27, hl2]
      rw [if_pos (by omega), if_pos (by omega), if_pos (by omega), neAll, e1, e2, List.drop_eq_getElem_cons hl, List.drop_eq_getElem_cons hl2]
      by_cases hx : l[i] = m[i]
      · rw [decide_eq_true hx, if_neg (by simp), w64_ i (by omega), sameE_from l m hm he k (i + 1) (by omega) (by omega)]
        exact congrArg some (decide_eq_decide.mpr (by rw [hx]; exact ⟨fun h => by rw [h], fun h => (List.cons.inj h).2⟩))
      · rw [decide_eq_false hx, if_pos (by simp), decide_eq_false (fun h => hx (List.cons.inj h).1)]
    · obtain rfl : i = l.length := by omega
      rw [if_neg (by omega), List.drop_of_length_le (Nat.le_refl _), List.drop_of_length_le (by omega)]
      rfl
theorem sameE_ok (k : Nat) (l m : List S27) (hm : l.length ≤ 100000) (hk : l.length < k) : sleuthlaw51_sameEvents.f k l m = some (decide (l = m)) := by
  unfold sleuthlaw51_sameEvents.f
  by_cases he : m.length = l.length
  · rw [if_pos (by omega), show (0 : Int) = ((0 : Nat) : Int) from rfl, sameE_from l m hm he k 0 (by omega) (by omega), List.drop_zero, List.drop_zero]
  · rw [if_neg (by omega), decide_eq_false (fun h => he (by rw [h]))]
theorem sameEv_ok (A0 A1 : Option Addr) (c0 c1 : Nat) (l m : List S27) (w : World) (hm : l.length ≤ 100000) (h0 : Kd.C k27 w A0 l.length l) (hc0 : l.length ≤ c0) (h1 : Kd.C k27 w A1 m.length m) (hc1 : m.length ≤ c1) (b : Bool) (hb : decide (l = m) = b) :
    Calls Try.prog 15 #[.slice A0 l.length c0, .slice A1 m.length c1] w fun e w' => e = .returned (.bool b) ∧ Drawn0 w w' :=
  sleuthlaw51_sameEvents.calls (l.length + 1) A0 c0 l A1 c1 m b w h0 hc0 h1 hc1 (hb ▸ sameE_ok _ l m hm (by omega))
end Go.Proofs.Ytcjfgejiknlpfaa.PI
