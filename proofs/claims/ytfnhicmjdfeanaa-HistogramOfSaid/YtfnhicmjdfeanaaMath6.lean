/- What values, right, count, same, at, Check, AtMost and Sum compute, in plain numbers and lists. -/
import Derived.Test.YtfnhicmjdfeanaaMath5
import Derived.Test.YtfnhicmjdfeanaaPHx15
import Derived.Test.YtfnhicmjdfeanaaPHx21
import Derived.Test.YtfnhicmjdfeanaaPHx22
import Derived.Test.YtfnhicmjdfeanaaPHx29
import Derived.Test.YtfnhicmjdfeanaaPHx30
import Derived.Test.YtfnhicmjdfeanaaPHx33
-- NEEDS H: sleuthlaw21_values sleuthlaw21_of sleuthlaw21_right sleuthlaw21_count sleuthlaw21_same sleuthlaw21_at
namespace Go.Proofs.Ytfnhicmjdfeanaa.PH
open Go.RowKit Go.Proofs.YtfnhicmjdfeanaaW.PrintWords Go.Proofs.YtfnhicmjdfeanaaW.PrintLast Go.Proofs.YtfnhicmjdfeanaaW.PrintMore
set_option linter.unusedVariables false

/-! ### values -/
def clip (v : Int) : Int := if 0 ≤ v ∧ v ≤ 1099511627776 then v else v % 18446744073709551616 % 1099511627777
def vals (l : List Int) : List Int := (l.take 40).map clip
theorem clip_valid (v : Int) : 0 ≤ clip v ∧ clip v ≤ 1099511627776 := by
  unfold clip
  split
  · assumption
  · omega
theorem vals_valid (l : List Int) : valid (vals l) := fun v hv => by
  simp only [vals, List.mem_map] at hv
  obtain ⟨a, _, rfl⟩ := hv
  exact clip_valid a
theorem vals_len (l : List Int) : (vals l).length ≤ 40 := by
  simp only [vals, List.length_map, List.length_take]
  omega
theorem rem_clip (v : Int) (h : ¬ (0 ≤ v ∧ v ≤ 1099511627776)) : wrap64 (Int.tmod (IntKind.u64.wrap v) 1099511627777) = clip v := by
  rw [show IntKind.u64.wrap v = v % 18446744073709551616 from rfl, Int.tmod_eq_emod_of_nonneg (by omega)]
  unfold clip
  rw [if_neg h, wr_small _ (by omega) (by omega)]
theorem values_loop (l : List Int) (hl : l.length ≤ 4611686018427387904) : ∀ (d i k : Nat) (out : List Int), i + d = min 40 l.length → 2 * d + 1 < k → out.length ≤ i → sleuthlaw21_values.l0 k l out i = some (out ++ ((l.take 40).drop i).map clip) := by
  intro d
  induction d with
  | zero =>
    intro i k out hi hk ho
    obtain ⟨k, rfl⟩ : ∃ m, k = m + 2 := ⟨k - 2, by omega⟩
    have e : ((l.take 40).drop i).map clip = [] := by rw [List.drop_of_length_le (by rw [List.length_take]; omega)]; rfl
    rw [e, List.append_nil, sleuthlaw21_values.l0]
    by_cases h : (i : Int) < (l.length : Int)
    · rw [if_pos h, show decide ((i : Int) < 40) = false from decide_eq_false (by omega), sleuthlaw21_values.j1, if_neg (by decide)]
    · rw [if_neg h, sleuthlaw21_values.j1, if_neg (by decide)]
  | succ d ih =>
    intro i k out hi hk ho
    obtain ⟨k, rfl⟩ : ∃ m, k = m + 2 := ⟨k - 2, by omega⟩
    have hlt : i < l.length := by omega
    have h40 : i < 40 := by omega
    have ed : (l.take 40).drop i = rd l i :: (l.take 40).drop (i + 1) := by
      have := rd_drop (l.take 40) i (by rw [List.length_take]; omega)
      rw [this]
      congr 1
      simp [rd, List.getD_eq_getElem?_getD, h40]
    have hn : ∀ x : Int, x = clip (rd l i) → sleuthlaw21_values.l0 k l (out ++ [x]) (wrap64 ((i : Int) + 1)) = some (out ++ ((l.take 40).drop i).map clip) := by
      intro x hx
      rw [wr_succ i (by omega), ih (i + 1) k _ (by omega) (by omega) (by simp; omega), ed, hx]
      simp
    rw [sleuthlaw21_values.l0, if_pos (by omega), show decide ((i : Int) < 40) = true from decide_eq_true (by omega), sleuthlaw21_values.j1, if_pos rfl, if_pos (by omega), if_pos (by omega)]
    by_cases h0 : rd l i ≥ 0
    · rw [if_pos h0]
      by_cases h1 : rd l i ≤ 1099511627776
      · rw [if_pos h1, if_pos (by omega)]
        exact hn _ (by unfold clip; rw [if_pos ⟨h0, h1⟩])
      · rw [if_neg h1, if_pos (by omega)]
        exact hn _ (rem_clip _ (by omega))
    · rw [if_neg h0, if_pos (by omega)]
      exact hn _ (rem_clip _ (by omega))
theorem values_ok (k : Nat) (hk : 100 ≤ k) (l : List Int) (hl : l.length ≤ 4611686018427387904) : sleuthlaw21_values.f k l = some (vals l) := by
  unfold sleuthlaw21_values.f
  have := values_loop l hl (min 40 l.length) 0 k [] (by omega) (by omega) (by simp)
  rw [List.drop_zero, List.nil_append] at this
  exact this
theorem law_of (k : Nat) (hk : 100 ≤ k) (l : List Int) (hl : l.length ≤ 4611686018427387904) : sleuthlaw21_of.f k l = some (hst (vals l)) := by
  unfold sleuthlaw21_of.f
  rw [values_ok k hk l hl]
  simp only [Option.bind_some]
  rw [of_ok k (by omega) _ (vals_valid l) (by have := vals_len l; omega)]
  rfl

/-! ### right -/
theorem right_loop (l : List Int) (hl : l.length ≤ 4611686018427387904) : ∀ (d i k : Nat), i + d = l.length → d < k → ∃ b, sleuthlaw21_right.l0 k l i = some b ∧ (b = true ↔ valid (l.drop i) ∧ l.length ≤ 40) := by
  intro d
  induction d with
  | zero =>
    intro i k hi hk
    obtain ⟨k, rfl⟩ : ∃ m, k = m + 1 := ⟨k - 1, by omega⟩
    refine ⟨decide ((l.length : Int) ≤ 40), by rw [sleuthlaw21_right.l0, if_neg (by omega)], ?_⟩
    rw [List.drop_of_length_le (by omega), decide_eq_true_iff]
    constructor
    · intro h; exact ⟨fun v hv => by simp at hv, by omega⟩
    · rintro ⟨_, h⟩; omega
  | succ d ih =>
    intro i k hi hk
    obtain ⟨k, rfl⟩ : ∃ m, k = m + 1 := ⟨k - 1, by omega⟩
    have hlt : i < l.length := by omega
    rw [rd_drop l i hlt, sleuthlaw21_right.l0, if_pos (by omega), if_pos (by omega)]
    by_cases h0 : rd l i < 0
    · rw [if_pos h0]
      exact ⟨false, rfl, by constructor; (intro h; cases h); (rintro ⟨h, _⟩; have := h (rd l i) List.mem_cons_self; omega)⟩
    · rw [if_neg h0]
      by_cases h1 : rd l i > 1099511627776
      · rw [if_pos h1]
        exact ⟨false, rfl, by constructor; (intro h; cases h); (rintro ⟨h, _⟩; have := h (rd l i) List.mem_cons_self; omega)⟩
      · rw [if_neg h1, wr_succ i (by omega)]
        obtain ⟨b, hb, hi⟩ := ih (i + 1) k (by omega) (by omega)
        refine ⟨b, hb, hi.trans ?_⟩
        constructor
        · rintro ⟨h, hh⟩
          refine ⟨fun v hv => ?_, hh⟩
          rcases List.mem_cons.1 hv with rfl | hv
          · omega
          · exact h v hv
        · rintro ⟨h, hh⟩
          exact ⟨(valid_cons h).2, hh⟩
theorem right_ok (k : Nat) (l : List Int) (hk : l.length < k) (hl : l.length ≤ 4611686018427387904) : ∃ b, sleuthlaw21_right.f k l = some b ∧ (b = true ↔ valid l ∧ l.length ≤ 40) := by
  unfold sleuthlaw21_right.f
  have := right_loop l hl l.length 0 k (by omega) (by omega)
  simpa using this

/-! ### count -/
def t62 (b : S67) : S62 := ⟨b.f0, b.f1⟩
theorem count_l1 (l : List Int) (h : valid l) (hl : l.length ≤ 1000000) (out : List S62) (n C : Int) : ∀ (d i k : Nat) (acc : Int), i + d = l.length → 40 ≤ k → 0 ≤ acc → acc ≤ i → C = acc + cnt (l.drop i) n →
    sleuthlaw21_count.l1 (k + d + 1) l out n acc i = (if C > 0 then (if out.length < 8796093022208 then sleuthlaw21_count.l0 k l (out ++ [(⟨n, C⟩ : S62)]) (wrap64 (n + 1)) else none) else sleuthlaw21_count.l0 k l out (wrap64 (n + 1))) := by
  intro d
  induction d with
  | zero =>
    intro i k acc hi hk h0 h1 hC
    rw [List.drop_of_length_le (by omega)] at hC
    simp only [cnt, Int.add_zero] at hC
    rw [Nat.add_zero, sleuthlaw21_count.l1, if_neg (by omega), hC]
  | succ d ih =>
    intro i k acc hi hk h0 h1 hC
    have hlt : i < l.length := by omega
    have hv := h (rd l i) (List.mem_of_mem_drop (i := i) (by rw [rd_drop l i hlt]; exact List.mem_cons_self))
    rw [show k + (d + 1) + 1 = (k + d + 1) + 1 by omega, sleuthlaw21_count.l1, if_pos (by omega), if_pos (by omega)]
    have hx := law_index (rd l i) (k + d + 1 - 40) hv.1 hv.2
    rw [show k + d + 1 - 40 + 40 = k + d + 1 by omega] at hx
    rw [hx]
    simp only [Option.bind_some]
    rw [rd_drop l i hlt] at hC
    simp only [cnt] at hC
    by_cases e : bix (rd l i) = n
    · rw [if_pos e] at hC
      rw [if_pos e, wr_small (acc + 1) (by omega) (by omega), wr_succ i (by omega), ih (i + 1) k (acc + 1) (by omega) hk (by omega) (by omega) (by omega)]
    · rw [if_neg e] at hC
      rw [if_neg e, wr_succ i (by omega), ih (i + 1) k acc (by omega) hk (by omega) (by omega) (by omega)]
theorem vecFrom_succ (f : Int → Int) (a n : Nat) : vecFrom f a (n + 1) = f a :: vecFrom f (a + 1) n := by
  simp [vecFrom, List.range'_succ]
theorem count_l0 (l : List Int) (h : valid l) (hl : l.length ≤ 1000000) : ∀ (d n k : Nat) (out : List S62), n + d = 305 → d * (l.length + 2) + 41 ≤ k → out.length ≤ n →
    sleuthlaw21_count.l0 k l out n = some (out ++ (buckFrom n (vecFrom (cnt l) n d)).map t62) := by
  intro d
  induction d with
  | zero =>
    intro n k out hn hk ho
    obtain ⟨k, rfl⟩ : ∃ m, k = m + 1 := ⟨k - 1, by omega⟩
    rw [sleuthlaw21_count.l0, if_neg (by omega)]
    simp [vecFrom, buckFrom]
  | succ d ih =>
    intro n k out hn hk ho
    rw [Nat.add_mul, Nat.one_mul] at hk
    obtain ⟨k, rfl⟩ : ∃ m, k = m + l.length + 1 + 1 := ⟨k - (l.length + 2), by omega⟩
    rw [sleuthlaw21_count.l0, if_pos (by omega)]
    have h1 := count_l1 l h hl out n (cnt l n) l.length 0 k 0 (by omega) (by omega) (by omega) (by omega) (by simp)
    rw [show ((0 : Nat) : Int) = 0 from rfl] at h1
    rw [h1, vecFrom_succ]
    have hr := cnt_range l n
    simp only [buckFrom]
    by_cases e : cnt l n = 0
    · rw [if_neg (by omega), if_pos e, wr_succ n (by omega), ih (n + 1) k out (by omega) (by omega) (by omega)]
      rw [show ((n + 1 : Nat) : Int) = (n : Int) + 1 by omega]
    · rw [if_pos (by omega), if_neg e, if_pos (by omega), wr_succ n (by omega), ih (n + 1) k _ (by omega) (by omega) (by simp; omega)]
      rw [show ((n + 1 : Nat) : Int) = (n : Int) + 1 by omega]
      simp [t62]
theorem count_ok (k : Nat) (l : List Int) (h : valid l) (hl : l.length ≤ 1000) (hk : 306000 ≤ k) : sleuthlaw21_count.f k l = some ((hst l).map t62) := by
  unfold sleuthlaw21_count.f
  have hm : 305 * (l.length + 2) ≤ 305 * 1002 := Nat.mul_le_mul_left _ (by omega)
  have := count_l0 l h (by omega) 305 0 k [] (by omega) (by omega) (by simp)
  simpa [hst, vec] using this

/-! ### same -/
theorem same_loop (l : List S67) (m : List S62) (hl : l.length = m.length) (hb : l.length ≤ 1000000) : ∀ (d i k : Nat), i + d = l.length → d < k → ∃ b, sleuthlaw21_same.l0 k m i l = some b ∧ (b = true ↔ (l.drop i).map t62 = m.drop i) := by
  intro d
  induction d with
  | zero =>
    intro i k hi hk
    obtain ⟨k, rfl⟩ : ∃ m, k = m + 1 := ⟨k - 1, by omega⟩
    refine ⟨true, by rw [sleuthlaw21_same.l0, if_neg (by omega)], ?_⟩
    rw [List.drop_of_length_le (by omega), List.drop_of_length_le (by omega)]
    simp
  | succ d ih =>
    intro i k hi hk
    obtain ⟨k, rfl⟩ : ∃ m, k = m + 1 := ⟨k - 1, by omega⟩
    rw [sleuthlaw21_same.l0, if_pos (by omega), if_pos (by omega), if_pos (by omega), rd67_drop l i (by omega), rd62_drop m i (by omega)]
    obtain ⟨a, b⟩ := rd_T67 l i
    obtain ⟨a', b'⟩ := rd_T62 m i
    simp only [List.map_cons, t62, List.cons.injEq, S62.mk.injEq]
    by_cases e : a = a' ∧ b = b'
    · obtain ⟨rfl, rfl⟩ := e
      rw [if_neg (by simp), wr_succ i (by omega)]
      obtain ⟨b, hb, hi⟩ := ih (i + 1) k (by omega) (by omega)
      exact ⟨b, hb, by rw [hi]; simp⟩
    · rw [if_pos (by simp; omega)]
      exact ⟨false, rfl, by constructor; (intro h; cases h); (rintro ⟨h, _⟩; exact absurd h e)⟩
theorem same_ok (k : Nat) (l : List S67) (m : List S62) (hb : l.length ≤ 1000000) (hk : l.length < k) : ∃ b, sleuthlaw21_same.f k l m = some b ∧ (b = true ↔ l.map t62 = m) := by
  unfold sleuthlaw21_same.f
  by_cases e : l.length = m.length
  · rw [if_pos (by omega)]
    have := same_loop l m e hb l.length 0 k (by omega) hk
    simpa using this
  · rw [if_neg (by omega)]
    exact ⟨false, rfl, by constructor; (intro h; cases h); (intro h; rw [← h] at e; simp at e)⟩

/-! ### at -/
def atS : List S67 → Int → Int
  | [], _ => 0
  | b :: bs, n => if b.f0 = n then b.f1 else atS bs n
theorem at_loop (l : List S67) (hb : l.length ≤ 1000000) (n : Int) : ∀ (d i k : Nat), i + d = l.length → d < k → sleuthlaw21_at.l0 k n i l = some (atS (l.drop i) n) := by
  intro d
  induction d with
  | zero =>
    intro i k hi hk
    obtain ⟨k, rfl⟩ : ∃ m, k = m + 1 := ⟨k - 1, by omega⟩
    rw [sleuthlaw21_at.l0, if_neg (by omega), List.drop_of_length_le (by omega)]
    rfl
  | succ d ih =>
    intro i k hi hk
    obtain ⟨k, rfl⟩ : ∃ m, k = m + 1 := ⟨k - 1, by omega⟩
    rw [sleuthlaw21_at.l0, if_pos (by omega), if_pos (by omega), rd67_drop l i (by omega)]
    simp only [atS]
    by_cases e : (rd_T67 l i).f0 = n
    · rw [if_pos e, if_pos e]
    · rw [if_neg e, if_neg e, wr_succ i (by omega), ih (i + 1) k (by omega) (by omega)]
theorem at_ok (k : Nat) (l : List S67) (n : Int) (hb : l.length ≤ 1000000) (hk : l.length < k) : sleuthlaw21_at.f k l n = some (atS l n) := by
  unfold sleuthlaw21_at.f
  have := at_loop l hb n l.length 0 k (by omega) hk
  simpa using this
theorem atS_buck : ∀ (cs : List Int) (s n : Int), s ≤ n → n < s + cs.length → atS (buckFrom s cs) n = cs.getD (n - s).toNat 0
  | [], s, n, h0, h1 => by simp at h1; omega
  | c :: cs, s, n, h0, h1 => by
    simp only [List.length_cons] at h1
    by_cases e : n = s
    · subst e
      rw [show (n - n).toNat = 0 by omega]
      simp only [List.getD_cons_zero, buckFrom]
      by_cases hc : c = 0
      · rw [if_pos hc, hc]
        have hno : ∀ (cs : List Int) (s : Int), n < s → atS (buckFrom s cs) n = 0 := by
          intro cs
          induction cs with
          | nil => intro s _; rfl
          | cons a cs ih =>
            intro s hs
            simp only [buckFrom]
            split
            · exact ih _ (by omega)
            · simp only [atS]; rw [if_neg (by omega)]; exact ih _ (by omega)
        exact hno cs (n + 1) (by omega)
      · rw [if_neg hc]
        simp [atS]
    · rw [show (n - s).toNat = (n - (s + 1)).toNat + 1 by omega]
      simp only [List.getD_cons_succ, buckFrom]
      rw [← atS_buck cs (s + 1) n (by omega) (by omega)]
      split
      · rfl
      · simp only [atS]; rw [if_neg (by omega)]
theorem at_vec (f : Int → Int) (n : Int) (h0 : 0 ≤ n) (h1 : n < 305) : atS (buckFrom 0 (vec f)) n = f n := by
  rw [atS_buck _ _ _ h0 (by rw [vec_len]; omega), Int.sub_zero, vec_at f n h0 h1]
end Go.Proofs.Ytfnhicmjdfeanaa.PH
