/- Compare, plainly: a total order over events. No walk. -/
import Derived.Test.YtcjfgejiknlpfaaJ0
namespace Go.Proofs.Ytcjfgejiknlpfaa.PI
open Go.RowKit Go.Proofs.YtcjfgejiknlpfaaW.PrintWords
set_option linter.unusedVariables false
set_option linter.unusedSimpArgs false
def icmp (a b : Int) : Int := if a < b then -1 else if b < a then 1 else 0
def bcmp (a b : ByteArray) : Int := if Op.bytesLess a.toList b.toList = true then -1 else if Op.bytesLess b.toList a.toList = true then 1 else 0
def thn (a b : Int) : Int := if a = 0 then b else a
def kcmp (x y : S25) : Int := thn (bcmp x.f0 y.f0) (icmp x.f1 y.f1)
def ecmp (x y : S27) : Int := thn (icmp x.f1 y.f1) (thn (kcmp x.f0 y.f0) (thn (icmp x.f2 y.f2) (thn (kcmp x.f3 y.f3) (thn (bcmp x.f4 y.f4) (thn (icmp x.f5 y.f5) (bcmp x.f6 y.f6))))))
/-- The first that is not 0. -/
def fnz : List Int → Int
  | [] => 0
  | a :: l => thn a (fnz l)
theorem ci_ok (a b : Int) : cmp_Compare_int.f a b = some (icmp a b) := by
  have h : ∀ z : Int, (z != z) = false := fun z => by simp
  unfold cmp_Compare_int.f cmp_isNaN_int.f icmp
  rw [h, h, Option.bind_some, Option.bind_some, if_neg (by decide), if_neg (by decide)]
  by_cases h1 : a < b
  · rw [if_pos h1, if_pos h1]
  · rw [if_neg h1, if_neg h1]
    by_cases h2 : b < a
    · rw [if_pos h2, if_pos h2]
    · rw [if_neg h2, if_neg h2]
theorem cs_ok (a b : ByteArray) : cmp_Compare_string.f a b = some (bcmp a b) := by
  have h : ∀ z : ByteArray, (z.toList != z.toList) = false := fun z => by simp
  unfold cmp_Compare_string.f cmp_isNaN_string.f bcmp
  rw [h, h, Option.bind_some, Option.bind_some, if_neg (by decide), if_neg (by decide)]
  by_cases h1 : Op.bytesLess a.toList b.toList = true
  · rw [if_pos h1, if_pos h1]
  · rw [if_neg h1, if_neg h1]
    by_cases h2 : Op.bytesLess b.toList a.toList = true
    · rw [if_pos h2, if_pos h2]
    · rw [if_neg h2, if_neg h2]
theorem or_from : ∀ (k : Nat) (l : List Int) (i : Nat), l.length < k + i → l.length ≤ 1000000 → i ≤ l.length → cmp_Or_int.l0 k 0 l (l.length : Int) (i : Int) = some (fnz (l.drop i))
  | 0, l, i, h, _, hi => by omega
  | k + 1, l, i, h, hm, hi => by
    unfold cmp_Or_int.l0
    by_cases hl : i < l.length
    · have ew : wrap64 ((i : Int) + 1) = ((i + 1 : Nat) : Int) := by unfold wrap64; omega
      have er : rd l (i : Int) = l[i] := by simp [rd, hl]
      rw [if_pos (by omega), if_pos (by omega), if_pos (by omega), er, ew, or_from k l (i + 1) (by omega) hm (by omega), List.drop_eq_getElem_cons hl, fnz, thn]
      by_cases h0 : l[i] = 0
      · rw [if_pos h0, if_pos h0]
      · rw [if_neg h0, if_neg h0]
    · obtain rfl : i = l.length := by omega
      rw [if_neg (by omega), List.drop_of_length_le (Nat.le_refl _)]
      rfl
theorem or_ok (k : Nat) (l : List Int) (h : l.length < k) (hm : l.length ≤ 1000000) : cmp_Or_int.f k l = some (fnz l) := or_from k l 0 h hm (Nat.zero_le _)
theorem thn_zero (a : Int) : thn a 0 = a := by unfold thn; split <;> simp_all
theorem thn_assoc (a b c : Int) : thn (thn a b) c = thn a (thn b c) := by
  unfold thn
  by_cases h : a = 0
  · rw [if_pos h, if_pos h]
  · rw [if_neg h, if_neg h, if_neg h]
/-! ### an order -/
structure Cm {α : Type} (c : α → α → Int) : Prop where
  neg : ∀ x y, c y x = - c x y
  tr : ∀ x y z, c x y ≤ 0 → c y z ≤ 0 → c x z ≤ 0
  rng : ∀ x y, -1 ≤ c x y ∧ c x y ≤ 1
theorem Cm.self {α : Type} {c : α → α → Int} (h : Cm c) (x : α) : c x x = 0 := by have := h.neg x x; omega
theorem Cm.thn {α : Type} {c d : α → α → Int} (h : Cm c) (k : Cm d) : Cm (fun x y => thn (c x y) (d x y)) where
  neg x y := by
    have h1 := h.neg x y
    have h2 := k.neg x y
    simp only [PI.thn]
    by_cases h0 : c x y = 0
    · rw [if_pos h0, if_pos (by omega)]; exact h2
    · rw [if_neg h0, if_neg (by omega)]; exact h1
  rng x y := by
    have h1 := h.rng x y
    have h2 := k.rng x y
    simp only [PI.thn]
    split <;> assumption
  tr x y z h1 h2 := by
    simp only [PI.thn] at h1 h2 ⊢
    have a1 : c x y ≤ 0 := by split at h1 <;> omega
    have a2 : c y z ≤ 0 := by split at h2 <;> omega
    have a3 := h.tr x y z a1 a2
    by_cases h0 : c x z = 0
    · have n1 := h.neg x z
      have n2 := h.neg y z
      have n3 := h.neg x y
      have a4 := h.tr z x y (by omega) a1
      have a5 := h.tr y z x a2 (by omega)
      have e1 : c x y = 0 := by omega
      have e2 : c y z = 0 := by omega
      rw [if_pos e1] at h1
      rw [if_pos e2] at h2
      rw [if_pos h0]
      exact k.tr x y z h1 h2
    · rw [if_neg h0]; exact a3
theorem Cm.on {α β : Type} {c : α → α → Int} (h : Cm c) (f : β → α) : Cm (fun x y => c (f x) (f y)) := ⟨fun x y => h.neg _ _, fun x y z => h.tr _ _ _, fun x y => h.rng _ _⟩
theorem cm_int : Cm icmp where
  neg x y := by unfold icmp; split <;> split <;> omega
  tr x y z h1 h2 := by unfold icmp at *; split at h1 <;> split at h2 <;> split <;> omega
  rng x y := by unfold icmp; split <;> (try split) <;> omega
theorem bl_irrefl : ∀ x : List UInt8, Op.bytesLess x x = false
  | [] => rfl
  | a :: x => by simp only [Op.bytesLess, bl_irrefl x, Bool.and_false, Bool.or_false, decide_eq_false_iff_not]; rw [UInt8.lt_iff_toNat_lt]; omega
theorem bl_trans : ∀ x y z : List UInt8, Op.bytesLess x y = true → Op.bytesLess y z = true → Op.bytesLess x z = true
  | _, [], _, h, _ => by simp [Op.bytesLess] at h
  | _, _ :: _, [], _, h => by simp [Op.bytesLess] at h
  | [], _ :: _, _ :: _, _, _ => rfl
  | a :: x, b :: y, c :: z, h1, h2 => by
    have ih := bl_trans x y z
    simp only [Op.bytesLess, Bool.or_eq_true, decide_eq_true_iff, Bool.and_eq_true, beq_iff_eq, UInt8.lt_iff_toNat_lt] at *
    rcases h1 with h1 | ⟨rfl, h1⟩ <;> rcases h2 with h2 | ⟨rfl, h2⟩
    · left; omega
    · left; exact h1
    · left; exact h2
    · right; exact ⟨rfl, ih h1 h2⟩
theorem bl_tri (x y : List UInt8) (h1 : Op.bytesLess x y = false) (h2 : Op.bytesLess y x = false) : x = y := by
  have := bytesLess_flip x y
  rw [h1, h2, Bool.false_or] at this
  simpa using this
theorem bytes_ext (a b : ByteArray) (h : a.toList = b.toList) : a = b := by
  rw [ByteArray.toList_eq, ByteArray.toList_eq] at h
  exact ByteArray.ext (Array.toList_inj.mp h)
theorem bcmp_neg_iff (a b : ByteArray) : bcmp a b < 0 ↔ Op.bytesLess a.toList b.toList = true := by
  unfold bcmp
  by_cases h1 : Op.bytesLess a.toList b.toList = true
  · simp [h1]
  · by_cases h2 : Op.bytesLess b.toList a.toList = true <;> simp [h1, h2]
theorem bcmp_zero_iff (a b : ByteArray) : bcmp a b = 0 ↔ a = b := by
  constructor
  · intro h
    unfold bcmp at h
    by_cases h1 : Op.bytesLess a.toList b.toList = true
    · simp [h1] at h
    · by_cases h2 : Op.bytesLess b.toList a.toList = true
      · simp [h1, h2] at h
      · exact bytes_ext _ _ (bl_tri _ _ (by simpa using h1) (by simpa using h2))
  · rintro rfl; simp [bcmp, bl_irrefl]
theorem bcmp_neg (x y : ByteArray) : bcmp y x = - bcmp x y := by
  unfold bcmp
  by_cases h1 : Op.bytesLess x.toList y.toList = true
  · have h2 : ¬ Op.bytesLess y.toList x.toList = true := fun h => by have := bl_trans _ _ _ h1 h; rw [bl_irrefl] at this; cases this
    simp [h1, h2]
  · by_cases h2 : Op.bytesLess y.toList x.toList = true <;> simp [h1, h2]
theorem cm_bytes : Cm bcmp where
  neg := bcmp_neg
  rng x y := by unfold bcmp; split <;> (try split) <;> omega
  tr x y z h1 h2 := by
    by_cases e1 : bcmp x y = 0
    · rw [(bcmp_zero_iff x y).mp e1]; exact h2
    · by_cases e2 : bcmp y z = 0
      · rw [← (bcmp_zero_iff y z).mp e2]; exact h1
      · have := (bcmp_neg_iff x z).mpr (bl_trans _ _ _ ((bcmp_neg_iff x y).mp (by omega)) ((bcmp_neg_iff y z).mp (by omega)))
        omega
theorem cm_key : Cm kcmp := (cm_bytes.on (fun x : S25 => x.f0)).thn (cm_int.on (fun x : S25 => x.f1))
theorem cm_ev : Cm ecmp :=
  (cm_int.on (fun x : S27 => x.f1)).thn ((cm_key.on (fun x : S27 => x.f0)).thn ((cm_int.on (fun x : S27 => x.f2)).thn ((cm_key.on (fun x : S27 => x.f3)).thn ((cm_bytes.on (fun x : S27 => x.f4)).thn ((cm_int.on (fun x : S27 => x.f5)).thn (cm_bytes.on (fun x : S27 => x.f6)))))))
theorem icmp_zero_iff (a b : Int) : icmp a b = 0 ↔ a = b := by unfold icmp; split <;> (try split) <;> omega
theorem thn_zero_iff (a b : Int) : thn a b = 0 ↔ a = 0 ∧ b = 0 := by unfold thn; split <;> simp_all
theorem kcmp_zero_iff (x y : S25) : kcmp x y = 0 ↔ x = y := by
  obtain ⟨a, b⟩ := x
  obtain ⟨c, d⟩ := y
  simp only [kcmp, thn_zero_iff, bcmp_zero_iff, icmp_zero_iff, S25.mk.injEq]
theorem ecmp_zero_iff (x y : S27) : ecmp x y = 0 ↔ x = y := by
  obtain ⟨a0, a1, a2, a3, a4, a5, a6⟩ := x
  obtain ⟨b0, b1, b2, b3, b4, b5, b6⟩ := y
  simp only [ecmp, thn_zero_iff, bcmp_zero_iff, icmp_zero_iff, kcmp_zero_iff, S27.mk.injEq]
  constructor
  · rintro ⟨h1, h0, h2, h3, h4, h5, h6⟩; exact ⟨h0, h1, h2, h3, h4, h5, h6⟩
  · rintro ⟨h0, h1, h2, h3, h4, h5, h6⟩; exact ⟨h1, h0, h2, h3, h4, h5, h6⟩
instance : DecidableEq S25 := fun x y => decidable_of_iff (kcmp x y = 0) (kcmp_zero_iff x y)
instance : DecidableEq S27 := fun x y => decidable_of_iff (ecmp x y = 0) (ecmp_zero_iff x y)
/-- x stands ahead of y. -/
def Bf (x y : S27) : Prop := ecmp x y < 0
instance (x y : S27) : Decidable (Bf x y) := by unfold Bf; infer_instance
theorem bf_irrefl (x : S27) : ¬ Bf x x := by unfold Bf; rw [cm_ev.self]; omega
theorem bf_trans {x y z : S27} (h1 : Bf x y) (h2 : Bf y z) : Bf x z := by
  unfold Bf at *
  have h3 := cm_ev.tr x y z (by omega) (by omega)
  by_cases h0 : ecmp x z = 0
  · rw [(ecmp_zero_iff x z).mp h0] at h1
    have := cm_ev.neg y z
    omega
  · omega
theorem bf_asymm {x y : S27} (h1 : Bf x y) (h2 : Bf y x) : False := bf_irrefl x (bf_trans h1 h2)
theorem bf_tri {x y : S27} (h1 : ¬ Bf x y) (h2 : ¬ x = y) : Bf y x := by
  unfold Bf at *
  have h3 : ecmp x y ≠ 0 := fun h => h2 ((ecmp_zero_iff x y).mp h)
  have := cm_ev.neg x y
  omega
end Go.Proofs.Ytcjfgejiknlpfaa.PI
