/- Keys in order, plainly: a list in order, one more key in its place, and what a sketch keeps of it. No program in sight. -/
import Derived.Test.YtddhpkobingmhaaSk5
namespace Go.Proofs.Ytddhpkobingmhaa.PB
open Go.RowKit Go.Proofs.YtddhpkobingmhaaW.PrintWords
set_option linter.unusedVariables false
set_option linter.unusedSimpArgs false
theorem bl_irrefl : ∀ x : List UInt8, Op.bytesLess x x = false
  | [] => rfl
  | a :: x => by simp only [Op.bytesLess, bl_irrefl x, Bool.and_false, Bool.or_false, decide_eq_false_iff_not]; rw [UInt8.lt_iff_toNat_lt]; omega
theorem bl_trans : ∀ x y z : List UInt8, Op.bytesLess x y = true → Op.bytesLess y z = true → Op.bytesLess x z = true
  | _, [], _, h, _ => by simp [Op.bytesLess] at h
  | _, _ :: _, [], _, h => by simp [Op.bytesLess] at h
  | [], _ :: _, _ :: _, _, _ => rfl
  | a :: x, b :: y, c :: z, h1, h2 => by
    have ih := bl_trans x y z
    simp only [Op.bytesLess, Bool.or_eq_true, decide_eq_true_iff, Bool.and_eq_true, beq_iff_eq, UInt8.lt_iff_toNat_lt] at *
    rcases h1 with h1 | ⟨rfl, h1⟩ <;> rcases h2 with h2 | ⟨rfl, h2⟩
    · left; omega
    · left; exact h1
    · left; exact h2
    · right; exact ⟨rfl, ih h1 h2⟩
theorem bl_tri (x y : List UInt8) (h1 : Op.bytesLess x y = false) (h2 : Op.bytesLess y x = false) : x = y := by
  have := bytesLess_flip x y
  rw [h1, h2, Bool.false_or] at this
  simpa using this
theorem bytes_ext (a b : ByteArray) (h : a.toList = b.toList) : a = b := by
  rw [ByteArray.toList_eq, ByteArray.toList_eq] at h
  exact ByteArray.ext (Array.toList_inj.mp h)
/-- x stands ahead of y. -/
def Bf (x y : S52) : Prop := kcmp x y < 0
instance (x y : S52) : Decidable (Bf x y) := by unfold Bf; infer_instance
theorem bf_iff (x y : S52) : Bf x y ↔ x.f0 < y.f0 ∨ (x.f0 = y.f0 ∧ Op.bytesLess x.f1.toList y.f1.toList = true) := by
  unfold Bf kcmp icmp bcmp
  by_cases h1 : x.f0 < y.f0
  · simp [h1]
  · by_cases h2 : y.f0 < x.f0
    · have h3 : ¬ x.f0 = y.f0 := by omega
      simp [h1, h2, h3]
    · have h3 : x.f0 = y.f0 := by omega
      rw [if_neg h1, if_neg h2, if_pos rfl]
      by_cases h4 : Op.bytesLess x.f1.toList y.f1.toList = true
      · simp [h3, h4]
      · rw [if_neg h4]
        by_cases h5 : Op.bytesLess y.f1.toList x.f1.toList = true <;> simp [h1, h4, h5]
theorem kz_iff (x y : S52) : kcmp x y = 0 ↔ x = y := by
  unfold kcmp icmp bcmp
  constructor
  · intro h
    by_cases h1 : x.f0 < y.f0
    · simp [h1] at h
    · by_cases h2 : y.f0 < x.f0
      · simp [h1, h2] at h
      · rw [if_neg h1, if_neg h2, if_pos rfl] at h
        by_cases h4 : Op.bytesLess x.f1.toList y.f1.toList = true
        · simp [h4] at h
        · by_cases h5 : Op.bytesLess y.f1.toList x.f1.toList = true
          · simp [h4, h5] at h
          · have e := bytes_ext _ _ (bl_tri _ _ (by simpa using h4) (by simpa using h5))
            obtain ⟨a, b⟩ := x
            obtain ⟨a', b'⟩ := y
            simp only at e h1 h2
            rw [e, show a = a' by omega]
  · rintro rfl
    simp [bl_irrefl]
instance : DecidableEq S52 := fun x y => decidable_of_iff (kcmp x y = 0) (kz_iff x y)
theorem bf_irrefl (x : S52) : ¬ Bf x x := fun h => by
  have := (kz_iff x x).mpr rfl
  unfold Bf at h; omega
theorem bf_trans {x y z : S52} (h1 : Bf x y) (h2 : Bf y z) : Bf x z := by
  rw [bf_iff] at *
  rcases h1 with h1 | ⟨e1, h1⟩ <;> rcases h2 with h2 | ⟨e2, h2⟩
  · left; omega
  · left; omega
  · left; omega
  · right; exact ⟨by omega, bl_trans _ _ _ h1 h2⟩
theorem bf_asymm {x y : S52} (h1 : Bf x y) (h2 : Bf y x) : False := bf_irrefl x (bf_trans h1 h2)
theorem bf_tri {x y : S52} (h1 : ¬ Bf x y) (h2 : ¬ x = y) : Bf y x := by
  rw [bf_iff] at *
  by_cases h3 : x.f0 = y.f0
  · right
    refine ⟨h3.symm, ?_⟩
    by_cases h4 : Op.bytesLess y.f1.toList x.f1.toList = true
    · exact h4
    · exfalso
      by_cases h5 : Op.bytesLess x.f1.toList y.f1.toList = true
      · exact h1 (.inr ⟨h3, h5⟩)
      · have e := bytes_ext _ _ (bl_tri _ _ (by simpa using h5) (by simpa using h4))
        obtain ⟨a, b⟩ := x
        obtain ⟨a', b'⟩ := y
        simp only at e h3
        exact h2 (by rw [e, h3])
  · left
    have : ¬ x.f0 < y.f0 := fun h => h1 (.inl h)
    omega
/-- In order, each once. -/
def Inc (l : List S52) : Prop := l.Pairwise Bf
def ins (x : S52) : List S52 → List S52
  | [] => [x]
  | y :: l => if Bf y x then y :: ins x l else if y = x then y :: l else x :: y :: l
/-- The place of x. -/
def plc (x : S52) : List S52 → Nat
  | [] => 0
  | y :: l => if Bf y x then plc x l + 1 else 0
/-- x stands in its place. -/
def hit (x : S52) (l : List S52) : Bool := decide (plc x l < l.length) && (kcmp (rd_T52 l (plc x l)) x == 0)
theorem plc_le (x : S52) : ∀ l, plc x l ≤ l.length
  | [] => Nat.le_refl _
  | y :: l => by
    unfold plc
    have := plc_le x l
    split
    · rw [List.length_cons]; omega
    · omega
theorem rd_cons (y : S52) (l : List S52) (j : Nat) : rd_T52 (y :: l) ((j + 1 : Nat) : Int) = rd_T52 l (j : Int) := by simp [rd_T52]
theorem plc_lo (x : S52) : ∀ (l : List S52) (j : Nat), j < plc x l → kcmp (rd_T52 l j) x < 0
  | [], j, h => by simp [plc] at h
  | y :: l, j, h => by
    unfold plc at h
    split at h
    · next hy =>
      cases j with
      | zero => exact hy
      | succ j => rw [rd_cons]; exact plc_lo x l j (by omega)
    · omega
theorem inc_all {x y : S52} {l : List S52} (h : Inc (y :: l)) (hy : ¬ Bf y x) : ∀ z ∈ l, ¬ Bf z x := fun z hz hb => hy (bf_trans ((List.pairwise_cons.mp h).1 z hz) hb)
theorem plc_hi (x : S52) : ∀ (l : List S52), Inc l → ∀ j : Nat, plc x l ≤ j → j < l.length → 0 ≤ kcmp (rd_T52 l j) x
  | [], _, j, _, h => by simp at h
  | y :: l, hI, j, h, hj => by
    unfold plc at h
    split at h
    · next hy =>
      cases j with
      | zero => omega
      | succ j => rw [rd_cons]; exact plc_hi x l (List.pairwise_cons.mp hI).2 j (by omega) (by simpa using hj)
    · next hy =>
      have hm : rd_T52 (y :: l) (j : Int) ∈ y :: l := by
        unfold rd_T52
        rw [Int.toNat_natCast, List.getD_eq_getElem?_getD, List.getElem?_eq_getElem hj]
        exact List.getElem_mem hj
      have : ¬ Bf (rd_T52 (y :: l) (j : Int)) x := by
        rcases List.mem_cons.mp hm with h1 | h1
        · rw [h1]; exact hy
        · exact inc_all hI hy _ h1
      unfold Bf at this
      omega
theorem hit_cons_lt {x y : S52} {l : List S52} (h : Bf y x) : hit x (y :: l) = hit x l := by
  unfold hit
  rw [show plc x (y :: l) = plc x l + 1 by simp [plc, h], rd_cons]
  simp
theorem hit_cons_ge {x y : S52} {l : List S52} (h : ¬ Bf y x) : hit x (y :: l) = decide (y = x) := by
  unfold hit
  rw [show plc x (y :: l) = 0 by simp [plc, h]]
  have : rd_T52 (y :: l) ((0 : Nat) : Int) = y := rfl
  rw [this]
  have h0 := kz_iff y x
  by_cases he : y = x
  · simp [he, (kz_iff x x).mpr rfl]
  · have : ¬ kcmp y x = 0 := fun h => he (h0.mp h)
    simp [he, this]
theorem ins_hit (x : S52) : ∀ l, hit x l = true → ins x l = l
  | [], h => by simp [hit] at h
  | y :: l, h => by
    unfold ins
    split
    · next hy => rw [hit_cons_lt hy] at h; rw [ins_hit x l h]
    · next hy =>
      rw [hit_cons_ge hy] at h
      rw [if_pos (by simpa using h)]
theorem ins_miss (x : S52) : ∀ l, hit x l = false → ins x l = l.take (plc x l) ++ x :: l.drop (plc x l)
  | [], h => rfl
  | y :: l, h => by
    unfold ins plc
    split
    · next hy => rw [hit_cons_lt hy] at h; rw [ins_miss x l h]; rfl
    · next hy =>
      rw [hit_cons_ge hy] at h
      rw [if_neg (by simpa using h)]; rfl
theorem hit_mem (x : S52) : ∀ l, hit x l = true → x ∈ l
  | [], h => by simp [hit] at h
  | y :: l, h => by
    by_cases hy : Bf y x
    · rw [hit_cons_lt hy] at h; exact List.mem_cons_of_mem _ (hit_mem x l h)
    · rw [hit_cons_ge hy] at h
      have : y = x := by simpa using h
      rw [this]; exact List.mem_cons_self
theorem mem_hit (x : S52) : ∀ l, Inc l → x ∈ l → hit x l = true
  | [], _, h => by simp at h
  | y :: l, hI, h => by
    by_cases hy : Bf y x
    · rw [hit_cons_lt hy]
      rcases List.mem_cons.mp h with rfl | h
      · exact absurd hy (bf_irrefl _)
      · exact mem_hit x l (List.pairwise_cons.mp hI).2 h
    · rw [hit_cons_ge hy]
      rcases List.mem_cons.mp h with rfl | h
      · simp
      · exact absurd ((List.pairwise_cons.mp hI).1 x h) hy
theorem mem_ins {x z : S52} : ∀ {l : List S52}, z ∈ ins x l ↔ z = x ∨ z ∈ l
  | [] => by simp [ins]
  | y :: l => by
    unfold ins
    split
    · rw [List.mem_cons, List.mem_cons, mem_ins (l := l)]
      constructor
      · rintro (h | h | h) <;> simp [h]
      · rintro (h | h | h) <;> simp [h]
    · split
      · next h => subst h; simp
      · simp
theorem inc_ins (x : S52) : ∀ {l : List S52}, Inc l → Inc (ins x l)
  | [], _ => by simp [ins, Inc]
  | y :: l, h => by
    have h1 := List.pairwise_cons.mp h
    unfold ins
    split
    · next hy =>
      refine List.pairwise_cons.mpr ⟨fun z hz => ?_, inc_ins x h1.2⟩
      rcases mem_ins.mp hz with rfl | hz
      · exact hy
      · exact h1.1 z hz
    · next hy =>
      split
      · exact h
      · next he =>
        have hb := bf_tri hy he
        refine List.pairwise_cons.mpr ⟨fun z hz => ?_, h⟩
        rcases List.mem_cons.mp hz with rfl | hz
        · exact hb
        · exact bf_trans hb (h1.1 z hz)
theorem length_ins (x : S52) (l : List S52) : (ins x l).length = if hit x l = true then l.length else l.length + 1 := by
  by_cases h : hit x l = true
  · rw [if_pos h, ins_hit x l h]
  · rw [if_neg h, ins_miss x l (by simpa using h)]
    have := plc_le x l
    simp; omega
theorem inc_take {l : List S52} (h : Inc l) (K : Nat) : Inc (l.take K) := h.sublist (List.take_sublist _ _)
theorem take_ins (x : S52) : ∀ (K : Nat) (l : List S52), (ins x (l.take K)).take K = (ins x l).take K
  | 0, _ => by simp
  | K + 1, [] => by simp
  | K + 1, y :: l => by
    rw [List.take_succ_cons]
    unfold ins
    split
    · rw [List.take_succ_cons, List.take_succ_cons, take_ins x K l]
    · split
      · rw [List.take_succ_cons, List.take_succ_cons, List.take_take, Nat.min_self]
      · rw [List.take_succ_cons, List.take_succ_cons]
        cases K with
        | zero => simp
        | succ K => rw [List.take_succ_cons, List.take_succ_cons, List.take_take]; congr 3; omega
/-- What a sketch of K keys keeps of the keys in order. -/
theorem put_hit (K : Nat) (x : S52) (l : List S52) (hI : Inc l) (h : hit x (l.take K) = true) : ins x l = l := ins_hit x l (mem_hit x l hI (List.mem_of_mem_take (hit_mem x _ h)))
theorem put_miss (K : Nat) (x : S52) (l : List S52) (h : hit x (l.take K) = false) : putK K (l.take K) (plc x (l.take K)) x = (ins x l).take K := by
  rw [putK, ← ins_miss x _ h, take_ins]
theorem more_miss (K : Nat) (x : S52) (l : List S52) (hI : Inc l) (h : hit x (l.take K) = false) : (decide (K < l.length) || decide (K < (l.take K).length + 1)) = decide (K < (ins x l).length) := by
  rw [length_ins]
  by_cases h1 : K < l.length
  · have : K < if hit x l = true then l.length else l.length + 1 := by split <;> omega
    simp [h1, this]
  · have e : l.take K = l := List.take_of_length_le (by omega)
    rw [e] at h ⊢
    rw [if_neg (by simp [h])]
    simp [h1]
end Go.Proofs.Ytddhpkobingmhaa.PB
