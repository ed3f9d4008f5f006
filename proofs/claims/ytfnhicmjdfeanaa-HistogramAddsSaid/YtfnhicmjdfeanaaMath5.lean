/- Counts of buckets as functions of the index: what Of, Total, Check, values, right, count, same and at compute, in plain numbers and lists. -/
import Derived.Test.YtfnhicmjdfeanaaMath4
import Derived.Test.YtfnhicmjdfeanaaPHx5
import Derived.Test.YtfnhicmjdfeanaaPHx14
import Derived.Test.YtfnhicmjdfeanaaPHx22
import Derived.Test.YtfnhicmjdfeanaaPHx15
import Derived.Test.YtfnhicmjdfeanaaPHx21
import Derived.Test.YtfnhicmjdfeanaaPHx29
import Derived.Test.YtfnhicmjdfeanaaPHx30
import Derived.Test.YtfnhicmjdfeanaaPHx33
-- NEEDS H: histogram_Of histogram_Total sleuthlaw21_at sleuthlaw21_count sleuthlaw21_of sleuthlaw21_right sleuthlaw21_same sleuthlaw21_values
namespace Go.Proofs.Ytfnhicmjdfeanaa.PH
open Go.RowKit Go.Proofs.YtfnhicmjdfeanaaW.PrintWords Go.Proofs.YtfnhicmjdfeanaaW.PrintLast Go.Proofs.YtfnhicmjdfeanaaW.PrintMore
set_option linter.unusedVariables false

/-! ### the counts as a list of 305 numbers -/
def vecFrom (f : Int → Int) (a n : Nat) : List Int := (List.range' a n).map (fun i : Nat => f (i : Int))
def vec (f : Int → Int) : List Int := vecFrom f 0 305
theorem vecFrom_len (f : Int → Int) (a n : Nat) : (vecFrom f a n).length = n := by simp [vecFrom]
theorem vec_len (f : Int → Int) : (vec f).length = 305 := vecFrom_len f 0 305
theorem vec_get (f : Int → Int) (i : Nat) (h : i < 305) : (vec f).getD i 0 = f (i : Int) := by
  simp [vec, vecFrom, List.getD_eq_getElem?_getD, h]
theorem vec_ext (cs : List Int) (f : Int → Int) (hl : cs.length = 305) (h : ∀ i : Nat, i < 305 → cs.getD i 0 = f (i : Int)) : cs = vec f := by
  apply List.ext_getElem
  · rw [hl, vec_len]
  · intro i h1 h2
    have := h i (by omega)
    have e := vec_get f i (by omega)
    rw [List.getD_eq_getElem?_getD, List.getElem?_eq_getElem h1] at this
    rw [List.getD_eq_getElem?_getD, List.getElem?_eq_getElem h2] at e
    simp only [Option.getD_some] at this e
    rw [this, e]
theorem vec_congr {f g : Int → Int} (h : ∀ i : Int, 0 ≤ i → i < 305 → f i = g i) : vec f = vec g :=
  vec_ext _ _ (vec_len f) (fun i hi => by rw [vec_get f i hi]; exact h _ (by omega) (by omega))
theorem zeros_vec : List.replicate 305 (0 : Int) = vec (fun _ => 0) := by
  refine vec_ext _ _ List.length_replicate (fun i hi => ?_)
  rw [List.getD_eq_getElem?_getD, List.getElem?_replicate, if_pos hi]
  rfl
theorem vec_set (f : Int → Int) (m : Int) (h0 : 0 ≤ m) (h1 : m < 305) (x : Int) : (vec f).set m.toNat x = vec (fun n => if n = m then x else f n) := by
  refine vec_ext _ _ (by rw [List.length_set, vec_len]) (fun i hi => ?_)
  rw [List.getD_eq_getElem?_getD, List.getElem?_set]
  by_cases e : m.toNat = i
  · rw [if_pos e, if_pos (by rw [vec_len]; omega), if_pos (by omega)]; rfl
  · rw [if_neg e, if_neg (by omega), ← List.getD_eq_getElem?_getD, vec_get f i hi]
theorem vec_at (f : Int → Int) (m : Int) (h0 : 0 ≤ m) (h1 : m < 305) : (vec f).getD m.toNat 0 = f m := by
  rw [vec_get f m.toNat (by omega)]
  congr 1
  omega

/-! ### sums over the buckets -/
/-- Weighted: the sum of g(index) * count. -/
def wsum (g : Int → Int) : List S67 → Int
  | [] => 0
  | b :: bs => g b.f0 * b.f1 + wsum g bs
def zsum (g : Int → Int) : Int → List Int → Int
  | _, [] => 0
  | s, c :: cs => g s * c + zsum g (s + 1) cs
theorem wsum_buck (g : Int → Int) : ∀ (cs : List Int) (s : Int), wsum g (buckFrom s cs) = zsum g s cs
  | [], _ => rfl
  | c :: cs, s => by
    simp only [buckFrom, zsum]
    by_cases h : c = 0
    · rw [if_pos h, wsum_buck g cs (s + 1), h, Int.mul_zero, Int.zero_add]
    · rw [if_neg h]
      simp only [wsum]
      rw [wsum_buck g cs (s + 1)]
theorem zsum_set (g : Int → Int) : ∀ (cs : List Int) (s : Int) (i : Nat) (d : Int), i < cs.length → zsum g s (cs.set i (cs.getD i 0 + d)) = zsum g s cs + g (s + i) * d
  | [], _, _, _, h => by simp at h
  | c :: cs, s, 0, d, h => by
    simp only [List.set_cons_zero, zsum, List.getD_cons_zero, Int.mul_add]
    simp only [Int.natCast_zero, Int.add_zero]
    omega
  | c :: cs, s, i + 1, d, h => by
    simp only [List.set_cons_succ, zsum, List.getD_cons_succ]
    rw [zsum_set g cs (s + 1) i d (by simpa using h)]
    rw [show s + 1 + (i : Int) = s + ((i + 1 : Nat) : Int) by omega]
    omega
theorem zsum_zero (g : Int → Int) : ∀ (cs : List Int) (s : Int), (∀ c, c ∈ cs → c = 0) → zsum g s cs = 0
  | [], _, _ => rfl
  | c :: cs, s, h => by
    simp only [zsum]
    rw [h c List.mem_cons_self, zsum_zero g cs (s + 1) (fun x hx => h x (List.mem_cons_of_mem _ hx))]
    omega

/-! ### how many values of a list have an index -/
def cnt : List Int → Int → Int
  | [], _ => 0
  | v :: l, n => cnt l n + (if bix v = n then 1 else 0)
def valid (l : List Int) : Prop := ∀ v, v ∈ l → 0 ≤ v ∧ v ≤ 1099511627776
theorem valid_cons {v : Int} {l : List Int} (h : valid (v :: l)) : (0 ≤ v ∧ v ≤ 1099511627776) ∧ valid l := ⟨h v List.mem_cons_self, fun x hx => h x (List.mem_cons_of_mem _ hx)⟩
theorem cnt_range : ∀ (l : List Int) (n : Int), 0 ≤ cnt l n ∧ cnt l n ≤ l.length
  | [], _ => by simp [cnt]
  | v :: l, n => by
    have := cnt_range l n
    simp only [cnt, List.length_cons]
    split <;> omega
theorem cnt_append : ∀ (l m : List Int) (n : Int), cnt (l ++ m) n = cnt l n + cnt m n
  | [], m, n => by simp [cnt]
  | v :: l, m, n => by
    simp only [List.cons_append, cnt, cnt_append l m n]
    omega
def lsum (g : Int → Int) : List Int → Int
  | [] => 0
  | v :: l => g v + lsum g l
theorem zsum_cnt (g : Int → Int) : ∀ (l : List Int), valid l → zsum g 0 (vec (cnt l)) = lsum (fun v => g (bix v)) l
  | [], _ => by
    refine zsum_zero g _ 0 (fun c hc => ?_)
    simp only [vec, vecFrom, List.mem_map] at hc
    obtain ⟨i, _, rfl⟩ := hc
    rfl
  | v :: l, h => by
    obtain ⟨⟨h0, h1⟩, h2⟩ := valid_cons h
    obtain ⟨r0, r1⟩ := bix_range v h0 h1
    have e : vec (cnt (v :: l)) = (vec (cnt l)).set (bix v).toNat ((vec (cnt l)).getD (bix v).toNat 0 + 1) := by
      rw [vec_at _ _ r0 r1, vec_set _ _ r0 r1]
      refine vec_congr (fun i hi0 hi1 => ?_)
      simp only [cnt]
      by_cases e : i = bix v
      · rw [if_pos e.symm, if_pos e, e]
      · rw [if_neg (fun h => e h.symm), if_neg e]; omega
    rw [e, zsum_set g _ 0 _ 1 (by rw [vec_len]; omega), zsum_cnt g l h2]
    simp only [lsum]
    rw [show (0 : Int) + ((bix v).toNat : Int) = bix v by omega]
    omega

/-! ### Of -/
theorem ofLoop_ok (k : Nat) (hk : 2 ≤ k) : ∀ (l : List Int) (f : Int → Int), valid l → (∀ n, 0 ≤ f n ∧ f n + l.length ≤ 4611686018427387904) → ofLoop k l (vec f) = some (buckFrom 0 (vec (fun n => f n + cnt l n)), 0)
  | [], f, _, _ => by
    simp only [ofLoop, cnt]
    rw [vec_congr (g := fun n => f n + 0) (fun i _ _ => by omega)]
  | v :: l, f, h, hf => by
    obtain ⟨⟨h0, h1⟩, h2⟩ := valid_cons h
    obtain ⟨r0, r1⟩ := bix_range v h0 h1
    obtain ⟨j, rfl⟩ : ∃ j, k = j + 2 := ⟨k - 2, by omega⟩
    simp only [ofLoop]
    rw [index_ok v j h0 h1]
    simp only [Option.bind_some, if_true]
    have hfb := hf (bix v)
    rw [if_pos r0, if_pos r1, vec_at _ _ r0 r1, wr_small _ (by omega) (by simp only [List.length_cons] at hfb; omega), vec_set _ _ r0 r1]
    rw [ofLoop_ok (j + 2) hk l _ h2 (fun n => by
      have := hf n
      simp only [List.length_cons] at this
      split
      · rename_i e; subst e; omega
      · omega)]
    congr 3
    refine vec_congr (fun i hi0 hi1 => ?_)
    simp only [cnt]
    by_cases e : i = bix v
    · rw [if_pos e.symm, if_pos e, e]; omega
    · rw [if_neg e, if_neg (fun h => e h.symm)]; omega
theorem ofLoop_bad (k : Nat) (hk : 2 ≤ k) : ∀ (l : List Int) (f : Int → Int), ¬ valid l → ofLoop k l (vec f) = some ([], 2)
  | [], f, h => absurd (fun v hv => by simp at hv) h
  | v :: l, f, h => by
    obtain ⟨j, rfl⟩ : ∃ j, k = j + 2 := ⟨k - 2, by omega⟩
    simp only [ofLoop]
    by_cases hv : 0 ≤ v ∧ v ≤ 1099511627776
    · obtain ⟨h0, h1⟩ := hv
      obtain ⟨r0, r1⟩ := bix_range v h0 h1
      rw [index_ok v j h0 h1]
      simp only [Option.bind_some, if_true]
      rw [if_pos r0, if_pos r1, vec_at _ _ r0 r1, vec_set _ _ r0 r1]
      refine ofLoop_bad (j + 2) hk l _ (fun hl => h (fun x hx => ?_))
      rcases List.mem_cons.1 hx with rfl | hx
      · exact ⟨h0, h1⟩
      · exact hl x hx
    · rw [index_bad v (j + 1) (by omega)]
      simp
/-- The histogram of values. -/
def hst (l : List Int) : List S67 := buckFrom 0 (vec (cnt l))
theorem of_ok (k : Nat) (hk : 2 ≤ k) (l : List Int) (h : valid l) (hl : l.length ≤ 1000000) : histogram_Of.f k l = some (hst l, 0) := by
  unfold histogram_Of.f
  rw [if_neg (by omega), zeros_vec, ofLoop_ok k hk l _ h (fun n => by constructor <;> omega)]
  unfold hst
  congr 3
  refine vec_congr (fun i _ _ => by omega)
theorem of_bad (k : Nat) (hk : 2 ≤ k) (l : List Int) (h : ¬ valid l) (hl : l.length ≤ 1000000) : histogram_Of.f k l = some ([], 2) := by
  unfold histogram_Of.f
  rw [if_neg (by omega), zeros_vec, ofLoop_bad k hk l _ h]

/-! ### reading a list by an index -/
theorem rd_drop (l : List Int) (i : Nat) (h : i < l.length) : l.drop i = rd l (i : Int) :: l.drop (i + 1) := by
  rw [List.drop_eq_getElem_cons h]
  simp [rd, List.getD_eq_getElem?_getD, List.getElem?_eq_getElem h]
theorem rd67_drop (l : List S67) (i : Nat) (h : i < l.length) : l.drop i = rd_T67 l (i : Int) :: l.drop (i + 1) := by
  rw [List.drop_eq_getElem_cons h]
  simp [rd_T67, List.getD_eq_getElem?_getD, List.getElem?_eq_getElem h]
theorem rd62_drop (l : List S62) (i : Nat) (h : i < l.length) : l.drop i = rd_T62 l (i : Int) :: l.drop (i + 1) := by
  rw [List.drop_eq_getElem_cons h]
  simp [rd_T62, List.getD_eq_getElem?_getD, List.getElem?_eq_getElem h]
theorem wr_succ (i : Nat) (h : i ≤ 4611686018427387904) : wrap64 ((i : Int) + 1) = ((i + 1 : Nat) : Int) := by rw [wr_small _ (by omega) (by omega)]; omega

/-! ### Total -/
theorem total_loop (l : List S67) (hl : l.length ≤ 1000000) (hc : ∀ b, b ∈ l → 0 ≤ b.f1 ∧ b.f1 ≤ 1099511627776) :
    ∀ (d i k : Nat) (x : Int), i + d = l.length → d < k → 0 ≤ x → x ≤ (i : Int) * 1099511627776 → histogram_Total.l0 k x l (l.length : Int) i = some (x + wsum (fun _ => 1) (l.drop i)) := by
  intro d
  induction d with
  | zero =>
    intro i k x hi hk h0 h1
    obtain ⟨k, rfl⟩ : ∃ m, k = m + 1 := ⟨k - 1, by omega⟩
    rw [histogram_Total.l0, if_neg (by omega), List.drop_of_length_le (by omega)]
    simp [wsum]
  | succ d ih =>
    intro i k x hi hk h0 h1
    obtain ⟨k, rfl⟩ : ∃ m, k = m + 1 := ⟨k - 1, by omega⟩
    have hlt : i < l.length := by omega
    have hb := hc (rd_T67 l i) (by have := rd67_drop l i hlt; exact List.mem_of_mem_drop (i := i) (by rw [this]; exact List.mem_cons_self))
    rw [histogram_Total.l0, if_pos (by omega), if_pos (by omega), if_pos (by omega), wr_small (x + _) (by omega) (by omega), wr_succ i (by omega)]
    rw [ih (i + 1) k _ (by omega) (by omega) (by omega) (by omega), rd67_drop l i hlt]
    simp only [wsum]
    congr 1
    omega
theorem total_ok (k : Nat) (l : List S67) (hk : l.length < k) (hl : l.length ≤ 1000000) (hc : ∀ b, b ∈ l → 0 ≤ b.f1 ∧ b.f1 ≤ 1099511627776) : histogram_Total.f k l = some (wsum (fun _ => 1) l) := by
  unfold histogram_Total.f
  have := total_loop l hl hc l.length 0 k 0 (by omega) hk (by omega) (by omega)
  simpa using this

/-! ### the buckets of counts -/
theorem buck_mem : ∀ (cs : List Int) (s : Int) (b : S67), b ∈ buckFrom s cs → s ≤ b.f0 ∧ b.f0 < s + cs.length ∧ b.f1 ∈ cs ∧ b.f1 ≠ 0
  | [], _, _, h => by simp [buckFrom] at h
  | c :: cs, s, b, h => by
    simp only [buckFrom] at h
    have ih := buck_mem cs (s + 1) b
    simp only [List.length_cons]
    split at h
    · have := ih h
      exact ⟨by omega, by omega, List.mem_cons_of_mem _ this.2.2.1, this.2.2.2⟩
    · rename_i hc
      rcases List.mem_cons.1 h with rfl | h
      · exact ⟨by dsimp only; omega, by dsimp only; omega, List.mem_cons_self, hc⟩
      · have := ih h
        exact ⟨by omega, by omega, List.mem_cons_of_mem _ this.2.2.1, this.2.2.2⟩
theorem buck_len (cs : List Int) (s : Int) : (buckFrom s cs).length ≤ cs.length := buckFrom_len cs s
theorem vec_mem {f : Int → Int} {c : Int} (h : c ∈ vec f) : ∃ i : Int, 0 ≤ i ∧ i < 305 ∧ c = f i := by
  simp only [vec, vecFrom, List.mem_map, List.mem_range'_1] at h
  obtain ⟨i, hi, rfl⟩ := h
  exact ⟨i, by omega, by omega, rfl⟩
theorem hst_mem (l : List Int) (b : S67) (h : b ∈ hst l) : 0 ≤ b.f0 ∧ b.f0 < 305 ∧ 1 ≤ b.f1 ∧ b.f1 ≤ l.length := by
  obtain ⟨h1, h2, h3, h4⟩ := buck_mem _ _ _ h
  rw [vec_len] at h2
  obtain ⟨i, hi0, hi1, e⟩ := vec_mem h3
  have := cnt_range l i
  refine ⟨by omega, by omega, by omega, by omega⟩
theorem hst_len (l : List Int) : (hst l).length ≤ 305 := by
  have := buck_len (vec (cnt l)) 0
  rw [vec_len] at this
  exact this
theorem lsum_one : ∀ l : List Int, lsum (fun _ => 1) l = l.length
  | [] => rfl
  | v :: l => by simp only [lsum, lsum_one l, List.length_cons]; omega
theorem hst_total (k : Nat) (hk : 306 ≤ k) (l : List Int) (h : valid l) (hl : l.length ≤ 1000000) : histogram_Total.f k (hst l) = some (l.length : Int) := by
  have h1 := hst_len l
  rw [total_ok k _ (by omega) (by omega) (fun b hb => by have := hst_mem l b hb; omega)]
  unfold hst
  rw [wsum_buck, zsum_cnt _ _ h, lsum_one]
end Go.Proofs.Ytfnhicmjdfeanaa.PH

namespace Go.Proofs.Ytfnhicmjdfeanaa.PH
open Go.RowKit Go.Proofs.YtfnhicmjdfeanaaW.PrintWords Go.Proofs.YtfnhicmjdfeanaaW.PrintLast Go.Proofs.YtfnhicmjdfeanaaW.PrintMore
set_option linter.unusedVariables false

/-! ### values -/
def clip (v : Int) : Int := if 0 ≤ v ∧ v ≤ 1099511627776 then v else v % 18446744073709551616 % 1099511627777
def vals (l : List Int) : List Int := (l.take 40).map clip
theorem clip_valid (v : Int) : 0 ≤ clip v ∧ clip v ≤ 1099511627776 := by
  unfold clip
  split
  · assumption
  · omega
theorem vals_valid (l : List Int) : valid (vals l) := fun v hv => by
  simp only [vals, List.mem_map] at hv
  obtain ⟨a, _, rfl⟩ := hv
  exact clip_valid a
theorem vals_len (l : List Int) : (vals l).length ≤ 40 := by
  simp only [vals, List.length_map, List.length_take]
  omega
theorem rem_clip (v : Int) (h : ¬ (0 ≤ v ∧ v ≤ 1099511627776)) : wrap64 (Int.tmod (IntKind.u64.wrap v) 1099511627777) = clip v := by
  rw [show IntKind.u64.wrap v = v % 18446744073709551616 from rfl, Int.tmod_eq_emod_of_nonneg (by omega)]
  unfold clip
  rw [if_neg h, wr_small _ (by omega) (by omega)]
theorem values_loop (l : List Int) (hl : l.length ≤ 4611686018427387904) : ∀ (d i k : Nat) (out : List Int), i + d = min 40 l.length → 2 * d + 1 < k → out.length ≤ i → sleuthlaw21_values.l0 k l out i = some (out ++ ((l.take 40).drop i).map clip) := by
  intro d
  induction d with
  | zero =>
    intro i k out hi hk ho
    obtain ⟨k, rfl⟩ : ∃ m, k = m + 2 := ⟨k - 2, by omega⟩
    have e : ((l.take 40).drop i).map clip = [] := by rw [List.drop_of_length_le (by rw [List.length_take]; omega)]; rfl
    rw [e, List.append_nil, sleuthlaw21_values.l0]
    by_cases h : (i : Int) < (l.length : Int)
    · rw [if_pos h, show decide ((i : Int) < 40) = false from decide_eq_false (by omega), sleuthlaw21_values.j1, if_neg (by decide)]
    · rw [if_neg h, sleuthlaw21_values.j1, if_neg (by decide)]
  | succ d ih =>
    intro i k out hi hk ho
    obtain ⟨k, rfl⟩ : ∃ m, k = m + 2 := ⟨k - 2, by omega⟩
    have hlt : i < l.length := by omega
    have h40 : i < 40 := by omega
    have ed : (l.take 40).drop i = rd l i :: (l.take 40).drop (i + 1) := by
      have := rd_drop (l.take 40) i (by rw [List.length_take]; omega)
      rw [this]
      congr 1
      simp [rd, List.getD_eq_getElem?_getD, h40]
    have hn : ∀ x : Int, x = clip (rd l i) → sleuthlaw21_values.l0 k l (out ++ [x]) (wrap64 ((i : Int) + 1)) = some (out ++ ((l.take 40).drop i).map clip) := by
      intro x hx
      rw [wr_succ i (by omega), ih (i + 1) k _ (by omega) (by omega) (by simp; omega), ed, hx]
      simp
    rw [sleuthlaw21_values.l0, if_pos (by omega), show decide ((i : Int) < 40) = true from decide_eq_true (by omega), sleuthlaw21_values.j1, if_pos rfl, if_pos (by omega), if_pos (by omega)]
    by_cases h0 : rd l i ≥ 0
    · rw [if_pos h0]
      by_cases h1 : rd l i ≤ 1099511627776
      · rw [if_pos h1, if_pos (by omega)]
        exact hn _ (by unfold clip; rw [if_pos ⟨h0, h1⟩])
      · rw [if_neg h1, if_pos (by omega)]
        exact hn _ (rem_clip _ (by omega))
    · rw [if_neg h0, if_pos (by omega)]
      exact hn _ (rem_clip _ (by omega))
theorem values_ok (k : Nat) (hk : 100 ≤ k) (l : List Int) (hl : l.length ≤ 4611686018427387904) : sleuthlaw21_values.f k l = some (vals l) := by
  unfold sleuthlaw21_values.f
  have := values_loop l hl (min 40 l.length) 0 k [] (by omega) (by omega) (by simp)
  rw [List.drop_zero, List.nil_append] at this
  exact this
theorem law_of (k : Nat) (hk : 100 ≤ k) (l : List Int) (hl : l.length ≤ 4611686018427387904) : sleuthlaw21_of.f k l = some (hst (vals l)) := by
  unfold sleuthlaw21_of.f
  rw [values_ok k hk l hl]
  simp only [Option.bind_some]
  rw [of_ok k (by omega) _ (vals_valid l) (by have := vals_len l; omega)]
  rfl

/-! ### right -/
theorem right_loop (l : List Int) (hl : l.length ≤ 4611686018427387904) : ∀ (d i k : Nat), i + d = l.length → d < k → ∃ b, sleuthlaw21_right.l0 k l i = some b ∧ (b = true ↔ valid (l.drop i) ∧ l.length ≤ 40) := by
  intro d
  induction d with
  | zero =>
    intro i k hi hk
    obtain ⟨k, rfl⟩ : ∃ m, k = m + 1 := ⟨k - 1, by omega⟩
    refine ⟨decide ((l.length : Int) ≤ 40), by rw [sleuthlaw21_right.l0, if_neg (by omega)], ?_⟩
    rw [List.drop_of_length_le (by omega), decide_eq_true_iff]
    constructor
    · intro h; exact ⟨fun v hv => by simp at hv, by omega⟩
    · rintro ⟨_, h⟩; omega
  | succ d ih =>
    intro i k hi hk
    obtain ⟨k, rfl⟩ : ∃ m, k = m + 1 := ⟨k - 1, by omega⟩
    have hlt : i < l.length := by omega
    rw [rd_drop l i hlt, sleuthlaw21_right.l0, if_pos (by omega), if_pos (by omega)]
    by_cases h0 : rd l i < 0
    · rw [if_pos h0]
      exact ⟨false, rfl, by constructor; (intro h; cases h); (rintro ⟨h, _⟩; have := h (rd l i) List.mem_cons_self; omega)⟩
    · rw [if_neg h0]
      by_cases h1 : rd l i > 1099511627776
      · rw [if_pos h1]
        exact ⟨false, rfl, by constructor; (intro h; cases h); (rintro ⟨h, _⟩; have := h (rd l i) List.mem_cons_self; omega)⟩
      · rw [if_neg h1, wr_succ i (by omega)]
        obtain ⟨b, hb, hi⟩ := ih (i + 1) k (by omega) (by omega)
        refine ⟨b, hb, hi.trans ?_⟩
        constructor
        · rintro ⟨h, hh⟩
          refine ⟨fun v hv => ?_, hh⟩
          rcases List.mem_cons.1 hv with rfl | hv
          · omega
          · exact h v hv
        · rintro ⟨h, hh⟩
          exact ⟨(valid_cons h).2, hh⟩
theorem right_ok (k : Nat) (l : List Int) (hk : l.length < k) (hl : l.length ≤ 4611686018427387904) : ∃ b, sleuthlaw21_right.f k l = some b ∧ (b = true ↔ valid l ∧ l.length ≤ 40) := by
  unfold sleuthlaw21_right.f
  have := right_loop l hl l.length 0 k (by omega) (by omega)
  simpa using this

/-! ### count -/
def t62 (b : S67) : S62 := ⟨b.f0, b.f1⟩
theorem count_l1 (l : List Int) (h : valid l) (hl : l.length ≤ 1000000) (out : List S62) (n C : Int) : ∀ (d i k : Nat) (acc : Int), i + d = l.length → 40 ≤ k → 0 ≤ acc → acc ≤ i → C = acc + cnt (l.drop i) n →
    sleuthlaw21_count.l1 (k + d + 1) l out n acc i = (if C > 0 then (if out.length < 8796093022208 then sleuthlaw21_count.l0 k l (out ++ [(⟨n, C⟩ : S62)]) (wrap64 (n + 1)) else none) else sleuthlaw21_count.l0 k l out (wrap64 (n + 1))) := by
  intro d
  induction d with
  | zero =>
    intro i k acc hi hk h0 h1 hC
    rw [List.drop_of_length_le (by omega)] at hC
    simp only [cnt, Int.add_zero] at hC
    rw [Nat.add_zero, sleuthlaw21_count.l1, if_neg (by omega), hC]
  | succ d ih =>
    intro i k acc hi hk h0 h1 hC
    have hlt : i < l.length := by omega
    have hv := h (rd l i) (List.mem_of_mem_drop (i := i) (by rw [rd_drop l i hlt]; exact List.mem_cons_self))
    rw [show k + (d + 1) + 1 = (k + d + 1) + 1 by omega, sleuthlaw21_count.l1, if_pos (by omega), if_pos (by omega)]
    have hx := law_index (rd l i) (k + d + 1 - 40) hv.1 hv.2
    rw [show k + d + 1 - 40 + 40 = k + d + 1 by omega] at hx
    rw [hx]
    simp only [Option.bind_some]
    rw [rd_drop l i hlt] at hC
    simp only [cnt] at hC
    by_cases e : bix (rd l i) = n
    · rw [if_pos e] at hC
      rw [if_pos e, wr_small (acc + 1) (by omega) (by omega), wr_succ i (by omega), ih (i + 1) k (acc + 1) (by omega) hk (by omega) (by omega) (by omega)]
    · rw [if_neg e] at hC
      rw [if_neg e, wr_succ i (by omega), ih (i + 1) k acc (by omega) hk (by omega) (by omega) (by omega)]
theorem vecFrom_succ (f : Int → Int) (a n : Nat) : vecFrom f a (n + 1) = f a :: vecFrom f (a + 1) n := by
  simp [vecFrom, List.range'_succ]
theorem count_l0 (l : List Int) (h : valid l) (hl : l.length ≤ 1000000) : ∀ (d n k : Nat) (out : List S62), n + d = 305 → d * (l.length + 2) + 41 ≤ k → out.length ≤ n →
    sleuthlaw21_count.l0 k l out n = some (out ++ (buckFrom n (vecFrom (cnt l) n d)).map t62) := by
  intro d
  induction d with
  | zero =>
    intro n k out hn hk ho
    obtain ⟨k, rfl⟩ : ∃ m, k = m + 1 := ⟨k - 1, by omega⟩
    rw [sleuthlaw21_count.l0, if_neg (by omega)]
    simp [vecFrom, buckFrom]
  | succ d ih =>
    intro n k out hn hk ho
    rw [Nat.add_mul, Nat.one_mul] at hk
    obtain ⟨k, rfl⟩ : ∃ m, k = m + l.length + 1 + 1 := ⟨k - (l.length + 2), by omega⟩
    rw [sleuthlaw21_count.l0, if_pos (by omega)]
    have h1 := count_l1 l h hl out n (cnt l n) l.length 0 k 0 (by omega) (by omega) (by omega) (by omega) (by simp)
    rw [show ((0 : Nat) : Int) = 0 from rfl] at h1
    rw [h1, vecFrom_succ]
    have hr := cnt_range l n
    simp only [buckFrom]
    by_cases e : cnt l n = 0
    · rw [if_neg (by omega), if_pos e, wr_succ n (by omega), ih (n + 1) k out (by omega) (by omega) (by omega)]
      rw [show ((n + 1 : Nat) : Int) = (n : Int) + 1 by omega]
    · rw [if_pos (by omega), if_neg e, if_pos (by omega), wr_succ n (by omega), ih (n + 1) k _ (by omega) (by omega) (by simp; omega)]
      rw [show ((n + 1 : Nat) : Int) = (n : Int) + 1 by omega]
      simp [t62]
theorem count_ok (k : Nat) (l : List Int) (h : valid l) (hl : l.length ≤ 1000) (hk : 306000 ≤ k) : sleuthlaw21_count.f k l = some ((hst l).map t62) := by
  unfold sleuthlaw21_count.f
  have hm : 305 * (l.length + 2) ≤ 305 * 1002 := Nat.mul_le_mul_left _ (by omega)
  have := count_l0 l h (by omega) 305 0 k [] (by omega) (by omega) (by simp)
  simpa [hst, vec] using this

/-! ### same -/
theorem same_loop (l : List S67) (m : List S62) (hl : l.length = m.length) (hb : l.length ≤ 1000000) : ∀ (d i k : Nat), i + d = l.length → d < k → ∃ b, sleuthlaw21_same.l0 k m i l = some b ∧ (b = true ↔ (l.drop i).map t62 = m.drop i) := by
  intro d
  induction d with
  | zero =>
    intro i k hi hk
    obtain ⟨k, rfl⟩ : ∃ m, k = m + 1 := ⟨k - 1, by omega⟩
    refine ⟨true, by rw [sleuthlaw21_same.l0, if_neg (by omega)], ?_⟩
    rw [List.drop_of_length_le (by omega), List.drop_of_length_le (by omega)]
    simp
  | succ d ih =>
    intro i k hi hk
    obtain ⟨k, rfl⟩ : ∃ m, k = m + 1 := ⟨k - 1, by omega⟩
    rw [sleuthlaw21_same.l0, if_pos (by omega), if_pos (by omega), if_pos (by omega), rd67_drop l i (by omega), rd62_drop m i (by omega)]
    obtain ⟨a, b⟩ := rd_T67 l i
    obtain ⟨a', b'⟩ := rd_T62 m i
    simp only [List.map_cons, t62, List.cons.injEq, S62.mk.injEq]
    by_cases e : a = a' ∧ b = b'
    · obtain ⟨rfl, rfl⟩ := e
      rw [if_neg (by simp), wr_succ i (by omega)]
      obtain ⟨b, hb, hi⟩ := ih (i + 1) k (by omega) (by omega)
      exact ⟨b, hb, by rw [hi]; simp⟩
    · rw [if_pos (by simp; omega)]
      exact ⟨false, rfl, by constructor; (intro h; cases h); (rintro ⟨h, _⟩; exact absurd h e)⟩
theorem same_ok (k : Nat) (l : List S67) (m : List S62) (hb : l.length ≤ 1000000) (hk : l.length < k) : ∃ b, sleuthlaw21_same.f k l m = some b ∧ (b = true ↔ l.map t62 = m) := by
  unfold sleuthlaw21_same.f
  by_cases e : l.length = m.length
  · rw [if_pos (by omega)]
    have := same_loop l m e hb l.length 0 k (by omega) hk
    simpa using this
  · rw [if_neg (by omega)]
    exact ⟨false, rfl, by constructor; (intro h; cases h); (intro h; rw [← h] at e; simp at e)⟩

/-! ### at -/
def atS : List S67 → Int → Int
  | [], _ => 0
  | b :: bs, n => if b.f0 = n then b.f1 else atS bs n
theorem at_loop (l : List S67) (hb : l.length ≤ 1000000) (n : Int) : ∀ (d i k : Nat), i + d = l.length → d < k → sleuthlaw21_at.l0 k n i l = some (atS (l.drop i) n) := by
  intro d
  induction d with
  | zero =>
    intro i k hi hk
    obtain ⟨k, rfl⟩ : ∃ m, k = m + 1 := ⟨k - 1, by omega⟩
    rw [sleuthlaw21_at.l0, if_neg (by omega), List.drop_of_length_le (by omega)]
    rfl
  | succ d ih =>
    intro i k hi hk
    obtain ⟨k, rfl⟩ : ∃ m, k = m + 1 := ⟨k - 1, by omega⟩
    rw [sleuthlaw21_at.l0, if_pos (by omega), if_pos (by omega), rd67_drop l i (by omega)]
    simp only [atS]
    by_cases e : (rd_T67 l i).f0 = n
    · rw [if_pos e, if_pos e]
    · rw [if_neg e, if_neg e, wr_succ i (by omega), ih (i + 1) k (by omega) (by omega)]
theorem at_ok (k : Nat) (l : List S67) (n : Int) (hb : l.length ≤ 1000000) (hk : l.length < k) : sleuthlaw21_at.f k l n = some (atS l n) := by
  unfold sleuthlaw21_at.f
  have := at_loop l hb n l.length 0 k (by omega) hk
  simpa using this
theorem atS_buck : ∀ (cs : List Int) (s n : Int), s ≤ n → n < s + cs.length → atS (buckFrom s cs) n = cs.getD (n - s).toNat 0
  | [], s, n, h0, h1 => by simp at h1; omega
  | c :: cs, s, n, h0, h1 => by
    simp only [List.length_cons] at h1
    by_cases e : n = s
    · subst e
      rw [show (n - n).toNat = 0 by omega]
      simp only [List.getD_cons_zero, buckFrom]
      by_cases hc : c = 0
      · rw [if_pos hc, hc]
        have hno : ∀ (cs : List Int) (s : Int), n < s → atS (buckFrom s cs) n = 0 := by
          intro cs
          induction cs with
          | nil => intro s _; rfl
          | cons a cs ih =>
            intro s hs
            simp only [buckFrom]
            split
            · exact ih _ (by omega)
            · simp only [atS]; rw [if_neg (by omega)]; exact ih _ (by omega)
        exact hno cs (n + 1) (by omega)
      · rw [if_neg hc]
        simp [atS]
    · rw [show (n - s).toNat = (n - (s + 1)).toNat + 1 by omega]
      simp only [List.getD_cons_succ, buckFrom]
      rw [← atS_buck cs (s + 1) n (by omega) (by omega)]
      split
      · rfl
      · simp only [atS]; rw [if_neg (by omega)]
theorem at_vec (f : Int → Int) (n : Int) (h0 : 0 ≤ n) (h1 : n < 305) : atS (buckFrom 0 (vec f)) n = f n := by
  rw [atS_buck _ _ _ h0 (by rw [vec_len]; omega), Int.sub_zero, vec_at f n h0 h1]
end Go.Proofs.Ytfnhicmjdfeanaa.PH
