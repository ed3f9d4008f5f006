/- Counts of buckets as functions of the index: what Of, Total, Check, values, right, count, same and at compute, in plain numbers and lists. -/
import Derived.Test.YtfnhicmjdfeanaaMath1
import Derived.Test.YtfnhicmjdfeanaaPHx4
import Derived.Test.YtfnhicmjdfeanaaPHx5
import Derived.Test.YtfnhicmjdfeanaaPHx15
import Derived.Test.YtfnhicmjdfeanaaPHx16
import Derived.Test.YtfnhicmjdfeanaaPHx22
import Derived.Test.YtfnhicmjdfeanaaPHx23
import Derived.Test.YtfnhicmjdfeanaaPHx27
import Derived.Test.YtfnhicmjdfeanaaPHx30
import Derived.Test.YtfnhicmjdfeanaaPHx31
import Derived.Test.YtfnhicmjdfeanaaPHx33
import Derived.Test.YtfnhicmjdfeanaaPHx34
import Derived.Test.YtfnhicmjdfeanaaPHx36
import Derived.Test.YtfnhicmjdfeanaaPHx37
import Derived.Test.YtfnhicmjdfeanaaPHx38
-- NEEDS H: histogram_Add histogram_AtMost histogram_Bucket_48 histogram_Check histogram_Equal histogram_Merge histogram_Of histogram_Scale histogram_Sum histogram_Total histogram_limited sleuthlaw21_at sleuthlaw21_count sleuthlaw21_of sleuthlaw21_right sleuthlaw21_same sleuthlaw21_values
namespace Go.Proofs.Ytfnhicmjdfeanaa.PH
open Go.RowKit Go.Proofs.YtfnhicmjdfeanaaW.PrintWords Go.Proofs.YtfnhicmjdfeanaaW.PrintLast Go.Proofs.YtfnhicmjdfeanaaW.PrintMore
set_option linter.unusedVariables false

/-! ### the counts as a list of 305 numbers -/
def vecFrom (f : Int → Int) (a n : Nat) : List Int := (List.range' a n).map (fun i : Nat => f (i : Int))
def vec (f : Int → Int) : List Int := vecFrom f 0 305
theorem vecFrom_len (f : Int → Int) (a n : Nat) : (vecFrom f a n).length = n := by simp [vecFrom]
theorem vec_len (f : Int → Int) : (vec f).length = 305 := vecFrom_len f 0 305
theorem vec_get (f : Int → Int) (i : Nat) (h : i < 305) : (vec f).getD i 0 = f (i : Int) := by
  simp [vec, vecFrom, List.getD_eq_getElem?_getD, h]
theorem vec_ext (cs : List Int) (f : Int → Int) (hl : cs.length = 305) (h : ∀ i : Nat, i < 305 → cs.getD i 0 = f (i : Int)) : cs = vec f := by
  apply List.ext_getElem
  · rw [hl, vec_len]
  · intro i h1 h2
    have := h i (by omega)
    have e := vec_get f i (by omega)
    rw [List.getD_eq_getElem?_getD, List.getElem?_eq_getElem h1] at this
    rw [List.getD_eq_getElem?_getD, List.getElem?_eq_getElem h2] at e
    simp only [Option.getD_some] at this e
    rw [this, e]
theorem vec_congr {f g : Int → Int} (h : ∀ i : Int, 0 ≤ i → i < 305 → f i = g i) : vec f = vec g :=
  vec_ext _ _ (vec_len f) (fun i hi => by rw [vec_get f i hi]; exact h _ (by omega) (by omega))
theorem zeros_vec : List.replicate 305 (0 : Int) = vec (fun _ => 0) := by
  refine vec_ext _ _ List.length_replicate (fun i hi => ?_)
  rw [List.getD_eq_getElem?_getD, List.getElem?_replicate, if_pos hi]
  rfl
theorem vec_set (f : Int → Int) (m : Int) (h0 : 0 ≤ m) (h1 : m < 305) (x : Int) : (vec f).set m.toNat x = vec (fun n => if n = m then x else f n) := by
  refine vec_ext _ _ (by rw [List.length_set, vec_len]) (fun i hi => ?_)
  rw [List.getD_eq_getElem?_getD, List.getElem?_set]
  by_cases e : m.toNat = i
  · rw [if_pos e, if_pos (by rw [vec_len]; omega), if_pos (by omega)]; rfl
  · rw [if_neg e, if_neg (by omega), ← List.getD_eq_getElem?_getD, vec_get f i hi]
theorem vec_at (f : Int → Int) (m : Int) (h0 : 0 ≤ m) (h1 : m < 305) : (vec f).getD m.toNat 0 = f m := by
  rw [vec_get f m.toNat (by omega)]
  congr 1
  omega

/-! ### sums over the buckets -/
/-- Weighted: the sum of g(index) * count. -/
def wsum (g : Int → Int) : List S67 → Int
  | [] => 0
  | b :: bs => g b.f0 * b.f1 + wsum g bs
def zsum (g : Int → Int) : Int → List Int → Int
  | _, [] => 0
  | s, c :: cs => g s * c + zsum g (s + 1) cs
theorem wsum_buck (g : Int → Int) : ∀ (cs : List Int) (s : Int), wsum g (buckFrom s cs) = zsum g s cs
  | [], _ => rfl
  | c :: cs, s => by
    simp only [buckFrom, zsum]
    by_cases h : c = 0
    · rw [if_pos h, wsum_buck g cs (s + 1), h, Int.mul_zero, Int.zero_add]
    · rw [if_neg h]
      simp only [wsum]
      rw [wsum_buck g cs (s + 1)]
theorem zsum_set (g : Int → Int) : ∀ (cs : List Int) (s : Int) (i : Nat) (d : Int), i < cs.length → zsum g s (cs.set i (cs.getD i 0 + d)) = zsum g s cs + g (s + i) * d
  | [], _, _, _, h => by simp at h
  | c :: cs, s, 0, d, h => by
    simp only [List.set_cons_zero, zsum, List.getD_cons_zero, Int.mul_add]
    simp only [Int.natCast_zero, Int.add_zero]
    omega
  | c :: cs, s, i + 1, d, h => by
    simp only [List.set_cons_succ, zsum, List.getD_cons_succ]
    rw [zsum_set g cs (s + 1) i d (by simpa using h)]
    rw [show s + 1 + (i : Int) = s + ((i + 1 : Nat) : Int) by omega]
    omega
theorem zsum_zero (g : Int → Int) : ∀ (cs : List Int) (s : Int), (∀ c, c ∈ cs → c = 0) → zsum g s cs = 0
  | [], _, _ => rfl
  | c :: cs, s, h => by
    simp only [zsum]
    rw [h c List.mem_cons_self, zsum_zero g cs (s + 1) (fun x hx => h x (List.mem_cons_of_mem _ hx))]
    omega

/-! ### how many values of a list have an index -/
def cnt : List Int → Int → Int
  | [], _ => 0
  | v :: l, n => cnt l n + (if bix v = n then 1 else 0)
def valid (l : List Int) : Prop := ∀ v, v ∈ l → 0 ≤ v ∧ v ≤ 1099511627776
theorem valid_cons {v : Int} {l : List Int} (h : valid (v :: l)) : (0 ≤ v ∧ v ≤ 1099511627776) ∧ valid l := ⟨h v List.mem_cons_self, fun x hx => h x (List.mem_cons_of_mem _ hx)⟩
theorem cnt_range : ∀ (l : List Int) (n : Int), 0 ≤ cnt l n ∧ cnt l n ≤ l.length
  | [], _ => by simp [cnt]
  | v :: l, n => by
    have := cnt_range l n
    simp only [cnt, List.length_cons]
    split <;> omega
theorem cnt_append : ∀ (l m : List Int) (n : Int), cnt (l ++ m) n = cnt l n + cnt m n
  | [], m, n => by simp [cnt]
  | v :: l, m, n => by
    simp only [List.cons_append, cnt, cnt_append l m n]
    omega
def lsum (g : Int → Int) : List Int → Int
  | [] => 0
  | v :: l => g v + lsum g l
theorem zsum_cnt (g : Int → Int) : ∀ (l : List Int), valid l → zsum g 0 (vec (cnt l)) = lsum (fun v => g (bix v)) l
  | [], _ => by
    refine zsum_zero g _ 0 (fun c hc => ?_)
    simp only [vec, vecFrom, List.mem_map] at hc
    obtain ⟨i, _, rfl⟩ := hc
    rfl
  | v :: l, h => by
    obtain ⟨⟨h0, h1⟩, h2⟩ := valid_cons h
    obtain ⟨r0, r1⟩ := bix_range v h0 h1
    have e : vec (cnt (v :: l)) = (vec (cnt l)).set (bix v).toNat ((vec (cnt l)).getD (bix v).toNat 0 + 1) := by
      rw [vec_at _ _ r0 r1, vec_set _ _ r0 r1]
      refine vec_congr (fun i hi0 hi1 => ?_)
      simp only [cnt]
      by_cases e : i = bix v
      · rw [if_pos e.symm, if_pos e, e]
      · rw [if_neg (fun h => e h.symm), if_neg e]; omega
    rw [e, zsum_set g _ 0 _ 1 (by rw [vec_len]; omega), zsum_cnt g l h2]
    simp only [lsum]
    rw [show (0 : Int) + ((bix v).toNat : Int) = bix v by omega]
    omega

/-! ### Of -/
theorem ofLoop_ok (k : Nat) (hk : 2 ≤ k) : ∀ (l : List Int) (f : Int → Int), valid l → (∀ n, 0 ≤ f n ∧ f n + l.length ≤ 4611686018427387904) → ofLoop k l (vec f) = some (buckFrom 0 (vec (fun n => f n + cnt l n)), 0)
  | [], f, _, _ => by
    simp only [ofLoop, cnt]
    rw [vec_congr (g := fun n => f n + 0) (fun i _ _ => by omega)]
  | v :: l, f, h, hf => by
    obtain ⟨⟨h0, h1⟩, h2⟩ := valid_cons h
    obtain ⟨r0, r1⟩ := bix_range v h0 h1
    obtain ⟨j, rfl⟩ : ∃ j, k = j + 2 := ⟨k - 2, by omega⟩
    simp only [ofLoop]
    rw [index_ok v j h0 h1]
    simp only [Option.bind_some, if_true]
    have hfb := hf (bix v)
    rw [if_pos r0, if_pos r1, vec_at _ _ r0 r1, wr_small _ (by omega) (by simp only [List.length_cons] at hfb; omega), vec_set _ _ r0 r1]
    rw [ofLoop_ok (j + 2) hk l _ h2 (fun n => by
      have := hf n
      simp only [List.length_cons] at this
      split
      · rename_i e; subst e; omega
      · omega)]
    congr 3
    refine vec_congr (fun i hi0 hi1 => ?_)
    simp only [cnt]
    by_cases e : i = bix v
    · rw [if_pos e.symm, if_pos e, e]; omega
    · rw [if_neg e, if_neg (fun h => e h.symm)]; omega
theorem ofLoop_bad (k : Nat) (hk : 2 ≤ k) : ∀ (l : List Int) (f : Int → Int), ¬ valid l → ofLoop k l (vec f) = some ([], 2)
  | [], f, h => absurd (fun v hv => by simp at hv) h
  | v :: l, f, h => by
    obtain ⟨j, rfl⟩ : ∃ j, k = j + 2 := ⟨k - 2, by omega⟩
    simp only [ofLoop]
    by_cases hv : 0 ≤ v ∧ v ≤ 1099511627776
    · obtain ⟨h0, h1⟩ := hv
      obtain ⟨r0, r1⟩ := bix_range v h0 h1
      rw [index_ok v j h0 h1]
      simp only [Option.bind_some, if_true]
      rw [if_pos r0, if_pos r1, vec_at _ _ r0 r1, vec_set _ _ r0 r1]
      refine ofLoop_bad (j + 2) hk l _ (fun hl => h (fun x hx => ?_))
      rcases List.mem_cons.1 hx with rfl | hx
      · exact ⟨h0, h1⟩
      · exact hl x hx
    · rw [index_bad v (j + 1) (by omega)]
      simp
/-- The histogram of values. -/
def hst (l : List Int) : List S67 := buckFrom 0 (vec (cnt l))
theorem of_ok (k : Nat) (hk : 2 ≤ k) (l : List Int) (h : valid l) (hl : l.length ≤ 1000000) : histogram_Of.f k l = some (hst l, 0) := by
  unfold histogram_Of.f
  rw [if_neg (by omega), zeros_vec, ofLoop_ok k hk l _ h (fun n => by constructor <;> omega)]
  unfold hst
  congr 3
  refine vec_congr (fun i _ _ => by omega)
theorem of_bad (k : Nat) (hk : 2 ≤ k) (l : List Int) (h : ¬ valid l) (hl : l.length ≤ 1000000) : histogram_Of.f k l = some ([], 2) := by
  unfold histogram_Of.f
  rw [if_neg (by omega), zeros_vec, ofLoop_bad k hk l _ h]

/-! ### reading a list by an index -/
theorem rd_drop (l : List Int) (i : Nat) (h : i < l.length) : l.drop i = rd l (i : Int) :: l.drop (i + 1) := by
  rw [List.drop_eq_getElem_cons h]
  simp [rd, List.getD_eq_getElem?_getD, List.getElem?_eq_getElem h]
theorem rd67_drop (l : List S67) (i : Nat) (h : i < l.length) : l.drop i = rd_T67 l (i : Int) :: l.drop (i + 1) := by
  rw [List.drop_eq_getElem_cons h]
  simp [rd_T67, List.getD_eq_getElem?_getD, List.getElem?_eq_getElem h]
theorem rd62_drop (l : List S62) (i : Nat) (h : i < l.length) : l.drop i = rd_T62 l (i : Int) :: l.drop (i + 1) := by
  rw [List.drop_eq_getElem_cons h]
  simp [rd_T62, List.getD_eq_getElem?_getD, List.getElem?_eq_getElem h]
theorem wr_succ (i : Nat) (h : i ≤ 4611686018427387904) : wrap64 ((i : Int) + 1) = ((i + 1 : Nat) : Int) := by rw [wr_small _ (by omega) (by omega)]; omega

/-! ### Total -/
theorem total_loop (l : List S67) (hl : l.length ≤ 1000000) (hc : ∀ b, b ∈ l → 0 ≤ b.f1 ∧ b.f1 ≤ 1099511627776) :
    ∀ (d i k : Nat) (x : Int), i + d = l.length → d < k → 0 ≤ x → x ≤ (i : Int) * 1099511627776 → histogram_Total.l0 k x l (l.length : Int) i = some (x + wsum (fun _ => 1) (l.drop i)) := by
  intro d
  induction d with
  | zero =>
    intro i k x hi hk h0 h1
    obtain ⟨k, rfl⟩ : ∃ m, k = m + 1 := ⟨k - 1, by omega⟩
    rw [histogram_Total.l0, if_neg (by omega), List.drop_of_length_le (by omega)]
    simp [wsum]
  | succ d ih =>
    intro i k x hi hk h0 h1
    obtain ⟨k, rfl⟩ : ∃ m, k = m + 1 := ⟨k - 1, by omega⟩
    have hlt : i < l.length := by omega
    have hb := hc (rd_T67 l i) (by have := rd67_drop l i hlt; exact List.mem_of_mem_drop (i := i) (by rw [this]; exact List.mem_cons_self))
    rw [histogram_Total.l0, if_pos (by omega), if_pos (by omega), if_pos (by omega), wr_small (x + _) (by omega) (by omega), wr_succ i (by omega)]
    rw [ih (i + 1) k _ (by omega) (by omega) (by omega) (by omega), rd67_drop l i hlt]
    simp only [wsum]
    congr 1
    omega
theorem total_ok (k : Nat) (l : List S67) (hk : l.length < k) (hl : l.length ≤ 1000000) (hc : ∀ b, b ∈ l → 0 ≤ b.f1 ∧ b.f1 ≤ 1099511627776) : histogram_Total.f k l = some (wsum (fun _ => 1) l) := by
  unfold histogram_Total.f
  have := total_loop l hl hc l.length 0 k 0 (by omega) hk (by omega) (by omega)
  simpa using this

/-! ### the buckets of counts -/
theorem buck_mem : ∀ (cs : List Int) (s : Int) (b : S67), b ∈ buckFrom s cs → s ≤ b.f0 ∧ b.f0 < s + cs.length ∧ b.f1 ∈ cs ∧ b.f1 ≠ 0
  | [], _, _, h => by simp [buckFrom] at h
  | c :: cs, s, b, h => by
    simp only [buckFrom] at h
    have ih := buck_mem cs (s + 1) b
    simp only [List.length_cons]
    split at h
    · have := ih h
      exact ⟨by omega, by omega, List.mem_cons_of_mem _ this.2.2.1, this.2.2.2⟩
    · rename_i hc
      rcases List.mem_cons.1 h with rfl | h
      · exact ⟨by dsimp only; omega, by dsimp only; omega, List.mem_cons_self, hc⟩
      · have := ih h
        exact ⟨by omega, by omega, List.mem_cons_of_mem _ this.2.2.1, this.2.2.2⟩
theorem buck_len (cs : List Int) (s : Int) : (buckFrom s cs).length ≤ cs.length := buckFrom_len cs s
theorem vec_mem {f : Int → Int} {c : Int} (h : c ∈ vec f) : ∃ i : Int, 0 ≤ i ∧ i < 305 ∧ c = f i := by
  simp only [vec, vecFrom, List.mem_map, List.mem_range'_1] at h
  obtain ⟨i, hi, rfl⟩ := h
  exact ⟨i, by omega, by omega, rfl⟩
theorem hst_mem (l : List Int) (b : S67) (h : b ∈ hst l) : 0 ≤ b.f0 ∧ b.f0 < 305 ∧ 1 ≤ b.f1 ∧ b.f1 ≤ l.length := by
  obtain ⟨h1, h2, h3, h4⟩ := buck_mem _ _ _ h
  rw [vec_len] at h2
  obtain ⟨i, hi0, hi1, e⟩ := vec_mem h3
  have := cnt_range l i
  refine ⟨by omega, by omega, by omega, by omega⟩
theorem hst_len (l : List Int) : (hst l).length ≤ 305 := by
  have := buck_len (vec (cnt l)) 0
  rw [vec_len] at this
  exact this
theorem lsum_one : ∀ l : List Int, lsum (fun _ => 1) l = l.length
  | [] => rfl
  | v :: l => by simp only [lsum, lsum_one l, List.length_cons]; omega
theorem hst_total (k : Nat) (hk : 306 ≤ k) (l : List Int) (h : valid l) (hl : l.length ≤ 1000000) : histogram_Total.f k (hst l) = some (l.length : Int) := by
  have h1 := hst_len l
  rw [total_ok k _ (by omega) (by omega) (fun b hb => by have := hst_mem l b hb; omega)]
  unfold hst
  rw [wsum_buck, zsum_cnt _ _ h, lsum_one]
end Go.Proofs.Ytfnhicmjdfeanaa.PH

namespace Go.Proofs.Ytfnhicmjdfeanaa.PH
open Go.RowKit Go.Proofs.YtfnhicmjdfeanaaW.PrintWords Go.Proofs.YtfnhicmjdfeanaaW.PrintLast Go.Proofs.YtfnhicmjdfeanaaW.PrintMore
set_option linter.unusedVariables false

/-! ### values -/
def clip (v : Int) : Int := if 0 ≤ v ∧ v ≤ 1099511627776 then v else v % 18446744073709551616 % 1099511627777
def vals (l : List Int) : List Int := (l.take 40).map clip
theorem clip_valid (v : Int) : 0 ≤ clip v ∧ clip v ≤ 1099511627776 := by
  unfold clip
  split
  · assumption
  · omega
theorem vals_valid (l : List Int) : valid (vals l) := fun v hv => by
  simp only [vals, List.mem_map] at hv
  obtain ⟨a, _, rfl⟩ := hv
  exact clip_valid a
theorem vals_len (l : List Int) : (vals l).length ≤ 40 := by
  simp only [vals, List.length_map, List.length_take]
  omega
theorem rem_clip (v : Int) (h : ¬ (0 ≤ v ∧ v ≤ 1099511627776)) : wrap64 (Int.tmod (IntKind.u64.wrap v) 1099511627777) = clip v := by
  rw [show IntKind.u64.wrap v = v % 18446744073709551616 from rfl, Int.tmod_eq_emod_of_nonneg (by omega)]
  unfold clip
  rw [if_neg h, wr_small _ (by omega) (by omega)]
theorem values_loop (l : List Int) (hl : l.length ≤ 4611686018427387904) : ∀ (d i k : Nat) (out : List Int), i + d = min 40 l.length → 2 * d + 1 < k → out.length ≤ i → sleuthlaw21_values.l0 k l out i = some (out ++ ((l.take 40).drop i).map clip) := by
  intro d
  induction d with
  | zero =>
    intro i k out hi hk ho
    obtain ⟨k, rfl⟩ : ∃ m, k = m + 2 := ⟨k - 2, by omega⟩
    have e : ((l.take 40).drop i).map clip = [] := by rw [List.drop_of_length_le (by rw [List.length_take]; omega)]; rfl
    rw [e, List.append_nil, sleuthlaw21_values.l0]
    by_cases h : (i : Int) < (l.length : Int)
    · rw [if_pos h, show decide ((i : Int) < 40) = false from decide_eq_false (by omega), sleuthlaw21_values.j1, if_neg (by decide)]
    · rw [if_neg h, sleuthlaw21_values.j1, if_neg (by decide)]
  | succ d ih =>
    intro i k out hi hk ho
    obtain ⟨k, rfl⟩ : ∃ m, k = m + 2 := ⟨k - 2, by omega⟩
    have hlt : i < l.length := by omega
    have h40 : i < 40 := by omega
    have ed : (l.take 40).drop i = rd l i :: (l.take 40).drop (i + 1) := by
      have := rd_drop (l.take 40) i (by rw [List.length_take]; omega)
      rw [this]
      congr 1
      simp [rd, List.getD_eq_getElem?_getD, h40]
    have hn : ∀ x : Int, x = clip (rd l i) → sleuthlaw21_values.l0 k l (out ++ [x]) (wrap64 ((i : Int) + 1)) = some (out ++ ((l.take 40).drop i).map clip) := by
      intro x hx
      rw [wr_succ i (by omega), ih (i + 1) k _ (by omega) (by omega) (by simp; omega), ed, hx]
      simp
    rw [sleuthlaw21_values.l0, if_pos (by omega), show decide ((i : Int) < 40) = true from decide_eq_true (by omega), sleuthlaw21_values.j1, if_pos rfl, if_pos (by omega), if_pos (by omega)]
    by_cases h0 : rd l i ≥ 0
    · rw [if_pos h0]
      by_cases h1 : rd l i ≤ 1099511627776
      · rw [if_pos h1, if_pos (by omega)]
        exact hn _ (by unfold clip; rw [if_pos ⟨h0, h1⟩])
      · rw [if_neg h1, if_pos (by omega)]
        exact hn _ (rem_clip _ (by omega))
    · rw [if_neg h0, if_pos (by omega)]
      exact hn _ (rem_clip _ (by omega))
theorem values_ok (k : Nat) (hk : 100 ≤ k) (l : List Int) (hl : l.length ≤ 4611686018427387904) : sleuthlaw21_values.f k l = some (vals l) := by
  unfold sleuthlaw21_values.f
  have := values_loop l hl (min 40 l.length) 0 k [] (by omega) (by omega) (by simp)
  rw [List.drop_zero, List.nil_append] at this
  exact this
theorem law_of (k : Nat) (hk : 100 ≤ k) (l : List Int) (hl : l.length ≤ 4611686018427387904) : sleuthlaw21_of.f k l = some (hst (vals l)) := by
  unfold sleuthlaw21_of.f
  rw [values_ok k hk l hl]
  simp only [Option.bind_some]
  rw [of_ok k (by omega) _ (vals_valid l) (by have := vals_len l; omega)]
  rfl

/-! ### right -/
theorem right_loop (l : List Int) (hl : l.length ≤ 4611686018427387904) : ∀ (d i k : Nat), i + d = l.length → d < k → ∃ b, sleuthlaw21_right.l0 k l i = some b ∧ (b = true ↔ valid (l.drop i) ∧ l.length ≤ 40) := by
  intro d
  induction d with
  | zero =>
    intro i k hi hk
    obtain ⟨k, rfl⟩ : ∃ m, k = m + 1 := ⟨k - 1, by omega⟩
    refine ⟨decide ((l.length : Int) ≤ 40), by rw [sleuthlaw21_right.l0, if_neg (by omega)], ?_⟩
    rw [List.drop_of_length_le (by omega), decide_eq_true_iff]
    constructor
    · intro h; exact ⟨fun v hv => by simp at hv, by omega⟩
    · rintro ⟨_, h⟩; omega
  | succ d ih =>
    intro i k hi hk
    obtain ⟨k, rfl⟩ : ∃ m, k = m + 1 := ⟨k - 1, by omega⟩
    have hlt : i < l.length := by omega
    rw [rd_drop l i hlt, sleuthlaw21_right.l0, if_pos (by omega), if_pos (by omega)]
    by_cases h0 : rd l i < 0
    · rw [if_pos h0]
      exact ⟨false, rfl, by constructor; (intro h; cases h); (rintro ⟨h, _⟩; have := h (rd l i) List.mem_cons_self; omega)⟩
    · rw [if_neg h0]
      by_cases h1 : rd l i > 1099511627776
      · rw [if_pos h1]
        exact ⟨false, rfl, by constructor; (intro h; cases h); (rintro ⟨h, _⟩; have := h (rd l i) List.mem_cons_self; omega)⟩
      · rw [if_neg h1, wr_succ i (by omega)]
        obtain ⟨b, hb, hi⟩ := ih (i + 1) k (by omega) (by omega)
        refine ⟨b, hb, hi.trans ?_⟩
        constructor
        · rintro ⟨h, hh⟩
          refine ⟨fun v hv => ?_, hh⟩
          rcases List.mem_cons.1 hv with rfl | hv
          · omega
          · exact h v hv
        · rintro ⟨h, hh⟩
          exact ⟨(valid_cons h).2, hh⟩
theorem right_ok (k : Nat) (l : List Int) (hk : l.length < k) (hl : l.length ≤ 4611686018427387904) : ∃ b, sleuthlaw21_right.f k l = some b ∧ (b = true ↔ valid l ∧ l.length ≤ 40) := by
  unfold sleuthlaw21_right.f
  have := right_loop l hl l.length 0 k (by omega) (by omega)
  simpa using this

/-! ### count -/
def t62 (b : S67) : S62 := ⟨b.f0, b.f1⟩
theorem count_l1 (l : List Int) (h : valid l) (hl : l.length ≤ 1000000) (out : List S62) (n C : Int) : ∀ (d i k : Nat) (acc : Int), i + d = l.length → 40 ≤ k → 0 ≤ acc → acc ≤ i → C = acc + cnt (l.drop i) n →
    sleuthlaw21_count.l1 (k + d + 1) l out n acc i = (if C > 0 then (if out.length < 8796093022208 then sleuthlaw21_count.l0 k l (out ++ [(⟨n, C⟩ : S62)]) (wrap64 (n + 1)) else none) else sleuthlaw21_count.l0 k l out (wrap64 (n + 1))) := by
  intro d
  induction d with
  | zero =>
    intro i k acc hi hk h0 h1 hC
    rw [List.drop_of_length_le (by omega)] at hC
    simp only [cnt, Int.add_zero] at hC
    rw [Nat.add_zero, sleuthlaw21_count.l1, if_neg (by omega), hC]
  | succ d ih =>
    intro i k acc hi hk h0 h1 hC
    have hlt : i < l.length := by omega
    have hv := h (rd l i) (List.mem_of_mem_drop (i := i) (by rw [rd_drop l i hlt]; exact List.mem_cons_self))
    rw [show k + (d + 1) + 1 = (k + d + 1) + 1 by omega, sleuthlaw21_count.l1, if_pos (by omega), if_pos (by omega)]
    have hx := law_index (rd l i) (k + d + 1 - 40) hv.1 hv.2
    rw [show k + d + 1 - 40 + 40 = k + d + 1 by omega] at hx
    rw [hx]
    simp only [Option.bind_some]
    rw [rd_drop l i hlt] at hC
    simp only [cnt] at hC
    by_cases e : bix (rd l i) = n
    · rw [if_pos e] at hC
      rw [if_pos e, wr_small (acc + 1) (by omega) (by omega), wr_succ i (by omega), ih (i + 1) k (acc + 1) (by omega) hk (by omega) (by omega) (by omega)]
    · rw [if_neg e] at hC
      rw [if_neg e, wr_succ i (by omega), ih (i + 1) k acc (by omega) hk (by omega) (by omega) (by omega)]
theorem vecFrom_succ (f : Int → Int) (a n : Nat) : vecFrom f a (n + 1) = f a :: vecFrom f (a + 1) n := by
  simp [vecFrom, List.range'_succ]
theorem count_l0 (l : List Int) (h : valid l) (hl : l.length ≤ 1000000) : ∀ (d n k : Nat) (out : List S62), n + d = 305 → d * (l.length + 2) + 41 ≤ k → out.length ≤ n →
    sleuthlaw21_count.l0 k l out n = some (out ++ (buckFrom n (vecFrom (cnt l) n d)).map t62) := by
  intro d
  induction d with
  | zero =>
    intro n k out hn hk ho
    obtain ⟨k, rfl⟩ : ∃ m, k = m + 1 := ⟨k - 1, by omega⟩
    rw [sleuthlaw21_count.l0, if_neg (by omega)]
    simp [vecFrom, buckFrom]
  | succ d ih =>
    intro n k out hn hk ho
    rw [Nat.add_mul, Nat.one_mul] at hk
    obtain ⟨k, rfl⟩ : ∃ m, k = m + l.length + 1 + 1 := ⟨k - (l.length + 2), by omega⟩
    rw [sleuthlaw21_count.l0, if_pos (by omega)]
    have h1 := count_l1 l h hl out n (cnt l n) l.length 0 k 0 (by omega) (by omega) (by omega) (by omega) (by simp)
    rw [show ((0 : Nat) : Int) = 0 from rfl] at h1
    rw [h1, vecFrom_succ]
    have hr := cnt_range l n
    simp only [buckFrom]
    by_cases e : cnt l n = 0
    · rw [if_neg (by omega), if_pos e, wr_succ n (by omega), ih (n + 1) k out (by omega) (by omega) (by omega)]
      rw [show ((n + 1 : Nat) : Int) = (n : Int) + 1 by omega]
    · rw [if_pos (by omega), if_neg e, if_pos (by omega), wr_succ n (by omega), ih (n + 1) k _ (by omega) (by omega) (by simp; omega)]
      rw [show ((n + 1 : Nat) : Int) = (n : Int) + 1 by omega]
      simp [t62]
theorem count_ok (k : Nat) (l : List Int) (h : valid l) (hl : l.length ≤ 1000) (hk : 306000 ≤ k) : sleuthlaw21_count.f k l = some ((hst l).map t62) := by
  unfold sleuthlaw21_count.f
  have hm : 305 * (l.length + 2) ≤ 305 * 1002 := Nat.mul_le_mul_left _ (by omega)
  have := count_l0 l h (by omega) 305 0 k [] (by omega) (by omega) (by simp)
  simpa [hst, vec] using this

/-! ### same -/
theorem same_loop (l : List S67) (m : List S62) (hl : l.length = m.length) (hb : l.length ≤ 1000000) : ∀ (d i k : Nat), i + d = l.length → d < k → ∃ b, sleuthlaw21_same.l0 k m i l = some b ∧ (b = true ↔ (l.drop i).map t62 = m.drop i) := by
  intro d
  induction d with
  | zero =>
    intro i k hi hk
    obtain ⟨k, rfl⟩ : ∃ m, k = m + 1 := ⟨k - 1, by omega⟩
    refine ⟨true, by rw [sleuthlaw21_same.l0, if_neg (by omega)], ?_⟩
    rw [List.drop_of_length_le (by omega), List.drop_of_length_le (by omega)]
    simp
  | succ d ih =>
    intro i k hi hk
    obtain ⟨k, rfl⟩ : ∃ m, k = m + 1 := ⟨k - 1, by omega⟩
    rw [sleuthlaw21_same.l0, if_pos (by omega), if_pos (by omega), if_pos (by omega), rd67_drop l i (by omega), rd62_drop m i (by omega)]
    obtain ⟨a, b⟩ := rd_T67 l i
    obtain ⟨a', b'⟩ := rd_T62 m i
    simp only [List.map_cons, t62, List.cons.injEq, S62.mk.injEq]
    by_cases e : a = a' ∧ b = b'
    · obtain ⟨rfl, rfl⟩ := e
      rw [if_neg (by simp), wr_succ i (by omega)]
      obtain ⟨b, hb, hi⟩ := ih (i + 1) k (by omega) (by omega)
      exact ⟨b, hb, by rw [hi]; simp⟩
    · rw [if_pos (by simp; omega)]
      exact ⟨false, rfl, by constructor; (intro h; cases h); (rintro ⟨h, _⟩; exact absurd h e)⟩
theorem same_ok (k : Nat) (l : List S67) (m : List S62) (hb : l.length ≤ 1000000) (hk : l.length < k) : ∃ b, sleuthlaw21_same.f k l m = some b ∧ (b = true ↔ l.map t62 = m) := by
  unfold sleuthlaw21_same.f
  by_cases e : l.length = m.length
  · rw [if_pos (by omega)]
    have := same_loop l m e hb l.length 0 k (by omega) hk
    simpa using this
  · rw [if_neg (by omega)]
    exact ⟨false, rfl, by constructor; (intro h; cases h); (intro h; rw [← h] at e; simp at e)⟩

/-! ### at -/
def atS : List S67 → Int → Int
  | [], _ => 0
  | b :: bs, n => if b.f0 = n then b.f1 else atS bs n
theorem at_loop (l : List S67) (hb : l.length ≤ 1000000) (n : Int) : ∀ (d i k : Nat), i + d = l.length → d < k → sleuthlaw21_at.l0 k n i l = some (atS (l.drop i) n) := by
  intro d
  induction d with
  | zero =>
    intro i k hi hk
    obtain ⟨k, rfl⟩ : ∃ m, k = m + 1 := ⟨k - 1, by omega⟩
    rw [sleuthlaw21_at.l0, if_neg (by omega), List.drop_of_length_le (by omega)]
    rfl
  | succ d ih =>
    intro i k hi hk
    obtain ⟨k, rfl⟩ : ∃ m, k = m + 1 := ⟨k - 1, by omega⟩
    rw [sleuthlaw21_at.l0, if_pos (by omega), if_pos (by omega), rd67_drop l i (by omega)]
    simp only [atS]
    by_cases e : (rd_T67 l i).f0 = n
    · rw [if_pos e, if_pos e]
    · rw [if_neg e, if_neg e, wr_succ i (by omega), ih (i + 1) k (by omega) (by omega)]
theorem at_ok (k : Nat) (l : List S67) (n : Int) (hb : l.length ≤ 1000000) (hk : l.length < k) : sleuthlaw21_at.f k l n = some (atS l n) := by
  unfold sleuthlaw21_at.f
  have := at_loop l hb n l.length 0 k (by omega) hk
  simpa using this
theorem atS_buck : ∀ (cs : List Int) (s n : Int), s ≤ n → n < s + cs.length → atS (buckFrom s cs) n = cs.getD (n - s).toNat 0
  | [], s, n, h0, h1 => by simp at h1; omega
  | c :: cs, s, n, h0, h1 => by
    simp only [List.length_cons] at h1
    by_cases e : n = s
    · subst e
      rw [show (n - n).toNat = 0 by omega]
      simp only [List.getD_cons_zero, buckFrom]
      by_cases hc : c = 0
      · rw [if_pos hc, hc]
        have hno : ∀ (cs : List Int) (s : Int), n < s → atS (buckFrom s cs) n = 0 := by
          intro cs
          induction cs with
          | nil => intro s _; rfl
          | cons a cs ih =>
            intro s hs
            simp only [buckFrom]
            split
            · exact ih _ (by omega)
            · simp only [atS]; rw [if_neg (by omega)]; exact ih _ (by omega)
        exact hno cs (n + 1) (by omega)
      · rw [if_neg hc]
        simp [atS]
    · rw [show (n - s).toNat = (n - (s + 1)).toNat + 1 by omega]
      simp only [List.getD_cons_succ, buckFrom]
      rw [← atS_buck cs (s + 1) n (by omega) (by omega)]
      split
      · rfl
      · simp only [atS]; rw [if_neg (by omega)]
theorem at_vec (f : Int → Int) (n : Int) (h0 : 0 ≤ n) (h1 : n < 305) : atS (buckFrom 0 (vec f)) n = f n := by
  rw [atS_buck _ _ _ h0 (by rw [vec_len]; omega), Int.sub_zero, vec_at f n h0 h1]
end Go.Proofs.Ytfnhicmjdfeanaa.PH

namespace Go.Proofs.Ytfnhicmjdfeanaa.PH
open Go.RowKit Go.Proofs.YtfnhicmjdfeanaaW.PrintWords Go.Proofs.YtfnhicmjdfeanaaW.PrintLast Go.Proofs.YtfnhicmjdfeanaaW.PrintMore
set_option linter.unusedVariables false

/-! ### Check -/
def leP : Option Int → Int → Bool
  | some q, x => decide (x ≤ q)
  | none, _ => false
/-- The first error of buckets behind one with an index. -/
def chk : Option Int → List S67 → Int → Int
  | _, [], acc => if acc > 1048576 then 20 else 0
  | p, b :: bs, acc => if b.f0 < 0 ∨ b.f0 ≥ 305 then 2 else if leP p b.f0 = true then 8 else if b.f1 < 1 ∨ b.f1 > 1048576 then 2 else chk (some b.f0) bs (wrap64 (acc + b.f1))
def prevOf (l : List S67) (i : Nat) : Option Int := if i = 0 then none else some (rd_T67 l ((i : Int) - 1)).f0
theorem prevOf_succ (l : List S67) (i : Nat) : prevOf l (i + 1) = some (rd_T67 l (i : Int)).f0 := by
  unfold prevOf
  rw [if_neg (by omega), show ((i + 1 : Nat) : Int) - 1 = (i : Int) by omega]
theorem check_loop (l : List S67) (hb : l.length ≤ 1000000) : ∀ (d i k : Nat) (acc : Int), i + d = l.length → 3 * d < k → histogram_Check.l0 k acc l (l.length : Int) i l = some (chk (prevOf l i) (l.drop i) acc) := by
  intro d
  induction d with
  | zero =>
    intro i k acc hi hk
    obtain ⟨k, rfl⟩ : ∃ m, k = m + 1 := ⟨k - 1, by omega⟩
    rw [histogram_Check.l0, if_neg (by omega), List.drop_of_length_le (by omega)]
    simp only [chk]
    split <;> rfl
  | succ d ih =>
    intro i k acc hi hk
    obtain ⟨k, rfl⟩ : ∃ m, k = m + 3 := ⟨k - 3, by omega⟩
    have hlt : i < l.length := by omega
    have hn := ih (i + 1) k (wrap64 (acc + (rd_T67 l i).f1)) (by omega) (by omega)
    rw [prevOf_succ] at hn
    rw [histogram_Check.l0, if_pos (by omega), if_pos (by omega), if_pos (by omega), rd67_drop l i hlt]
    simp only [chk]
    by_cases h1 : (rd_T67 l i).f0 < 0 ∨ (rd_T67 l i).f0 ≥ 305
    · rw [if_pos h1]
      have e : (if (rd_T67 l i).f0 < 0 then histogram_Check.j1 (k + 2) acc i l (l.length : Int) i true l (rd_T67 l i).f0 (rd_T67 l i).f1 else histogram_Check.j1 (k + 2) acc i l (l.length : Int) i (decide ((rd_T67 l i).f0 ≥ 305)) l (rd_T67 l i).f0 (rd_T67 l i).f1) = histogram_Check.j1 (k + 2) acc i l (l.length : Int) i true l (rd_T67 l i).f0 (rd_T67 l i).f1 := by
        by_cases h : (rd_T67 l i).f0 < 0
        · rw [if_pos h]
        · rw [if_neg h, show decide ((rd_T67 l i).f0 ≥ 305) = true from decide_eq_true (by omega)]
      rw [e, histogram_Check.j1, if_pos rfl]
    · rw [if_neg h1, if_neg (by omega), show decide ((rd_T67 l i).f0 ≥ 305) = false from decide_eq_false (by omega), histogram_Check.j1, if_neg (by decide)]
      have tail : ∀ q : Bool, histogram_Check.j2 (k + 1) acc l (l.length : Int) i q l (rd_T67 l i).f0 (rd_T67 l i).f1 = some (if q = true then 8 else if (rd_T67 l i).f1 < 1 ∨ (rd_T67 l i).f1 > 1048576 then 2 else chk (some (rd_T67 l i).f0) (l.drop (i + 1)) (wrap64 (acc + (rd_T67 l i).f1))) := by
        intro q
        rw [histogram_Check.j2]
        cases q with
        | true => rfl
        | false =>
          rw [if_neg Bool.false_ne_true, if_neg Bool.false_ne_true]
          by_cases h2 : (rd_T67 l i).f1 < 1
          · rw [if_pos h2, if_pos (.inl h2)]
          · rw [if_neg h2]
            by_cases h3 : (rd_T67 l i).f1 > 1048576
            · rw [if_pos h3, if_pos (.inr h3)]
            · rw [if_neg h3, if_neg (by omega), wr_succ i (by omega), hn]
      by_cases h0 : i = 0
      · rw [if_neg (by omega), tail]
        unfold prevOf
        rw [if_pos h0]
        rfl
      · rw [if_pos (by omega), wr_small ((i : Int) - 1) (by omega) (by omega), if_pos (by omega), if_pos (by omega), tail]
        unfold prevOf
        rw [if_neg h0]
        rfl
theorem check_ok (k : Nat) (l : List S67) (hb : l.length ≤ 1000000) (hk : 3 * l.length < k) : histogram_Check.f k l = some (chk none l 0) := by
  unfold histogram_Check.f
  have := check_loop l hb l.length 0 k 0 (by omega) hk
  simpa [prevOf] using this
def isum : List Int → Int
  | [] => 0
  | c :: cs => c + isum cs
theorem isum_nonneg : ∀ cs : List Int, (∀ c, c ∈ cs → 0 ≤ c) → 0 ≤ isum cs
  | [], _ => by simp [isum]
  | c :: cs, h => by
    have := h c List.mem_cons_self
    have := isum_nonneg cs (fun x hx => h x (List.mem_cons_of_mem _ hx))
    simp only [isum]
    omega
theorem chk_buck : ∀ (cs : List Int) (s : Int) (p : Option Int) (acc : Int), 0 ≤ s → s + cs.length ≤ 305 → (∀ q, p = some q → q < s) → (∀ c, c ∈ cs → 0 ≤ c) → 0 ≤ acc → acc + isum cs ≤ 1048576 → chk p (buckFrom s cs) acc = 0
  | [], s, p, acc, _, _, _, _, h0, h1 => by
    simp only [isum, Int.add_zero] at h1
    simp only [buckFrom, chk]
    rw [if_neg (by omega)]
  | c :: cs, s, p, acc, hs, hl, hp, hc, h0, h1 => by
    simp only [List.length_cons] at hl
    simp only [isum] at h1
    have hc0 := hc c List.mem_cons_self
    have hcs := isum_nonneg cs (fun x hx => hc x (List.mem_cons_of_mem _ hx))
    simp only [buckFrom]
    by_cases e : c = 0
    · rw [if_pos e]
      exact chk_buck cs (s + 1) p acc (by omega) (by omega) (fun q hq => by have := hp q hq; omega) (fun x hx => hc x (List.mem_cons_of_mem _ hx)) h0 (by omega)
    · rw [if_neg e]
      simp only [chk]
      rw [if_neg (by omega)]
      have hq : ¬ leP p s = true := by
        cases p with
        | none => simp [leP]
        | some q => have := hp q rfl; simp [leP]; omega
      rw [if_neg hq, if_neg (by omega), wr_small (acc + c) (by omega) (by omega)]
      exact chk_buck cs (s + 1) (some s) (acc + c) (by omega) (by omega) (fun q hq => by injection hq with hq; omega) (fun x hx => hc x (List.mem_cons_of_mem _ hx)) (by omega) (by omega)
theorem zsum_one : ∀ (cs : List Int) (s : Int), zsum (fun _ => 1) s cs = isum cs
  | [], _ => rfl
  | c :: cs, s => by simp only [zsum, isum, zsum_one cs (s + 1)]; omega
theorem isum_cnt (l : List Int) (h : valid l) : isum (vec (cnt l)) = l.length := by
  rw [← zsum_one _ 0, zsum_cnt _ _ h, lsum_one]
theorem hst_check (k : Nat) (hk : 1000 ≤ k) (l : List Int) (h : valid l) (hl : l.length ≤ 1048576) : histogram_Check.f k (hst l) = some 0 := by
  have hle := hst_len l
  rw [check_ok k _ (by omega) (by omega)]
  congr 1
  refine chk_buck _ 0 none 0 (by omega) (by rw [vec_len]; omega) (fun q hq => by cases hq) (fun c hc => ?_) (by omega) (by rw [isum_cnt l h]; omega)
  obtain ⟨i, _, _, rfl⟩ := vec_mem hc
  exact (cnt_range l i).1

/-! ### AtMost and Sum -/
def ind (p : Prop) [Decidable p] : Int := if p then 1 else 0
theorem atmost_loop (v : Int) (l : List S67) (hb : l.length ≤ 1000000) (hc : ∀ b, b ∈ l → 0 ≤ b.f0 ∧ b.f0 < 305 ∧ 0 ≤ b.f1 ∧ b.f1 ≤ 1099511627776) :
    ∀ (d i k : Nat) (x y : Int), i + d = l.length → d + 1 < k → 0 ≤ x → x ≤ (i : Int) * 1099511627776 → 0 ≤ y → y ≤ (i : Int) * 1099511627776 →
    histogram_AtMost.l0 k v x y l (l.length : Int) i = some (x + wsum (fun n => ind (highI n ≤ v)) (l.drop i), y + wsum (fun n => ind (lowI n ≤ v)) (l.drop i)) := by
  intro d
  induction d with
  | zero =>
    intro i k x y hi hk h0 h1 h2 h3
    obtain ⟨k, rfl⟩ : ∃ m, k = m + 1 := ⟨k - 1, by omega⟩
    rw [histogram_AtMost.l0, if_neg (by omega), List.drop_of_length_le (by omega)]
    simp [wsum]
  | succ d ih =>
    intro i k x y hi hk h0 h1 h2 h3
    obtain ⟨k, rfl⟩ : ∃ m, k = m + 2 := ⟨k - 2, by omega⟩
    have hlt : i < l.length := by omega
    have hq := hc (rd_T67 l i) (List.mem_of_mem_drop (i := i) (by rw [rd67_drop l i hlt]; exact List.mem_cons_self))
    rw [histogram_AtMost.l0, if_pos (by omega), if_pos (by omega), if_pos (by omega), bounds_ok _ k hq.1 hq.2.1, rd67_drop l i hlt]
    simp only [Option.bind_some, wsum, ind]
    rw [wr_succ i (by omega), wr_small (x + _) (by omega) (by omega), wr_small (y + _) (by omega) (by omega)]
    by_cases a : highI (rd_T67 l i).f0 ≤ v
    · rw [if_pos a, if_pos a]
      by_cases b : lowI (rd_T67 l i).f0 ≤ v
      · rw [if_pos b, if_pos b, ih (i + 1) (k + 1) _ _ (by omega) (by omega) (by omega) (by omega) (by omega) (by omega)]
        simp only [ind]; congr 2 <;> omega
      · rw [if_neg b, if_neg b, ih (i + 1) (k + 1) _ _ (by omega) (by omega) (by omega) (by omega) (by omega) (by omega)]
        simp only [ind]; congr 2 <;> omega
    · rw [if_neg a, if_neg a]
      by_cases b : lowI (rd_T67 l i).f0 ≤ v
      · rw [if_pos b, if_pos b, ih (i + 1) (k + 1) _ _ (by omega) (by omega) (by omega) (by omega) (by omega) (by omega)]
        simp only [ind]; congr 2 <;> omega
      · rw [if_neg b, if_neg b, ih (i + 1) (k + 1) _ _ (by omega) (by omega) (by omega) (by omega) (by omega) (by omega)]
        simp only [ind]; congr 2 <;> omega
theorem atmost_ok (k : Nat) (v : Int) (l : List S67) (hk : l.length + 1 < k) (hb : l.length ≤ 1000000) (hc : ∀ b, b ∈ l → 0 ≤ b.f0 ∧ b.f0 < 305 ∧ 0 ≤ b.f1 ∧ b.f1 ≤ 1099511627776) :
    histogram_AtMost.f k l v = some (wsum (fun n => ind (highI n ≤ v)) l, wsum (fun n => ind (lowI n ≤ v)) l) := by
  unfold histogram_AtMost.f
  have := atmost_loop v l hb hc l.length 0 k 0 0 (by omega) hk (by omega) (by omega) (by omega) (by omega)
  simpa using this
theorem prod_bd {a b B : Int} (ha0 : 0 ≤ a) (ha : a ≤ 1099511627776) (hb0 : 0 ≤ b) (hb : b ≤ B) (hB : 0 ≤ B) : 0 ≤ a * b ∧ a * b ≤ 1099511627776 * B := by
  have x : a * b ≤ 1099511627776 * b := Int.mul_le_mul_of_nonneg_right ha hb0
  have y : 0 ≤ a * b := Int.mul_nonneg ha0 hb0
  have z : 1099511627776 * b ≤ 1099511627776 * B := Int.mul_le_mul_of_nonneg_left hb (by omega)
  omega
theorem wsum_cons (g : Int → Int) (b : S67) (bs : List S67) : wsum g (b :: bs) = g b.f0 * b.f1 + wsum g bs := rfl
theorem sum_loop (l : List S67) (hb : l.length ≤ 305) (hc : ∀ b, b ∈ l → 0 ≤ b.f0 ∧ b.f0 < 305 ∧ 0 ≤ b.f1 ∧ b.f1 ≤ 1000) :
    ∀ (d i k : Nat) (x y : Int), i + d = l.length → d + 1 < k → 0 ≤ x → x ≤ (i : Int) * 1099511627776000 → 0 ≤ y → y ≤ (i : Int) * 1099511627776000 →
    histogram_Sum.l0 k x y l (l.length : Int) i = some (x + wsum lowI (l.drop i), y + wsum highI (l.drop i)) := by
  intro d
  induction d with
  | zero =>
    intro i k x y hi hk h0 h1 h2 h3
    obtain ⟨k, rfl⟩ : ∃ m, k = m + 1 := ⟨k - 1, by omega⟩
    rw [histogram_Sum.l0, if_neg (by omega), List.drop_of_length_le (by omega)]
    simp [wsum]
  | succ d ih =>
    intro i k x y hi hk h0 h1 h2 h3
    obtain ⟨k, rfl⟩ : ∃ m, k = m + 2 := ⟨k - 2, by omega⟩
    have hlt : i < l.length := by omega
    have hq := hc (rd_T67 l i) (List.mem_of_mem_drop (i := i) (by rw [rd67_drop l i hlt]; exact List.mem_cons_self))
    have hr := lowI_range _ hq.1 hq.2.1
    have p1 := prod_bd hr.1 hr.2.1 hq.2.2.1 hq.2.2.2 (by decide)
    have p2 := prod_bd hr.2.2.1 hr.2.2.2.1 hq.2.2.1 hq.2.2.2 (by decide)
    rw [histogram_Sum.l0, if_pos (by omega), if_pos (by omega), if_pos (by omega), bounds_ok _ k hq.1 hq.2.1, rd67_drop l i hlt, Option.bind_some, wsum_cons, wsum_cons]
    dsimp only
    generalize lowI (rd_T67 l i).f0 * (rd_T67 l i).f1 = P at *
    generalize highI (rd_T67 l i).f0 * (rd_T67 l i).f1 = Q at *
    clear hr hq hc
    rw [show (1099511627776 : Int) * 1000 = 1099511627776000 from by decide] at p1 p2
    have e1 : (((i + 1 : Nat)) : Int) * 1099511627776000 = (i : Int) * 1099511627776000 + 1099511627776000 := by omega
    have e2 : (i : Int) * 1099511627776000 ≤ 335351046471680000 := by omega
    have w1 := wr_small P (by omega) (by omega)
    have w2 := wr_small Q (by omega) (by omega)
    have w3 := wr_small (x + P) (by omega) (by omega)
    have w4 := wr_small (y + Q) (by omega) (by omega)
    have ih2 := ih (i + 1) (k + 1) (x + P) (y + Q) (by omega) (by omega) (by omega) (by rw [e1]; omega) (by omega) (by rw [e1]; omega)
    rw [wr_succ i (by omega), w1, w2, w3, w4, ih2, Int.add_assoc x, Int.add_assoc y]
theorem sum_ok (k : Nat) (l : List S67) (hk : l.length + 1 < k) (hb : l.length ≤ 305) (hc : ∀ b, b ∈ l → 0 ≤ b.f0 ∧ b.f0 < 305 ∧ 0 ≤ b.f1 ∧ b.f1 ≤ 1000) : histogram_Sum.f k l = some (wsum lowI l, wsum highI l) := by
  unfold histogram_Sum.f
  have := sum_loop l hb hc l.length 0 k 0 0 (by omega) hk (by omega) (by omega) (by omega) (by omega)
  simpa using this
end Go.Proofs.Ytfnhicmjdfeanaa.PH

namespace Go.Proofs.Ytfnhicmjdfeanaa.PH
open Go.RowKit Go.Proofs.YtfnhicmjdfeanaaW.PrintWords Go.Proofs.YtfnhicmjdfeanaaW.PrintLast Go.Proofs.YtfnhicmjdfeanaaW.PrintMore
set_option linter.unusedVariables false

theorem accum_buck (g : Int → Int) (hg : ∀ n, 0 ≤ g n ∧ g n ≤ 1099511627776) : ∀ (d s : Nat) (f : Int → Int), s + d ≤ 305 → (∀ n : Int, (s : Int) ≤ n → 0 ≤ f n ∧ f n ≤ 1099511627776) →
    accum (buckFrom s (vecFrom g s d)) (vec f) = some (vec (fun n => if (s : Int) ≤ n ∧ n < s + d then f n + g n else f n)) := by
  intro d
  induction d with
  | zero =>
    intro s f hs hf
    simp only [vecFrom, List.range'_zero, List.map_nil, buckFrom, accum]
    congr 1
    refine vec_congr (fun i _ _ => ?_)
    rw [if_neg (by omega)]
  | succ d ih =>
    intro s f hs hf
    rw [vecFrom_succ]
    simp only [buckFrom]
    have hgs := hg s
    have hfs := hf s (Int.le_refl _)
    by_cases e : g s = 0
    · rw [if_pos e, show (s : Int) + 1 = ((s + 1 : Nat) : Int) by omega, ih (s + 1) f (by omega) (fun n hn => hf n (by omega))]
      congr 1
      refine vec_congr (fun i _ _ => ?_)
      by_cases c : i = s
      · subst c
        rw [if_neg (by omega), if_pos (by omega), e]; omega
      · by_cases c2 : ((s + 1 : Nat) : Int) ≤ i ∧ i < ((s + 1 : Nat) : Int) + d
        · rw [if_pos c2, if_pos (by omega)]
        · rw [if_neg c2, if_neg (by omega)]
    · rw [if_neg e]
      simp only [accum]
      rw [if_pos (by omega), if_pos (by omega), vec_at f s (by omega) (by omega), wr_small _ (by omega) (by omega), vec_set f s (by omega) (by omega), show (s : Int) + 1 = ((s + 1 : Nat) : Int) by omega,
        ih (s + 1) _ (by omega) (fun n hn => by rw [if_neg (by omega)]; exact hf n (by omega))]
      congr 1
      refine vec_congr (fun i _ _ => ?_)
      by_cases c : i = s
      · subst c
        rw [if_neg (by omega), if_pos rfl, if_pos (by omega)]
      · by_cases c2 : ((s + 1 : Nat) : Int) ≤ i ∧ i < ((s + 1 : Nat) : Int) + d
        · rw [if_pos c2, if_neg c, if_pos (by omega)]
        · rw [if_neg c2, if_neg c, if_neg (by omega)]
theorem accum_vec (f g : Int → Int) (hf : ∀ n, 0 ≤ f n ∧ f n ≤ 1099511627776) (hg : ∀ n, 0 ≤ g n ∧ g n ≤ 1099511627776) : accum (buckFrom 0 (vec g)) (vec f) = some (vec (fun n => f n + g n)) := by
  have h := accum_buck g hg 305 0 f (by omega) (fun n _ => hf n)
  rw [show ((0 : Nat) : Int) = 0 from rfl, show vecFrom g 0 305 = vec g from rfl] at h
  rw [h, vec_congr (g := fun n => f n + g n) (fun i h0 h1 => by rw [if_pos ⟨h0, by omega⟩])]
theorem accum_zero (g : Int → Int) (hg : ∀ n, 0 ≤ g n ∧ g n ≤ 1099511627776) : accum (buckFrom 0 (vec g)) (List.replicate 305 0) = some (vec g) := by
  rw [zeros_vec, accum_vec _ g (fun _ => by omega) hg]
  congr 1
  exact vec_congr (fun i _ _ => by omega)
theorem cnt_bd (l : List Int) (hl : l.length ≤ 1000000) : ∀ n, 0 ≤ cnt l n ∧ cnt l n ≤ 1099511627776 := fun n => by
  have := cnt_range l n
  omega

/-! ### totals -/
theorem vec_total (k : Nat) (f : Int → Int) (hk : 306 ≤ k) (hf : ∀ n, 0 ≤ f n ∧ f n ≤ 1099511627776) : histogram_Total.f k (buckFrom 0 (vec f)) = some (isum (vec f)) := by
  have h1 := buck_len (vec f) 0
  rw [vec_len] at h1
  rw [total_ok k _ (by omega) (by omega) (fun b hb => by
    obtain ⟨_, _, h3, _⟩ := buck_mem _ _ _ hb
    obtain ⟨i, _, _, e⟩ := vec_mem h3
    rw [e]; exact hf i), wsum_buck, zsum_one]
theorem isum_add (f g : Int → Int) : ∀ (d a : Nat), isum (vecFrom (fun n => f n + g n) a d) = isum (vecFrom f a d) + isum (vecFrom g a d)
  | 0, a => by simp [vecFrom, isum]
  | d + 1, a => by
    rw [vecFrom_succ, vecFrom_succ, vecFrom_succ]
    simp only [isum]
    rw [isum_add f g d (a + 1)]
    omega
theorem isum_mul (f : Int → Int) (c : Int) : ∀ (d a : Nat), isum (vecFrom (fun n => f n * c) a d) = isum (vecFrom f a d) * c
  | 0, a => by simp [vecFrom, isum]
  | d + 1, a => by
    rw [vecFrom_succ, vecFrom_succ]
    simp only [isum]
    rw [isum_mul f c d (a + 1), Int.add_mul]
theorem isum_one (m x : Int) : ∀ (d a : Nat), isum (vecFrom (fun n => if n = m then x else 0) a d) = if (a : Int) ≤ m ∧ m < a + d then x else 0
  | 0, a => by simp only [vecFrom, List.range'_zero, List.map_nil, isum]; rw [if_neg (by omega)]
  | d + 1, a => by
    rw [vecFrom_succ]
    simp only [isum]
    rw [isum_one m x d (a + 1)]
    by_cases c : (a : Int) = m
    · rw [if_pos c, if_neg (by omega), if_pos (by omega)]; omega
    · rw [if_neg c]
      by_cases c2 : ((a + 1 : Nat) : Int) ≤ m ∧ m < ((a + 1 : Nat) : Int) + d
      · rw [if_pos c2, if_pos (by omega)]; omega
      · rw [if_neg c2, if_neg (by omega)]; omega
theorem limited_ok (k : Nat) (f : Int → Int) (hk : 306 ≤ k) (hf : ∀ n, 0 ≤ f n ∧ f n ≤ 1099511627776) : histogram_limited.f k (buckFrom 0 (vec f)) = if isum (vec f) > 1048576 then some ([], 20) else some (buckFrom 0 (vec f), 0) := by
  unfold histogram_limited.f
  rw [vec_total k f hk hf, Option.bind_some]
theorem vec_check (k : Nat) (f : Int → Int) (hk : 1000 ≤ k) (hf : ∀ n, 0 ≤ f n ∧ f n ≤ 1099511627776) (hs : isum (vec f) ≤ 1048576) : histogram_Check.f k (buckFrom 0 (vec f)) = some 0 := by
  have hle := buck_len (vec f) 0
  rw [vec_len] at hle
  rw [check_ok k _ (by omega) (by omega)]
  congr 1
  refine chk_buck _ 0 none 0 (by omega) (by rw [vec_len]; omega) (fun q hq => by cases hq) (fun c hc => ?_) (by omega) (by omega)
  obtain ⟨i, _, _, rfl⟩ := vec_mem hc
  exact (hf i).1
theorem buck_len305 (f : Int → Int) : (buckFrom 0 (vec f)).length ≤ 305 := by
  have hle := buck_len (vec f) 0
  rw [vec_len] at hle
  exact hle

/-! ### Add -/
theorem add_ok (k : Nat) (hk : 400 ≤ k) (l : List Int) (h : valid l) (hl : l.length ≤ 40) (v n : Int) (h0 : 0 ≤ v) (h1 : v ≤ 1099511627776) (hn0 : 0 ≤ n) (hn1 : n ≤ 1048576) :
    histogram_Add.f k (hst l) v n = if (l.length : Int) + n > 1048576 then some ([], 20) else some (buckFrom 0 (vec (fun i => cnt l i + if i = bix v then n else 0)), 0) := by
  obtain ⟨j, rfl⟩ : ∃ j, k = j + 2 := ⟨k - 2, by omega⟩
  have hr := bix_range v h0 h1
  have hb := cnt_bd l (by omega)
  unfold histogram_Add.f histogram_Add.g hst
  rw [index_ok v j h0 h1, Option.bind_some, if_pos rfl, if_neg (by omega), if_neg (by omega), accum_zero _ hb, Option.bind_some, if_pos hr.1, if_pos hr.2, vec_at _ _ hr.1 hr.2]
  have hc := hb (bix v)
  rw [wr_small _ (by omega) (by omega), vec_set _ _ hr.1 hr.2]
  have e : vec (fun m => if m = bix v then cnt l (bix v) + n else cnt l m) = vec (fun i => cnt l i + if i = bix v then n else 0) := vec_congr (fun i _ _ => by
    by_cases c : i = bix v
    · rw [if_pos c, if_pos c, c]
    · rw [if_neg c, if_neg c]; omega)
  rw [e, limited_ok _ _ (by omega) (fun m => by have := cnt_range l m; split <;> omega)]
  have e2 : isum (vec (fun i => cnt l i + if i = bix v then n else 0)) = (l.length : Int) + n := by
    unfold vec
    rw [isum_add, isum_one, if_pos (by omega)]
    have := isum_cnt l h
    unfold vec at this
    rw [this]
  rw [e2]
theorem add_bad (k : Nat) (hk : 400 ≤ k) (l : List S67) (v n : Int) (hb : (v < 0 ∨ v > 1099511627776) ∨ n < 0 ∨ n > 1048576) : histogram_Add.f k l v n = some ([], 2) := by
  obtain ⟨j, rfl⟩ : ∃ j, k = j + 2 := ⟨k - 2, by omega⟩
  unfold histogram_Add.f
  by_cases c : v < 0 ∨ v > 1099511627776
  · rw [index_bad v (j + 1) c, Option.bind_some]
    rfl
  · rw [index_ok v j (by omega) (by omega), Option.bind_some, if_pos rfl]
    unfold histogram_Add.g
    by_cases c2 : n < 0
    · rw [if_pos c2]
    · rw [if_neg c2, if_pos (by omega)]
end Go.Proofs.Ytfnhicmjdfeanaa.PH

namespace Go.Proofs.Ytfnhicmjdfeanaa.PH
open Go.RowKit Go.Proofs.YtfnhicmjdfeanaaW.PrintWords Go.Proofs.YtfnhicmjdfeanaaW.PrintLast Go.Proofs.YtfnhicmjdfeanaaW.PrintMore
set_option linter.unusedVariables false

theorem equal_loop (l m : List S67) (hl : l.length = m.length) (hb : l.length ≤ 1000000) : ∀ (d i k : Nat), i + d = l.length → d < k → ∃ b, histogram_Bucket_48.l0 k l m (l.length : Int) (i : Int) = some b ∧ (b = true ↔ l.drop i = m.drop i) := by
  intro d
  induction d with
  | zero =>
    intro i k hi hk
    obtain ⟨k, rfl⟩ : ∃ j, k = j + 1 := ⟨k - 1, by omega⟩
    rw [histogram_Bucket_48.l0, if_neg (by omega)]
    refine ⟨true, rfl, ?_⟩
    rw [List.drop_of_length_le (by omega), List.drop_of_length_le (by omega)]
    simp
  | succ d ih =>
    intro i k hi hk
    obtain ⟨k, rfl⟩ : ∃ j, k = j + 1 := ⟨k - 1, by omega⟩
    rw [histogram_Bucket_48.l0, if_pos (by omega), if_pos (by omega), if_pos (by omega), if_pos (by omega), rd67_drop l i (by omega), rd67_drop m i (by omega), wr_succ i (by omega)]
    obtain ⟨b, e, hbb⟩ := ih (i + 1) k (by omega) (by omega)
    generalize rd_T67 l (i : Int) = x
    generalize rd_T67 m (i : Int) = y
    obtain ⟨x0, x1⟩ := x
    obtain ⟨y0, y1⟩ := y
    by_cases h : x0 = y0 ∧ x1 = y1
    · obtain ⟨rfl, rfl⟩ := h
      rw [if_neg (by simp)]
      refine ⟨b, e, ?_⟩
      rw [hbb]
      simp
    · refine ⟨false, ?_, ?_⟩
      · rw [if_pos]
        by_cases h0 : x0 = y0
        · have h1 : ¬ x1 = y1 := fun h1 => h ⟨h0, h1⟩
          simp [h1]
        · simp [h0]
      · constructor
        · intro c; cases c
        · intro c
          have c := (List.cons.inj c).1
          injection c with c0 c1
          exact absurd ⟨c0, c1⟩ h
theorem equal_ok (k : Nat) (l m : List S67) (hb : l.length ≤ 1000000) (hk : l.length < k) : ∃ b, histogram_Equal.f k l m = some b ∧ (b = true ↔ l = m) := by
  unfold histogram_Equal.f histogram_Bucket_48.f
  by_cases h : l.length = m.length
  · rw [if_pos (by omega)]
    obtain ⟨b, e, hbb⟩ := equal_loop l m h hb l.length 0 k (by omega) hk
    rw [show ((0 : Nat) : Int) = 0 from rfl] at e
    rw [e]
    exact ⟨b, rfl, hbb⟩
  · rw [if_neg (by omega)]
    exact ⟨false, rfl, ⟨fun c => absurd c (by decide), fun c => absurd (by rw [c]) h⟩⟩
theorem equal_self (k : Nat) (l : List S67) (hb : l.length ≤ 1000000) (hk : l.length < k) : histogram_Equal.f k l l = some true := by
  obtain ⟨b, e, hbb⟩ := equal_ok k l l hb hk
  rw [e, hbb.mpr rfl]

theorem merge_ok (k : Nat) (hk : 306 ≤ k) (f g : Int → Int) (hf : ∀ n, 0 ≤ f n ∧ f n ≤ 549755813888) (hg : ∀ n, 0 ≤ g n ∧ g n ≤ 549755813888) :
    histogram_Merge.f k (buckFrom 0 (vec f)) (buckFrom 0 (vec g)) = if isum (vec (fun n => f n + g n)) > 1048576 then some ([], 20) else some (buckFrom 0 (vec (fun n => f n + g n)), 0) := by
  unfold histogram_Merge.f
  rw [accum_zero f (fun n => by have := hf n; omega), Option.bind_some, accum_vec f g (fun n => by have := hf n; omega) (fun n => by have := hg n; omega), Option.bind_some, limited_ok k _ hk (fun n => by have := hf n; have := hg n; omega)]

theorem vec_map (f : Int → Int) (h : Int → Int) : (vec f).map h = vec (fun n => h (f n)) := by
  unfold vec vecFrom
  rw [List.map_map]
  rfl
theorem scaled_bd (l : List Int) (hl : l.length ≤ 40) (by_ : Int) (h0 : 0 ≤ by_) (h1 : l = [] ∨ by_ ≤ 1048576) (n : Int) : 0 ≤ cnt l n * by_ ∧ cnt l n * by_ ≤ 41943040 := by
  have hc := cnt_range l n
  rcases h1 with rfl | h1
  · have : cnt [] n = 0 := by have : (([] : List Int).length : Int) = 0 := rfl; omega
    rw [this, Int.zero_mul]; omega
  · have a := Int.mul_nonneg hc.1 h0
    have b : cnt l n * by_ ≤ 40 * 1048576 := Int.mul_le_mul (by omega) h1 h0 (by omega)
    omega
theorem scale_ok (l : List Int) (hl : l.length ≤ 40) (by_ : Int) (h0 : 0 ≤ by_) (h1 : l = [] ∨ by_ ≤ 1048576) : scaleRest (hst l) by_ = some (buckFrom 0 (vec (fun n => cnt l n * by_)), 0) := by
  unfold scaleRest hst
  rw [accum_zero _ (cnt_bd l (by omega)), Option.bind_some, vec_map]
  congr 3
  exact vec_congr (fun i _ _ => by have := scaled_bd l hl by_ h0 h1 i; rw [wr_small _ (by omega) (by omega)])
theorem buck_zeros : ∀ (n : Nat) (s : Int), buckFrom s (List.replicate n 0) = []
  | 0, _ => rfl
  | n + 1, s => by rw [List.replicate_succ]; simp [buckFrom, buck_zeros n]
theorem hst_nil : hst [] = [] := by
  unfold hst
  have e : vec (cnt []) = List.replicate 305 0 := by rw [zeros_vec]; exact vec_congr (fun i _ _ => rfl)
  rw [e, buck_zeros]
theorem cnt_nil_mul (b : Int) : buckFrom 0 (vec (fun n => cnt [] n * b)) = [] := by
  have e : vec (fun n => cnt [] n * b) = List.replicate 305 0 := by rw [zeros_vec]; exact vec_congr (fun i _ _ => by show (0 : Int) * b = 0; exact Int.zero_mul b)
  rw [e, buck_zeros]
end Go.Proofs.Ytfnhicmjdfeanaa.PH
