/- What Parse computes, in plain lists (the door's seat). -/
import Derived.Test.YtikioicjhdhdpaaDoorMath1
import Derived.Test.YtikioicjhdhdpaaDoorPDx4
import Derived.Test.YtikioicjhdhdpaaDoorPDx5
import Derived.Test.YtikioicjhdhdpaaDoorPDx6
-- NEEDS D: fraction_Parse fraction_digits stringslite_Index strings_Cut strings_CutPrefix strings_CutSuffix
namespace Go.Proofs.YtikioicjhdhdpaaDoor.PD
open Go.RowKit Go.Proofs.YtikioicjhdhdpaaDoorW.PrintWords Go.Proofs.YtikioicjhdhdpaaDoorW.PrintLast Go.Proofs.YtikioicjhdhdpaaDoorW.PrintMore
set_option linter.unusedVariables false
set_option linter.unusedSimpArgs false
theorem mem_first {α : Type} [DecidableEq α] {x : α} : ∀ {M : List α}, x ∈ M → ∃ a b, M = a ++ x :: b ∧ x ∉ a
  | y :: t, h => by
    by_cases e : y = x
    · exact ⟨[], t, by rw [e]; rfl, by simp⟩
    · have ht : x ∈ t := by
        rcases List.mem_cons.mp h with h | h
        · exact absurd h.symm e
        · exact h
      obtain ⟨a, b, rfl, hn⟩ := mem_first ht
      refine ⟨y :: a, b, rfl, ?_⟩
      intro hm
      rcases List.mem_cons.mp hm with h | h
      · exact e h.symm
      · exact hn h
/-! ### strings as lists of bytes -/
def B (L : List UInt8) : ByteArray := ⟨L.toArray⟩
theorem B_size (L : List UInt8) : (B L).size = L.length := by simp [B, ByteArray.size]
theorem B_data (L : List UInt8) : (B L).data.toList = L := by simp [B]
theorem B_list (L : List UInt8) : (B L).toList = L := by rw [ByteArray.toList_eq]; exact B_data L
theorem B_ext (L : List UInt8) (a b : Nat) : (B L).extract a b = B ((L.drop a).take (b - a)) := ByteArray.extract_mk L a b
theorem B_of (s : ByteArray) : s = B s.data.toList := by simp [B]
theorem B_append (L M : List UInt8) : B L ++ B M = B (L ++ M) := by
  apply ByteArray.ext
  apply Array.toList_inj.mp
  simp [B]
theorem B_get (L : List UInt8) (i : Nat) (h : i < (B L).size) : (B L)[i]'h = L[i]'(by rw [B_size] at h; exact h) := by
  simp only [ByteArray.getElem_eq_getElem_data]
  simp [B]
theorem bt_B (L : List UInt8) (i : Nat) (h : i < L.length) : bt (B L) (i : Int) = (L[i].toNat : Int) := by
  unfold bt
  rw [dif_pos (by rw [B_size]; omega)]
  simp only [Int.toNat_natCast]
  rw [B_get]

theorem index_none : ∀ (L : List UInt8) (c : UInt8), c ∉ L → Lib.indexByte L c = -1
  | [], _, _ => rfl
  | b :: l, c, h => by
    have h1 : ¬ b = c := fun e => h (by rw [e]; exact List.mem_cons_self)
    have h2 : c ∉ l := fun e => h (List.mem_cons_of_mem _ e)
    simp [Lib.indexByte, h1, index_none l c h2]
theorem index_some : ∀ (a b : List UInt8) (c : UInt8), c ∉ a → Lib.indexByte (a ++ c :: b) c = a.length
  | [], b, c, _ => by simp [Lib.indexByte]
  | x :: a, b, c, h => by
    have h1 : ¬ x = c := fun e => h (by rw [e]; exact List.mem_cons_self)
    have h2 : c ∉ a := fun e => h (List.mem_cons_of_mem _ e)
    have ih := index_some a b c h2
    simp [Lib.indexByte, h1, ih]
theorem Index_B (L : List UInt8) (c : UInt8) : stringslite_Index.f (B L) (B [c]) = some (Lib.indexByte L c) := by
  unfold stringslite_Index.f
  rw [B_data, B_data]
theorem Cut_none (L : List UInt8) (c : UInt8) (h : c ∉ L) : strings_Cut.f (B L) (B [c]) = some (B L, B [], false) := by
  unfold strings_Cut.f stringslite_Cut.f
  rw [Index_B, index_none L c h, Option.bind_some, if_neg (by decide)]; rfl
theorem Cut_some (a b : List UInt8) (c : UInt8) (h : c ∉ a) (hl : (a ++ c :: b).length ≤ 1000) : strings_Cut.f (B (a ++ c :: b)) (B [c]) = some (B a, B b, true) := by
  have hl' : a.length + (b.length + 1) ≤ 1000 := by simpa using hl
  unfold strings_Cut.f stringslite_Cut.f
  have e : (((a.length : Int) + (([c] : List UInt8).length : Int)).toNat) = a.length + 1 := by simp
  have e2 : a ++ c :: b = (a ++ [c]) ++ b := by simp
  have h1 : ((a ++ c :: b).drop 0).take ((a.length : Int).toNat - 0) = a := by simp
  have h2 : ((a ++ c :: b).drop (a.length + 1)).take ((a ++ c :: b).length - (a.length + 1)) = b := by
    rw [e2, List.drop_left' (by simp), List.take_of_length_le (by simp; omega)]
  rw [Index_B, index_some a b c h, Option.bind_some, B_size, B_size, if_pos (by omega), if_pos (by omega), if_pos (by simp; omega), wr_small _ (by simp; omega) (by simp; omega), if_pos (by simp; omega), if_pos (by simp; omega), B_ext, B_ext, e, h1, h2, Option.bind_some]
theorem CutPrefix_B (c : UInt8) (L : List UInt8) : strings_CutPrefix.f (B (c :: L)) (B [c]) = some (B L, true) := by
  unfold strings_CutPrefix.f stringslite_CutPrefix.f stringslite_HasPrefix.f
  simp only [B_size, B_ext, B_list]
  have h1 : (1 : Int) ≤ (L.length : Int) + 1 := by omega
  simp [h1]
theorem CutPrefix_no (c : UInt8) (L : List UInt8) (h : L.head? ≠ some c) : strings_CutPrefix.f (B L) (B [c]) = some (B L, false) := by
  unfold strings_CutPrefix.f stringslite_CutPrefix.f stringslite_HasPrefix.f
  simp only [B_size, B_ext, B_list]
  cases L with
  | nil => simp
  | cons x t =>
    have hx : ¬ x = c := by simpa using h
    have h1 : (1 : Int) ≤ (t.length : Int) + 1 := by omega
    simp [h1, hx]
theorem CutSuffix_B (c : UInt8) (L : List UInt8) (hl : L.length ≤ 1000) : strings_CutSuffix.f (B (L ++ [c])) (B [c]) = some (B L, true) := by
  unfold strings_CutSuffix.f stringslite_CutSuffix.f stringslite_HasSuffix.f
  simp only [B_size, B_ext, B_list, List.length_append, List.length_singleton]
  rw [wr_small _ (by omega) (by omega)]
  have e : (((L.length + 1 : Nat) : Int) - ((1 : Nat) : Int)) = (L.length : Int) := by omega
  rw [e, Int.toNat_natCast, if_pos (by omega), if_pos (by omega), if_pos (by omega)]
  have h1 : (L.length : Int) ≤ (L.length : Int) + 1 := by omega
  simp [h1]
theorem CutSuffix_no (c : UInt8) (L : List UInt8) (hl : L.length ≤ 1000) (h : L.getLast? ≠ some c) : strings_CutSuffix.f (B L) (B [c]) = some (B L, false) := by
  unfold strings_CutSuffix.f stringslite_CutSuffix.f stringslite_HasSuffix.f
  simp only [B_size, B_ext, B_list, List.length_singleton]
  rw [wr_small _ (by omega) (by omega)]
  rcases List.eq_nil_or_concat L with rfl | ⟨M, x, rfl⟩
  · simp
  · rw [List.concat_eq_append] at h ⊢
    have hx : ¬ x = c := by simpa using h
    have e : ((((M ++ [x]).length : Nat) : Int) - ((1 : Nat) : Int)) = (M.length : Int) := by simp
    rw [e, Int.toNat_natCast, if_pos (by simp; omega), if_pos (by omega), if_pos (by simp; omega)]
    simp [hx]

/-! ### digits -/
def isD (c : UInt8) : Prop := 48 ≤ c.toNat ∧ c.toNat ≤ 57
instance (c : UInt8) : Decidable (isD c) := by unfold isD; infer_instance
def allD (L : List UInt8) : Prop := ∀ c ∈ L, isD c
instance (L : List UInt8) : Decidable (allD L) := by unfold allD; infer_instance
def vl : List UInt8 → Int → Int
  | [], n => n
  | c :: cs, n => vl cs (10 * n + ((c.toNat : Int) - 48))
theorem vl_append : ∀ (L M : List UInt8) (n : Int), vl (L ++ M) n = vl M (vl L n)
  | [], _, _ => rfl
  | c :: cs, M, n => by simp only [List.cons_append, vl]; exact vl_append cs M _
def p10 : Nat → Int
  | 0 => 1
  | n + 1 => 10 * p10 n
theorem p10_pos : ∀ n, 1 ≤ p10 n
  | 0 => by decide
  | n + 1 => by have := p10_pos n; simp only [p10]; omega
theorem p10_mono : ∀ (n m : Nat), n ≤ m → p10 n ≤ p10 m := by
  intro n m h
  induction h with
  | refl => omega
  | step _ ih => have := p10_pos n; simp only [p10]; omega
theorem vl_bd : ∀ (L : List UInt8) (n : Int), allD L → 0 ≤ n → 0 ≤ vl L n ∧ vl L n + 1 ≤ (n + 1) * p10 L.length
  | [], n, _, h => by simp [vl, p10]; exact h
  | c :: cs, n, hd, h => by
    have hc := hd c List.mem_cons_self
    unfold isD at hc
    have ih := vl_bd cs (10 * n + ((c.toNat : Int) - 48)) (fun x hx => hd x (List.mem_cons_of_mem _ hx)) (by omega)
    refine ⟨ih.1, Int.le_trans ih.2 ?_⟩
    have := p10_pos cs.length
    have e : (n + 1) * p10 (cs.length + 1) = (10 * n + 10) * p10 cs.length := by simp only [p10]; rw [← Int.mul_assoc, Int.mul_comm (n + 1) 10, Int.mul_add]; rfl
    rw [List.length_cons, e]
    exact Int.mul_le_mul_of_nonneg_right (by omega) (by omega)
/-- From the left, a further number of digits: the value is shifted. -/
theorem vl_shift : ∀ (L : List UInt8) (n : Int), vl L n = n * p10 L.length + vl L 0
  | [], n => by simp [vl, p10]
  | c :: cs, n => by
    simp only [vl, List.length_cons, p10]
    rw [vl_shift cs (10 * n + _), vl_shift cs (10 * 0 + _)]
    generalize p10 cs.length = p
    generalize (c.toNat : Int) - 48 = d
    generalize vl cs 0 = v
    grind
theorem dig_ok : ∀ (L : List UInt8) (n : Int), allD L → 0 ≤ n → (n + 1) * p10 L.length ≤ 100000000000000000 → dig L n = some (vl L n)
  | [], n, _, _, _ => rfl
  | c :: cs, n, hd, h, hb => by
    have hc := hd c List.mem_cons_self
    unfold isD at hc
    have e : (n + 1) * p10 (cs.length + 1) = (10 * n + 10) * p10 cs.length := by simp only [p10]; rw [← Int.mul_assoc, Int.mul_comm (n + 1) 10, Int.mul_add]; rfl
    rw [List.length_cons, e] at hb
    have hp := p10_pos cs.length
    have h1 : (10 * n + 10) * 1 ≤ (10 * n + 10) * p10 cs.length := Int.mul_le_mul_of_nonneg_left hp (by omega)
    have h2 : (10 * n + ((c.toNat : Int) - 48) + 1) * p10 cs.length ≤ (10 * n + 10) * p10 cs.length := Int.mul_le_mul_of_nonneg_right (by omega) (by omega)
    rw [dig, if_neg (by omega), if_neg (by omega), wr_small (10 * n) (by omega) (by omega), wr_small _ (by omega) (by omega), vl]
    exact dig_ok cs _ (fun x hx => hd x (List.mem_cons_of_mem _ hx)) (by omega) (by omega)
theorem dig_bad : ∀ (L : List UInt8) (n : Int), ¬ allD L → dig L n = none
  | [], n, h => absurd (fun c hc => by simp at hc) h
  | c :: cs, n, h => by
    rw [dig]
    by_cases h1 : c.toNat < 48
    · rw [if_pos h1]
    · rw [if_neg h1]
      by_cases h2 : 57 < c.toNat
      · rw [if_pos h2]
      · rw [if_neg h2]
        apply dig_bad
        intro hd
        apply h
        intro x hx
        rcases List.mem_cons.mp hx with rfl | hx
        · exact ⟨by omega, by omega⟩
        · exact hd x hx
def digR (L : List UInt8) : Int × Bool := if L ≠ [] ∧ allD L then (vl L 0, true) else (0, false)
theorem p10_16 (n : Nat) (h : n ≤ 16) : p10 n ≤ 10000000000000000 := by
  have := p10_mono n 16 h
  have e : p10 16 = 10000000000000000 := by decide
  omega
theorem digits_B (L : List UInt8) (h : L.length ≤ 16) : fraction_digits.f (B L) = some (digR L) := by
  unfold fraction_digits.f digR
  rw [B_data, B_list]
  have := p10_16 _ h
  by_cases hd : allD L
  · rw [dig_ok L 0 hd (by omega) (by omega)]
    cases L with
    | nil => rfl
    | cons c cs => rw [if_pos ⟨by simp, hd⟩]; rfl
  · rw [dig_bad L 0 hd, if_neg (fun h => hd h.2)]

/-! ### Parse, behind its sign and behind its percent sign -/
def ptail (k : Nat) (minus : Bool) (s : ByteArray) : Option (Int × Int × Int) := ((strings_CutSuffix.f s (⟨#[37]⟩ : ByteArray)).bind fun bt119 => ((strings_Cut.f bt119.1 (⟨#[47]⟩ : ByteArray)).bind fun bt121 => (if bt121.2.2 = true then ((fraction_digits.f bt121.1).bind fun bt124 => ((fraction_digits.f bt121.2.1).bind fun bt126 => (if bt124.2 = true then (if bt126.2 = true then (fraction_Parse.j2 k minus bt119.2 bt124.1 bt126.1 (!bt119.2)) else (fraction_Parse.j2 k minus bt119.2 bt124.1 bt126.1 false)) else (fraction_Parse.j2 k minus bt119.2 bt124.1 bt126.1 false)))) else ((strings_Cut.f bt119.1 (⟨#[46]⟩ : ByteArray)).bind fun bt128 => (if bt128.2.2 = true then ((fraction_digits.f bt128.1).bind fun bt131 => ((fraction_digits.f bt128.2.1).bind fun bt133 => (if bt128.1.size + bt128.2.1.size ≤ 9223372036854775807 then ((fraction_digits.f (bt128.1 ++ bt128.2.1)).bind fun bt135 => (if bt135.2 = true then (if bt131.2 = true then (fraction_Parse.j0 k minus bt119.2 bt135.1 1 bt133.2 bt128.2.1) else (fraction_Parse.j0 k minus bt119.2 bt135.1 1 false bt128.2.1)) else (fraction_Parse.j0 k minus bt119.2 bt135.1 1 false bt128.2.1))) else (none)))) else ((fraction_digits.f bt119.1).bind fun bt137 => (fraction_Parse.j2 k minus bt119.2 bt137.1 1 bt137.2)))))))
def ptail2 (k : Nat) (minus pc : Bool) (s : ByteArray) : Option (Int × Int × Int) := ((strings_Cut.f s (⟨#[47]⟩ : ByteArray)).bind fun bt121 => (if bt121.2.2 = true then ((fraction_digits.f bt121.1).bind fun bt124 => ((fraction_digits.f bt121.2.1).bind fun bt126 => (if bt124.2 = true then (if bt126.2 = true then (fraction_Parse.j2 k minus pc bt124.1 bt126.1 (!pc)) else (fraction_Parse.j2 k minus pc bt124.1 bt126.1 false)) else (fraction_Parse.j2 k minus pc bt124.1 bt126.1 false)))) else ((strings_Cut.f s (⟨#[46]⟩ : ByteArray)).bind fun bt128 => (if bt128.2.2 = true then ((fraction_digits.f bt128.1).bind fun bt131 => ((fraction_digits.f bt128.2.1).bind fun bt133 => (if bt128.1.size + bt128.2.1.size ≤ 9223372036854775807 then ((fraction_digits.f (bt128.1 ++ bt128.2.1)).bind fun bt135 => (if bt135.2 = true then (if bt131.2 = true then (fraction_Parse.j0 k minus pc bt135.1 1 bt133.2 bt128.2.1) else (fraction_Parse.j0 k minus pc bt135.1 1 false bt128.2.1)) else (fraction_Parse.j0 k minus pc bt135.1 1 false bt128.2.1))) else (none)))) else ((fraction_digits.f s).bind fun bt137 => (fraction_Parse.j2 k minus pc bt137.1 1 bt137.2))))))
theorem Parse_eq (k : Nat) (s : ByteArray) (h : s.size ≤ 16) : fraction_Parse.f k s = (strings_CutPrefix.f s (B [45])).bind fun p => ptail k p.2 p.1 := by
  unfold fraction_Parse.f
  rw [if_neg (by omega)]; rfl
theorem ptail_eq (k : Nat) (minus : Bool) (s : ByteArray) : ptail k minus s = (strings_CutSuffix.f s (B [37])).bind fun p => ptail2 k minus p.2 p.1 := rfl

def fin (minus : Bool) (num den : Int) : Int × Int × Int := mkE (if minus = true then -num else num) den
def syn : Int × Int × Int := (0, 0, 14)
theorem j2_ok (k : Nat) (hk : 140 ≤ k) (minus pc : Bool) (num den : Int) (n0 : 0 ≤ num) (n1 : num ≤ 10000000000000000) (d0 : 0 ≤ den) (d1 : den ≤ 10000000000000000) :
    fraction_Parse.j2 k minus pc num den true = some (fin minus num (if pc = true then den * 100 else den)) := by
  obtain ⟨k, rfl⟩ : ∃ j, k = j + 1 := ⟨k - 1, by omega⟩
  rw [fraction_Parse.j2, if_pos rfl]
  unfold fin
  cases minus <;> cases pc <;> simp only [Bool.false_eq_true, if_false, if_true]
  · rw [Make_ok _ (by omega) _ _ (by omega) (by omega) (by omega) (by omega)]; rfl
  · rw [wr_small (den * 100) (by omega) (by omega), Make_ok _ (by omega) _ _ (by omega) (by omega) (by omega) (by omega)]; rfl
  · rw [wr_small (-num) (by omega) (by omega), Make_ok _ (by omega) _ _ (by omega) (by omega) (by omega) (by omega)]; rfl
  · rw [wr_small (den * 100) (by omega) (by omega), wr_small (-num) (by omega) (by omega), Make_ok _ (by omega) _ _ (by omega) (by omega) (by omega) (by omega)]; rfl
theorem j2_no (k : Nat) (hk : 1 ≤ k) (minus pc : Bool) (num den : Int) : fraction_Parse.j2 k minus pc num den false = some syn := by
  obtain ⟨k, rfl⟩ : ∃ j, k = j + 1 := ⟨k - 1, by omega⟩
  rw [fraction_Parse.j2, if_neg (by decide)]; rfl
theorem decode_pos (s : ByteArray) (pos : Nat) (h : pos < s.size) : 1 ≤ (Utf8.decode s pos).2 := by
  by_cases ha : (s[pos]'h).toNat < 128
  · rw [decode_ascii s pos h ha]; exact Nat.le_refl _
  · exact (decode_high s pos h (by omega)).2
theorem l0_no : ∀ (d k pos : Nat) (minus pc : Bool) (num den : Int) (s : ByteArray), s.size - pos ≤ d → d + 2 ≤ k → fraction_Parse.l0 k minus pc num den false s pos = some syn := by
  intro d
  induction d with
  | zero =>
    intro k pos minus pc num den s h hk
    obtain ⟨k, rfl⟩ : ∃ j, k = j + 1 := ⟨k - 1, by omega⟩
    rw [fraction_Parse.l0, if_neg (by omega), j2_no _ (by omega)]
  | succ d ih =>
    intro k pos minus pc num den s h hk
    obtain ⟨k, rfl⟩ : ∃ j, k = j + 1 := ⟨k - 1, by omega⟩
    rw [fraction_Parse.l0]
    by_cases hp : pos < s.size
    · rw [if_pos hp]
      have := decode_pos s pos hp
      exact ih k _ minus pc num _ s (by omega) (by omega)
    · rw [if_neg hp, j2_no _ (by omega)]
theorem l0_yes (minus pc : Bool) (num : Int) (L : List UInt8) (hd : allD L) (n0 : 0 ≤ num) (n1 : num ≤ 10000000000000000) : ∀ (d k pos : Nat), pos + d = L.length → L.length ≤ 16 → d + 142 ≤ k →
    fraction_Parse.l0 k minus pc num (p10 pos) true (B L) pos = some (fin minus num (if pc = true then p10 L.length * 100 else p10 L.length)) := by
  intro d
  induction d with
  | zero =>
    intro k pos h hl hk
    obtain rfl : pos = L.length := by omega
    obtain ⟨k, rfl⟩ : ∃ j, k = j + 1 := ⟨k - 1, by omega⟩
    have := p10_16 _ hl
    have := p10_pos L.length
    rw [fraction_Parse.l0, B_size, if_neg (by omega), j2_ok _ (by omega) _ _ _ _ n0 n1 (by omega) (by omega)]
  | succ d ih =>
    intro k pos h hl hk
    obtain ⟨k, rfl⟩ : ∃ j, k = j + 1 := ⟨k - 1, by omega⟩
    have h1 := p10_16 pos (by omega)
    have h2 := p10_pos pos
    have hp : pos < (B L).size := by rw [B_size]; omega
    have hb := hd (L[pos]'(by omega)) (List.getElem_mem _)
    unfold isD at hb
    rw [fraction_Parse.l0, if_pos hp, decode_ascii (B L) pos hp (by rw [B_get]; omega), wr_small _ (by omega) (by omega), show p10 pos * 10 = p10 (pos + 1) by simp only [p10]; omega]
    exact ih k (pos + 1) (by omega) hl (by omega)

theorem vl0_bd (L : List UInt8) (h : allD L) (hl : L.length ≤ 16) : 0 ≤ vl L 0 ∧ vl L 0 ≤ 10000000000000000 := by
  have a := vl_bd L 0 h (by omega)
  have b := p10_16 _ hl
  omega
section
variable (k : Nat) (hk : 200 ≤ k) (minus pc : Bool)
include hk
theorem plain_all (M : List UInt8) (hl : M.length ≤ 16) (h1 : 47 ∉ M) (h2 : 46 ∉ M) : ptail2 k minus pc (B M) = some (if M ≠ [] ∧ allD M then fin minus (vl M 0) (if pc = true then 100 else 1) else syn) := by
  unfold ptail2
  rw [show (⟨#[47]⟩ : ByteArray) = B [47] from rfl, show (⟨#[46]⟩ : ByteArray) = B [46] from rfl, Cut_none M 47 h1, Option.bind_some]
  dsimp only
  rw [if_neg (by decide), Cut_none M 46 h2, Option.bind_some]
  dsimp only
  rw [if_neg (by decide), digits_B M hl, Option.bind_some]
  unfold digR
  by_cases h : M ≠ [] ∧ allD M
  · rw [if_pos h, if_pos h]
    have := vl0_bd M h.2 hl
    rw [j2_ok _ (by omega) _ _ _ _ (by omega) (by omega) (by omega) (by omega)]; rfl
  · rw [if_neg h, if_neg h, j2_no _ (by omega)]
theorem slash_all (a b : List UInt8) (hl : (a ++ 47 :: b).length ≤ 16) (h1 : 47 ∉ a) : ptail2 k minus pc (B (a ++ 47 :: b)) = some (if (a ≠ [] ∧ allD a) ∧ (b ≠ [] ∧ allD b) ∧ pc = false then fin minus (vl a 0) (vl b 0) else syn) := by
  have hl' : a.length + (b.length + 1) ≤ 16 := by simpa using hl
  unfold ptail2
  rw [show (⟨#[47]⟩ : ByteArray) = B [47] from rfl, Cut_some a b 47 h1 (by omega), Option.bind_some, if_pos rfl, digits_B a (by omega), Option.bind_some, digits_B b (by omega), Option.bind_some]
  unfold digR
  by_cases ha : a ≠ [] ∧ allD a
  · rw [if_pos ha]
    by_cases hb : b ≠ [] ∧ allD b
    · rw [if_pos hb]
      have := vl0_bd a ha.2 (by omega)
      have := vl0_bd b hb.2 (by omega)
      dsimp only
      rw [if_pos rfl, if_pos rfl]
      cases pc
      · rw [if_pos ⟨ha, hb, rfl⟩]
        exact (j2_ok _ (by omega) _ _ _ _ (by omega) (by omega) (by omega) (by omega)).trans rfl
      · rw [if_neg (fun h => by cases h.2.2)]
        exact j2_no _ (by omega) _ _ _ _
    · rw [if_neg hb, if_neg (show ¬ ((a ≠ [] ∧ allD a) ∧ (b ≠ [] ∧ allD b) ∧ pc = false) from fun h => hb h.2.1)]
      dsimp only
      rw [if_pos rfl, if_neg (by decide)]
      exact j2_no _ (by omega) _ _ _ _
  · rw [if_neg ha, if_neg (show ¬ ((a ≠ [] ∧ allD a) ∧ (b ≠ [] ∧ allD b) ∧ pc = false) from fun h => ha h.1)]
    dsimp only
    rw [if_neg (by decide)]
    exact j2_no _ (by omega) _ _ _ _
theorem point_all (a b : List UInt8) (hl : (a ++ 46 :: b).length ≤ 16) (h0 : 47 ∉ a ++ 46 :: b) (h1 : 46 ∉ a) :
    ptail2 k minus pc (B (a ++ 46 :: b)) = some (if (a ≠ [] ∧ allD a) ∧ (b ≠ [] ∧ allD b) then fin minus (vl (a ++ b) 0) (if pc = true then p10 b.length * 100 else p10 b.length) else syn) := by
  have hl' : a.length + (b.length + 1) ≤ 16 := by simpa using hl
  unfold ptail2
  rw [show (⟨#[47]⟩ : ByteArray) = B [47] from rfl, show (⟨#[46]⟩ : ByteArray) = B [46] from rfl, Cut_none _ 47 h0, Option.bind_some]
  dsimp only
  rw [if_neg (by decide), Cut_some a b 46 h1 (by omega), Option.bind_some, if_pos rfl, digits_B a (by omega), Option.bind_some, digits_B b (by omega), Option.bind_some]
  dsimp only
  rw [B_append, B_size, B_size, if_pos (by omega), digits_B (a ++ b) (by simp; omega), Option.bind_some]
  obtain ⟨k, rfl⟩ : ∃ j, k = j + 1 := ⟨k - 1, by omega⟩
  have no : ∀ v, fraction_Parse.j0 (k + 1) minus pc v 1 false (B b) = some syn := by
    intro v
    rw [fraction_Parse.j0]
    exact l0_no 16 k 0 _ _ _ _ _ (by rw [B_size]; omega) (by omega)
  by_cases hab : (a ++ b) ≠ [] ∧ allD (a ++ b)
  · have da : allD a := fun x hx => hab.2 x (List.mem_append_left _ hx)
    have db : allD b := fun x hx => hab.2 x (List.mem_append_right _ hx)
    have := vl0_bd (a ++ b) hab.2 (by simp; omega)
    rw [show digR (a ++ b) = (vl (a ++ b) 0, true) from if_pos hab]
    dsimp only
    rw [if_pos rfl]
    by_cases ha : a ≠ []
    · rw [show digR a = (vl a 0, true) from if_pos ⟨ha, da⟩]
      dsimp only
      rw [if_pos rfl]
      by_cases hb : b ≠ []
      · rw [show digR b = (vl b 0, true) from if_pos ⟨hb, db⟩, if_pos ⟨⟨ha, da⟩, hb, db⟩, fraction_Parse.j0]
        exact l0_yes minus pc _ b db (by omega) (by omega) b.length k 0 (by omega) (by omega) (by omega)
      · rw [show digR b = (0, false) from if_neg (fun h => hb h.1), if_neg (show ¬ ((a ≠ [] ∧ allD a) ∧ (b ≠ [] ∧ allD b)) from fun h => hb h.2.1)]
        exact no _
    · rw [show digR a = (0, false) from if_neg (fun h => ha h.1), if_neg (show ¬ ((a ≠ [] ∧ allD a) ∧ (b ≠ [] ∧ allD b)) from fun h => ha h.1.1)]
      dsimp only
      rw [if_neg (by decide)]
      exact no _
  · rw [show digR (a ++ b) = (0, false) from if_neg hab, if_neg (show ¬ ((a ≠ [] ∧ allD a) ∧ (b ≠ [] ∧ allD b)) from by
      rintro ⟨⟨ha, da⟩, hb, db⟩
      apply hab
      refine ⟨by simp [ha], ?_⟩
      intro x hx
      rcases List.mem_append.mp hx with h | h
      · exact da x h
      · exact db x h)]
    dsimp only
    rw [if_neg (by decide)]
    exact no _
/-- A byte that is no digit, no slash and no point. -/
theorem bad_all (M : List UInt8) (hl : M.length ≤ 16) (x : UInt8) (hx : x ∈ M) (hd : ¬ isD x) (h47 : x ≠ 47) (h46 : x ≠ 46) : ptail2 k minus pc (B M) = some syn := by
  by_cases h : (47 : UInt8) ∈ M
  · obtain ⟨a, b, rfl, ha⟩ := mem_first h
    rw [slash_all k hk minus pc a b hl ha, if_neg]
    rintro ⟨⟨_, da⟩, ⟨_, db⟩, _⟩
    rcases List.mem_append.mp hx with h | h
    · exact hd (da x h)
    · rcases List.mem_cons.mp h with h | h
      · exact h47 h
      · exact hd (db x h)
  · by_cases h2 : (46 : UInt8) ∈ M
    · obtain ⟨a, b, rfl, ha⟩ := mem_first h2
      rw [point_all k hk minus pc a b hl h ha, if_neg]
      rintro ⟨⟨_, da⟩, _, db⟩
      rcases List.mem_append.mp hx with h | h
      · exact hd (da x h)
      · rcases List.mem_cons.mp h with h | h
        · exact h46 h
        · exact hd (db x h)
    · rw [plain_all k hk minus pc M hl h h2, if_neg]
      rintro ⟨_, d⟩
      exact hd (d x hx)
end
theorem power_l0 : ∀ (d k i : Nat), d + 1 ≤ k → i + d ≤ 16 → sleuthref02_power.l0 k ((i + d : Nat) : Int) (p10 i) (i : Int) = some (p10 (i + d)) := by
  intro d
  induction d with
  | zero =>
    intro k i hk hi
    obtain ⟨k, rfl⟩ : ∃ j, k = j + 1 := ⟨k - 1, by omega⟩
    rw [sleuthref02_power.l0, if_neg (by omega)]; rfl
  | succ d ih =>
    intro k i hk hi
    obtain ⟨k, rfl⟩ : ∃ j, k = j + 1 := ⟨k - 1, by omega⟩
    have := p10_16 i (by omega)
    have := p10_pos i
    rw [sleuthref02_power.l0, if_pos (by omega), wr_small _ (by omega) (by omega), wr_small _ (by omega) (by omega), show 10 * p10 i = p10 (i + 1) from rfl, show (i : Int) + 1 = ((i + 1 : Nat) : Int) by omega, show i + (d + 1) = (i + 1) + d by omega]
    exact ih k (i + 1) (by omega) (by omega)
theorem power_ok (k c : Nat) (hk : 100 ≤ k) (hc : c ≤ 16) : sleuthref02_power.f k (c : Int) = some (p10 c) := by
  have h := power_l0 c k 0 (by omega) (by omega)
  unfold sleuthref02_power.f
  simpa [p10] using h
end Go.Proofs.YtikioicjhdhdpaaDoor.PD
