/- Whether a key is one of the first of a row. -/
import Derived.Test.YtddhpkobingmhaaJ10
namespace Go.Proofs.Ytddhpkobingmhaa.PB
open Go.RowKit Go.Proofs.YtddhpkobingmhaaW.PrintWords Go.Proofs.YtddhpkobingmhaaW.PrintLast Go.Proofs.YtddhpkobingmhaaW.PrintMore
set_option linter.unusedVariables false
/-- Whether x is one of the first k keys of a row. -/
def hasN (l : List S52) (x : S52) : Nat → Bool
  | 0 => false
  | k + 1 => hasN l x k || decide (rd_T52 l (k : Int) = x)
theorem hasN_iff (l : List S52) (x : S52) : ∀ k, hasN l x k = true ↔ ∃ j, j < k ∧ x = rd_T52 l (j : Int)
  | 0 => ⟨fun h => absurd h (by simp [hasN]), fun ⟨j, h, _⟩ => absurd h (Nat.not_lt_zero j)⟩
  | k + 1 => by
    rw [hasN, Bool.or_eq_true, hasN_iff l x k, decide_eq_true_iff]
    constructor
    · rintro (⟨j, h, e⟩ | e)
      · exact ⟨j, by omega, e⟩
      · exact ⟨k, by omega, e.symm⟩
    · rintro ⟨j, h, e⟩
      by_cases hjk : j = k
      · exact .inr (hjk ▸ e.symm)
      · exact .inl ⟨j, by omega, e⟩
theorem hasN_mem (l : List S52) (x : S52) (h : x ∈ l) : hasN l x l.length = true := by
  rw [hasN_iff]
  exact (mem_rd l x).mp h
theorem ite_ne (x y : S52) (h : ¬ y = x) {α : Type} (A B : α) : (if y.f0 = x.f0 then (if y.f1.toList = x.f1.toList then A else B) else B) = B := by
  by_cases h1 : y.f0 = x.f0
  · by_cases h2 : y.f1.toList = x.f1.toList
    · exact absurd (by obtain ⟨a, s⟩ := x; obtain ⟨b, t⟩ := y; simp only at h1 h2; rw [h1, bytes_ext _ _ h2]) h
    · rw [if_pos h1, if_neg h2]
  · rw [if_neg h1]
theorem lt_cast {i k : Nat} (h : i < k) : (i : Int) < (k : Int) := by omega
theorem inc_lt {k n : Nat} (h : k < n) (hn : n ≤ 100000) : wrap64 ((k : Int) + 1) = (k : Int) + 1 := wrap64_small _ (by omega) (by omega)
theorem cast_inc (k : Nat) : Value.int .i64 ((k : Int) + 1) = Value.int .i64 ((k + 1 : Nat) : Int) := by rw [Int.natCast_add]; rfl
theorem dec_lt {i k : Nat} (h : i < k) : decide ((i : Int) < (k : Int)) = true := decide_eq_true (by omega)
theorem dec_irr (i : Nat) : decide ((i : Int) < (i : Int)) = false := decide_eq_false (Int.lt_irrefl _)
theorem meas_i2 (i k : Nat) (h : i < k) : ((k : Int) - ((i : Int) + 1)).toNat < ((k : Int) - (i : Int)).toNat := by omega
theorem mem_takes (K : Nat) (a b c W : List S52) (ha : Inc a) (hb : Inc b) (hc : Inc c) (hW : Inc W) (h : ∀ x, x ∈ W ↔ (x ∈ a ∨ x ∈ b) ∨ x ∈ c) (x : S52) (hx : x ∈ W.take K) : x ∈ (a.take K ++ b.take K) ++ c.take K := by
  rw [List.mem_append, List.mem_append]
  rcases (h x).mp (List.mem_of_mem_take hx) with (h1 | h1) | h1
  · exact .inl (.inl (take_sub K a W ha hW (fun y hy => (h y).mpr (.inl (.inl hy))) x h1 hx))
  · exact .inl (.inr (take_sub K b W hb hW (fun y hy => (h y).mpr (.inl (.inr hy))) x h1 hx))
  · exact .inr (take_sub K c W hc hW (fun y hy => (h y).mpr (.inr hy)) x h1 hx)
end Go.Proofs.Ytddhpkobingmhaa.PB
