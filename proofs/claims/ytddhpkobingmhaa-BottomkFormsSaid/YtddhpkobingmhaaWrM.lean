/- What a Writer appends for a number that is not negative: plain lists of bytes. -/
import Derived.Test.YtddhpkobingmhaaWrP
namespace Go.Proofs.Ytddhpkobingmhaa.Sep
open Go.RowKit Go.Proofs.YtddhpkobingmhaaW.PrintWords Go.Proofs.YtddhpkobingmhaaW.PrintLast
/-- The number of bytes of a number. -/
def szN (m : Nat) : Nat := if h : m = 0 then 0 else szN (m / 256) + 1
termination_by m
decreasing_by omega
theorem szN_zero : szN 0 = 0 := by rw [szN]; simp
theorem szN_step {m : Nat} (h : ¬ m = 0) : szN m = szN (m / 256) + 1 := by rw [szN]; simp [h]
theorem szN_le : ∀ (k m : Nat), m < 256 ^ k → szN m ≤ k
  | 0, m, h => by
    have : m = 0 := by simp at h; omega
    rw [this, szN_zero]; omega
  | k + 1, m, h => by
    by_cases h0 : m = 0
    · rw [h0, szN_zero]; omega
    · rw [szN_step h0]
      have := szN_le k (m / 256) (by rw [Nat.pow_succ] at h; omega)
      omega
/-- The i-th byte. -/
def dgN (n i : Nat) : Int := ((n / 256 ^ i % 256 : Nat) : Int)
def digs (n : Nat) : Nat → List Int
  | 0 => []
  | i + 1 => dgN n i :: digs n i
def numB (n : Nat) : List Int := (128 + (szN n : Int)) :: digs n (szN n)
theorem digs_len (n : Nat) : ∀ i, (digs n i).length = i
  | 0 => rfl
  | i + 1 => by rw [digs, List.length_cons, digs_len n i]
/-- A Writer: its box, and the row of its bytes. -/
def Wr (g : Nat) (bs : List Int) : Res := Some_ fun v => Two (Blk g #[v] 77) (Row (Kd.int .u8) 5 v bs)
variable {N : Nat} {w : World} {L : List Res}
theorem Wr_open {g : Nat} {bs : List Int} (h : St N w (Wr g bs :: L)) : ∃ (A : Option Addr) (c : Nat), St N w (Blk g #[.slice A bs.length c] 77 :: Row (Kd.int .u8) 5 (.slice A bs.length c) bs :: L) := by
  obtain ⟨v, h1⟩ := h.ex
  have h2 := h1.two
  obtain ⟨A, c, e, _, _⟩ := h2.swap.reads
  subst e
  exact ⟨A, c, h2⟩
theorem Wr_shut {g : Nat} {bs : List Int} {v : Value} (h : St N w (Blk g #[v] 77 :: Row (Kd.int .u8) 5 v bs :: L)) : St N w (Wr g bs :: L) := St.hide (f := fun v => Two (Blk g #[v] 77) (Row (Kd.int .u8) 5 v bs)) v h.one
theorem Wr_new {g : Nat} (h : St N w (Blk g #[.slice none 0 0] 77 :: L)) : St N w (Wr g [] :: L) := Wr_shut (h.rowNil (d := Kd.int .u8) (e := 5)).swap
end Go.Proofs.Ytddhpkobingmhaa.Sep
