/- What a Reader reads at a place: plain numbers. -/
import Derived.Test.YtddhpkobingmhaaSk32
import Derived.Laws.BitsAllLaws
namespace Go.Proofs.Ytddhpkobingmhaa.Sep
open Go.RowKit Go.Proofs.YtddhpkobingmhaaW.PrintWords Go.Proofs.YtddhpkobingmhaaW.PrintLast
/-- A byte of a number, turned where the number is negative. -/
def dgt (s : ByteArray) (neg : Bool) (q : Nat) : Nat := if neg then 255 - (bt s q).toNat else (bt s q).toNat
def nmF (s : ByteArray) (neg : Bool) (p : Nat) : Nat → Nat
  | 0 => 0
  | i + 1 => nmF s neg p i * 256 + dgt s neg (p + i)
def szR (b : Nat) : Nat := if b < 128 then 128 - b else b - 128
/-- number, behind its first byte: the value, the place behind it, the error. -/
def numQ (s : ByteArray) (at_ : Nat) (neg : Bool) (sz : Nat) : Int × Nat × Int :=
  if 8 < sz then (0, 0, 3) else
  if s.size - (at_ + 1) < sz then (0, 0, 4) else
  if 0 < sz ∧ dgt s neg (at_ + 1) = 0 then (0, 0, 3) else
  if (neg = false ∧ 9223372036854775807 < nmF s neg (at_ + 1) sz) ∨ 9223372036854775808 < nmF s neg (at_ + 1) sz then (0, 0, 3) else
  (if neg then -(nmF s neg (at_ + 1) sz : Int) else (nmF s neg (at_ + 1) sz : Int), at_ + 1 + sz, 0)
def numR (s : ByteArray) (at_ : Nat) : Int × Nat × Int :=
  if s.size ≤ at_ then (0, 0, 4) else numQ s at_ (decide ((bt s at_).toNat < 128)) (szR (bt s at_).toNat)
theorem bt_lt (s : ByteArray) (i : Int) : 0 ≤ bt s i ∧ bt s i < 256 := by
  unfold bt
  split
  · have := UInt8.toNat_lt (s[i.toNat])
    omega
  · omega
theorem dgt_lt (s : ByteArray) (neg : Bool) (q : Nat) : dgt s neg q < 256 := by
  have := bt_lt s q
  unfold dgt
  split <;> omega
theorem nmF_lt (s : ByteArray) (neg : Bool) (p : Nat) : ∀ i, nmF s neg p i < 256 ^ i
  | 0 => by simp [nmF]
  | i + 1 => by
    have := nmF_lt s neg p i
    have := dgt_lt s neg (p + i)
    rw [nmF, Nat.pow_succ]
    omega
theorem bt_eq (s : ByteArray) (i : Nat) (h : i < s.size) : (s[i]'h).toNat = (bt s (i : Int)).toNat := by
  have := bt_at s (i : Int) (by simpa using h)
  rw [← this]
  simp
theorem xor255 : ∀ x : Fin 256, bits BinOp.xor IntKind.u8 (x.val : Int) 255 = ((255 - x.val : Nat) : Int) := by decide +kernel
theorem xor00 : ∀ x : Fin 256, bits BinOp.xor IntKind.u8 (x.val : Int) 0 = (x.val : Int) := by decide +kernel
theorem dg_pos (s : ByteArray) (q : Nat) : bits BinOp.xor IntKind.u8 ((bt s (q : Int)).toNat : Int) 0 = (dgt s false q : Int) := by
  have := bt_lt s q
  exact xor00 ⟨(bt s (q : Int)).toNat, by omega⟩
theorem dg_neg (s : ByteArray) (q : Nat) : bits BinOp.xor IntKind.u8 ((bt s (q : Int)).toNat : Int) 255 = (dgt s true q : Int) := by
  have := bt_lt s q
  exact xor255 ⟨(bt s (q : Int)).toNat, by omega⟩
theorem or_step (m d : Nat) (hm : m < 72057594037927936) (hd : d < 256) : bits BinOp.or IntKind.u64 (IntKind.u64.wrap ((m : Int) * 256)) (IntKind.u64.wrap (d : Int)) = ((m * 256 + d : Nat) : Int) := by
  have e1 : IntKind.u64.wrap ((m : Int) * 256) = ((m * 256 : Nat) : Int) := by rw [IntKind.wrap_u64]; omega
  have e2 : IntKind.u64.wrap (d : Int) = (d : Int) := by rw [IntKind.wrap_u64]; omega
  rw [e1, e2]
  have e3 : (m * 256) ||| d = m * 256 + d := by
    have := (Nat.shiftLeft_add_eq_or_of_lt (i := 8) (b := d) (by omega) m)
    rw [Nat.shiftLeft_eq] at this
    exact this.symm
  rw [u64_or_nat _ _ (by omega) (by omega), e3]
end Go.Proofs.Ytddhpkobingmhaa.Sep
