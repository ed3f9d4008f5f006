/- What Decode makes of a form, in plain words: the numbers, the texts, the first error. -/
import Derived.Test.YtddhpkobingmhaaSk35
namespace Go.Proofs.Ytddhpkobingmhaa.PB
open Go.RowKit Go.Proofs.YtddhpkobingmhaaW.PrintWords Go.Proofs.YtddhpkobingmhaaW.PrintLast Go.Proofs.YtddhpkobingmhaaW.PrintMore Go.Proofs.Ytddhpkobingmhaa.Sep
set_option linter.unusedVariables false
/-- At most k texts from a place on, up to the first error. -/
def rdT (s : ByteArray) : Nat → Nat → Int → List ByteArray × Nat × Int
  | 0, a, e => ([], a, e)
  | k + 1, a, e => if (txtS s a e 4096).2.2 = 0 then ((txtS s a e 4096).1 :: (rdT s k (txtS s a e 4096).2.1 0).1, (rdT s k (txtS s a e 4096).2.1 0).2) else ([], (txtS s a e 4096).2)
def chkF : List ByteArray → Int
  | [] => 0
  | t :: ts => if chk t = 0 then chkF ts else chk t
def kyOf (sd : Int) (t : ByteArray) : S52 := ⟨hashT sd t, t⟩
/-- The first k keys are in order. -/
def ordN (l : List S52) : Nat → Bool
  | 0 => true
  | k + 1 => ordN l k && (decide (k = 0) || decide (Bf (rd_T52 l ((k - 1 : Nat) : Int)) (rd_T52 l (k : Int))))
def decR (s : ByteArray) (sz sd : Int) (ex : Bool) (ks : List ByteArray) (a : Nat) (e : Int) : Int :=
  if e = 0 then (if a < s.size then 3 else if sz < 1 ∨ 1024 < sz ∨ sd < 0 ∨ 1048576 < sd then 2 else if chkF ks = 0 then (if ordN (ks.map (kyOf sd)) ks.length = true then (if sz < (ks.length : Int) ∨ ((ks.length : Int) < sz ∧ ex = false) then 3 else 0) else 8) else chkF ks) else e
def dN1 (s : ByteArray) := numS s 0 0
def dN2 (s : ByteArray) := numS s (dN1 s).2.1 (dN1 s).2.2
def dB3 (s : ByteArray) := boolS s (dN2 s).2.1 (dN2 s).2.2
def dC4 (s : ByteArray) := cntS s (dB3 s).2.1 (dB3 s).2.2 1024
def dT5 (s : ByteArray) := rdT s (dC4 s).1.toNat (dC4 s).2.1 (dC4 s).2.2
def decE (s : ByteArray) : Int := decR s (dN1 s).1 (dN2 s).1 (dB3 s).1 (dT5 s).1 (dT5 s).2.1 (dT5 s).2.2
theorem numS_le (s : ByteArray) (a : Nat) (e : Int) (h : a ≤ s.size) : (numS s a e).2.1 ≤ s.size := by
  unfold numS
  split
  · split
    · exact (numR_le s a ‹_›).1
    · exact h
  · exact h
theorem boolS_le (s : ByteArray) (a : Nat) (e : Int) (h : a ≤ s.size) : (boolS s a e).2.1 ≤ s.size := by
  unfold boolS
  split
  · split
    · rename_i h1 h2
      have : (numR s a).2.2 = 0 := by
        unfold boolE at h2
        by_cases h3 : (numR s a).2.2 = 0
        · exact h3
        · rw [if_neg h3] at h2; exact absurd h2 h3
      exact (numR_le s a this).1
    · exact h
  · exact h
theorem cntS_le (s : ByteArray) (a : Nat) (e : Int) (h : a ≤ s.size) : (cntS s a e 1024).2.1 ≤ s.size ∧ 0 ≤ (cntS s a e 1024).1 ∧ (cntS s a e 1024).1 ≤ 1024 ∧ ((cntS s a e 1024).2.2 ≠ 0 → (cntS s a e 1024).1 = 0) := by
  unfold cntS
  split
  · split
    · have := sizE_le s a 1024 6 (by decide) ‹_›
      exact ⟨this.2.2.2.2.1, this.2.1, this.2.2.1, fun h => absurd rfl h⟩
    · exact ⟨h, by simp, by simp, fun _ => rfl⟩
  · exact ⟨h, by simp, by simp, fun _ => rfl⟩
theorem txtS_le (s : ByteArray) (a : Nat) (e : Int) (h : a ≤ s.size) : (txtS s a e 4096).2.1 ≤ s.size ∧ (txtS s a e 4096).1.size ≤ 4096 := by
  unfold txtS
  split
  · split
    · have := sizE_le s a 4096 5 (by decide) ‹_›
      refine ⟨by simp only; omega, ?_⟩
      simp only [ByteArray.size_extract]
      omega
    · exact ⟨h, by simp [ByteArray.size]⟩
  · exact ⟨h, by simp [ByteArray.size]⟩
end Go.Proofs.Ytddhpkobingmhaa.PB
