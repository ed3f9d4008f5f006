/- The walk of BottomkAdds, told of the arguments as the row has them. Condition: the slice reads as a row of bytes. -/
import Derived.Test.YtddhpkobingmhaaSk13
import Derived.Test.YtddhpkobingmhaaKeys

namespace Go.Proofs.Ytddhpkobingmhaa.PB
open Go.RowKit Go.Proofs.YtddhpkobingmhaaW.PrintWords Go.Proofs.YtddhpkobingmhaaW.PrintLast Go.Proofs.YtddhpkobingmhaaW.PrintMore
set_option linter.unusedVariables false

theorem byte_wf {x : Int} (h : (Lit.int .u8 x).wf = true) : 0 ≤ x ∧ x ≤ 255 := by
  simp [Lit.wf, IntKind.min, IntKind.max, IntKind.signed, IntKind.bits] at h
  omega

theorem adds_row (x y : Int) (a : Option Addr) (len cap : Nat) (zs : List Int) (w : World) (wx : (Lit.int .u8 x).wf = true) (wy : (Lit.int .u8 y).wf = true)
    (w1 : (a = none ∧ len = 0 ∧ cap = 0 ∧ zs = []) ∨ ∃ x, a = some x ∧ len ≤ cap ∧ cap ≤ maxLen ∧ zs.length = cap ∧ (∀ i, i < zs.length → w.cell? (x.add i) = some (.int .u8 (zs.getD i 0))) ∧ ∀ n ∈ zs, (Lit.int .u8 n).wf = true) :
    Calls Try.prog 4 #[.agg #[.int .u8 x, .int .u8 y], .slice a len cap] w fun e w' => e = .returned (.bool true) ∧ Below w.heap.size w w' := by
  obtain ⟨l, rfl, hr, hm, hw, hc⟩ := ReadsInt.ofRowC w1
  have hx : 0 ≤ x ∧ x ≤ 255 := byte_wf wx
  have hy : 0 ≤ y ∧ y ≤ 255 := byte_wf wy
  have hd : ∀ n ∈ l, 0 ≤ n ∧ n ≤ 255 := fun n hn => byte_wf (hw n hn)
  exact adds_walk x y hx.1 hx.2 hy.1 hy.2 a cap l hc (1 + x.toNat % 12) (by omega) (min l.length 40 + 1) 5 5 (hashT y) (ksOf l) (keys_f l hd) (by have := ksOf_len l; omega) (ksOf_ok y l hd) w (Kd.C_of_reads (d := (0 : Int)) (h1 := fun _ => rfl) hr)
end Go.Proofs.Ytddhpkobingmhaa.PB
