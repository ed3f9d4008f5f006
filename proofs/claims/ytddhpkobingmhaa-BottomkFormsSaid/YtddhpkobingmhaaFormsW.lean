/- The walk of BottomkForms, told of the arguments as the row has them. Condition: the slices read as rows of bytes. -/
import Derived.Test.YtddhpkobingmhaaSk39

namespace Go.Proofs.Ytddhpkobingmhaa.PB
open Go.RowKit Go.Proofs.YtddhpkobingmhaaW.PrintWords Go.Proofs.YtddhpkobingmhaaW.PrintLast Go.Proofs.YtddhpkobingmhaaW.PrintMore
set_option linter.unusedVariables false

theorem forms_row (x y : Int) (a : Option Addr) (len cap : Nat) (zs : List Int) (a' : Option Addr) (len' cap' : Nat) (zs' : List Int) (w : World) (wx : (Lit.int .u8 x).wf = true) (wy : (Lit.int .u8 y).wf = true)
    (w1 : (a = none ∧ len = 0 ∧ cap = 0 ∧ zs = []) ∨ ∃ x, a = some x ∧ len ≤ cap ∧ cap ≤ maxLen ∧ zs.length = cap ∧ (∀ i, i < zs.length → w.cell? (x.add i) = some (.int .u8 (zs.getD i 0))) ∧ ∀ n ∈ zs, (Lit.int .u8 n).wf = true)
    (w2 : (a' = none ∧ len' = 0 ∧ cap' = 0 ∧ zs' = []) ∨ ∃ x, a' = some x ∧ len' ≤ cap' ∧ cap' ≤ maxLen ∧ zs'.length = cap' ∧ (∀ i, i < zs'.length → w.cell? (x.add i) = some (.int .u8 (zs'.getD i 0))) ∧ ∀ n ∈ zs', (Lit.int .u8 n).wf = true) :
    Calls Try.prog 7 #[.agg #[.int .u8 x, .int .u8 y], .slice a len cap, .slice a' len' cap'] w fun e w' => e = .returned (.bool true) ∧ Below w.heap.size w w' := by
  obtain ⟨l, rfl, hr, hm, hw, hc⟩ := ReadsInt.ofRowC w1
  obtain ⟨m, rfl, hr2, hm2, hw2, hc2⟩ := ReadsInt.ofRowC w2
  have hx := byte_wf wx
  have hy := byte_wf wy
  obtain ⟨bn, rfl⟩ : ∃ k : Nat, y = (k : Int) := ⟨y.toNat, by omega⟩
  have hd : ∀ n ∈ l, 0 ≤ n ∧ n ≤ 255 := fun n hn => byte_wf (hw n hn)
  have he : ∀ n ∈ m, 0 ≤ n ∧ n ≤ 255 := fun n hn => byte_wf (hw2 n hn)
  have hin : ∀ t ∈ ksOf l ++ ksOf m, t.size ≤ 4096 ∧ chk t = 0 := fun t ht => by
    rcases List.mem_append.mp ht with h | h
    · have := ksOf_mem l hd t h; exact ⟨by omega, this.2⟩
    · have := ksOf_mem m he t h; exact ⟨by omega, this.2⟩
  exact forms_walk x bn hx.1 hx.2 hy.1 hy.2 a a' cap cap' l m hc hc2 (1 + x.toNat % 12) (by omega) (min l.length 40 + 1) (min m.length 40 + 1) (ksOf l) (ksOf m) (keys_f l hd) (keys_f m he) (by have := ksOf_len l; omega) (by have := ksOf_len m; omega) (ksOf_ok bn l hd) (ksOf_ok bn m he) hin w (Kd.C_of_reads (d := (0 : Int)) (h1 := fun _ => rfl) hr) (Kd.C_of_reads (d := (0 : Int)) (h1 := fun _ => rfl) hr2)
end Go.Proofs.Ytddhpkobingmhaa.PB
