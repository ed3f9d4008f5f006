/- The walk of BottomkParts, told of the arguments as the row has them. Condition: the slices read as rows of bytes. -/
import Derived.Test.YtddhpkobingmhaaSk33
import Derived.Test.YtddhpkobingmhaaArr3

namespace Go.Proofs.Ytddhpkobingmhaa.PB
open Go.RowKit Go.Proofs.YtddhpkobingmhaaW.PrintWords Go.Proofs.YtddhpkobingmhaaW.PrintLast Go.Proofs.YtddhpkobingmhaaW.PrintMore
set_option linter.unusedVariables false

theorem parts_row (x y : Int) (a : Option Addr) (len cap : Nat) (zs : List Int) (a' : Option Addr) (len' cap' : Nat) (zs' : List Int) (a'' : Option Addr) (len'' cap'' : Nat) (zs'' : List Int) (w : World) (wx : (Lit.int .u8 x).wf = true) (wy : (Lit.int .u8 y).wf = true)
    (w1 : (a = none ∧ len = 0 ∧ cap = 0 ∧ zs = []) ∨ ∃ x, a = some x ∧ len ≤ cap ∧ cap ≤ maxLen ∧ zs.length = cap ∧ (∀ i, i < zs.length → w.cell? (x.add i) = some (.int .u8 (zs.getD i 0))) ∧ ∀ n ∈ zs, (Lit.int .u8 n).wf = true)
    (w2 : (a' = none ∧ len' = 0 ∧ cap' = 0 ∧ zs' = []) ∨ ∃ x, a' = some x ∧ len' ≤ cap' ∧ cap' ≤ maxLen ∧ zs'.length = cap' ∧ (∀ i, i < zs'.length → w.cell? (x.add i) = some (.int .u8 (zs'.getD i 0))) ∧ ∀ n ∈ zs', (Lit.int .u8 n).wf = true)
    (w3 : (a'' = none ∧ len'' = 0 ∧ cap'' = 0 ∧ zs'' = []) ∨ ∃ x, a'' = some x ∧ len'' ≤ cap'' ∧ cap'' ≤ maxLen ∧ zs''.length = cap'' ∧ (∀ i, i < zs''.length → w.cell? (x.add i) = some (.int .u8 (zs''.getD i 0))) ∧ ∀ n ∈ zs'', (Lit.int .u8 n).wf = true) :
    Calls Try.prog 10 #[.agg #[.int .u8 x, .int .u8 y], .agg #[.slice a len cap, .slice a' len' cap', .slice a'' len'' cap'']] w fun e w' => e = .returned (.bool true) ∧ Below w.heap.size w w' := by
  obtain ⟨l, rfl, hr, hm, hw, hc⟩ := ReadsInt.ofRowC w1
  obtain ⟨m, rfl, hr2, hm2, hw2, hc2⟩ := ReadsInt.ofRowC w2
  obtain ⟨n, rfl, hr3, hm3, hw3, hc3⟩ := ReadsInt.ofRowC w3
  have hx := byte_wf wx
  have hy := byte_wf wy
  have hd : ∀ n ∈ l, 0 ≤ n ∧ n ≤ 255 := fun n hn => byte_wf (hw n hn)
  have he : ∀ n ∈ m, 0 ≤ n ∧ n ≤ 255 := fun n hn => byte_wf (hw2 n hn)
  have hf : ∀ k ∈ n, 0 ≤ k ∧ k ≤ 255 := fun k hn => byte_wf (hw3 k hn)
  obtain ⟨b, rfl⟩ : ∃ b : Nat, y = (b : Int) := ⟨y.toNat, by omega⟩
  have hsz : ∀ t ∈ (ksOf l ++ ksOf m) ++ ksOf n, t.size ≤ 5000 := fun t ht => by
    rcases List.mem_append.mp ht with h | h
    · rcases List.mem_append.mp h with h | h
      · have := (ksOf_mem l hd t h).1; omega
      · have := (ksOf_mem m he t h).1; omega
    · have := (ksOf_mem n hf t h).1; omega
  exact parts_walk x b hx.1 hx.2 hy.1 hy.2 a a' a'' cap cap' cap'' l m n hc hc2 hc3 (1 + x.toNat % 12) (by omega) (min l.length 40 + 1) (min m.length 40 + 1) (min n.length 40 + 1) 5 5 (hashT b) (ksOf l) (ksOf m) (ksOf n) (keys_f l hd) (keys_f m he) (keys_f n hf) (by have := ksOf_len l; omega) (by have := ksOf_len m; omega) (by have := ksOf_len n; omega) (ksOf_ok b l hd) (ksOf_ok b m he) (ksOf_ok b n hf) hsz w (Kd.C_of_reads (d := (0 : Int)) (h1 := fun _ => rfl) hr) (Kd.C_of_reads (d := (0 : Int)) (h1 := fun _ => rfl) hr2) (Kd.C_of_reads (d := (0 : Int)) (h1 := fun _ => rfl) hr3)
end Go.Proofs.Ytddhpkobingmhaa.PB
