/- clear of the end of a row of keys, as a step of a walk. -/
import Derived.Test.YtddhpkobingmhaaRowP
import Derived.Laws.IdiomCopy

namespace Go.Proofs.Ytddhpkobingmhaa.PB
open Go.RowKit Go.Proofs.YtddhpkobingmhaaW.PrintWords Go.Proofs.YtddhpkobingmhaaW.PrintLast Go.Proofs.YtddhpkobingmhaaW.PrintMore Go.Proofs.Ytddhpkobingmhaa.Sep
set_option linter.unusedVariables false
set_option maxRecDepth 100000

def zs52 (n : Nat) : List Value := (Builtin.zeroCells #[.int .i64 0, .string ⟨#[]⟩] n).toList
theorem zs52_len (n : Nat) : (zs52 n).length = n * 2 := by unfold zs52 Builtin.zeroCells; simp
theorem zs52_one (n : Nat) : ∀ v ∈ zs52 n, v.oneCell' = true := by
  intro v hv
  unfold zs52 Builtin.zeroCells at hv
  simp only [Array.toList_map, List.mem_map] at hv
  obtain ⟨i, _, rfl⟩ := hv
  have h2 : i % 2 = 0 ∨ i % 2 = 1 := by omega
  show Value.oneCell' ((#[Value.int .i64 0, Value.string ⟨#[]⟩] : Array Value)[i % 2]!) = true
  rcases h2 with h2 | h2 <;> rw [h2] <;> rfl
theorem run_clear52 (w : World) (ty g o n c : Nat) (hn : 0 < n) (hc : ∀ j, j < n * 2 → (w.cell? ⟨g, o + j, none⟩).isSome = true) (hf : ∀ j, j < n * 2 → w.frozen? ⟨g, o + j, none⟩ = false) :
    (Builtin.clear_ #[26] ty #[.slice (some ⟨g, o, none⟩) n c]).run Try.prog w = .ok (.tuple #[]) (w.setCells g o (zs52 n)) := by
  have hst := run_storeCells_cells (P := Try.prog) g o (zs52 n) 0 w (by rw [zs52_len]; simpa using hc) (by rw [zs52_len]; simpa using hf) (zs52_one n)
  simp only [Nat.add_zero] at hst
  obtain ⟨m, rfl⟩ : ∃ m, n = m + 1 := ⟨n - 1, by omega⟩
  have hz : ((Value.agg #[Value.int IntKind.i64 0, Value.string ⟨#[]⟩]).cells) = #[.int .i64 0, .string ⟨#[]⟩] := rfl
  unfold zs52 at hst ⊢
  simp [Builtin.clear_, run_underlying Try.underlying26, Try.zeroValue52, hz, hst]
section
variable {ops : Array Oper} {rest : List Oper} {o : Oper} {a : Act} {Q : Exit → Act → World → Prop} {N : Nat} {L : List Res} {w0 : World}
theorem S_clear {W : World} (hgd : o.guard = none) (s : Operand) (ho : o.op = .call { callee := .builtin .clear, args := #[s], argTypes := #[26] }) (hd : o.dst = none)
    (g n cap m d c : Nat) (l : List S52) (A : Addr) (hA : A = ⟨g, m * 2, none⟩) (hs : a.eval s = .slice (some A) d c) (hm : m < l.length) (hdn : d = l.length - m)
    (HS : St N W (Row k52 52 (.slice (some ⟨g, 0, none⟩) n cap) l :: L)) (HB : Below N w0 W)
    (h : ∀ w1, St N w1 (Row k52 52 (.slice (some ⟨g, 0, none⟩) m cap) (l.take m) :: L) → Below N w0 w1 → wpList Try.prog ops Q rest a w1) : wpList Try.prog ops Q (o :: rest) a W := by
  subst hA hdn
  refine wpList_plain hgd fun K hK => ?_
  obtain ⟨e, cur, h1, h2, h3, h4, h5⟩ := St.rowBlk HS
  have hrun := run_clear52 W o.type g (m * 2) (l.length - m) c (by omega) (fun j hj => by
    rw [h5.cell (m * 2 + j), List.getElem?_toArray, List.getElem?_eq_getElem (by omega)]; rfl) (fun j hj => h5.frozen _)
  unfold Oper.wp
  simp [execOp, ho, resolve, invoke, builtin, hs, hrun, Result.andThen]
  obtain ⟨h6, h7⟩ := St.clearRow HS m (by omega) (zs52 (l.length - m)) HB rfl
  refine hK _ _ ?_
  have := h _ h6 h7
  simpa [Act.put, hd] using this
end
end Go.Proofs.Ytddhpkobingmhaa.PB
