/- Zeros put behind a row, and a literal as a block, as steps of a walk. -/
import Derived.Test.YtcjfgejiknlpfaaV0
import Derived.Test.YtcjfgejiknlpfaaSep3
namespace Go.Proofs.Ytcjfgejiknlpfaa.Sep
open Go.RowKit Go.Proofs.YtcjfgejiknlpfaaW.PrintWords Go.Proofs.YtcjfgejiknlpfaaW.PrintLast
set_option linter.unusedVariables false
section
variable {P : Program} {ops : Array Oper} {rest : List Oper} {o : Oper} {a : Act} {Q : Exit → Act → World → Prop} {α : Type} {N : Nat} {L : List Res}
theorem S_append_zs (d : Kd α) {w0 W : World} (hgd : o.guard = none) (s x : Operand) (t ti e : TypeId) (z : Value) (bytes : Nat)
    (ho : o.op = .call { callee := .builtin .append, args := #[s, x], argTypes := #[t, ti] })
    (ht : P.underlying t = some (.slice e)) {k : IntKind} (hti : P.underlying ti = some (.int k)) (hinfo : (P.info? e).map (fun i => (i.zero, i.size, i.bytes)) = some (some z, d.sz, bytes)) (hz : z.cells.size = d.sz) (hs0 : 0 < d.sz) (hb0 : 0 < bytes)
    (v : Value) (xs : List α) (z0 : α) {kx : IntKind} (n : Int) (hs : a.eval s = v) (hx : a.eval x = .int kx n) (hzero : d.M W N (fun _ => False) z0 z.cells.toList)
    (HS : St N W (Row d e v xs :: L)) (h0 : 0 ≤ n) (HB : Below N w0 W) (hl : (xs.length + n.toNat) * bytes ≤ 140737488355328)
    (h : ∀ v1 w1, St N w1 (Row d e v1 (xs ++ List.replicate n.toNat z0) :: L) → Below N w0 w1 → wpList P ops Q rest (a.put o.dst v1) w1) :
    wpList P ops Q (o :: rest) a W := by
  obtain ⟨G, g0, g1, g2⟩ := HS.own
  refine Kd.R_append_zeros d N hgd s x t ti e z bytes ho ht hti hinfo hz hs0 hb0 v xs z0 n (fun k => G k ∨ W.heap.size ≤ k) hs hx hzero (fun k hk => .inr hk) (Kd.R_mono g1 (fun k hk => .inl hk)) h0 HB HS.size hl ?_
  intro v1 w1 hr hb hg _
  exact h v1 w1 (St.regrow HS.size (fun k hk => (g0 k hk).2) g1 g2 hr hg.size hg) hb
theorem lit_event {W : World} (hgd : o.guard = none) {Nt : Tmp} (_hd : o.dst = some Nt) {cs : Array Value} {t : TypeId} {n : Nat}
    (hrun : (execOp a.eval o).run P W = .ok (.value (.slice (some ⟨W.heap.size, 0, none⟩) n n)) (W.alloc (.cells cs t (0, 0))))
    (h : ∀ g, g = W.heap.size → ∀ w1, w1.heap[g]? = some (.cells cs t (0, 0)) → Below W.heap.size W w1 → wpList P ops Q rest (a.put o.dst (.slice (some ⟨g, 0, none⟩) n n)) w1) : wpList P ops Q (o :: rest) a W :=
  Kd.event_run hgd hrun (h _ rfl _ (blk_new W _) (below_alloc (Below.refl _ _) _))
theorem box_step {Kc : Act → World → Prop} {W : World} (hw : Region.wanted o (yielded ops a.tmps) = true) {Nt : Tmp} (_hd : o.dst = some Nt) {cs : Array Value} {t : TypeId}
    (hrun : (execOp a.eval o).run P W = .ok (.value (.pointer (some ⟨W.heap.size, 0, none⟩))) (W.alloc (.cells cs t (0, 0))))
    (h : ∀ g, g = W.heap.size → ∀ w1, w1.heap[g]? = some (.cells cs t (0, 0)) → Below W.heap.size W w1 → Kc (a.put o.dst (.pointer (some ⟨g, 0, none⟩))) w1) : if Region.wanted o (yielded ops a.tmps) = true then Oper.wp P o a W Kc Q else Kc (a.put o.dst undef) W :=
  event_step hw hrun (h _ rfl _ (blk_new W _) (below_alloc (Below.refl _ _) _))
end
end Go.Proofs.Ytcjfgejiknlpfaa.Sep
