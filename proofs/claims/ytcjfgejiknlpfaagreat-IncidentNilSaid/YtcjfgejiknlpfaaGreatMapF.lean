/- A map with whole numbers for keys, as a piece of memory: made, filled, asked. -/
import Derived.Test.YtcjfgejiknlpfaaGreatJ2
namespace Go.Proofs.YtcjfgejiknlpfaaGreat.PI
open Go.RowKit Go.Proofs.YtcjfgejiknlpfaaGreatW.PrintWords Go.Proofs.YtcjfgejiknlpfaaGreatW.PrintLast Go.Proofs.YtcjfgejiknlpfaaGreatW.PrintMore Go.Proofs.YtcjfgejiknlpfaaGreat.Sep
open Go.ChangeMaps (setBlock)
set_option linter.unusedVariables false
set_option linter.unusedSimpArgs false
set_option maxRecDepth 100000
/-- The map's entries, in the order in which they came. -/
def MapAt (b : Nat) (l : List (Int × Value)) (w : World) : Prop :=
  ∃ es clock, w.heap[b]? = some (.map es clock) ∧ es.toList.map (fun e => (e.key, e.val)) = l.map (fun x => (.int .i64 x.1, x.2))
def MapF (b : Nat) (l : List (Int × Value)) : Res where
  sat := fun _ w F => F b ∧ MapAt b l w
  move := fun hm ⟨hf, es, clock, h, h1⟩ => ⟨hf, es, clock, (hm b hf (Array.getElem?_eq_some_iff.1 h).1).trans h, h1⟩
  mono := fun hm h => ⟨hm _ h.1, h.2⟩
def lk (i : Int) : List (Int × Value) → Option Value
  | [] => none
  | x :: l => if i = x.1 then some x.2 else lk i l
theorem find_now (i : Int) : ∀ (es : List MapEntry) (l : List (Int × Value)) (n : Nat), es.map (fun e => (e.key, e.val)) = l.map (fun x => (.int .i64 x.1, x.2)) →
    (lk i l = none → Instr.findNow (.int .i64) (.int .i64 i) es n = some none) ∧ (∀ v, lk i l = some v → ∃ j, Instr.findNow (.int .i64) (.int .i64 i) es n = some (some (j, v)))
  | [], [], n, _ => ⟨fun _ => rfl, fun v h => by simp [lk] at h⟩
  | [], _ :: _, _, h => by simp at h
  | _ :: _, [], _, h => by simp at h
  | e :: es, x :: l, n, h => by
    simp only [List.map_cons, List.cons.injEq, Prod.mk.injEq] at h
    obtain ⟨⟨h1, h2⟩, h3⟩ := h
    have ih := find_now i es l (n + 1) h3
    by_cases he : i = x.1
    · refine ⟨fun h => by simp [lk, he] at h, fun v hv => ⟨n, ?_⟩⟩
      simp only [lk, if_pos he, Option.some.injEq] at hv
      simp [Instr.findNow, Instr.sameNow, h1, he, h2, hv]
    · have hb : (i == x.1) = false := by simpa using he
      refine ⟨fun h => ?_, fun v hv => ?_⟩
      · simp only [lk, if_neg he] at h
        simp [Instr.findNow, Instr.sameNow, h1, hb, ih.1 h]
      · simp only [lk, if_neg he] at hv
        obtain ⟨j, hj⟩ := ih.2 v hv
        exact ⟨j, by simp [Instr.findNow, Instr.sameNow, h1, hb, hj]⟩
theorem check_i (i : Int) (em : Bool) (w : World) : (Instr.checkKey em 10000 3 (.int .i64 i)).run Tryz.prog w = .ok () w := check_int i em 9999 w
section
variable {N : Nat} {w w0 : World} {L : List Res} {b : Nat} {l : List (Int × Value)}
theorem mapf_at (h : St N w (MapF b l :: L)) : MapAt b l w := by
  obtain ⟨_, _, g1, _⟩ := h.own
  exact g1.2
theorem mapf_ge (h : St N w (MapF b l :: L)) : N ≤ b := by
  obtain ⟨_, g0, g1, _⟩ := h.own
  exact (g0 _ g1.1).2.1
theorem mapf_lookup (t e : TypeId) (ht : Tryz.prog.underlying t = some (.map 3 e)) (i : Int) (v : Value) (hv : lk i l = some v) (h : MapAt b l w) : (Instr.lookup t (.map (some b)) (.int .i64 i) false).run Tryz.prog w = .ok v w := by
  obtain ⟨es, clock, hb, h1⟩ := h
  obtain ⟨j, hj⟩ := (find_now i es.toList l 0 h1).2 v hv
  have hf : (Instr.findKey 3 (.int .i64 i) es.toList).run Tryz.prog w = .ok (some (j, v)) w := by simp [Instr.findKey, run_underlying Tryz.underlying3, hj]
  simp [Instr.lookup, run_underlying ht, MapKept.run_getObj_map hb, check_i, hf, Result.andThen]
theorem mapf_none (t e : TypeId) (ht : Tryz.prog.underlying t = some (.map 3 e)) (i : Int) (z : Value) (hz : (zeroValue e).run Tryz.prog w = .ok z w) (hv : lk i l = none) (h : MapAt b l w) : (Instr.lookup t (.map (some b)) (.int .i64 i) false).run Tryz.prog w = .ok z w := by
  obtain ⟨es, clock, hb, h1⟩ := h
  have hj := (find_now i es.toList l 0 h1).1 hv
  have hf : (Instr.findKey 3 (.int .i64 i) es.toList).run Tryz.prog w = .ok none w := by simp [Instr.findKey, run_underlying Tryz.underlying3, hj]
  simp [Instr.lookup, run_underlying ht, MapKept.run_getObj_map hb, check_i, hf, hz, Result.andThen]
theorem mapf_insert (t e : TypeId) (ht : Tryz.prog.underlying t = some (.map 3 e)) (i : Int) (v : Value) (hv : lk i l = none) (h : MapAt b l w) : ∃ o, (Instr.mapUpdate t (.map (some b)) (.int .i64 i) v).run Tryz.prog w = .ok () (setBlock w b o) ∧ MapAt b (l ++ [(i, v)]) (setBlock w b o) := by
  obtain ⟨es, clock, hb, h1⟩ := h
  have hj := (find_now i es.toList l 0 h1).1 hv
  have hf : (Instr.findKey 3 (.int .i64 i) es.toList).run Tryz.prog w = .ok none w := by simp [Instr.findKey, run_underlying Tryz.underlying3, hj]
  refine ⟨.map (es.push ⟨.int .i64 i, v, clock⟩) (clock + 1), ?_, es.push ⟨.int .i64 i, v, clock⟩, clock + 1, ?_, ?_⟩
  · simp [Instr.mapUpdate, run_underlying ht, MapKept.run_getObj_map hb, check_i, hf, MapKept.run_setObj_map _ hb, Result.andThen, setBlock]
  · show (w.heap.setIfInBounds b _)[b]? = _
    rw [Array.getElem?_setIfInBounds_self_of_lt (Array.getElem?_eq_some_iff.1 hb).1]
  · simp [h1]
theorem mapf_put {o : Obj} (h : St N w (MapF b l :: L)) {l' : List (Int × Value)} (hs : MapAt b l' (setBlock w b o)) : St N (setBlock w b o) (MapF b l' :: L) ∧ Below N w (setBlock w b o) := by
  have hsz : (setBlock w b o).heap.size = w.heap.size := by simp [setBlock]
  have hoth : ∀ k, k ≠ b → (setBlock w b o).heap[k]? = w.heap[k]? := fun k hk => by
    show (w.heap.setIfInBounds b o)[k]? = _
    rw [Array.getElem?_setIfInBounds_ne (fun e => hk e.symm)]
  exact ⟨h.upd (Nat.le_of_eq hsz.symm) (fun G g0 hg => ⟨fun k hk hn => hoth k (fun e => hn (e ▸ hg.1)), G, fun k hk => ⟨.inl hk, by rw [hsz]; exact (g0 k hk).2⟩, hg.1, hs⟩),
    rfl, rfl, rfl, Nat.le_of_eq hsz.symm, fun k hk => hoth k (by have := mapf_ge h; omega)⟩
theorem mapf_new (h : St N w L) : St N (w.alloc (.map #[] 0)) (MapF w.heap.size [] :: L) ∧ Below N w (w.alloc (.map #[] 0)) := by
  have hb : Below w.heap.size w (w.alloc (.map #[] 0)) := (Below.refl _ _).alloc (Nat.le_refl _) _
  refine ⟨h.add hb ⟨fun k => k = w.heap.size, fun k hk => ?_, rfl, #[], 0, heap_new w _, by simp⟩, hb.mono h.size⟩
  subst hk
  exact ⟨Nat.le_refl _, by simp⟩
end
/-! ### the operations, in a walk -/
section
variable {ops : Array Oper} {rest : List Oper} {o : Oper} {a : Act} {Q : Exit → Act → World → Prop} {N : Nat} {L : List Res} {w0 W : World}
theorem gate_op {p : Op} (_h : o.op = p) (h : wpList Tryz.prog ops Q (o :: rest) a W) : wpList Tryz.prog ops Q (o :: rest) a W := h
theorem S_makeMap (hgd : o.guard = none) (t : TypeId) (hop : o.op = Op.makeMap t none) (HS : St N W L) (HB : Below N w0 W)
    (h : ∀ b w1, St N w1 (MapF b [] :: L) → Below N w0 w1 → wpList Tryz.prog ops Q rest (a.put o.dst (.map (some b))) w1) : wpList Tryz.prog ops Q (o :: rest) a W := by
  refine wpList_plain hgd fun K' hK' => ?_
  have hrun := @run_makeMap Tryz.prog t W
  unfold Oper.wp
  simp [execOp, hop, hrun, Result.andThen]
  obtain ⟨h1, h2⟩ := mapf_new HS
  exact hK' _ _ (h _ _ h1 (HB.trans h2))
theorem S_insert (hgd : o.guard = none) (m x y : Operand) (t e : TypeId) (hop : o.op = Op.insert t m x y) (ht : Tryz.prog.underlying t = some (.map 3 e)) (b : Nat) (l : List (Int × Value)) (i : Int) (v : Value)
    (hm : a.eval m = .map (some b)) (hx : a.eval x = .int .i64 i) (hy : a.eval y = v) (hv : lk i l = none) (HS : St N W (MapF b l :: L)) (HB : Below N w0 W)
    (h : ∀ w1, St N w1 (MapF b (l ++ [(i, v)]) :: L) → Below N w0 w1 → wpList Tryz.prog ops Q rest (a.put o.dst undef) w1) : wpList Tryz.prog ops Q (o :: rest) a W := by
  obtain ⟨ob, hr, hs⟩ := mapf_insert t e ht i v hv (mapf_at HS)
  obtain ⟨h1, h2⟩ := mapf_put HS hs
  refine wpList_plain hgd fun K' hK' => ?_
  unfold Oper.wp
  simp [execOp, hop, hm, hx, hy, hr, Result.andThen]
  exact hK' _ _ (h _ h1 (HB.trans h2))
end
end Go.Proofs.YtcjfgejiknlpfaaGreat.PI
