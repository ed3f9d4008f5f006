/- A store of an event into a row, the clearing of a row's end, equal neighbours taken together: as pieces of memory. -/
import Derived.Test.YtcjfgejiknlpfaaGreatJ2
import Derived.Test.YtcjfgejiknlpfaaGreatSq16
import Derived.Test.YtcjfgejiknlpfaaGreatJ1
import Derived.Laws.IdiomCopy
namespace Go.Proofs.YtcjfgejiknlpfaaGreat.PI
open Go.RowKit Go.Proofs.YtcjfgejiknlpfaaGreatW.PrintWords Go.Proofs.YtcjfgejiknlpfaaGreatW.PrintLast Go.Proofs.YtcjfgejiknlpfaaGreatW.PrintMore Go.Proofs.YtcjfgejiknlpfaaGreat.Sep
set_option linter.unusedVariables false
set_option linter.unusedSimpArgs false
set_option maxRecDepth 100000
section
variable {N : Nat} {w w0 w1 : World} {L : List Res} {g n cap : Nat} {l : List S50}
theorem St.rowB (h : St N w (Row k50 50 (.slice (some ⟨g, 0, none⟩) n cap) l :: L)) : n = l.length ∧ ∃ cur : List Value, l.length ≤ cap ∧ cap ≤ maxLen ∧ cur.length = cap * 9 ∧ cur.take (l.length * 9) = encs enc50 l ∧ St N w (Blk g cur.toArray 50 :: L) := by
  rcases St.open_row flat50 h with ⟨e, _⟩ | ⟨g', cap', cur, e, h1, h2, h3, h4, h5⟩
  · cases e
  · cases e
    exact ⟨rfl, cur, h1, h2, h3, h4, h5⟩
theorem setCells_piece : ∀ (vs : List Value) (o : Nat) (cs : List Value) (w : World), St N w (Blk g cs.toArray 50 :: L) → ∃ cs' : List Value, cs'.length = cs.length ∧ cs'.take o = cs.take o ∧ St N (w.setCells g o vs) (Blk g cs'.toArray 50 :: L)
  | [], o, cs, w, h => ⟨cs, rfl, rfl, h⟩
  | v :: vs, o, cs, w, h => by
    have h1 := h.set o v (cs.set o v).toArray (by simp)
    obtain ⟨cs', e1, e2, e3⟩ := setCells_piece vs (o + 1) (cs.set o v) _ h1
    refine ⟨cs', by rw [e1, List.length_set], ?_, e3⟩
    have := congrArg (List.take o) e2
    rw [List.take_take, List.take_take, Nat.min_eq_left (by omega)] at this
    rw [this, List.take_set, List.set_eq_of_length_le (by rw [List.length_take]; omega)]
theorem below_cells (hg : N ≤ g) : ∀ (vs : List Value) (o : Nat) (w : World), Below N w0 w → Below N w0 (w.setCells g o vs)
  | [], o, w, h => h
  | v :: vs, o, w, h => below_cells hg vs (o + 1) _ (h.setCell hg _)
theorem St.clearR (h : St N w (Row k50 50 (.slice (some ⟨g, 0, none⟩) n cap) l :: L)) (m : Nat) (hm : m ≤ l.length) (vs : List Value) (hb : Below N w0 w) (e : w1 = w.setCells g (m * 9) vs) : St N w1 (Row k50 50 (.slice (some ⟨g, 0, none⟩) m cap) (l.take m) :: L) ∧ Below N w0 w1 := by
  subst e
  obtain ⟨rfl, cur, h1, h2, h3, h4, h5⟩ := St.rowB h
  obtain ⟨cs', e1, e2, e3⟩ := setCells_piece vs (m * 9) cur w h5
  refine ⟨?_, below_cells h5.ge vs _ w hb⟩
  have hl : (l.take m).length = m := by rw [List.length_take]; omega
  have := St.shut_row flat50 (xs := l.take m) e3 (by rw [hl]; omega) h2 (by rw [e1]; exact h3) (by
    rw [hl]
    show cs'.take (m * 9) = _
    have e5 : encs enc50 (l.take m) = (encs enc50 l).take (m * 9) := (encs_take flat50 l m hm).symm
    rw [e2, e5, ← h4, List.take_take]
    show _ = cur.take (min (m * 9) (l.length * 9))
    rw [Nat.min_eq_left (by omega)])
  rwa [hl] at this
theorem fldy {D : List S50} {i : Nat} (j : Nat) (u : Value) (x x' : S50) (he : (enc50 x).set j u = enc50 x') (hj : j < 9) (h : St N w (Row k50 50 (.slice (some ⟨g, 0, none⟩) n cap) (D.set i x) :: L)) (hi : i < D.length) (hb : Below N w0 w) :
    St N (w.setCell ⟨g, i * 9 + j, none⟩ u) (Row k50 50 (.slice (some ⟨g, 0, none⟩) n cap) (D.set i x') :: L) ∧ Below N w0 (w.setCell ⟨g, i * 9 + j, none⟩ u) := by
  have := St.field flat50 h i j u x' (by rw [List.length_set]; exact hi) hj (by rw [List.getElem_set_self]; exact he) hb
  rwa [List.set_set] at this
theorem setEl {D : List S50} {i : Nat} (x : S50) (h : St N w (Row k50 50 (.slice (some ⟨g, 0, none⟩) n cap) D :: L)) (hi : i < D.length) (hb : Below N w0 w)
    (e : w1 = ((((((((w.setCell ⟨g, i * 9, none⟩ (.string x.f0.f0)).setCell ⟨g, i * 9 + 1, none⟩ (.int .i64 x.f0.f1)).setCell ⟨g, i * 9 + 2, none⟩ (.int .i64 x.f1)).setCell ⟨g, i * 9 + 3, none⟩ (.int .i64 x.f2)).setCell ⟨g, i * 9 + 4, none⟩ (.string x.f3.f0)).setCell ⟨g, i * 9 + 5, none⟩ (.int .i64 x.f3.f1)).setCell ⟨g, i * 9 + 6, none⟩ (.string x.f4)).setCell ⟨g, i * 9 + 7, none⟩ (.int .i64 x.f5)).setCell ⟨g, i * 9 + 8, none⟩ (.string x.f6)) :
    St N w1 (Row k50 50 (.slice (some ⟨g, 0, none⟩) n cap) (D.set i x) :: L) ∧ Below N w0 w1 := by
  subst e
  have h' : St N w (Row k50 50 (.slice (some ⟨g, 0, none⟩) n cap) (D.set i D[i]) :: L) := by rw [List.set_getElem_self]; exact h
  generalize D[i] = y at h'
  obtain ⟨⟨y0, y1⟩, y2, y3, ⟨y4, y5⟩, y6, y7, y8⟩ := y
  have s0 := fldy 0 (.string x.f0.f0) ⟨⟨y0, y1⟩, y2, y3, ⟨y4, y5⟩, y6, y7, y8⟩ ⟨⟨x.f0.f0, y1⟩, y2, y3, ⟨y4, y5⟩, y6, y7, y8⟩ rfl (by decide) h' hi hb
  have s1 := fldy 1 (.int .i64 x.f0.f1) ⟨⟨x.f0.f0, y1⟩, y2, y3, ⟨y4, y5⟩, y6, y7, y8⟩ ⟨⟨x.f0.f0, x.f0.f1⟩, y2, y3, ⟨y4, y5⟩, y6, y7, y8⟩ rfl (by decide) s0.1 hi s0.2
  have s2 := fldy 2 (.int .i64 x.f1) ⟨⟨x.f0.f0, x.f0.f1⟩, y2, y3, ⟨y4, y5⟩, y6, y7, y8⟩ ⟨⟨x.f0.f0, x.f0.f1⟩, x.f1, y3, ⟨y4, y5⟩, y6, y7, y8⟩ rfl (by decide) s1.1 hi s1.2
  have s3 := fldy 3 (.int .i64 x.f2) ⟨⟨x.f0.f0, x.f0.f1⟩, x.f1, y3, ⟨y4, y5⟩, y6, y7, y8⟩ ⟨⟨x.f0.f0, x.f0.f1⟩, x.f1, x.f2, ⟨y4, y5⟩, y6, y7, y8⟩ rfl (by decide) s2.1 hi s2.2
  have s4 := fldy 4 (.string x.f3.f0) ⟨⟨x.f0.f0, x.f0.f1⟩, x.f1, x.f2, ⟨y4, y5⟩, y6, y7, y8⟩ ⟨⟨x.f0.f0, x.f0.f1⟩, x.f1, x.f2, ⟨x.f3.f0, y5⟩, y6, y7, y8⟩ rfl (by decide) s3.1 hi s3.2
  have s5 := fldy 5 (.int .i64 x.f3.f1) ⟨⟨x.f0.f0, x.f0.f1⟩, x.f1, x.f2, ⟨x.f3.f0, y5⟩, y6, y7, y8⟩ ⟨⟨x.f0.f0, x.f0.f1⟩, x.f1, x.f2, ⟨x.f3.f0, x.f3.f1⟩, y6, y7, y8⟩ rfl (by decide) s4.1 hi s4.2
  have s6 := fldy 6 (.string x.f4) ⟨⟨x.f0.f0, x.f0.f1⟩, x.f1, x.f2, ⟨x.f3.f0, x.f3.f1⟩, y6, y7, y8⟩ ⟨⟨x.f0.f0, x.f0.f1⟩, x.f1, x.f2, ⟨x.f3.f0, x.f3.f1⟩, x.f4, y7, y8⟩ rfl (by decide) s5.1 hi s5.2
  have s7 := fldy 7 (.int .i64 x.f5) ⟨⟨x.f0.f0, x.f0.f1⟩, x.f1, x.f2, ⟨x.f3.f0, x.f3.f1⟩, x.f4, y7, y8⟩ ⟨⟨x.f0.f0, x.f0.f1⟩, x.f1, x.f2, ⟨x.f3.f0, x.f3.f1⟩, x.f4, x.f5, y8⟩ rfl (by decide) s6.1 hi s6.2
  have s8 := fldy 8 (.string x.f6) ⟨⟨x.f0.f0, x.f0.f1⟩, x.f1, x.f2, ⟨x.f3.f0, x.f3.f1⟩, x.f4, x.f5, y8⟩ ⟨⟨x.f0.f0, x.f0.f1⟩, x.f1, x.f2, ⟨x.f3.f0, x.f3.f1⟩, x.f4, x.f5, x.f6⟩ rfl (by decide) s7.1 hi s7.2
  exact s8
theorem row_fz (h : St N w (Row k50 50 (.slice (some ⟨g, 0, none⟩) n cap) l :: L)) (i : Nat) : w.frozen? ⟨g, i, none⟩ = false := by
  obtain ⟨_, cur, _, _, _, _, h5⟩ := St.rowB h
  exact h5.frozen _
end
/-! ### clear -/
def zs50 (n : Nat) : List Value := (Builtin.zeroCells #[.string ⟨#[]⟩, .int .i64 0, .int .i64 0, .int .i64 0, .string ⟨#[]⟩, .int .i64 0, .string ⟨#[]⟩, .int .i64 0, .string ⟨#[]⟩] n).toList
theorem zs50_len (n : Nat) : (zs50 n).length = n * 9 := by unfold zs50 Builtin.zeroCells; simp
theorem zs50_one (n : Nat) : ∀ v ∈ zs50 n, v.oneCell' = true := by
  intro v hv
  unfold zs50 Builtin.zeroCells at hv
  simp only [Array.toList_map, List.mem_map] at hv
  obtain ⟨i, _, rfl⟩ := hv
  have h2 : i % 9 = 0 ∨ i % 9 = 1 ∨ i % 9 = 2 ∨ i % 9 = 3 ∨ i % 9 = 4 ∨ i % 9 = 5 ∨ i % 9 = 6 ∨ i % 9 = 7 ∨ i % 9 = 8 := by omega
  show Value.oneCell' ((#[Value.string ⟨#[]⟩, Value.int IntKind.i64 0, Value.int IntKind.i64 0, Value.int IntKind.i64 0, Value.string ⟨#[]⟩, Value.int IntKind.i64 0, Value.string ⟨#[]⟩, Value.int IntKind.i64 0, Value.string ⟨#[]⟩] : Array Value)[i % 9]!) = true
  rcases h2 with h2 | h2 | h2 | h2 | h2 | h2 | h2 | h2 | h2 <;> rw [h2] <;> rfl
theorem run_clear27 (w : World) (ty g o n c : Nat) (hn : 0 < n) (hc : ∀ j, j < n * 9 → (w.cell? ⟨g, o + j, none⟩).isSome = true) (hf : ∀ j, j < n * 9 → w.frozen? ⟨g, o + j, none⟩ = false) :
    (Builtin.clear_ #[25] ty #[.slice (some ⟨g, o, none⟩) n c]).run Tryz.prog w = .ok (.tuple #[]) (w.setCells g o (zs50 n)) := by
  have hst := run_storeCells_cells (P := Tryz.prog) g o (zs50 n) 0 w (by rw [zs50_len]; simpa using hc) (by rw [zs50_len]; simpa using hf) (zs50_one n)
  simp only [Nat.add_zero] at hst
  obtain ⟨m, rfl⟩ : ∃ m, n = m + 1 := ⟨n - 1, by omega⟩
  have hz : ((Value.agg #[Value.string ⟨#[]⟩, Value.int IntKind.i64 0, Value.int IntKind.i64 0, Value.int IntKind.i64 0, Value.string ⟨#[]⟩, Value.int IntKind.i64 0, Value.string ⟨#[]⟩, Value.int IntKind.i64 0, Value.string ⟨#[]⟩]).cells) = #[.string ⟨#[]⟩, .int .i64 0, .int .i64 0, .int .i64 0, .string ⟨#[]⟩, .int .i64 0, .string ⟨#[]⟩, .int .i64 0, .string ⟨#[]⟩] := rfl
  unfold zs50 at hst ⊢
  simp [Builtin.clear_, run_underlying Tryz.underlying25, Tryz.zeroValue50, hz, hst]
section
variable {ops : Array Oper} {rest : List Oper} {o : Oper} {a : Act} {Q : Exit → Act → World → Prop} {N : Nat} {L : List Res} {w0 : World}
theorem S_clear27 {W : World} (hgd : o.guard = none) (s : Operand) (ho : o.op = .call { callee := .builtin .clear, args := #[s], argTypes := #[25] }) (hd : o.dst = none)
    (g n cap m d c : Nat) (l : List S50) (A : Addr) (hA : A = ⟨g, m * 9, none⟩) (hs : a.eval s = .slice (some A) d c) (hm : m < l.length) (hdn : d = l.length - m)
    (HS : St N W (Row k50 50 (.slice (some ⟨g, 0, none⟩) n cap) l :: L)) (HB : Below N w0 W)
    (h : ∀ w1, St N w1 (Row k50 50 (.slice (some ⟨g, 0, none⟩) m cap) (l.take m) :: L) → Below N w0 w1 → wpList Tryz.prog ops Q rest a w1) : wpList Tryz.prog ops Q (o :: rest) a W := by
  subst hA hdn
  refine wpList_plain hgd fun K hK => ?_
  obtain ⟨e, cur, h1, h2, h3, h4, h5⟩ := St.rowB HS
  have hrun := run_clear27 W o.type g (m * 9) (l.length - m) c (by omega) (fun j hj => by
    rw [h5.cell (m * 9 + j), List.getElem?_toArray, List.getElem?_eq_getElem (by omega)]; rfl) (fun j hj => h5.frozen _)
  unfold Oper.wp
  simp [execOp, ho, resolve, invoke, builtin, hs, hrun, Result.andThen]
  obtain ⟨h6, h7⟩ := St.clearR HS m (by omega) (zs50 (l.length - m)) HB rfl
  refine hK _ _ ?_
  have := h _ h6 h7
  simpa [Act.put, hd] using this
end
/-- Equal neighbours taken together: of the first i places. -/
def cp (l : List S50) : Nat → List S50
  | 0 => []
  | i + 1 => if 0 < i ∧ rd_T50 l (i : Int) = rd_T50 l ((i - 1 : Nat) : Int) then cp l i else cp l i ++ [rd_T50 l (i : Int)]
theorem cp_one (l : List S50) : cp l 1 = [rd_T50 l ((0 : Nat) : Int)] := by simp [cp]
theorem cp_len (l : List S50) : ∀ i, (cp l i).length ≤ i
  | 0 => Nat.le_refl _
  | i + 1 => by
    have := cp_len l i
    rw [cp]
    split
    · omega
    · rw [List.length_append]; simp; omega
theorem cp_hit (l : List S50) (i : Nat) (hi : 0 < i) (h : rd_T50 l (i : Int) = rd_T50 l ((i - 1 : Nat) : Int)) : cp l (i + 1) = cp l i := by rw [cp, if_pos ⟨hi, h⟩]
theorem cp_miss (l : List S50) (i : Nat) (h : ¬ rd_T50 l (i : Int) = rd_T50 l ((i - 1 : Nat) : Int)) : cp l (i + 1) = cp l i ++ [rd_T50 l (i : Int)] := by rw [cp, if_neg (fun g => h g.2)]
theorem rd_set27 (l : List S50) (i j : Nat) (x : S50) (hi : i < l.length) : rd_T50 (l.set i x) (j : Int) = if i = j then x else rd_T50 l (j : Int) := by
  unfold rd_T50
  rw [Int.toNat_natCast, List.getD_eq_getElem?_getD, List.getD_eq_getElem?_getD, List.getElem?_set]
  by_cases h : i = j
  · subst h; simp [hi]
  · simp [h]
end Go.Proofs.YtcjfgejiknlpfaaGreat.PI
