/- A map from keys of events to 'true', as a piece of memory. -/
import Derived.Test.YtcjfgejiknlpfaaSq3
import Derived.Maps.OwnOps
import Derived.Laws.StructEq
namespace Go.Proofs.Ytcjfgejiknlpfaa.PI
open Go.RowKit Go.Proofs.YtcjfgejiknlpfaaW.PrintWords Go.Proofs.YtcjfgejiknlpfaaW.PrintLast Go.Proofs.YtcjfgejiknlpfaaW.PrintMore Go.Proofs.Ytcjfgejiknlpfaa.Sep
open Go.ChangeMaps (setBlock)
set_option linter.unusedVariables false
set_option linter.unusedSimpArgs false
set_option maxRecDepth 100000
def keyV (k : S25) : Value := .agg #[.string k.f0, .int .i64 k.f1]
theorem keyV_inj {x y : S25} (h : keyV x = keyV y) : x = y := by
  obtain ⟨a, b⟩ := x
  obtain ⟨c, d⟩ := y
  simp [keyV] at h
  rw [h.1, h.2]
theorem fields25 : Try.prog.fieldsOf 25 = #[{ name := "Author", type := 9, offset := 0, embedded := false, tag := "", pkgPath := "", byteOffset := 0 }, { name := "Seq", type := 3, offset := 1, embedded := false, tag := "", pkgPath := "", byteOffset := 16 }] := by simp [Program.fieldsOf, Try.underlying25]
theorem equal25 (x y : S25) (w : World) : (Op.equal 25 (keyV x) (keyV y)).run Try.prog w = .ok (decide (x = y)) w := by
  have h := run_equalIn_struct (P := Try.prog) w 9999 25 #[.string x.f0, .int .i64 x.f1] #[.string y.f0, .int .i64 y.f1] (by rw [fields25]; exact Try.underlying25) (by kernel_rfl)
  have e : (Op.equal 25 (keyV x) (keyV y)).run Try.prog w = .ok ((x.f0.toList == y.f0.toList) && (x.f1 == y.f1)) w := by
    unfold Op.equal keyV
    refine h.trans ?_
    rw [fields25]
    refine eqf_cons rfl (a := .string x.f0) (b := .string y.f0) (by go_simp) (by go_simp) (by go_simp) ?_
    exact eqf_last rfl (a := .int .i64 x.f1) (b := .int .i64 y.f1) (by go_simp) (by go_simp) (by go_simp)
  rw [e]
  congr 1
  obtain ⟨a, b⟩ := x
  obtain ⟨c, d⟩ := y
  by_cases h1 : a = c
  · subst h1
    by_cases h2 : b = d
    · subst h2; simp
    · simp [h2]
  · have h3 : ¬ a.toList = c.toList := fun h => h1 (bytes_ext _ _ h)
    simp [h1, h3]
theorem check_str (s : ByteArray) (em : Bool) (n : Nat) (w : World) : (Instr.checkKey em (n + 1) 9 (.string s)).run Try.prog w = .ok () w := by simp [Instr.checkKey, run_underlying Try.underlying9]
theorem check_int (i : Int) (em : Bool) (n : Nat) (w : World) : (Instr.checkKey em (n + 1) 3 (.int .i64 i)).run Try.prog w = .ok () w := by simp [Instr.checkKey, run_underlying Try.underlying3]
theorem check_n (k : S25) (em : Bool) (n : Nat) (w : World) : (Instr.checkKey em (n + 1 + 1) 25 (keyV k)).run Try.prog w = .ok () w := by
  have p0 : (part 9 #[.string k.f0, .int .i64 k.f1] 0).run Try.prog w = .ok (.string k.f0) w := by go_simp
  have p1 : (part 3 #[.string k.f0, .int .i64 k.f1] 1).run Try.prog w = .ok (.int .i64 k.f1) w := by go_simp
  unfold keyV
  rw [Instr.checkKey]
  simp [run_underlying Try.underlying25, p0, p1, check_str, check_int]
theorem check25 (k : S25) (em : Bool) (w : World) : (Instr.checkKey em 10000 25 (keyV k)).run Try.prog w = .ok () w := check_n k em 9998 w
theorem find_asking (k : S25) (w : World) : ∀ (es : List MapEntry), (∀ e ∈ es, ∃ k', e.key = keyV k') → ∀ i,
    ((Instr.findAsking 25 (keyV k) es i).run Try.prog w = .ok none w ∧ ∀ e ∈ es, e.key ≠ keyV k) ∨ ∃ j e, (Instr.findAsking 25 (keyV k) es i).run Try.prog w = .ok (some (j, e.val)) w ∧ e ∈ es ∧ e.key = keyV k
  | [], _, i => .inl ⟨by simp [Instr.findAsking], by simp⟩
  | e :: es, h, i => by
    obtain ⟨k', hk⟩ := h e List.mem_cons_self
    have hq := equal25 k k' w
    by_cases he : k = k'
    · subst he
      refine .inr ⟨i, e, ?_, List.mem_cons_self, hk⟩
      simp [Instr.findAsking, hk, hq]
    · have hd : decide (k = k') = false := decide_eq_false he
      rw [hd] at hq
      rcases find_asking k w es (fun e' h' => h e' (List.mem_cons_of_mem _ h')) (i + 1) with ⟨h1, h2⟩ | ⟨j, e', h1, h2, h3⟩
      · refine .inl ⟨by simp [Instr.findAsking, hk, hq, h1], fun e' h' => ?_⟩
        rcases List.mem_cons.mp h' with rfl | h'
        · rw [hk]; exact fun h => he (keyV_inj h).symm
        · exact h2 e' h'
      · exact .inr ⟨j, e', by simp [Instr.findAsking, hk, hq, h1], List.mem_cons_of_mem _ h2, h3⟩
theorem find_key (k : S25) (w : World) (es : List MapEntry) (h : ∀ e ∈ es, ∃ k', e.key = keyV k') :
    ((Instr.findKey 25 (keyV k) es).run Try.prog w = .ok none w ∧ ∀ e ∈ es, e.key ≠ keyV k) ∨ ∃ j e, (Instr.findKey 25 (keyV k) es).run Try.prog w = .ok (some (j, e.val)) w ∧ e ∈ es ∧ e.key = keyV k := by
  cases es with
  | nil => exact .inl ⟨by simp [Instr.findKey, run_underlying Try.underlying25, Instr.findNow], by simp⟩
  | cons e es =>
    have hn : Instr.findNow (.struct #[{ name := "Author", type := 9, offset := 0, embedded := false, tag := "", pkgPath := "", byteOffset := 0 }, { name := "Seq", type := 3, offset := 1, embedded := false, tag := "", pkgPath := "", byteOffset := 16 }]) (keyV k) (e :: es) 0 = none := by
      obtain ⟨k', hk⟩ := h e List.mem_cons_self
      simp [Instr.findNow, Instr.sameNow, keyV]
    have hf : ∀ r, (Instr.findAsking 25 (keyV k) (e :: es)).run Try.prog w = r → (Instr.findKey 25 (keyV k) (e :: es)).run Try.prog w = r := by
      intro r hr
      simp [Instr.findKey, run_underlying Try.underlying25, hn, hr]
    rcases find_asking k w (e :: es) h 0 with ⟨h1, h2⟩ | ⟨j, e', h1, h2, h3⟩
    · exact .inl ⟨hf _ h1, h2⟩
    · exact .inr ⟨j, e', hf _ h1, h2, h3⟩
/-- A map that says 'true' at just these keys. -/
def SeenAt (b : Nat) (ks : List S25) (w : World) : Prop :=
  ∃ es clock, w.heap[b]? = some (.map es clock) ∧ (∀ e ∈ es.toList, ∃ k, k ∈ ks ∧ e.key = keyV k ∧ e.val = .bool true) ∧ ∀ k ∈ ks, ∃ e ∈ es.toList, e.key = keyV k
def Seen (b : Nat) (ks : List S25) : Res where
  sat := fun _ w F => F b ∧ SeenAt b ks w
  move := fun hm ⟨hf, es, clock, h, h1⟩ => ⟨hf, es, clock, (hm b hf (Array.getElem?_eq_some_iff.1 h).1).trans h, h1⟩
  mono := fun hm h => ⟨hm _ h.1, h.2⟩
section
variable {N : Nat} {w w0 : World} {L : List Res} {b : Nat} {ks : List S25}
theorem seen_at (h : St N w (Seen b ks :: L)) : SeenAt b ks w := by
  obtain ⟨_, _, g1, _⟩ := h.own
  exact g1.2
theorem seen_ge (h : St N w (Seen b ks :: L)) : N ≤ b := by
  obtain ⟨_, g0, g1, _⟩ := h.own
  exact (g0 _ g1.1).2.1
theorem seen_new (h : St N w L) : St N (w.alloc (.map #[] 0)) (Seen w.heap.size [] :: L) ∧ Below N w (w.alloc (.map #[] 0)) := by
  have hb : Below w.heap.size w (w.alloc (.map #[] 0)) := (Below.refl _ _).alloc (Nat.le_refl _) _
  refine ⟨h.add hb ⟨fun k => k = w.heap.size, fun k hk => ?_, rfl, #[], 0, heap_new w _, by simp, by simp⟩, hb.mono h.size⟩
  subst hk
  exact ⟨Nat.le_refl _, by simp⟩
theorem lookup_seen (k : S25) (h : SeenAt b ks w) : (Instr.lookup 73 (.map (some b)) (keyV k) false).run Try.prog w = .ok (.bool (decide (k ∈ ks))) w := by
  obtain ⟨es, clock, hb, h1, h2⟩ := h
  rcases find_key k w es.toList (fun e he => by obtain ⟨k', _, h3, _⟩ := h1 e he; exact ⟨k', h3⟩) with ⟨h3, h4⟩ | ⟨j, e, h3, h4, h5⟩
  · have hn : k ∉ ks := fun hk => by obtain ⟨e, he, hk⟩ := h2 k hk; exact h4 e he hk
    rw [decide_eq_false hn]
    simp [Instr.lookup, run_underlying Try.underlying73, MapKept.run_getObj_map hb, check25, h3, Try.zeroValue4, Result.andThen]
  · obtain ⟨k', hk', h6, h7⟩ := h1 e h4
    have : k = k' := keyV_inj (h5.symm.trans h6)
    subst this
    rw [decide_eq_true hk']
    simp [Instr.lookup, run_underlying Try.underlying73, MapKept.run_getObj_map hb, check25, h3, h7, Result.andThen]
theorem update_seen (k : S25) (hn : k ∉ ks) (h : SeenAt b ks w) : ∃ o, (Instr.mapUpdate 73 (.map (some b)) (keyV k) (.bool true)).run Try.prog w = .ok () (setBlock w b o) ∧ SeenAt b (ks ++ [k]) (setBlock w b o) := by
  obtain ⟨es, clock, hb, h1, h2⟩ := h
  rcases find_key k w es.toList (fun e he => by obtain ⟨k', _, h3, _⟩ := h1 e he; exact ⟨k', h3⟩) with ⟨h3, h4⟩ | ⟨j, e, h3, h4, h5⟩
  · refine ⟨.map (es.push ⟨keyV k, .bool true, clock⟩) (clock + 1), ?_, es.push ⟨keyV k, .bool true, clock⟩, clock + 1, ?_, ?_, ?_⟩
    · simp [Instr.mapUpdate, run_underlying Try.underlying73, MapKept.run_getObj_map hb, check25, h3, MapKept.run_setObj_map _ hb, Result.andThen, setBlock]
    · show (w.heap.setIfInBounds b _)[b]? = _
      rw [Array.getElem?_setIfInBounds_self_of_lt (Array.getElem?_eq_some_iff.1 hb).1]
    · intro e he
      simp only [Array.toList_push, List.mem_append, List.mem_singleton] at he
      rcases he with he | rfl
      · obtain ⟨k', h5, h6, h7⟩ := h1 e he
        exact ⟨k', List.mem_append_left _ h5, h6, h7⟩
      · exact ⟨k, by simp, rfl, rfl⟩
    · intro k' hk'
      rcases List.mem_append.mp hk' with hk' | hk'
      · obtain ⟨e, he, h5⟩ := h2 k' hk'
        exact ⟨e, by simp [he], h5⟩
      · simp at hk'
        subst hk'
        exact ⟨⟨keyV k', .bool true, clock⟩, by simp, rfl⟩
  · obtain ⟨k', hk', h6, h7⟩ := h1 e h4
    have : k = k' := keyV_inj (h5.symm.trans h6)
    exact absurd (this ▸ hk') hn
theorem seen_put {o : Obj} (h : St N w (Seen b ks :: L)) {ks' : List S25} (hs : SeenAt b ks' (setBlock w b o)) : St N (setBlock w b o) (Seen b ks' :: L) ∧ Below N w (setBlock w b o) := by
  have hsz : (setBlock w b o).heap.size = w.heap.size := by simp [setBlock]
  have hoth : ∀ k, k ≠ b → (setBlock w b o).heap[k]? = w.heap[k]? := fun k hk => by
    show (w.heap.setIfInBounds b o)[k]? = _
    rw [Array.getElem?_setIfInBounds_ne (fun e => hk e.symm)]
  exact ⟨h.upd (Nat.le_of_eq hsz.symm) (fun G g0 hg => ⟨fun k hk hn => hoth k (fun e => hn (e ▸ hg.1)), G, fun k hk => ⟨.inl hk, by rw [hsz]; exact (g0 k hk).2⟩, hg.1, hs⟩),
    rfl, rfl, rfl, Nat.le_of_eq hsz.symm, fun k hk => hoth k (by have := seen_ge h; omega)⟩
end
/-! ### the two operations, in a walk -/
section
variable {P : Program} {ops : Array Oper} {rest : List Oper} {o : Oper} {a : Act} {Q : Exit → Act → World → Prop}
theorem S_lookup {w : World} (hgd : o.guard = none) (m x : Operand) (t : TypeId) (hop : o.op = Op.lookup t m x false) (mv key v : Value) (hm : a.eval m = mv) (hx : a.eval x = key)
    (hrun : (Instr.lookup t mv key false).run P w = .ok v w) (h : wpList P ops Q rest (a.put o.dst v) w) : wpList P ops Q (o :: rest) a w := by
  refine wpList_plain hgd fun K' hK' => ?_
  unfold Oper.wp
  simp [execOp, hop, hm, hx, hrun, Result.andThen]
  exact hK' _ _ h
theorem S_update {w w1 : World} (hgd : o.guard = none) (m x y : Operand) (t : TypeId) (hop : o.op = Op.mapUpdate t m x y) (mv key v : Value) (hm : a.eval m = mv) (hx : a.eval x = key) (hy : a.eval y = v)
    (hrun : (Instr.mapUpdate t mv key v).run P w = .ok () w1) (h : wpList P ops Q rest (a.put o.dst undef) w1) : wpList P ops Q (o :: rest) a w := by
  refine wpList_plain hgd fun K' hK' => ?_
  unfold Oper.wp
  simp [execOp, hop, hm, hx, hy, hrun, Result.andThen]
  exact hK' _ _ h
end
end Go.Proofs.Ytcjfgejiknlpfaa.PI
