/- A row of bytes to which a string is appended; a Writer (a box with a row of bytes) as one piece. Condition: the row and the string together are no longer than the machine's address room. -/
import Derived.Test.YtddhpkobingmhaaJ6
import Derived.Lib.AppendStr
namespace Go.Proofs.Ytddhpkobingmhaa.Sep
open Go.RowKit Go.Proofs.YtddhpkobingmhaaW.PrintWords Go.Proofs.YtddhpkobingmhaaW.PrintLast
set_option linter.unusedVariables false
set_option maxRecDepth 100000
section
variable {P : Program} {ops : Array Oper} {rest : List Oper} {o : Oper} {a : Act} {Q : Exit → Act → World → Prop} {N : Nat} {L : List Res}
theorem append_str_own {w : World} (base : Nat) (t u ty e : TypeId) (i : TypeInfo) (ht : P.underlying t = some (.slice e)) (hu : P.underlying u = some .string) (hi : P.info? e = some i) (hz : i.zero = some (.int .u8 0)) (hsize : i.size = 1) (hby : i.bytes = 1)
    (v : Value) (n : Nat) (xs : List Value) (hown : w.ownsRow base e 1 v n xs) (s : ByteArray) (hl : n + s.size ≤ 140737488355328) (hbase : base ≤ w.heap.size) :
    ∃ v1 w1, (Builtin.append_ #[t, u] ty #[v, .string s]).run P w = .ok v1 w1 ∧ w1.ownsRow base e 1 v1 (n + s.size) (xs ++ Lib.strCells s) ∧ w.grownBy w1 v.ownBlock ∧ (v1.ownBlock = v.ownBlock ∨ ∃ b, v1.ownBlock = some b ∧ w.heap.size ≤ b) := by
  obtain ⟨v1, w1, hr, h2, h3, h4⟩ := Lib.run_append_own_string (P := P) w base t u ty e i ht hu hi hz hsize hby v n xs hown s (by simp only [maxLen]; omega) hl hbase
  refine ⟨v1, w1, hr, h2, h3, ?_⟩
  have same : ∀ {x : Value} {y : World}, (Builtin.append_ #[t, u] ty #[v, .string s]).run P w = .ok x y → v1 = x := by
    intro x y h
    rw [hr] at h
    injection h
  rcases hown.2 with ⟨rfl, hc⟩ | ⟨g, cap, cur, rfl, hbg, hg, hnc, hcm, hcs, htake⟩
  · by_cases hm : s.size = 0
    · subst hc
      rw [h4.mpr ⟨rfl, hm⟩]; exact .inl rfl
    · subst hc
      have e1 := same (run_append_nil_string (P := P) w t u ty e i (.int .u8 0) ht hu hi hz s (by omega) (by omega) (by rw [hby]; omega))
      subst e1
      exact .inr ⟨_, rfl, Nat.le_refl _⟩
  · by_cases hroom : n + s.size ≤ cap
    · have hcs' : cur.size = cap := by simpa using hcs
      have e1 := same (Lib.run_append_room_string (P := P) w t u ty e i ht hu hi hsize g n cap cur hg s hroom (by omega))
      subst e1
      exact .inl rfl
    · have hxl : xs.length = n := by simpa using hown.1
      have e1 := same (Lib.run_append_grow_string (P := P) w t u ty e i (.int .u8 0) ht hu hi hz ⟨g, 0, none⟩ n cap xs (by rw [hsize]; simpa using hxl) (hown.cells (g := g) rfl) s (by omega) (by omega) (by rw [hby]; exact growslice_fits (by omega) (by omega)))
      subst e1
      exact .inr ⟨_, rfl, Nat.le_refl _⟩
theorem strCells_encs (s : ByteArray) : Lib.strCells s = Go.Proofs.YtddhpkobingmhaaW.PrintWords.encs (Value.int .u8) (bytesOf s) := by
  unfold Lib.strCells Go.Proofs.YtddhpkobingmhaaW.PrintWords.encs bytesOf
  rw [List.map_map]; rfl
/-- append(v, s...), of a string's bytes. -/
theorem S_append_str {w0 W : World} (hgd : o.guard = none) (s x : Operand) (t u e : TypeId) (ho : o.op = .call { callee := .builtin .append, args := #[s, x], argTypes := #[t, u] })
    (ht : P.underlying t = some (.slice e)) (hu : P.underlying u = some .string) (hinfo : (P.info? e).map (fun i => (i.zero, i.size, i.bytes)) = some (some (.int .u8 0), 1, 1))
    (v : Value) (xs : List Int) (sb : ByteArray) (hs : a.eval s = v) (hx : a.eval x = .string sb) (HS : St N W (Row (Kd.int .u8) e v xs :: L)) (HB : Below N w0 W) (hl : xs.length + sb.size ≤ 140737488355328)
    (h : ∀ v1 w1, St N w1 (Row (Kd.int .u8) e v1 (xs ++ bytesOf sb) :: L) → Below N w0 w1 → wpList P ops Q rest (a.put o.dst v1) w1) : wpList P ops Q (o :: rest) a W := by
  obtain ⟨i0, hi, hzz⟩ := Option.map_eq_some_iff.1 hinfo
  simp only [Prod.mk.injEq] at hzz
  obtain ⟨hz0, hz1, hz2⟩ := hzz
  obtain ⟨G, g0, g1, g2⟩ := HS.own
  obtain ⟨hok, inner, hown, hr⟩ := g1
  obtain ⟨v1, w1, hrun, hown1, hg, hb⟩ := append_str_own (P := P) N t u o.type e i0 ht hu hi hz0 hz1 hz2 v xs.length inner hown sb hl HS.size
  refine wpList_plain hgd fun K hK => ?_
  unfold Oper.wp execOp
  simp only [ho, resolve, invoke, builtin, Sem.run_bind, Sem.run_pure, Result.andThen_ok, List.map_toArray, List.map_cons, List.map_nil, hs, hx, hrun]
  refine hK _ _ (h v1 w1 (St.regrow HS.size (fun k hk => (g0 k hk).2) ⟨hok, inner, hown, hr⟩ g2 ⟨fun k hk => ?_, inner ++ Lib.strCells sb, ?_, ?_⟩ hg.size hg) ?_)
  · rcases hb with hb | ⟨b, hb, hbs⟩
    · exact .inl (hok k (hb ▸ hk))
    · rw [hb] at hk; cases hk; exact .inr hbs
  · rw [List.length_append, bytesOf_length]; exact hown1
  · refine Kd.reps_append hr ?_
    rw [strCells_encs]
    exact Kd.reps_scalar _
  · exact HB.grown hg HS.size (fun k hk => (g0 k (hok k hk)).2.1)
end
end Go.Proofs.Ytddhpkobingmhaa.Sep
