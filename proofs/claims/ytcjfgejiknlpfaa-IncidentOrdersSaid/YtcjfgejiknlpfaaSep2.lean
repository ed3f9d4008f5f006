/- Rows of elements without rows inside, cell by cell: what copy, and an append of zeros that needs a new row, do. -/
import Derived.Test.YtcjfgejiknlpfaaSep
import Derived.Laws.CopyOwn
import Derived.Laws.CopyRow
import Derived.Lib.AppendZerosOnto
import Derived.Lib.Overlaps
namespace Go.Proofs.Ytcjfgejiknlpfaa.Sep
open Go.RowKit Go.Proofs.YtcjfgejiknlpfaaW.PrintWords Go.Proofs.YtcjfgejiknlpfaaW.PrintLast
set_option linter.unusedVariables false
set_option linter.unusedSectionVars false
/-- Elements that are their cells: enc. -/
structure Flat {α : Type} (d : Kd α) (enc : α → List Value) : Prop where
  K : ∀ {w x cs}, d.K w x cs → cs = enc x
  M : ∀ w base ok x, d.M w base ok x (enc x)
  sz : ∀ x, (enc x).length = d.sz
  one : ∀ x v, v ∈ enc x → v.oneCell' = true
def encs {α : Type} (enc : α → List Value) : List α → List Value
  | [] => []
  | x :: xs => enc x ++ encs enc xs
section
variable {α : Type} {d : Kd α} {enc : α → List Value} (F : Flat d enc)
include F
theorem encs_len : ∀ xs : List α, (encs enc xs).length = xs.length * d.sz
  | [] => by simp [encs]
  | x :: xs => by rw [encs, List.length_append, F.sz, encs_len xs, List.length_cons, Nat.succ_mul, Nat.add_comm]
theorem encs_append : ∀ xs ys : List α, encs enc (xs ++ ys) = encs enc xs ++ encs enc ys
  | [], _ => rfl
  | x :: xs, ys => by rw [List.cons_append, encs, encs, encs_append xs ys, List.append_assoc]
theorem encs_one : ∀ (xs : List α) v, v ∈ encs enc xs → v.oneCell' = true
  | [], v, h => by simp [encs] at h
  | x :: xs, v, h => by
    rcases List.mem_append.mp h with h | h
    · exact F.one x v h
    · exact encs_one xs v h
theorem encs_take (xs : List α) (i : Nat) (hi : i ≤ xs.length) : (encs enc xs).take (i * d.sz) = encs enc (xs.take i) := by
  have h : encs enc xs = encs enc (xs.take i) ++ encs enc (xs.drop i) := by rw [← encs_append F, List.take_append_drop]
  rw [h, List.take_left' (by rw [encs_len F, List.length_take]; congr 1; omega)]
theorem encs_drop (xs : List α) (i : Nat) (hi : i ≤ xs.length) : (encs enc xs).drop (i * d.sz) = encs enc (xs.drop i) := by
  have h : encs enc xs = encs enc (xs.take i) ++ encs enc (xs.drop i) := by rw [← encs_append F, List.take_append_drop]
  rw [h, List.drop_left' (by rw [encs_len F, List.length_take]; congr 1; omega)]
theorem reps_encs {R : α → List Value → Prop} (hR : ∀ x, R x (enc x)) : ∀ xs : List α, Reps R d.sz xs (encs enc xs)
  | [] => Reps.none _ _
  | x :: xs => by
    have ih := reps_encs hR xs
    refine ⟨by rw [encs_len F], fun j p hj => ?_⟩
    cases j with
    | zero =>
      simp at hj
      subst hj
      rw [Nat.zero_mul, List.drop_zero, encs, List.take_left' (F.sz x)]
      exact hR x
    | succ j =>
      have h2 := ih.2 j p (by simpa using hj)
      rw [encs, Nat.succ_mul, Nat.add_comm, ← List.drop_drop, List.drop_left' (F.sz x)]
      exact h2
theorem inner_encs {R : α → List Value → Prop} (hR : ∀ x cs, R x cs → cs = enc x) : ∀ (xs : List α) (inner : List Value), Reps R d.sz xs inner → inner = encs enc xs
  | [], inner, h => by
    have := h.1
    simp at this
    rw [this]; rfl
  | x :: xs, inner, h => by
    have h0 := hR x _ (h.2 0 x rfl)
    rw [Nat.zero_mul, List.drop_zero] at h0
    have h1 : Reps R d.sz xs (inner.drop d.sz) := by
      refine ⟨by rw [List.length_drop, h.1, List.length_cons, Nat.succ_mul]; omega, fun j p hj => ?_⟩
      have := h.2 (j + 1) p (by simpa using hj)
      rw [List.drop_drop, Nat.add_comm]
      rwa [Nat.succ_mul] at this
    rw [encs, ← inner_encs hR xs _ h1, ← h0, List.take_append_drop]
variable {N : Nat} {w w1 w0 : World} {L : List Res} {e : Nat} {v : Value} {xs : List α}
theorem St.open_row (h : St N w (Row d e v xs :: L)) : (v = .slice none 0 0 ∧ xs = []) ∨ ∃ (g cap : Nat) (cur : List Value), v = .slice (some ⟨g, 0, none⟩) xs.length cap ∧ xs.length ≤ cap ∧ cap ≤ maxLen ∧ cur.length = cap * d.sz ∧ cur.take (xs.length * d.sz) = encs enc xs ∧ St N w (Blk g cur.toArray e :: L) := by
  obtain ⟨G, g0, g1, g2⟩ := h.own
  obtain ⟨hk, inner, ⟨hl, ho⟩, hr⟩ := g1
  have hi := inner_encs F (fun x cs hm => F.K (d.K_of_M hm)) xs inner hr
  rcases ho with ⟨rfl, hn⟩ | ⟨g, cap, cur, rfl, hg, hh, hc, hc2, hsz, ht⟩
  · exact .inl ⟨rfl, List.eq_nil_of_length_eq_zero hn⟩
  · exact .inr ⟨g, cap, cur.toList, rfl, hc, hc2, by simpa using hsz, by rw [ht, hi], h.size, G, g0, ⟨hk g (by simp [Value.ownBlock]), by simpa using hh⟩, g2⟩
theorem St.shut_row {g cap : Nat} {cur : List Value} (h : St N w (Blk g cur.toArray e :: L)) (hc : xs.length ≤ cap) (hc2 : cap ≤ maxLen) (hsz : cur.length = cap * d.sz) (ht : cur.take (xs.length * d.sz) = encs enc xs) : St N w (Row d e (.slice (some ⟨g, 0, none⟩) xs.length cap) xs :: L) := by
  obtain ⟨G, g0, g1, g2⟩ := h.own
  refine ⟨h.size, G, g0, ⟨fun k hk => ?_, encs enc xs, ⟨encs_len F xs, .inr ⟨g, cap, cur.toArray, rfl, (g0 g g1.1).2.1, g1.2, hc, hc2, by simpa using hsz, by simpa using ht⟩⟩, reps_encs F (fun x => F.M _ _ _ x) xs⟩, g2⟩
  have : g = k := by simpa [Value.ownBlock] using hk
  exact this ▸ g1.1
end
theorem St.rowC {α : Type} {d : Kd α} {N : Nat} {w : World} {L : List Res} {e : Nat} {A : Option Addr} {n c : Nat} {xs : List α} (h : St N w (Row d e (.slice A n c) xs :: L)) : n = xs.length ∧ xs.length ≤ c ∧ d.C w A xs.length xs := by
  obtain ⟨A1, c1, e1, h1, h2⟩ := h.reads
  simp at e1
  obtain ⟨rfl, rfl, rfl⟩ := e1
  exact ⟨rfl, h1, h2⟩
theorem St.cutRow {α : Type} {d : Kd α} {enc : α → List Value} (F : Flat d enc) {N : Nat} {w : World} {L : List Res} {e : Nat} {A : Option Addr} {n c : Nat} {xs : List α} (h : St N w (Row d e (.slice A n c) xs :: L)) (k : Nat) (hk : k ≤ xs.length) : St N w (Row d e (.slice A k c) (xs.take k) :: L) := by
  rcases St.open_row F h with ⟨e1, h1⟩ | ⟨g, cap, cur, e1, h1, h2, h3, h4, h5⟩
  · subst h1
    simp at e1 hk
    obtain ⟨rfl, rfl, rfl⟩ := e1
    subst hk
    exact h
  · simp at e1
    obtain ⟨rfl, rfl, rfl⟩ := e1
    have hl : (xs.take k).length = k := by rw [List.length_take]; omega
    have := St.shut_row F (xs := xs.take k) h5 (by rw [hl]; omega) h2 h3 (by
      rw [hl, ← encs_take F xs k hk, ← h4, List.take_take, Nat.min_eq_left (Nat.mul_le_mul_right _ hk)])
    rwa [hl] at this
variable {N : Nat} {w w1 w0 : World} {L : List Res}
theorem St.ne {g g' : Nat} {cs cs' : Array Value} {t t' : TypeId} (h : St N w (Blk g cs t :: Blk g' cs' t' :: L)) : g ≠ g' := by
  obtain ⟨G, g0, g1, G2, h0, h1, _⟩ := h.own
  intro e
  exact (h0 g' h1.1).1.2 (e ▸ g1.1)
theorem shape_of {g : Nat} {cs : Array Value} {t : TypeId} (h : w.heap[g]? = some (.cells cs t (0, 0))) : w.shape? g = some (t, cs.size) := by simp [World.shape?, h]
theorem St.setRow {g : Nat} {cs : Array Value} {t : TypeId} (h : St N w (Blk g cs t :: L)) (cs' : Array Value) : St N (w.setRow g cs') (Blk g cs' t :: L) := by
  have hs : (w.setRow g cs').heap.size = w.heap.size := by simp [World.setRow]
  exact h.upd (Nat.le_of_eq hs.symm) (fun G g0 hg => ⟨fun k hk hn => setRow_other w g k cs' (fun e => hn (e ▸ hg.1)), G, fun k hk => ⟨.inl hk, by rw [hs]; exact (g0 k hk).2⟩, hg.1, setRow_heap w g _ _ t _ hg.2⟩)
section
variable {P : Program} {ops : Array Oper} {rest : List Oper} {o : Oper} {a : Act} {Q : Exit → Act → World → Prop} {K : Act → World → Prop}
theorem run_copy_row_k (w : World) (dT sT ty elem : TypeId) (g o dLen dCap : Nat) (a : Addr) (sLen sCap k : Nat) (cur : Array Value) (t : TypeId) (cs : List Value)
    (hu : P.underlying dT = some (.slice elem)) (hs : (P.info? elem).map (·.size) = some k)
    (hg : w.heap[g]? = some (.cells cur t (0, 0))) (hn : cs.length = Nat.min sLen dLen * k)
    (hsrc : ∀ j v, cs[j]? = some v → w.cell? (a.add j) = some v) (hfit : o + cs.length ≤ cur.size) (h1 : ∀ v ∈ cs, v.oneCell' = true) :
    (Builtin.copy_ #[dT, sT] ty #[.slice (some ⟨g, o, none⟩) dLen dCap, .slice (some a) sLen sCap]).run P w =
      .ok (goInt (Nat.min sLen dLen)) (w.setRow g (cur.toList.take o ++ cs ++ cur.toList.drop (o + cs.length)).toArray) := by
  have hl := run_loadCells_list (P := P) w a cs hsrc
  have hst := run_storeCells_at P g o t cs 0 cur w hg (by simpa using hfit) h1
  cases hq : P.info? elem with
  | none => simp [hq] at hs
  | some i =>
    have hi : i.size = k := by simpa [hq] using hs
    simp [Builtin.copy_, run_underlying hu, Builtin.lenOf, Builtin.firstCells, sizeOf, typeInfo, hq, hi, ← hn, hl, hst]
theorem S_copy {W : World} (hgd : o.guard = none) (d s : Operand) (dT sT : TypeId)
    (ho : o.op = .call { callee := .builtin .copy, args := #[d, s], argTypes := #[dT, sT] }) (elem : TypeId) (hu : P.underlying dT = some (.slice elem)) (k : Nat) (hsz : (P.info? elem).map (·.size) = some k)
    (g off0 off dLen dCap gs so0 so sLen sCap : Nat) (hd : a.eval d = .slice (some ⟨g, off0, none⟩) dLen dCap) (hs : a.eval s = .slice (some ⟨gs, so0, none⟩) sLen sCap)
    (cur : List Value) (t : TypeId) (cs : List Value) (ho1 : off0 = off) (ho2 : so0 = so) (hn : cs.length = Nat.min sLen dLen * k)
    (hsrc : ∀ j v, cs[j]? = some v → W.cell? ⟨gs, so + j, none⟩ = some v) (hfit : off + cs.length ≤ cur.length) (h1 : ∀ v ∈ cs, v.oneCell' = true)
    (HS : St N W (Blk g cur.toArray t :: L)) (HB : Below N w0 W)
    (h : ∀ w1, St N w1 (Blk g (splice cur off cs).toArray t :: L) → Below N w0 w1 → wpList P ops Q rest (a.put o.dst (goInt (Nat.min sLen dLen))) w1) : wpList P ops Q (o :: rest) a W := by
  subst ho1 ho2
  refine wpList_plain hgd fun K hK => ?_
  have hrun := run_copy_row_k (P := P) W dT sT o.type elem g off0 dLen dCap ⟨gs, so0, none⟩ sLen sCap k cur.toArray t cs hu hsz HS.blk hn (fun j v hj => by rw [Addr.add_lit]; exact hsrc j v hj) (by simpa using hfit) h1
  unfold Oper.wp
  simp [execOp, ho, resolve, invoke, builtin, hd, hs, hrun, Result.andThen]
  refine hK _ _ (h _ ?_ (below_setRow HB HS.ge _))
  have := HS.setRow (splice cur off0 cs).toArray
  simpa [splice] using this
theorem S_copy_step {W : World} (hw : Region.wanted o (yielded ops a.tmps) = true) (d s : Operand) (dT sT : TypeId)
    (ho : o.op = .call { callee := .builtin .copy, args := #[d, s], argTypes := #[dT, sT] }) (elem : TypeId) (hu : P.underlying dT = some (.slice elem)) (k : Nat) (hsz : (P.info? elem).map (·.size) = some k)
    (g off0 off dLen dCap gs so0 so sLen sCap : Nat) (hd : a.eval d = .slice (some ⟨g, off0, none⟩) dLen dCap) (hs : a.eval s = .slice (some ⟨gs, so0, none⟩) sLen sCap)
    (cur : List Value) (t : TypeId) (cs : List Value) (ho1 : off0 = off) (ho2 : so0 = so) (hn : cs.length = Nat.min sLen dLen * k)
    (hsrc : ∀ j v, cs[j]? = some v → W.cell? ⟨gs, so + j, none⟩ = some v) (hfit : off + cs.length ≤ cur.length) (h1 : ∀ v ∈ cs, v.oneCell' = true)
    (HS : St N W (Blk g cur.toArray t :: L)) (HB : Below N w0 W)
    (h : ∀ w1, St N w1 (Blk g (splice cur off cs).toArray t :: L) → Below N w0 w1 → K (a.put o.dst (goInt (Nat.min sLen dLen))) w1) : if Region.wanted o (yielded ops a.tmps) = true then Oper.wp P o a W K Q else K (a.put o.dst undef) W := by
  subst ho1 ho2
  rw [if_pos hw]
  have hrun := run_copy_row_k (P := P) W dT sT o.type elem g off0 dLen dCap ⟨gs, so0, none⟩ sLen sCap k cur.toArray t cs hu hsz HS.blk hn (fun j v hj => by rw [Addr.add_lit]; exact hsrc j v hj) (by simpa using hfit) h1
  unfold Oper.wp
  simp [execOp, ho, resolve, invoke, builtin, hd, hs, hrun, Result.andThen]
  refine h _ ?_ (below_setRow HB HS.ge _)
  have := HS.setRow (splice cur off0 cs).toArray
  simpa [splice] using this
/-- append(v[:i], make([]T, k)...) where there is no room: a new row beside the old. -/
theorem S_append_zeros {w0 W : World} (size : Nat) (hgd : o.guard = none) (s x : Operand) (t tn e : TypeId) (z : Value) (bytes : Nat)
    (ho : o.op = .call { callee := .builtin .append, args := #[s, x], argTypes := #[t, tn] }) (ht : P.underlying t = some (.slice e)) (htn : P.underlying tn = some (.int .i64))
    (hinfo : (P.info? e).map (fun i => (i.zero, i.size, i.bytes)) = some (some z, size, bytes)) (hz : z.cells.size = size) (hs0 : 0 < size) (hb0 : 0 < bytes)
    (g i c k len : Nat) (hlen : i + k = len) (kv : Int) (hs : a.eval s = .slice (some ⟨g, 0, none⟩) i c) (hx : a.eval x = .int .i64 kv) (hkv : kv = (k : Nat)) (cur : List Value) (hi : i * size ≤ cur.length) (hk : 0 < k) (hg : c < i + k) (hbig : (i + k) * bytes ≤ 140737488355328)
    (HS : St N W (Blk g cur.toArray e :: L)) (HB : Below N w0 W)
    (h : ∀ (g1 G : Nat) (zs : List Value) (w1 : World), len ≤ G → G ≤ maxLen → zs.length = (G - i) * size → St N w1 (Blk g1 (cur.take (i * size) ++ zs).toArray e :: Blk g cur.toArray e :: L) → Below N w0 w1 → wpList P ops Q rest (a.put o.dst (.slice (some ⟨g1, 0, none⟩) len G)) w1) :
    wpList P ops Q (o :: rest) a W := by
  subst hkv hlen
  obtain ⟨i0, hi0, hz0, hzs, hzb⟩ := info_parts hinfo
  have h63 : i + k ≤ 140737488355328 := Nat.le_trans (Nat.le_mul_of_pos_right _ hb0) hbig
  have hkb : k * bytes ≤ (i + k) * bytes := Nat.mul_le_mul_right _ (by omega)
  have hold : (Builtin.firstCells i0.size i (.slice (some ⟨g, 0, none⟩) i c)).run P W.drew = .ok (cur.take (i * size)).toArray W.drew := by
    rw [hzs]
    refine run_firstCells_some W.drew size i ⟨g, 0, none⟩ i c (cur.take (i * size)) (by rw [List.length_take]; omega) (fun j v hj => ?_)
    have h1 := HS.drew.cell (i := j)
    rw [List.getElem?_take] at hj
    split at hj
    · rw [Addr.add_lit, Nat.zero_add, h1]; simpa using hj
    · cases hj
  have hrun := Lib.run_append_grow_zeros W t tn o.type e i0 z .i64 .i64 ht htn hi0 hz0 (some ⟨g, 0, none⟩) i c (cur.take (i * size)) hold k hk (by omega) hg (by omega) (by rw [hzb]; omega) (by rw [hzb]; exact growslice_fits hg hbig)
  refine Lib.wpList_append_run W hgd s x t tn ho _ _ hs hx _ _ hrun ?_
  have hG := grownCap_ge W (i + k) c e
  have hGm := grownCap_le_maxLen W (i + k) c e (by unfold maxLen; omega)
  generalize grownCap W (i + k) c e = G at hG hGm ⊢
  refine h W.heap.size G ((Builtin.zeroCells z.cells k).toList ++ (Builtin.zeroCells z.cells (G - (i + k))).toList) _ hG hGm ?_ ?_ ?_
  · rw [List.length_append, Array.length_toList, Array.length_toList, size_zeroCells, size_zeroCells, hz, ← Nat.add_mul]; congr 1; omega
  · have hd := HS.drew
    refine hd.box (g := W.heap.size) rfl ?_ ((Below.refl _ _).alloc (Nat.le_refl _) _)
    have e1 : (cur.take (i * size) ++ ((Builtin.zeroCells z.cells k).toList ++ (Builtin.zeroCells z.cells (G - (i + k))).toList)).toArray = (cur.take (i * size)).toArray ++ Builtin.zeroCells z.cells k ++ Builtin.zeroCells z.cells (G - (i + k)) := by
      apply Array.ext'; simp
    rw [e1]
    exact blk_new W.drew _
  · exact (below_drew1 HB).alloc HS.size _
end
theorem splice_mid {α : Type} (A X B Y : List α) (h : X.length = Y.length) : splice (A ++ (X ++ B)) A.length Y = A ++ (Y ++ B) := by
  unfold splice
  rw [List.take_left' rfl, ← h, ← List.append_assoc A X B, List.drop_left' (by rw [List.length_append])]
theorem take3 {α : Type} (A X B D : List α) (n : Nat) (h : n = A.length + X.length + B.length) : (A ++ (X ++ (B ++ D))).take n = A ++ (X ++ B) := by
  rw [show A ++ (X ++ (B ++ D)) = (A ++ (X ++ B)) ++ D by simp, List.take_left' (by simp; omega)]
theorem ins_room {α : Type} (cur A B C X : List α) (p q n : Nat) (hc : cur = A ++ (B ++ C)) (hp : p = A.length) (hq : q = p + X.length) (hn : n = q + B.length) (h : X.length ≤ C.length) : (splice (splice cur q B) p X).take n = A ++ (X ++ B) := by
  subst hc hp hq hn
  have e : splice (A ++ (B ++ C)) (A.length + X.length) B = A ++ ((B ++ C).take X.length ++ (B ++ (A ++ (B ++ C)).drop (A.length + X.length + B.length))) := by
    unfold splice
    rw [List.take_append, List.take_of_length_le (by omega), show A.length + X.length - A.length = X.length by omega, List.append_assoc]
  rw [e, splice_mid _ _ _ _ (by rw [List.length_take, List.length_append]; omega), take3 _ _ _ _ _ rfl]
theorem ins_grow {α : Type} (A zs X B : List α) (p q n : Nat) (hp : p = A.length) (hq : q = p + X.length) (hn : n = q + B.length) (h : X.length + B.length ≤ zs.length) : (splice (splice (A ++ zs) p X) q B).take n = A ++ (X ++ B) := by
  subst hp hq hn
  have e : zs = zs.take X.length ++ ((zs.drop X.length).take B.length ++ (zs.drop X.length).drop B.length) := by rw [List.take_append_drop, List.take_append_drop]
  rw [e, splice_mid _ _ _ _ (by rw [List.length_take]; omega), ← List.append_assoc A X, show A.length + X.length = (A ++ X).length by simp, splice_mid _ _ _ _ (by rw [List.length_take, List.length_drop]; omega), List.append_assoc, take3 _ _ _ _ _ (by simp)]
end Go.Proofs.Ytcjfgejiknlpfaa.Sep
