/- A store into a row of keys, and the clearing of its end, as pieces of memory. -/
import Derived.Test.YtddhpkobingmhaaSortP

namespace Go.Proofs.Ytddhpkobingmhaa.PB
open Go.RowKit Go.Proofs.YtddhpkobingmhaaW.PrintWords Go.Proofs.YtddhpkobingmhaaW.PrintLast Go.Proofs.YtddhpkobingmhaaW.PrintMore Go.Proofs.Ytddhpkobingmhaa.Sep
set_option linter.unusedVariables false
set_option maxRecDepth 100000

theorem encs_set : ∀ (l : List S52) (i : Nat) (x : S52), i < l.length → encs enc52 (l.set i x) = ((encs enc52 l).set (i * 2) (.int .i64 x.f0)).set (i * 2 + 1) (.string x.f1)
  | [], i, x, h => by simp at h
  | y :: ys, 0, x, h => rfl
  | y :: ys, i + 1, x, h => by
    have ih := encs_set ys i x (by simpa using h)
    rw [List.set_cons_succ]
    show enc52 y ++ encs enc52 (ys.set i x) = _
    rw [ih, show (i + 1) * 2 = i * 2 + 2 by omega]
    rfl
section
variable {N : Nat} {w w0 w1 : World} {L : List Res} {g n cap : Nat} {l : List S52}
theorem St.rowBlk {n : Nat} (h : St N w (Row k52 52 (.slice (some ⟨g, 0, none⟩) n cap) l :: L)) : n = l.length ∧ ∃ cur : List Value, l.length ≤ cap ∧ cap ≤ maxLen ∧ cur.length = cap * 2 ∧ cur.take (l.length * 2) = encs enc52 l ∧ St N w (Blk g cur.toArray 52 :: L) := by
  rcases St.open_row flatK h with ⟨e, _⟩ | ⟨g', cap', cur, e, h1, h2, h3, h4, h5⟩
  · cases e
  · cases e
    exact ⟨rfl, cur, h1, h2, h3, h4, h5⟩
theorem St.setElem (h : St N w (Row k52 52 (.slice (some ⟨g, 0, none⟩) n cap) l :: L)) (i : Nat) (x : S52) (hi : i < l.length) (e : w1 = (w.setCell ⟨g, i * 2, none⟩ (.int .i64 x.f0)).setCell ⟨g, i * 2 + 1, none⟩ (.string x.f1)) : St N w1 (Row k52 52 (.slice (some ⟨g, 0, none⟩) n cap) (l.set i x) :: L) := by
  subst e
  obtain ⟨rfl, cur, h1, h2, h3, h4, h5⟩ := St.rowBlk h
  have h6 := (h5.set (i * 2) (.int .i64 x.f0) (cur.set (i * 2) (.int .i64 x.f0)).toArray (by simp)).set (i * 2 + 1) (.string x.f1) ((cur.set (i * 2) (.int .i64 x.f0)).set (i * 2 + 1) (.string x.f1)).toArray (by simp)
  have := St.shut_row flatK (xs := l.set i x) h6 (by simpa using h1) h2 (by rw [List.length_set, List.length_set]; exact h3) (by
    show (((cur.set (i * 2) _).set (i * 2 + 1) _).take ((l.set i x).length * 2)) = _
    rw [encs_set l i x hi, List.take_set, List.take_set, List.length_set, h4])
  rwa [List.length_set] at this
theorem St.below_elem (h : St N w (Row k52 52 (.slice (some ⟨g, 0, none⟩) n cap) l :: L)) (hb : Below N w0 w) {a b : Value} {i j : Nat} (e : w1 = (w.setCell ⟨g, i, none⟩ a).setCell ⟨g, j, none⟩ b) : Below N w0 w1 := by
  subst e
  obtain ⟨_, cur, _, _, _, _, h5⟩ := St.rowBlk h
  exact (hb.setCell h5.ge _).setCell h5.ge _
theorem setCells_piece : ∀ (vs : List Value) (o : Nat) (cs : List Value) (w : World), St N w (Blk g cs.toArray 52 :: L) → ∃ cs' : List Value, cs'.length = cs.length ∧ cs'.take o = cs.take o ∧ St N (w.setCells g o vs) (Blk g cs'.toArray 52 :: L)
  | [], o, cs, w, h => ⟨cs, rfl, rfl, h⟩
  | v :: vs, o, cs, w, h => by
    have h1 := h.set o v (cs.set o v).toArray (by simp)
    obtain ⟨cs', e1, e2, e3⟩ := setCells_piece vs (o + 1) (cs.set o v) _ h1
    refine ⟨cs', by rw [e1, List.length_set], ?_, e3⟩
    have := congrArg (List.take o) e2
    rw [List.take_take, List.take_take, Nat.min_eq_left (by omega)] at this
    rw [this, List.take_set, List.set_eq_of_length_le (by rw [List.length_take]; omega)]
theorem below_cells (hg : N ≤ g) : ∀ (vs : List Value) (o : Nat) (w : World), Below N w0 w → Below N w0 (w.setCells g o vs)
  | [], o, w, h => h
  | v :: vs, o, w, h => below_cells hg vs (o + 1) _ (h.setCell hg _)
theorem St.clearRow (h : St N w (Row k52 52 (.slice (some ⟨g, 0, none⟩) n cap) l :: L)) (m : Nat) (hm : m ≤ l.length) (vs : List Value) (hb : Below N w0 w) (e : w1 = w.setCells g (m * 2) vs) : St N w1 (Row k52 52 (.slice (some ⟨g, 0, none⟩) m cap) (l.take m) :: L) ∧ Below N w0 w1 := by
  subst e
  obtain ⟨rfl, cur, h1, h2, h3, h4, h5⟩ := St.rowBlk h
  obtain ⟨cs', e1, e2, e3⟩ := setCells_piece vs (m * 2) cur w h5
  refine ⟨?_, below_cells h5.ge vs _ w hb⟩
  have hl : (l.take m).length = m := by rw [List.length_take]; omega
  have := St.shut_row flatK (xs := l.take m) e3 (by rw [hl]; omega) h2 (by rw [e1]; exact h3) (by
    rw [hl]
    show cs'.take (m * 2) = _
    rw [e2, ← encs_take flatK l m hm, ← h4, List.take_take]
    show _ = cur.take (min (m * 2) (l.length * 2))
    rw [Nat.min_eq_left (by omega)])
  rwa [hl] at this
end
/-- Equal neighbours taken together: of the first i places. -/
def cp (l : List S52) : Nat → List S52
  | 0 => []
  | i + 1 => if 0 < i ∧ rd_T52 l (i : Int) = rd_T52 l ((i - 1 : Nat) : Int) then cp l i else cp l i ++ [rd_T52 l (i : Int)]
theorem cp_one (l : List S52) : cp l 1 = [rd_T52 l ((0 : Nat) : Int)] := by simp [cp]
theorem cp_len (l : List S52) : ∀ i, (cp l i).length ≤ i
  | 0 => Nat.le_refl _
  | i + 1 => by
    have := cp_len l i
    rw [cp]
    split
    · omega
    · rw [List.length_append]; simp; omega
theorem cp_hit (l : List S52) (i : Nat) (hi : 0 < i) (h : rd_T52 l (i : Int) = rd_T52 l ((i - 1 : Nat) : Int)) : cp l (i + 1) = cp l i := by rw [cp, if_pos ⟨hi, h⟩]
theorem cp_miss (l : List S52) (i : Nat) (h : ¬ rd_T52 l (i : Int) = rd_T52 l ((i - 1 : Nat) : Int)) : cp l (i + 1) = cp l i ++ [rd_T52 l (i : Int)] := by rw [cp, if_neg (fun g => h g.2)]
theorem take_rd (l : List S52) (i : Nat) (h : i < l.length) : l.take (i + 1) = l.take i ++ [rd_T52 l (i : Int)] := by
  rw [rd52 l i h, List.take_add_one, List.getElem?_eq_getElem h]; rfl
theorem rd_set (l : List S52) (i j : Nat) (x : S52) (hi : i < l.length) : rd_T52 (l.set i x) (j : Int) = if i = j then x else rd_T52 l (j : Int) := by
  unfold rd_T52
  rw [Int.toNat_natCast, List.getD_eq_getElem?_getD, List.getD_eq_getElem?_getD, List.getElem?_set]
  by_cases h : i = j
  · subst h; simp [hi]
  · simp [h]
end Go.Proofs.Ytddhpkobingmhaa.PB
