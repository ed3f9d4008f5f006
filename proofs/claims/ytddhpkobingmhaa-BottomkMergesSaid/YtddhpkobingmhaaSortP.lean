/- What the library's sort does to a row of keys, as a piece of memory. -/
import Derived.Test.YtddhpkobingmhaaSk19
import Derived.Shelf.GgSortFunc.InsertionK

namespace Go.Proofs.Ytddhpkobingmhaa.PB
open Go.RowKit Go.Proofs.YtddhpkobingmhaaW.PrintWords Go.Proofs.YtddhpkobingmhaaW.PrintLast Go.Proofs.YtddhpkobingmhaaW.PrintMore Go.Proofs.Ytddhpkobingmhaa.Sep
set_option linter.unusedVariables false
set_option maxRecDepth 100000

instance inhS52 : Inhabited S52 := ⟨z52⟩
theorem encs_at : ∀ (l : List S52) (t : Nat), t < l.length * 2 → (encs enc52 l)[t]? = some ((enc52 l[t / 2]!)[t % 2]!)
  | [], t, h => by simp at h
  | x :: xs, 0, h => rfl
  | x :: xs, 1, h => rfl
  | x :: xs, t + 2, h => by
    have e1 : (t + 2) / 2 = t / 2 + 1 := by omega
    have e2 : (t + 2) % 2 = t % 2 := by omega
    have ih := encs_at xs t (by simp at h; omega)
    rw [e1, e2]
    show (encs enc52 xs)[t]? = _
    rw [ih]
    rfl
theorem encs_len2 (l : List S52) : (encs enc52 l).length = l.length * 2 := encs_len flatK l
theorem flat_at (l : List S52) (t : Nat) (h : t < l.length * 2) : (Go.Sort.flatK enc52 2 l.toArray)[t]? = (encs enc52 l)[t]? := by
  rw [encs_at l t h]
  unfold Go.Sort.flatK
  rw [Array.getElem?_map, Array.getElem?_range]
  simp [h]
theorem flat_list (l : List S52) : (Go.Sort.flatK enc52 2 l.toArray).toList = encs enc52 l := by
  apply List.ext_getElem?
  intro t
  rw [Array.getElem?_toList]
  by_cases h : t < l.length * 2
  · exact flat_at l t h
  · rw [Array.getElem?_eq_none (by rw [Go.Sort.size_flatK]; simpa using h), List.getElem?_eq_none (by rw [encs_len2]; omega)]
theorem flat_size (l : List S52) : (Go.Sort.flatK enc52 2 l.toArray).size = l.length * 2 := by rw [Go.Sort.size_flatK]; simp
section
variable {N : Nat} {w : World} {L : List Res} {g cap : Nat} {cur : List Value} {l l' : List S52}
theorem holds_row (h : St N w (Blk g cur.toArray 52 :: L)) (ht : cur.take (l.length * 2) = encs enc52 l) : Go.Sort.HoldsK enc52 2 w g 0 l.toArray := by
  intro t ht2
  rw [flat_size] at ht2
  refine ⟨?_, by rw [Nat.zero_add]; exact h.frozen t⟩
  rw [Nat.zero_add, h.cell t]
  have e : cur[t]? = (encs enc52 l)[t]? := by rw [← ht, List.getElem?_take_of_lt ht2]
  rw [List.getElem?_toArray, e, ← flat_at l t ht2]
  rw [getElem!_pos _ t (by rw [flat_size]; exact ht2), Array.getElem?_eq_getElem (by rw [flat_size]; exact ht2)]
  rfl
theorem put_cells (hl : l.length * 2 ≤ cur.length) : Go.Sort.putCells id 0 (Go.Sort.flatK enc52 2 l.toArray) cur.toArray = (encs enc52 l ++ cur.drop (l.length * 2)).toArray := by
  apply Array.ext_getElem?
  intro t
  unfold Go.Sort.putCells
  rw [Array.getElem?_mapIdx, List.getElem?_toArray, List.getElem?_toArray, flat_size]
  by_cases h : t < l.length * 2
  · rw [List.getElem?_eq_getElem (by omega : t < cur.length), Option.map_some, if_pos ⟨Nat.zero_le _, by omega⟩, List.getElem?_append_left (by rw [encs_len2]; exact h), ← flat_at l t h, Nat.sub_zero]
    rw [getElem!_pos _ t (by rw [flat_size]; exact h), Array.getElem?_eq_getElem (by rw [flat_size]; exact h)]
    rfl
  · rw [List.getElem?_append_right (by rw [encs_len2]; omega), encs_len2, List.getElem?_drop, show l.length * 2 + (t - l.length * 2) = t by omega]
    cases cur[t]? with
    | none => rfl
    | some v => rw [Option.map_some, if_neg (by omega)]
/-- The row behind the sort. -/
theorem sorted_piece (h : St N w (Blk g cur.toArray 52 :: L)) (hl : l.length * 2 ≤ cur.length) (n : Nat) (os : Array Obj) :
    St N (sortWorldK enc52 2 w g 0 n l.toArray os) (Blk g (encs enc52 l ++ cur.drop (l.length * 2)).toArray 52 :: L) ∧ Below N w (sortWorldK enc52 2 w g 0 n l.toArray os) := by
  have hb := h.blk
  have hg := h.ge
  have hlt : g < w.heap.size := blk_lt hb
  have hsz : (sortWorldK enc52 2 w g 0 n l.toArray os).heap.size = w.heap.size + os.size := by
    show (w.heap.modify g _ ++ os).size = _
    rw [Array.size_append, Array.size_modify]
  have hold : ∀ k, k < w.heap.size → (sortWorldK enc52 2 w g 0 n l.toArray os).heap[k]? = (w.heap.modify g (Go.Sort.onCells (Go.Sort.putCells id 0 (Go.Sort.flatK enc52 2 l.toArray))))[k]? := by
    intro k hk
    show (w.heap.modify g _ ++ os)[k]? = _
    rw [Array.getElem?_append_left (by rw [Array.size_modify]; exact hk)]
  have hoth : ∀ k, k < w.heap.size → k ≠ g → (sortWorldK enc52 2 w g 0 n l.toArray os).heap[k]? = w.heap[k]? := by
    intro k hk hne
    rw [hold k hk, Array.getElem?_modify, if_neg (fun e => hne e.symm)]
  have hat : (sortWorldK enc52 2 w g 0 n l.toArray os).heap[g]? = some (.cells (encs enc52 l ++ cur.drop (l.length * 2)).toArray 52 (0, 0)) := by
    rw [hold g hlt, Array.getElem?_modify, if_pos rfl, hb, Option.map_some]
    show some (Obj.cells (Go.Sort.putCells id 0 (Go.Sort.flatK enc52 2 l.toArray) cur.toArray) 52 (0, 0)) = _
    rw [put_cells hl]
  refine ⟨h.upd (by rw [hsz]; omega) (fun G hG hr => ⟨fun k hk hnk => hoth k hk (fun e => hnk (e ▸ hr.1)), G, fun k hk => ⟨.inl hk, by rw [hsz]; have := (hG k hk).2; omega⟩, hr.1, hat⟩), rfl, rfl, rfl, by rw [hsz]; omega, fun k hk => hoth k (Nat.lt_of_lt_of_le hk h.size) (by omega)⟩
end
end Go.Proofs.Ytddhpkobingmhaa.PB
