/- Events in order: what the library's sort does to a row of events, and the one list in order that has the same events. -/
import Derived.Test.YtcjfgejiknlpfaaSq2
import Derived.Test.YtcjfgejiknlpfaaSortLay
import Derived.Shelf.SlSortCmp.NoneTotal
import Derived.Shelf.GgSortFunc.InsertionK
namespace Go.Proofs.Ytcjfgejiknlpfaa.PI
open Go.RowKit Go.Proofs.YtcjfgejiknlpfaaW.PrintWords Go.Proofs.YtcjfgejiknlpfaaW.PrintLast Go.Proofs.YtcjfgejiknlpfaaW.PrintMore Go.Proofs.Ytcjfgejiknlpfaa.Sep
set_option linter.unusedVariables false
set_option linter.unusedSimpArgs false
set_option maxRecDepth 100000
def enc27 (x : S27) : List Value := [.string x.f0.f0, .int .i64 x.f0.f1, .int .i64 x.f1, .int .i64 x.f2, .string x.f3.f0, .int .i64 x.f3.f1, .string x.f4, .int .i64 x.f5, .string x.f6]
theorem flat27 : Flat k27 enc27 where
  K := k27_open
  M := fun w base ok x => k27_mkM w base ok x
  sz := fun _ => rfl
  one := fun x v h => by
    simp only [enc27, List.mem_cons, List.not_mem_nil, or_false] at h
    rcases h with rfl | rfl | rfl | rfl | rfl | rfl | rfl | rfl | rfl <;> rfl
instance inhS27 : Inhabited S27 := ⟨z27⟩
theorem encs_len9 (l : List S27) : (encs enc27 l).length = l.length * 9 := encs_len flat27 l
theorem encs_at : ∀ (l : List S27) (t : Nat), t < l.length * 9 → (encs enc27 l)[t]? = some ((enc27 l[t / 9]!)[t % 9]!)
  | [], t, h => by simp at h
  | x :: xs, t, h => by
    have hl : (enc27 x).length = 9 := rfl
    by_cases ht : t < 9
    · have e1 : t / 9 = 0 := by omega
      have e2 : t % 9 = t := by omega
      rw [Sep.encs, List.getElem?_append_left (by rw [hl]; exact ht), e1, e2]
      show (enc27 x)[t]? = some (enc27 x)[t]!
      rw [List.getElem?_eq_getElem (by rw [hl]; exact ht), getElem!_pos _ t (by rw [hl]; exact ht)]
    · have e1 : t / 9 = (t - 9) / 9 + 1 := by omega
      have e2 : t % 9 = (t - 9) % 9 := by omega
      rw [Sep.encs, List.getElem?_append_right (by rw [hl]; omega), hl, encs_at xs (t - 9) (by simp at h; omega), e1, e2]
      rfl
theorem flat_at (l : List S27) (t : Nat) (h : t < l.length * 9) : (Go.Sort.flatK enc27 9 l.toArray)[t]? = (encs enc27 l)[t]? := by
  rw [encs_at l t h]
  unfold Go.Sort.flatK
  rw [Array.getElem?_map, Array.getElem?_range]
  simp [h]
theorem flat_size (l : List S27) : (Go.Sort.flatK enc27 9 l.toArray).size = l.length * 9 := by rw [Go.Sort.size_flatK]; simp
section
variable {N : Nat} {w : World} {L : List Res} {g cap : Nat} {cur : List Value} {l l' : List S27}
theorem holds_row (h : St N w (Blk g cur.toArray 27 :: L)) (ht : cur.take (l.length * 9) = encs enc27 l) : Go.Sort.HoldsK enc27 9 w g 0 l.toArray := by
  intro t ht2
  rw [flat_size] at ht2
  refine ⟨?_, by rw [Nat.zero_add]; exact h.frozen t⟩
  rw [Nat.zero_add, h.cell t]
  have e : cur[t]? = (encs enc27 l)[t]? := by rw [← ht, List.getElem?_take_of_lt ht2]
  rw [List.getElem?_toArray, e, ← flat_at l t ht2]
  rw [getElem!_pos _ t (by rw [flat_size]; exact ht2), Array.getElem?_eq_getElem (by rw [flat_size]; exact ht2)]
  rfl
theorem put_cells (hl : l.length * 9 ≤ cur.length) : Go.Sort.putCells id 0 (Go.Sort.flatK enc27 9 l.toArray) cur.toArray = (encs enc27 l ++ cur.drop (l.length * 9)).toArray := by
  apply Array.ext_getElem?
  intro t
  unfold Go.Sort.putCells
  rw [Array.getElem?_mapIdx, List.getElem?_toArray, List.getElem?_toArray, flat_size]
  by_cases h : t < l.length * 9
  · rw [List.getElem?_eq_getElem (by omega : t < cur.length), Option.map_some, if_pos ⟨Nat.zero_le _, by omega⟩, List.getElem?_append_left (by rw [encs_len9]; exact h), ← flat_at l t h, Nat.sub_zero]
    rw [getElem!_pos _ t (by rw [flat_size]; exact h), Array.getElem?_eq_getElem (by rw [flat_size]; exact h)]
    rfl
  · rw [List.getElem?_append_right (by rw [encs_len9]; omega), encs_len9, List.getElem?_drop, show l.length * 9 + (t - l.length * 9) = t by omega]
    cases cur[t]? with
    | none => rfl
    | some v => rw [Option.map_some, if_neg (by omega)]
/-- The row behind the sort. -/
theorem sorted_piece (h : St N w (Blk g cur.toArray 27 :: L)) (hl : l.length * 9 ≤ cur.length) (n : Nat) (os : Array Obj) :
    St N (sortWorldK enc27 9 w g 0 n l.toArray os) (Blk g (encs enc27 l ++ cur.drop (l.length * 9)).toArray 27 :: L) ∧ Below N w (sortWorldK enc27 9 w g 0 n l.toArray os) := by
  have hb := h.blk
  have hg := h.ge
  have hlt : g < w.heap.size := blk_lt hb
  have hsz : (sortWorldK enc27 9 w g 0 n l.toArray os).heap.size = w.heap.size + os.size := by
    show (w.heap.modify g _ ++ os).size = _
    rw [Array.size_append, Array.size_modify]
  have hold : ∀ k, k < w.heap.size → (sortWorldK enc27 9 w g 0 n l.toArray os).heap[k]? = (w.heap.modify g (Go.Sort.onCells (Go.Sort.putCells id 0 (Go.Sort.flatK enc27 9 l.toArray))))[k]? := by
    intro k hk
    show (w.heap.modify g _ ++ os)[k]? = _
    rw [Array.getElem?_append_left (by rw [Array.size_modify]; exact hk)]
  have hoth : ∀ k, k < w.heap.size → k ≠ g → (sortWorldK enc27 9 w g 0 n l.toArray os).heap[k]? = w.heap[k]? := by
    intro k hk hne
    rw [hold k hk, Array.getElem?_modify, if_neg (fun e => hne e.symm)]
  have hat : (sortWorldK enc27 9 w g 0 n l.toArray os).heap[g]? = some (.cells (encs enc27 l ++ cur.drop (l.length * 9)).toArray 27 (0, 0)) := by
    rw [hold g hlt, Array.getElem?_modify, if_pos rfl, hb, Option.map_some]
    show some (Obj.cells (Go.Sort.putCells id 0 (Go.Sort.flatK enc27 9 l.toArray) cur.toArray) 27 (0, 0)) = _
    rw [put_cells hl]
  refine ⟨h.upd (by rw [hsz]; omega) (fun G hG hr => ⟨fun k hk hnk => hoth k hk (fun e => hnk (e ▸ hr.1)), G, fun k hk => ⟨.inl hk, by rw [hsz]; have := (hG k hk).2; omega⟩, hr.1, hat⟩), rfl, rfl, rfl, by rw [hsz]; omega, fun k hk => hoth k (Nat.lt_of_lt_of_le hk h.size) (by omega)⟩
end
/-! ### the one list in order -/
/-- In order, equal ones side by side. -/
def Ord (l : List S27) : Prop := l.Pairwise fun x y => ¬ Bf y x
theorem ord_unique : ∀ (l m : List S27), l.Perm m → Ord l → Ord m → l = m
  | [], m, h, _, _ => (List.nil_perm.mp h).symm
  | x :: l, m, h, h1, h2 => by
    cases m with
    | nil => exact absurd h.length_eq (by simp)
    | cons y m =>
      obtain ⟨hx, hl⟩ := List.pairwise_cons.mp h1
      obtain ⟨hy, hm⟩ := List.pairwise_cons.mp h2
      have e : x = y := by
        by_cases e : x = y
        · exact e
        · have a1 : y ∈ l := by
            rcases List.mem_cons.mp (h.symm.subset List.mem_cons_self) with h3 | h3
            · exact absurd h3.symm e
            · exact h3
          have a2 : x ∈ m := by
            rcases List.mem_cons.mp (h.subset List.mem_cons_self) with h3 | h3
            · exact absurd h3 e
            · exact h3
          exact absurd (bf_tri (hy x a2) e) (hx y a1)
      subst e
      rw [ord_unique l m (List.perm_cons x |>.mp h) hl hm]
/-- An event put in its place, behind its equals. -/
def insE (x : S27) : List S27 → List S27
  | [] => [x]
  | y :: l => if Bf x y then x :: y :: l else y :: insE x l
def srt : List S27 → List S27
  | [] => []
  | x :: l => insE x (srt l)
theorem insE_perm (x : S27) : ∀ l : List S27, (insE x l).Perm (x :: l)
  | [] => List.Perm.refl _
  | y :: l => by
    unfold insE
    split
    · exact List.Perm.refl _
    · exact ((insE_perm x l).cons y).trans (List.Perm.swap x y l)
theorem srt_perm : ∀ l : List S27, (srt l).Perm l
  | [] => List.Perm.refl _
  | x :: l => (insE_perm x (srt l)).trans ((srt_perm l).cons x)
theorem insE_ord (x : S27) : ∀ l : List S27, Ord l → Ord (insE x l)
  | [], _ => List.pairwise_singleton _ _
  | y :: l, h => by
    obtain ⟨hy, hl⟩ := List.pairwise_cons.mp h
    unfold insE
    split
    · rename_i hb
      refine List.pairwise_cons.mpr ⟨fun z hz hbz => ?_, h⟩
      rcases List.mem_cons.mp hz with rfl | hz
      · exact bf_asymm hb hbz
      · exact hy z hz (bf_trans hbz hb)
    · rename_i hb
      refine List.pairwise_cons.mpr ⟨fun z hz => ?_, insE_ord x l hl⟩
      rcases List.mem_cons.mp ((insE_perm x l).subset hz) with rfl | hz
      · exact hb
      · exact hy z hz
theorem srt_ord : ∀ l : List S27, Ord (srt l)
  | [] => List.Pairwise.nil
  | x :: l => insE_ord x (srt l) (srt_ord l)
theorem srt_unique {l m : List S27} (hp : m.Perm l) (ho : Ord m) : m = srt l := ord_unique _ _ (hp.trans (srt_perm l).symm) ho (srt_ord l)
theorem srt_perm_eq {l m : List S27} (h : l.Perm m) : srt l = srt m := srt_unique ((srt_perm l).trans h) (srt_ord l)
theorem srt_length (l : List S27) : (srt l).length = l.length := (srt_perm l).length_eq
theorem swo_e : Go.Sort.SWO (ltOf ecmp) where
  irrefl x := by
    unfold ltOf
    rw [decide_eq_false]
    exact bf_irrefl x
  trans x y z h1 h2 := by
    unfold ltOf at *
    exact decide_eq_true (bf_trans (of_decide_eq_true h1) (of_decide_eq_true h2))
  ntrans x y z h1 h2 := by
    unfold ltOf at *
    have h1 : ¬ Bf x y := of_decide_eq_false h1
    have h2 : ¬ Bf y z := of_decide_eq_false h2
    refine decide_eq_false (fun h3 : Bf x z => ?_)
    by_cases e : x = y
    · subst e; exact h2 h3
    · exact h2 (bf_trans (bf_tri h1 e) h3)
theorem cmp_lays (blk off size : Nat) (w : World) : CmpLays Try.prog 12 #[] enc27 9 ecmp blk off size w := fun _ _ _ _ x y => (compare_grown x y _).mono fun e w' h => ⟨h.1, h.2.out⟩
theorem get_rd (l : List S27) (i : Nat) : l.toArray[i]! = rd_T27 l (i : Int) := by
  unfold rd_T27
  rw [Int.toNat_natCast, List.getD_eq_getElem?_getD]
  by_cases h : i < l.length
  · rw [getElem!_pos _ i (by simpa using h), List.getElem?_eq_getElem h]; rfl
  · rw [getElem!_neg _ i (by simpa using h), List.getElem?_eq_none (by omega)]; rfl
theorem enters12 (args : Array Value) (w : World) : (callFunc 12 args).run Try.prog w = .ok (.enter 12 args) w := enters_of Try.func12 (by kernel_rfl) rfl args w
theorem sort_ok (l : List S27) (hl : l.length ≤ 1000000) (v : Value) {N : Nat} {w : World} {L : List Res} (HS : St N w (Row k27 27 v l :: L)) :
    Calls Try.prog 64 #[v, .func (.func 12) #[] #[]] w fun e w' => e = .returned (.tuple #[]) ∧ St N w' (Row k27 27 v (srt l) :: L) ∧ Below N w w' := by
  rcases St.open_row flat27 HS with ⟨rfl, rfl⟩ | ⟨g, cap, cur, rfl, h1, h2, h3, h4, h5⟩
  · have := AnyF.slices_SortFunc_none Try.sort64 none 0 (.func (.func 12) #[] #[]) w
    refine Calls.mono (f := 64) this ?_
    rintro e w' ⟨rfl, rfl⟩
    exact ⟨rfl, HS, Below.refl _ _⟩
  · have hH := holds_row h5 h4
    have := AnyQ.slices_SortFunc Try.sort64 9 Try.isAgg27 Try.sizeOf27 enc27 (fun _ => rfl) flat27.one ecmp swo_e 12 #[] g 0 cap l.toArray w enters12 (cmp_lays g 0 _ w) hH (blk_lt h5.blk) (by simp; omega)
    change Calls Try.prog 64 _ _ _ at this
    rw [List.size_toArray] at this
    refine this.mono ?_
    rintro e w' ⟨rfl, d', n, os, ⟨hp1, _, hp3⟩, hs, rfl⟩
    obtain ⟨l', rfl⟩ : ∃ l' : List S27, d' = l'.toArray := ⟨d'.toList, by simp⟩
    have e1 : l'.length = l.length := by simpa using hp1
    have hp : l'.Perm l := by
      have := hp3
      simp only [e1, List.size_toArray, List.extract_toArray] at this
      simpa [List.take_of_length_le (show l'.length ≤ l.length by omega)] using this
    have ho : Ord l' := by
      unfold Ord
      rw [List.pairwise_iff_getElem]
      intro i j hi hj hij
      have h9 := hs i j (Nat.zero_le _) hij (by simpa using e1 ▸ hj)
      rw [get_rd, get_rd] at h9
      unfold ltOf at h9
      have h9 := of_decide_eq_false h9
      have ei : rd_T27 l' (i : Int) = l'[i] := by simp [rd_T27, hi]
      have ej : rd_T27 l' (j : Int) = l'[j] := by simp [rd_T27, hj]
      rw [ei, ej] at h9
      exact h9
    obtain rfl := srt_unique hp ho
    have h3' : cur.length = cap * 9 := h3
    obtain ⟨hs1, hb1⟩ := sorted_piece (l := srt l) h5 (by omega) n os
    have h4' : (encs enc27 (srt l) ++ cur.drop ((srt l).length * 9)).take ((srt l).length * 9) = encs enc27 (srt l) := List.take_left' (encs_len9 _)
    refine ⟨rfl, ?_, hb1⟩
    have := St.shut_row flat27 (xs := srt l) hs1 (by omega) h2 (by rw [List.length_append, List.length_drop, encs_len9]; show _ = cap * 9; omega) h4'
    rwa [e1] at this
end Go.Proofs.Ytcjfgejiknlpfaa.PI
