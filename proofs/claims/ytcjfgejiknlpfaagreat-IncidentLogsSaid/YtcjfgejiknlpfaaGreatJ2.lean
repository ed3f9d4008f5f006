/- Texts of this claim, taken together: SortLay, Sq3, EvC, Sq4, MapK, Sq5, Cnt, Pl. -/
import Derived.Shelf.SlSortCmp.WholeK
import Derived.Test.YtcjfgejiknlpfaaGreatProg
import Derived.Test.YtcjfgejiknlpfaaGreatSq2
import Derived.Shelf.SlSortCmp.NoneTotal
import Derived.Shelf.GgSortFunc.InsertionK
import Derived.Test.YtcjfgejiknlpfaaGreatJ1
import Derived.Test.YtcjfgejiknlpfaaGreatSq1
import Derived.Maps.OwnOps
import Derived.Laws.StructEq
import Derived.Test.YtcjfgejiknlpfaaGreatJ0
/-! # SortLay -/
section
-- Written by the kit's tools (lay-plain) for this program: the contract of slices.SortFunc laid at it.
namespace Go.Proofs
open Go.Shelf
def Tryz.sort50_ren : Go.Shelf.Ren := ⟨fun | 6 => 50 | 15 => 62 | 14 => 70 | 28 => 83 | 29 => 84 | 20 => 88 | 21 => 89 | 22 => 90 | 23 => 91 | 24 => 92 | 25 => 93 | 26 => 94 | 27 => 95 | 46 => 116 | 47 => 112 | 48 => 113 | 49 => 117 | 50 => 118 | 57 => 124 | n => n, fun | 22 => 25 | 24 => 50 | 25 => 67 | 3 => 3 | 39 => 102 | 0 => 0 | 53 => 125 | 55 => 127 | 4 => 4 | 46 => 118 | 45 => 117 | 50 => 122 | 5 => 5 | 9 => 9 | 66 => 140 | 70 => 144 | 76 => 152 | 77 => 153 | n => n, fun | n => n⟩
theorem Tryz.sort50 : Go.Proofs.SlLaysF0.n6 Tryz.prog Tryz.sort50_ren := {
  mixed := by kernel_rfl
  f6 := ⟨Tryz.f50.name, by decide, Tryz.func50.trans (congrArg some (by kernel_rfl))⟩
  f14 := ⟨Tryz.f70.name, by decide, Tryz.func70.trans (congrArg some (by kernel_rfl))⟩
  f15 := Tryz.func62.trans (congrArg some (by kernel_rfl))
  f20 := ⟨Tryz.f88.name, by decide, Tryz.func88.trans (congrArg some (by kernel_rfl))⟩
  f21 := ⟨Tryz.f89.name, by decide, Tryz.func89.trans (congrArg some (by kernel_rfl))⟩
  f22 := ⟨Tryz.f90.name, by decide, Tryz.func90.trans (congrArg some (by kernel_rfl))⟩
  f23 := ⟨Tryz.f91.name, by decide, Tryz.func91.trans (congrArg some (by kernel_rfl))⟩
  f24 := ⟨Tryz.f92.name, by decide, Tryz.func92.trans (congrArg some (by kernel_rfl))⟩
  f25 := ⟨Tryz.f93.name, by decide, Tryz.func93.trans (congrArg some (by kernel_rfl))⟩
  f26 := ⟨Tryz.f94.name, by decide, Tryz.func94.trans (congrArg some (by kernel_rfl))⟩
  f27 := ⟨Tryz.f95.name, by decide, Tryz.func95.trans (congrArg some (by kernel_rfl))⟩
  f28 := Tryz.func83.trans (congrArg some (by kernel_rfl))
  f29 := Tryz.func84.trans (congrArg some (by kernel_rfl))
  f46 := ⟨Tryz.f116.name, by decide, Tryz.func116.trans (congrArg some (by kernel_rfl))⟩
  f47 := Tryz.func112.trans (congrArg some (by kernel_rfl))
  f48 := Tryz.func113.trans (congrArg some (by kernel_rfl))
  f49 := ⟨Tryz.f117.name, by decide, Tryz.func117.trans (congrArg some (by kernel_rfl))⟩
  f50 := ⟨Tryz.f118.name, by decide, Tryz.func118.trans (congrArg some (by kernel_rfl))⟩
  f57 := ⟨Tryz.f124.name, by decide, Tryz.func124.trans (congrArg some (by kernel_rfl))⟩
  t0 := Tryz.underlying0
  a0 := Tryz.isAgg0
  z0 := Tryz.sizeOf0
  v0 := Tryz.zeroValue0
  t3 := Tryz.underlying3
  a3 := Tryz.isAgg3
  z3 := Tryz.sizeOf3
  v3 := Tryz.zeroValue3
  t4 := Tryz.underlying4
  a4 := Tryz.isAgg4
  z4 := Tryz.sizeOf4
  v4 := Tryz.zeroValue4
  t5 := Tryz.underlying5
  a5 := Tryz.isAgg5
  z5 := Tryz.sizeOf5
  v5 := Tryz.zeroValue5
  t9 := Tryz.underlying9
  a9 := Tryz.isAgg9
  z9 := Tryz.sizeOf9
  v9 := Tryz.zeroValue9
  t22 := Tryz.underlying25
  a22 := Tryz.isAgg25
  z22 := Tryz.sizeOf25
  v22 := Tryz.zeroValue25
  t25 := Tryz.underlying67
  a25 := Tryz.isAgg67
  z25 := Tryz.sizeOf67
  v25 := Tryz.zeroValue67
  t39 := Tryz.underlying102
  a39 := Tryz.isAgg102
  z39 := Tryz.sizeOf102
  v39 := Tryz.zeroValue102
  t45 := Tryz.underlying117
  a45 := Tryz.isAgg117
  z45 := Tryz.sizeOf117
  v45 := Tryz.zeroValue117
  t46 := Tryz.underlying118
  a46 := Tryz.isAgg118
  z46 := Tryz.sizeOf118
  v46 := Tryz.zeroValue118
  t50 := Tryz.underlying122
  a50 := Tryz.isAgg122
  z50 := Tryz.sizeOf122
  v50 := Tryz.zeroValue122
  t53 := Tryz.underlying125
  a53 := Tryz.isAgg125
  z53 := Tryz.sizeOf125
  v53 := Tryz.zeroValue125
  t55 := Tryz.underlying127
  a55 := Tryz.isAgg127
  z55 := Tryz.sizeOf127
  v55 := Tryz.zeroValue127
  t66 := Tryz.underlying140
  a66 := Tryz.isAgg140
  z66 := Tryz.sizeOf140
  v66 := Tryz.zeroValue140
  t70 := Tryz.underlying144
  a70 := Tryz.isAgg144
  z70 := Tryz.sizeOf144
  v70 := Tryz.zeroValue144
  t76 := Tryz.underlying152
  a76 := Tryz.isAgg152
  z76 := Tryz.sizeOf152
  v76 := Tryz.zeroValue152
  t77 := Tryz.underlying153
  a77 := Tryz.isAgg153
  z77 := Tryz.sizeOf153
  v77 := Tryz.zeroValue153 }
end Go.Proofs
end

/-! # Sq3 -/
section
namespace Go.Proofs.YtcjfgejiknlpfaaGreat.PI
open Go.RowKit Go.Proofs.YtcjfgejiknlpfaaGreatW.PrintWords Go.Proofs.YtcjfgejiknlpfaaGreatW.PrintLast Go.Proofs.YtcjfgejiknlpfaaGreatW.PrintMore Go.Proofs.YtcjfgejiknlpfaaGreat.Sep
set_option linter.unusedVariables false
set_option linter.unusedSimpArgs false
set_option maxRecDepth 100000
def enc50 (x : S50) : List Value := [.string x.f0.f0, .int .i64 x.f0.f1, .int .i64 x.f1, .int .i64 x.f2, .string x.f3.f0, .int .i64 x.f3.f1, .string x.f4, .int .i64 x.f5, .string x.f6]
theorem flat50 : Flat k50 enc50 where
  K := k50_open
  M := fun w base ok x => k50_mkM w base ok x
  sz := fun _ => rfl
  one := fun x v h => by
    simp only [enc50, List.mem_cons, List.not_mem_nil, or_false] at h
    rcases h with rfl | rfl | rfl | rfl | rfl | rfl | rfl | rfl | rfl <;> rfl
instance inhS27 : Inhabited S50 := ⟨z50⟩
theorem encs_len9 (l : List S50) : (encs enc50 l).length = l.length * 9 := encs_len flat50 l
theorem encs_at : ∀ (l : List S50) (t : Nat), t < l.length * 9 → (encs enc50 l)[t]? = some ((enc50 l[t / 9]!)[t % 9]!)
  | [], t, h => by simp at h
  | x :: xs, t, h => by
    have hl : (enc50 x).length = 9 := rfl
    by_cases ht : t < 9
    · have e1 : t / 9 = 0 := by omega
      have e2 : t % 9 = t := by omega
      rw [Sep.encs, List.getElem?_append_left (by rw [hl]; exact ht), e1, e2]
      show (enc50 x)[t]? = some (enc50 x)[t]!
      rw [List.getElem?_eq_getElem (by rw [hl]; exact ht), getElem!_pos _ t (by rw [hl]; exact ht)]
    · have e1 : t / 9 = (t - 9) / 9 + 1 := by omega
      have e2 : t % 9 = (t - 9) % 9 := by omega
      rw [Sep.encs, List.getElem?_append_right (by rw [hl]; omega), hl, encs_at xs (t - 9) (by simp at h; omega), e1, e2]
      rfl
theorem flat_at (l : List S50) (t : Nat) (h : t < l.length * 9) : (Go.Sort.flatK enc50 9 l.toArray)[t]? = (encs enc50 l)[t]? := by
  rw [encs_at l t h]
  unfold Go.Sort.flatK
  rw [Array.getElem?_map, Array.getElem?_range]
  simp [h]
theorem flat_size (l : List S50) : (Go.Sort.flatK enc50 9 l.toArray).size = l.length * 9 := by rw [Go.Sort.size_flatK]; simp
section
variable {N : Nat} {w : World} {L : List Res} {g cap : Nat} {cur : List Value} {l l' : List S50}
theorem holds_row (h : St N w (Blk g cur.toArray 50 :: L)) (ht : cur.take (l.length * 9) = encs enc50 l) : Go.Sort.HoldsK enc50 9 w g 0 l.toArray := by
  intro t ht2
  rw [flat_size] at ht2
  refine ⟨?_, by rw [Nat.zero_add]; exact h.frozen t⟩
  rw [Nat.zero_add, h.cell t]
  have e : cur[t]? = (encs enc50 l)[t]? := by rw [← ht, List.getElem?_take_of_lt ht2]
  rw [List.getElem?_toArray, e, ← flat_at l t ht2]
  rw [getElem!_pos _ t (by rw [flat_size]; exact ht2), Array.getElem?_eq_getElem (by rw [flat_size]; exact ht2)]
  rfl
theorem put_cells (hl : l.length * 9 ≤ cur.length) : Go.Sort.putCells id 0 (Go.Sort.flatK enc50 9 l.toArray) cur.toArray = (encs enc50 l ++ cur.drop (l.length * 9)).toArray := by
  apply Array.ext_getElem?
  intro t
  unfold Go.Sort.putCells
  rw [Array.getElem?_mapIdx, List.getElem?_toArray, List.getElem?_toArray, flat_size]
  by_cases h : t < l.length * 9
  · rw [List.getElem?_eq_getElem (by omega : t < cur.length), Option.map_some, if_pos ⟨Nat.zero_le _, by omega⟩, List.getElem?_append_left (by rw [encs_len9]; exact h), ← flat_at l t h, Nat.sub_zero]
    rw [getElem!_pos _ t (by rw [flat_size]; exact h), Array.getElem?_eq_getElem (by rw [flat_size]; exact h)]
    rfl
  · rw [List.getElem?_append_right (by rw [encs_len9]; omega), encs_len9, List.getElem?_drop, show l.length * 9 + (t - l.length * 9) = t by omega]
    cases cur[t]? with
    | none => rfl
    | some v => rw [Option.map_some, if_neg (by omega)]
/-- The row behind the sort. -/
theorem sorted_piece (h : St N w (Blk g cur.toArray 50 :: L)) (hl : l.length * 9 ≤ cur.length) (n : Nat) (os : Array Obj) :
    St N (sortWorldK enc50 9 w g 0 n l.toArray os) (Blk g (encs enc50 l ++ cur.drop (l.length * 9)).toArray 50 :: L) ∧ Below N w (sortWorldK enc50 9 w g 0 n l.toArray os) := by
  have hb := h.blk
  have hg := h.ge
  have hlt : g < w.heap.size := blk_lt hb
  have hsz : (sortWorldK enc50 9 w g 0 n l.toArray os).heap.size = w.heap.size + os.size := by
    show (w.heap.modify g _ ++ os).size = _
    rw [Array.size_append, Array.size_modify]
  have hold : ∀ k, k < w.heap.size → (sortWorldK enc50 9 w g 0 n l.toArray os).heap[k]? = (w.heap.modify g (Go.Sort.onCells (Go.Sort.putCells id 0 (Go.Sort.flatK enc50 9 l.toArray))))[k]? := by
    intro k hk
    show (w.heap.modify g _ ++ os)[k]? = _
    rw [Array.getElem?_append_left (by rw [Array.size_modify]; exact hk)]
  have hoth : ∀ k, k < w.heap.size → k ≠ g → (sortWorldK enc50 9 w g 0 n l.toArray os).heap[k]? = w.heap[k]? := by
    intro k hk hne
    rw [hold k hk, Array.getElem?_modify, if_neg (fun e => hne e.symm)]
  have hat : (sortWorldK enc50 9 w g 0 n l.toArray os).heap[g]? = some (.cells (encs enc50 l ++ cur.drop (l.length * 9)).toArray 50 (0, 0)) := by
    rw [hold g hlt, Array.getElem?_modify, if_pos rfl, hb, Option.map_some]
    show some (Obj.cells (Go.Sort.putCells id 0 (Go.Sort.flatK enc50 9 l.toArray) cur.toArray) 50 (0, 0)) = _
    rw [put_cells hl]
  refine ⟨h.upd (by rw [hsz]; omega) (fun G hG hr => ⟨fun k hk hnk => hoth k hk (fun e => hnk (e ▸ hr.1)), G, fun k hk => ⟨.inl hk, by rw [hsz]; have := (hG k hk).2; omega⟩, hr.1, hat⟩), rfl, rfl, rfl, by rw [hsz]; omega, fun k hk => hoth k (Nat.lt_of_lt_of_le hk h.size) (by omega)⟩
end
/-! ### the one list in order -/
/-- In order, equal ones side by side. -/
def Ord (l : List S50) : Prop := l.Pairwise fun x y => ¬ Bf y x
theorem ord_unique : ∀ (l m : List S50), l.Perm m → Ord l → Ord m → l = m
  | [], m, h, _, _ => (List.nil_perm.mp h).symm
  | x :: l, m, h, h1, h2 => by
    cases m with
    | nil => exact absurd h.length_eq (by simp)
    | cons y m =>
      obtain ⟨hx, hl⟩ := List.pairwise_cons.mp h1
      obtain ⟨hy, hm⟩ := List.pairwise_cons.mp h2
      have e : x = y := by
        by_cases e : x = y
        · exact e
        · have a1 : y ∈ l := by
            rcases List.mem_cons.mp (h.symm.subset List.mem_cons_self) with h3 | h3
            · exact absurd h3.symm e
            · exact h3
          have a2 : x ∈ m := by
            rcases List.mem_cons.mp (h.subset List.mem_cons_self) with h3 | h3
            · exact absurd h3 e
            · exact h3
          exact absurd (bf_tri (hy x a2) e) (hx y a1)
      subst e
      rw [ord_unique l m (List.perm_cons x |>.mp h) hl hm]
/-- An event put in its place, behind its equals. -/
def insE (x : S50) : List S50 → List S50
  | [] => [x]
  | y :: l => if Bf x y then x :: y :: l else y :: insE x l
def srt : List S50 → List S50
  | [] => []
  | x :: l => insE x (srt l)
theorem insE_perm (x : S50) : ∀ l : List S50, (insE x l).Perm (x :: l)
  | [] => List.Perm.refl _
  | y :: l => by
    unfold insE
    split
    · exact List.Perm.refl _
    · exact ((insE_perm x l).cons y).trans (List.Perm.swap x y l)
theorem srt_perm : ∀ l : List S50, (srt l).Perm l
  | [] => List.Perm.refl _
  | x :: l => (insE_perm x (srt l)).trans ((srt_perm l).cons x)
theorem insE_ord (x : S50) : ∀ l : List S50, Ord l → Ord (insE x l)
  | [], _ => List.pairwise_singleton _ _
  | y :: l, h => by
    obtain ⟨hy, hl⟩ := List.pairwise_cons.mp h
    unfold insE
    split
    · rename_i hb
      refine List.pairwise_cons.mpr ⟨fun z hz hbz => ?_, h⟩
      rcases List.mem_cons.mp hz with rfl | hz
      · exact bf_asymm hb hbz
      · exact hy z hz (bf_trans hbz hb)
    · rename_i hb
      refine List.pairwise_cons.mpr ⟨fun z hz => ?_, insE_ord x l hl⟩
      rcases List.mem_cons.mp ((insE_perm x l).subset hz) with rfl | hz
      · exact hb
      · exact hy z hz
theorem srt_ord : ∀ l : List S50, Ord (srt l)
  | [] => List.Pairwise.nil
  | x :: l => insE_ord x (srt l) (srt_ord l)
theorem srt_unique {l m : List S50} (hp : m.Perm l) (ho : Ord m) : m = srt l := ord_unique _ _ (hp.trans (srt_perm l).symm) ho (srt_ord l)
theorem srt_perm_eq {l m : List S50} (h : l.Perm m) : srt l = srt m := srt_unique ((srt_perm l).trans h) (srt_ord l)
theorem srt_length (l : List S50) : (srt l).length = l.length := (srt_perm l).length_eq
theorem swo_e : Go.Sort.SWO (ltOf ecmp) where
  irrefl x := by
    unfold ltOf
    rw [decide_eq_false]
    exact bf_irrefl x
  trans x y z h1 h2 := by
    unfold ltOf at *
    exact decide_eq_true (bf_trans (of_decide_eq_true h1) (of_decide_eq_true h2))
  ntrans x y z h1 h2 := by
    unfold ltOf at *
    have h1 : ¬ Bf x y := of_decide_eq_false h1
    have h2 : ¬ Bf y z := of_decide_eq_false h2
    refine decide_eq_false (fun h3 : Bf x z => ?_)
    by_cases e : x = y
    · subst e; exact h2 h3
    · exact h2 (bf_trans (bf_tri h1 e) h3)
theorem cmp_lays (blk off size : Nat) (w : World) : CmpLays Tryz.prog 51 #[] enc50 9 ecmp blk off size w := fun _ _ _ _ x y => (compare_grown x y _).mono fun e w' h => ⟨h.1, h.2.out⟩
theorem get_rd (l : List S50) (i : Nat) : l.toArray[i]! = rd_T50 l (i : Int) := by
  unfold rd_T50
  rw [Int.toNat_natCast, List.getD_eq_getElem?_getD]
  by_cases h : i < l.length
  · rw [getElem!_pos _ i (by simpa using h), List.getElem?_eq_getElem h]; rfl
  · rw [getElem!_neg _ i (by simpa using h), List.getElem?_eq_none (by omega)]; rfl
theorem enters51 (args : Array Value) (w : World) : (callFunc 51 args).run Tryz.prog w = .ok (.enter 51 args) w := enters_of Tryz.func51 (by kernel_rfl) rfl args w
theorem sort_ok (l : List S50) (hl : l.length ≤ 1000000) (v : Value) {N : Nat} {w : World} {L : List Res} (HS : St N w (Row k50 50 v l :: L)) :
    Calls Tryz.prog 50 #[v, .func (.func 51) #[] #[]] w fun e w' => e = .returned (.tuple #[]) ∧ St N w' (Row k50 50 v (srt l) :: L) ∧ Below N w w' := by
  rcases St.open_row flat50 HS with ⟨rfl, rfl⟩ | ⟨g, cap, cur, rfl, h1, h2, h3, h4, h5⟩
  · have := AnyF.slices_SortFunc_none Tryz.sort50 none 0 (.func (.func 51) #[] #[]) w
    refine Calls.mono (f := 50) this ?_
    rintro e w' ⟨rfl, rfl⟩
    exact ⟨rfl, HS, Below.refl _ _⟩
  · have hH := holds_row h5 h4
    have := AnyQ.slices_SortFunc Tryz.sort50 9 Tryz.isAgg50 Tryz.sizeOf50 enc50 (fun _ => rfl) flat50.one ecmp swo_e 51 #[] g 0 cap l.toArray w enters51 (cmp_lays g 0 _ w) hH (blk_lt h5.blk) (by simp; omega)
    change Calls Tryz.prog 50 _ _ _ at this
    rw [List.size_toArray] at this
    refine this.mono ?_
    rintro e w' ⟨rfl, d', n, os, ⟨hp1, _, hp3⟩, hs, rfl⟩
    obtain ⟨l', rfl⟩ : ∃ l' : List S50, d' = l'.toArray := ⟨d'.toList, by simp⟩
    have e1 : l'.length = l.length := by simpa using hp1
    have hp : l'.Perm l := by
      have := hp3
      simp only [e1, List.size_toArray, List.extract_toArray] at this
      simpa [List.take_of_length_le (show l'.length ≤ l.length by omega)] using this
    have ho : Ord l' := by
      unfold Ord
      rw [List.pairwise_iff_getElem]
      intro i j hi hj hij
      have h9 := hs i j (Nat.zero_le _) hij (by simpa using e1 ▸ hj)
      rw [get_rd, get_rd] at h9
      unfold ltOf at h9
      have h9 := of_decide_eq_false h9
      have ei : rd_T50 l' (i : Int) = l'[i] := by simp [rd_T50, hi]
      have ej : rd_T50 l' (j : Int) = l'[j] := by simp [rd_T50, hj]
      rw [ei, ej] at h9
      exact h9
    obtain rfl := srt_unique hp ho
    have h3' : cur.length = cap * 9 := h3
    obtain ⟨hs1, hb1⟩ := sorted_piece (l := srt l) h5 (by omega) n os
    have h4' : (encs enc50 (srt l) ++ cur.drop ((srt l).length * 9)).take ((srt l).length * 9) = encs enc50 (srt l) := List.take_left' (encs_len9 _)
    refine ⟨rfl, ?_, hb1⟩
    have := St.shut_row flat50 (xs := srt l) hs1 (by omega) h2 (by rw [List.length_append, List.length_drop, encs_len9]; show _ = cap * 9; omega) h4'
    rwa [e1] at this
end Go.Proofs.YtcjfgejiknlpfaaGreat.PI
end

/-! # EvC -/
section
namespace Go.Proofs.YtcjfgejiknlpfaaGreat.PI
open Go.RowKit Go.Proofs.YtcjfgejiknlpfaaGreatW.PrintWords Go.Proofs.YtcjfgejiknlpfaaGreatW.PrintLast Go.Proofs.YtcjfgejiknlpfaaGreatW.PrintMore Go.Proofs.YtcjfgejiknlpfaaGreat.Sep
set_option linter.unusedVariables false
set_option linter.unusedSimpArgs false
theorem evCel {N : Nat} {w : World} {L : List Res} {g n cap : Nat} {l : List S50} (h : St N w (Row k50 50 (.slice (some ⟨g, 0, none⟩) n cap) l :: L)) (j : Nat) (hj : j < l.length) (x : S50) (hx : rd_T50 l (j : Int) = x) :
    w.cell? ⟨g, j * 9, none⟩ = some (.string x.f0.f0) ∧ w.cell? ⟨g, j * 9 + 1, none⟩ = some (.int .i64 x.f0.f1) ∧ w.cell? ⟨g, j * 9 + 2, none⟩ = some (.int .i64 x.f1) ∧ w.cell? ⟨g, j * 9 + 3, none⟩ = some (.int .i64 x.f2) ∧ w.cell? ⟨g, j * 9 + 4, none⟩ = some (.string x.f3.f0) ∧ w.cell? ⟨g, j * 9 + 5, none⟩ = some (.int .i64 x.f3.f1) ∧ w.cell? ⟨g, j * 9 + 6, none⟩ = some (.string x.f4) ∧ w.cell? ⟨g, j * 9 + 7, none⟩ = some (.int .i64 x.f5) ∧ w.cell? ⟨g, j * 9 + 8, none⟩ = some (.string x.f6) := by
  subst hx
  obtain ⟨ad, ea, x0, x1, x2, x3, x4, x5, x6, x7, x8⟩ := at_T50 h.rowC.2.2 (j : Int) (by omega) (by omega)
  cases ea
  rw [Int.toNat_natCast, Addr.add_lit, Nat.zero_add] at x0 x1 x2 x3 x4 x5 x6 x7 x8
  exact ⟨x0, x1, x2, x3, x4, x5, x6, x7, x8⟩
end Go.Proofs.YtcjfgejiknlpfaaGreat.PI
end

/-! # Sq4 -/
section
namespace Go.Proofs.YtcjfgejiknlpfaaGreat.PI
open Go.RowKit Go.Shelf Go.Proofs.YtcjfgejiknlpfaaGreatW.PrintWords Go.Proofs.YtcjfgejiknlpfaaGreatW.PrintLast Go.Proofs.YtcjfgejiknlpfaaGreatW.PrintMore Go.Proofs.YtcjfgejiknlpfaaGreat.Sep
set_option linter.unusedVariables false
set_option linter.unusedSimpArgs false
set_option maxHeartbeats 8000000
set_option maxRecDepth 100000
theorem evCs_is : ∀ l : List S50, evCs l = Sep.encs enc50 l
  | [] => rfl
  | x :: l => by rw [evCs, Sep.encs, evCs_is l]; rfl
theorem values_ok {N : Nat} {w : World} {L : List Res} (A : Option Addr) (n c : Nat) (HS : St N w L) :
    Calls Tryz.prog 58 #[.slice A n c] w fun e w' => ∃ B, e = .returned (.func (.func 74) #[] #[.pointer (some ⟨B, 0, none⟩)]) ∧ St N w' (Blk B #[.slice A n c] 25 :: L) ∧ Below N w w' := by
  refine (callsIn_wide.1 (values_in Fence.wide 5 trivial rfl A n c w)).mono ?_
  rintro e w' ⟨rfl, rfl⟩
  exact ⟨_, rfl, HS.box rfl (new_cells w _ _) ((Below.refl _ _).alloc (Nat.le_refl _) _), (Below.refl _ _).alloc HS.size _⟩
theorem appendSeq_ok {N : Nat} {w : World} {L : List Res} (B : Nat) (A : Option Addr) (c : Nat) (zs : List S50) (hm : zs.length ≤ 1000000) (HS : St N w (Blk B #[.slice A zs.length c] 25 :: L)) (hI : Kd.C k50 w A zs.length zs) :
    Calls Tryz.prog 110 #[.slice none 0 0, .func (.func 74) #[] #[.pointer (some ⟨B, 0, none⟩)]] w fun e w' => ∃ v, e = .returned v ∧ St N w' (Row k50 50 v zs :: Blk B #[.slice A zs.length c] 25 :: L) ∧ Below N w w' := by
  refine (callsIn_wide.1 (appendSeq_in Fence.wide 8 trivial trivial rfl (by omega) B A c zs hm w (blk_lt HS.blk) (HS.cell 0) (fun W1 h1 => Kd.C_below hI h1))).mono ?_
  rintro e w' ⟨v, rfl, hr, hb⟩
  refine ⟨v, rfl, HS.made (ok := fun _ => True) ⟨fun k hk => trivial, evCs zs, hr, ?_⟩ hb, hb.mono HS.size⟩
  rw [evCs_is]
  exact reps_encs flat50 (fun y => flat50.M _ _ _ y) zs

theorem collect_ok {N : Nat} {w : World} {L : List Res} (B : Nat) (A : Option Addr) (c : Nat) (zs : List S50) (hm : zs.length ≤ 1000000) (HS0 : St N w (Blk B #[.slice A zs.length c] 25 :: L)) (hI : Kd.C k50 w A zs.length zs) :
    Calls Tryz.prog 73 #[.func (.func 74) #[] #[.pointer (some ⟨B, 0, none⟩)]] w fun e w' => ∃ v, e = .returned v ∧ St N w' (Row k50 50 v zs :: Blk B #[.slice A zs.length c] 25 :: L) ∧ Below N w w' := by
  have HS := Aside0.mk HS0
  have HB := Aside0.mk (Below.refl N w)
  have HI := Aside0.mk hI
  clear HS0 hI
  go_enter Tryz.func73, Tryz.ntmps73
  go_wp2_with (first | ((with_reducible refine gate_callee (f := 110) rfl ?_); refine goesL_ (some 4) rfl rfl Tryz.func110 (by kernel_rfl) rfl #[.slice none 0 0, .func (.func 74) #[] #[.pointer (some ⟨B, 0, none⟩)]] rfl (by (try simp only [List.map_toArray, List.map_cons, List.map_nil]); first | done | rfl | (simp only [List.length_drop, List.length_take]; rfl)) ?_; (with_reducible refine (appendSeq_ok B A c zs hm HS.out HI.out).mono ?_); rintro e w1 ⟨v1, rfl, hs, hb⟩; refine ⟨_, rfl, ?_⟩; have n0_ := Aside0.mk (hs); have n1_ := Aside0.mk (HB.out.trans hb); clear HS HB; have HS := n0_; have HB := n1_; clear n0_ n1_; (try simp only [List.eraseIdx_cons_succ, List.eraseIdx_cons_zero] at HS); clear hs hb HI))
  go_ret
  exact ⟨_, rfl, HS.out, HB.out⟩

theorem sorted_ok {N : Nat} {w : World} {L : List Res} (B : Nat) (A : Option Addr) (c : Nat) (zs : List S50) (hm : zs.length ≤ 1000000) (HS0 : St N w (Blk B #[.slice A zs.length c] 25 :: L)) (hI : Kd.C k50 w A zs.length zs) :
    Calls Tryz.prog 57 #[.func (.func 74) #[] #[.pointer (some ⟨B, 0, none⟩)], .func (.func 51) #[] #[]] w fun e w' => ∃ v, e = .returned v ∧ St N w' (Row k50 50 v (srt zs) :: L) ∧ Below N w w' := by
  have HS := Aside0.mk HS0
  have HB := Aside0.mk (Below.refl N w)
  have HI := Aside0.mk hI
  clear HS0 hI
  go_enter Tryz.func57, Tryz.ntmps57
  go_wp2_with (first | ((with_reducible refine gate_callee (f := 73) rfl ?_); refine goesL_ (some 7) rfl rfl Tryz.func73 (by kernel_rfl) rfl #[.func (.func 74) #[] #[.pointer (some ⟨B, 0, none⟩)]] rfl (by (try simp only [List.map_toArray, List.map_cons, List.map_nil]); first | done | rfl | (simp only [List.length_drop, List.length_take]; rfl)) ?_; (with_reducible refine (collect_ok B A c zs hm HS.out HI.out).mono ?_); rintro e w1 ⟨v1, rfl, hs, hb⟩; refine ⟨_, rfl, ?_⟩; have n0_ := Aside0.mk (hs); have n1_ := Aside0.mk (HB.out.trans hb); clear HS HB; have HS := n0_; have HB := n1_; clear n0_ n1_; (try simp only [List.eraseIdx_cons_succ, List.eraseIdx_cons_zero] at HS); clear hs hb HI) | ((with_reducible refine gate_callee (f := 50) rfl ?_); refine goesL_ (some 10) rfl rfl Tryz.func50 (by kernel_rfl) rfl #[v1, .func (.func 51) #[] #[]] rfl (by (try simp only [List.map_toArray, List.map_cons, List.map_nil]); first | done | rfl | (simp only [List.length_drop, List.length_take]; rfl)) ?_; (with_reducible refine (sort_ok zs hm v1 HS.out).mono ?_); rintro e w2 ⟨rfl, hs, hb⟩; refine ⟨_, rfl, ?_⟩; have n0_ := Aside0.mk (hs); have n1_ := Aside0.mk (HB.out.trans hb); clear HS HB; have HS := n0_; have HB := n1_; clear n0_ n1_; (try simp only [List.eraseIdx_cons_succ, List.eraseIdx_cons_zero] at HS); clear hs hb))
  go_ret
  exact ⟨_, rfl, HS.out.swap.drop, HB.out⟩

end Go.Proofs.YtcjfgejiknlpfaaGreat.PI
end

/-! # MapK -/
section
namespace Go.Proofs.YtcjfgejiknlpfaaGreat.PI
open Go.RowKit Go.Proofs.YtcjfgejiknlpfaaGreatW.PrintWords Go.Proofs.YtcjfgejiknlpfaaGreatW.PrintLast Go.Proofs.YtcjfgejiknlpfaaGreatW.PrintMore Go.Proofs.YtcjfgejiknlpfaaGreat.Sep
open Go.ChangeMaps (setBlock)
set_option linter.unusedVariables false
set_option linter.unusedSimpArgs false
set_option maxRecDepth 100000
def keyV (k : S33) : Value := .agg #[.string k.f0, .int .i64 k.f1]
theorem keyV_inj {x y : S33} (h : keyV x = keyV y) : x = y := by
  obtain ⟨a, b⟩ := x
  obtain ⟨c, d⟩ := y
  simp [keyV] at h
  rw [h.1, h.2]
theorem fields33 : Tryz.prog.fieldsOf 33 = #[{ name := "Author", type := 9, offset := 0, embedded := false, tag := "", pkgPath := "", byteOffset := 0 }, { name := "Seq", type := 3, offset := 1, embedded := false, tag := "", pkgPath := "", byteOffset := 16 }] := by simp [Program.fieldsOf, Tryz.underlying33]
theorem equal33 (x y : S33) (w : World) : (Op.equal 33 (keyV x) (keyV y)).run Tryz.prog w = .ok (decide (x = y)) w := by
  have h := run_equalIn_struct (P := Tryz.prog) w 9999 33 #[.string x.f0, .int .i64 x.f1] #[.string y.f0, .int .i64 y.f1] (by rw [fields33]; exact Tryz.underlying33) (by kernel_rfl)
  have e : (Op.equal 33 (keyV x) (keyV y)).run Tryz.prog w = .ok ((x.f0.toList == y.f0.toList) && (x.f1 == y.f1)) w := by
    unfold Op.equal keyV
    refine h.trans ?_
    rw [fields33]
    refine eqf_cons rfl (a := .string x.f0) (b := .string y.f0) (by go_simp) (by go_simp) (by go_simp) ?_
    exact eqf_last rfl (a := .int .i64 x.f1) (b := .int .i64 y.f1) (by go_simp) (by go_simp) (by go_simp)
  rw [e]
  congr 1
  obtain ⟨a, b⟩ := x
  obtain ⟨c, d⟩ := y
  by_cases h1 : a = c
  · subst h1
    by_cases h2 : b = d
    · subst h2; simp
    · simp [h2]
  · have h3 : ¬ a.toList = c.toList := fun h => h1 (bytes_ext _ _ h)
    simp [h1, h3]
theorem check_str (s : ByteArray) (em : Bool) (n : Nat) (w : World) : (Instr.checkKey em (n + 1) 9 (.string s)).run Tryz.prog w = .ok () w := by simp [Instr.checkKey, run_underlying Tryz.underlying9]
theorem check_int (i : Int) (em : Bool) (n : Nat) (w : World) : (Instr.checkKey em (n + 1) 3 (.int .i64 i)).run Tryz.prog w = .ok () w := by simp [Instr.checkKey, run_underlying Tryz.underlying3]
theorem check_n (k : S33) (em : Bool) (n : Nat) (w : World) : (Instr.checkKey em (n + 1 + 1) 33 (keyV k)).run Tryz.prog w = .ok () w := by
  have p0 : (part 9 #[.string k.f0, .int .i64 k.f1] 0).run Tryz.prog w = .ok (.string k.f0) w := by go_simp
  have p1 : (part 3 #[.string k.f0, .int .i64 k.f1] 1).run Tryz.prog w = .ok (.int .i64 k.f1) w := by go_simp
  unfold keyV
  rw [Instr.checkKey]
  simp [run_underlying Tryz.underlying33, p0, p1, check_str, check_int]
theorem check33 (k : S33) (em : Bool) (w : World) : (Instr.checkKey em 10000 33 (keyV k)).run Tryz.prog w = .ok () w := check_n k em 9998 w
theorem find_asking (k : S33) (w : World) : ∀ (es : List MapEntry), (∀ e ∈ es, ∃ k', e.key = keyV k') → ∀ i,
    ((Instr.findAsking 33 (keyV k) es i).run Tryz.prog w = .ok none w ∧ ∀ e ∈ es, e.key ≠ keyV k) ∨ ∃ j e, (Instr.findAsking 33 (keyV k) es i).run Tryz.prog w = .ok (some (j, e.val)) w ∧ e ∈ es ∧ e.key = keyV k
  | [], _, i => .inl ⟨by simp [Instr.findAsking], by simp⟩
  | e :: es, h, i => by
    obtain ⟨k', hk⟩ := h e List.mem_cons_self
    have hq := equal33 k k' w
    by_cases he : k = k'
    · subst he
      refine .inr ⟨i, e, ?_, List.mem_cons_self, hk⟩
      simp [Instr.findAsking, hk, hq]
    · have hd : decide (k = k') = false := decide_eq_false he
      rw [hd] at hq
      rcases find_asking k w es (fun e' h' => h e' (List.mem_cons_of_mem _ h')) (i + 1) with ⟨h1, h2⟩ | ⟨j, e', h1, h2, h3⟩
      · refine .inl ⟨by simp [Instr.findAsking, hk, hq, h1], fun e' h' => ?_⟩
        rcases List.mem_cons.mp h' with rfl | h'
        · rw [hk]; exact fun h => he (keyV_inj h).symm
        · exact h2 e' h'
      · exact .inr ⟨j, e', by simp [Instr.findAsking, hk, hq, h1], List.mem_cons_of_mem _ h2, h3⟩
theorem find_key (k : S33) (w : World) (es : List MapEntry) (h : ∀ e ∈ es, ∃ k', e.key = keyV k') :
    ((Instr.findKey 33 (keyV k) es).run Tryz.prog w = .ok none w ∧ ∀ e ∈ es, e.key ≠ keyV k) ∨ ∃ j e, (Instr.findKey 33 (keyV k) es).run Tryz.prog w = .ok (some (j, e.val)) w ∧ e ∈ es ∧ e.key = keyV k := by
  cases es with
  | nil => exact .inl ⟨by simp [Instr.findKey, run_underlying Tryz.underlying33, Instr.findNow], by simp⟩
  | cons e es =>
    have hn : Instr.findNow (.struct #[{ name := "Author", type := 9, offset := 0, embedded := false, tag := "", pkgPath := "", byteOffset := 0 }, { name := "Seq", type := 3, offset := 1, embedded := false, tag := "", pkgPath := "", byteOffset := 16 }]) (keyV k) (e :: es) 0 = none := by
      obtain ⟨k', hk⟩ := h e List.mem_cons_self
      simp [Instr.findNow, Instr.sameNow, keyV]
    have hf : ∀ r, (Instr.findAsking 33 (keyV k) (e :: es)).run Tryz.prog w = r → (Instr.findKey 33 (keyV k) (e :: es)).run Tryz.prog w = r := by
      intro r hr
      simp [Instr.findKey, run_underlying Tryz.underlying33, hn, hr]
    rcases find_asking k w (e :: es) h 0 with ⟨h1, h2⟩ | ⟨j, e', h1, h2, h3⟩
    · exact .inl ⟨hf _ h1, h2⟩
    · exact .inr ⟨j, e', hf _ h1, h2, h3⟩
/-- A map that says 'true' at just these keys. -/
def SeenAt (b : Nat) (ks : List S33) (w : World) : Prop :=
  ∃ es clock, w.heap[b]? = some (.map es clock) ∧ (∀ e ∈ es.toList, ∃ k, k ∈ ks ∧ e.key = keyV k ∧ e.val = .bool true) ∧ ∀ k ∈ ks, ∃ e ∈ es.toList, e.key = keyV k
def Seen (b : Nat) (ks : List S33) : Res where
  sat := fun _ w F => F b ∧ SeenAt b ks w
  move := fun hm ⟨hf, es, clock, h, h1⟩ => ⟨hf, es, clock, (hm b hf (Array.getElem?_eq_some_iff.1 h).1).trans h, h1⟩
  mono := fun hm h => ⟨hm _ h.1, h.2⟩
section
variable {N : Nat} {w w0 : World} {L : List Res} {b : Nat} {ks : List S33}
theorem seen_at (h : St N w (Seen b ks :: L)) : SeenAt b ks w := by
  obtain ⟨_, _, g1, _⟩ := h.own
  exact g1.2
theorem seen_ge (h : St N w (Seen b ks :: L)) : N ≤ b := by
  obtain ⟨_, g0, g1, _⟩ := h.own
  exact (g0 _ g1.1).2.1
theorem seen_new (h : St N w L) : St N (w.alloc (.map #[] 0)) (Seen w.heap.size [] :: L) ∧ Below N w (w.alloc (.map #[] 0)) := by
  have hb : Below w.heap.size w (w.alloc (.map #[] 0)) := (Below.refl _ _).alloc (Nat.le_refl _) _
  refine ⟨h.add hb ⟨fun k => k = w.heap.size, fun k hk => ?_, rfl, #[], 0, heap_new w _, by simp, by simp⟩, hb.mono h.size⟩
  subst hk
  exact ⟨Nat.le_refl _, by simp⟩
theorem lookup_seen (k : S33) (h : SeenAt b ks w) : (Instr.lookup 93 (.map (some b)) (keyV k) false).run Tryz.prog w = .ok (.bool (decide (k ∈ ks))) w := by
  obtain ⟨es, clock, hb, h1, h2⟩ := h
  rcases find_key k w es.toList (fun e he => by obtain ⟨k', _, h3, _⟩ := h1 e he; exact ⟨k', h3⟩) with ⟨h3, h4⟩ | ⟨j, e, h3, h4, h5⟩
  · have hn : k ∉ ks := fun hk => by obtain ⟨e, he, hk⟩ := h2 k hk; exact h4 e he hk
    rw [decide_eq_false hn]
    simp [Instr.lookup, run_underlying Tryz.underlying93, MapKept.run_getObj_map hb, check33, h3, Tryz.zeroValue4, Result.andThen]
  · obtain ⟨k', hk', h6, h7⟩ := h1 e h4
    have : k = k' := keyV_inj (h5.symm.trans h6)
    subst this
    rw [decide_eq_true hk']
    simp [Instr.lookup, run_underlying Tryz.underlying93, MapKept.run_getObj_map hb, check33, h3, h7, Result.andThen]
theorem update_seen (k : S33) (hn : k ∉ ks) (h : SeenAt b ks w) : ∃ o, (Instr.mapUpdate 93 (.map (some b)) (keyV k) (.bool true)).run Tryz.prog w = .ok () (setBlock w b o) ∧ SeenAt b (ks ++ [k]) (setBlock w b o) := by
  obtain ⟨es, clock, hb, h1, h2⟩ := h
  rcases find_key k w es.toList (fun e he => by obtain ⟨k', _, h3, _⟩ := h1 e he; exact ⟨k', h3⟩) with ⟨h3, h4⟩ | ⟨j, e, h3, h4, h5⟩
  · refine ⟨.map (es.push ⟨keyV k, .bool true, clock⟩) (clock + 1), ?_, es.push ⟨keyV k, .bool true, clock⟩, clock + 1, ?_, ?_, ?_⟩
    · simp [Instr.mapUpdate, run_underlying Tryz.underlying93, MapKept.run_getObj_map hb, check33, h3, MapKept.run_setObj_map _ hb, Result.andThen, setBlock]
    · show (w.heap.setIfInBounds b _)[b]? = _
      rw [Array.getElem?_setIfInBounds_self_of_lt (Array.getElem?_eq_some_iff.1 hb).1]
    · intro e he
      simp only [Array.toList_push, List.mem_append, List.mem_singleton] at he
      rcases he with he | rfl
      · obtain ⟨k', h5, h6, h7⟩ := h1 e he
        exact ⟨k', List.mem_append_left _ h5, h6, h7⟩
      · exact ⟨k, by simp, rfl, rfl⟩
    · intro k' hk'
      rcases List.mem_append.mp hk' with hk' | hk'
      · obtain ⟨e, he, h5⟩ := h2 k' hk'
        exact ⟨e, by simp [he], h5⟩
      · simp at hk'
        subst hk'
        exact ⟨⟨keyV k', .bool true, clock⟩, by simp, rfl⟩
  · obtain ⟨k', hk', h6, h7⟩ := h1 e h4
    have : k = k' := keyV_inj (h5.symm.trans h6)
    exact absurd (this ▸ hk') hn
theorem seen_put {o : Obj} (h : St N w (Seen b ks :: L)) {ks' : List S33} (hs : SeenAt b ks' (setBlock w b o)) : St N (setBlock w b o) (Seen b ks' :: L) ∧ Below N w (setBlock w b o) := by
  have hsz : (setBlock w b o).heap.size = w.heap.size := by simp [setBlock]
  have hoth : ∀ k, k ≠ b → (setBlock w b o).heap[k]? = w.heap[k]? := fun k hk => by
    show (w.heap.setIfInBounds b o)[k]? = _
    rw [Array.getElem?_setIfInBounds_ne (fun e => hk e.symm)]
  exact ⟨h.upd (Nat.le_of_eq hsz.symm) (fun G g0 hg => ⟨fun k hk hn => hoth k (fun e => hn (e ▸ hg.1)), G, fun k hk => ⟨.inl hk, by rw [hsz]; exact (g0 k hk).2⟩, hg.1, hs⟩),
    rfl, rfl, rfl, Nat.le_of_eq hsz.symm, fun k hk => hoth k (by have := seen_ge h; omega)⟩
end
/-! ### the two operations, in a walk -/
section
variable {P : Program} {ops : Array Oper} {rest : List Oper} {o : Oper} {a : Act} {Q : Exit → Act → World → Prop}
theorem S_lookup {w : World} (hgd : o.guard = none) (m x : Operand) (t : TypeId) (hop : o.op = Op.lookup t m x false) (mv key v : Value) (hm : a.eval m = mv) (hx : a.eval x = key)
    (hrun : (Instr.lookup t mv key false).run P w = .ok v w) (h : wpList P ops Q rest (a.put o.dst v) w) : wpList P ops Q (o :: rest) a w := by
  refine wpList_plain hgd fun K' hK' => ?_
  unfold Oper.wp
  simp [execOp, hop, hm, hx, hrun, Result.andThen]
  exact hK' _ _ h
theorem S_update {w w1 : World} (hgd : o.guard = none) (m x y : Operand) (t : TypeId) (hop : o.op = Op.mapUpdate t m x y) (mv key v : Value) (hm : a.eval m = mv) (hx : a.eval x = key) (hy : a.eval y = v)
    (hrun : (Instr.mapUpdate t mv key v).run P w = .ok () w1) (h : wpList P ops Q rest (a.put o.dst undef) w1) : wpList P ops Q (o :: rest) a w := by
  refine wpList_plain hgd fun K' hK' => ?_
  unfold Oper.wp
  simp [execOp, hop, hm, hx, hy, hrun, Result.andThen]
  exact hK' _ _ h
end
end Go.Proofs.YtcjfgejiknlpfaaGreat.PI
end

/-! # Sq5 -/
section
namespace Go.Proofs.YtcjfgejiknlpfaaGreat.PI
open Go.RowKit Go.Shelf Go.Proofs.YtcjfgejiknlpfaaGreatW.PrintWords Go.Proofs.YtcjfgejiknlpfaaGreatW.PrintLast Go.Proofs.YtcjfgejiknlpfaaGreatW.PrintMore Go.Proofs.YtcjfgejiknlpfaaGreat.Sep
set_option linter.unusedVariables false
set_option linter.unusedSimpArgs false
set_option maxHeartbeats 8000000
set_option maxRecDepth 100000
/-- The first event of each key. -/
def dedS (out : List S50) (e : S50) : List S50 := if e.f0 ∈ out.map (fun x => x.f0) then out else out ++ [e]
def ded (l : List S50) : List S50 := l.foldl dedS []
def orderE (l : List S50) : List S50 := ded (srt l)
theorem ded_snoc (l : List S50) (e : S50) : ded (l ++ [e]) = dedS (ded l) e := by simp [ded, List.foldl_append]
theorem ded_len (l : List S50) (i : Nat) : (ded (l.take i)).length ≤ i := by
  induction i with
  | zero => simp [ded]
  | succ i ih =>
    by_cases h : i < l.length
    · rw [List.take_succ_eq_append_getElem h, ded_snoc]
      unfold dedS
      split
      · omega
      · rw [List.length_append, List.length_singleton]; omega
    · rw [List.take_of_length_le (by omega)] at ih ⊢
      omega
theorem order_len (l : List S50) : (orderE l).length ≤ l.length := by
  have h := ded_len (srt l) (srt l).length
  rw [List.take_length, srt_length] at h
  exact h
theorem take_rd (l : List S50) (i : Nat) (h : i < l.length) : l.take (i + 1) = l.take i ++ [rd_T50 l (i : Int)] := by
  rw [List.take_succ_eq_append_getElem h]
  simp [rd_T50, h]
theorem flat_k50 (W : World) (N : Nat) (x : S50) : k50.M W N (fun _ => False) x [.string x.f0.f0, .int .i64 x.f0.f1, .int .i64 x.f1, .int .i64 x.f2, .string x.f3.f0, .int .i64 x.f3.f1, .string x.f4, .int .i64 x.f5, .string x.f6] := k50_mkM _ _ _ x

theorem Order_ok {N : Nat} {w : World} {L : List Res} (A : Option Addr) (n c : Nat) (zs : List S50) (hn : zs.length = n) (hm : n ≤ 1000000) (hc : ∀ w', St N w' L → Below N w w' → Kd.C k50 w' A zs.length zs) (HS0 : St N w L) :
    Calls Tryz.prog 32 #[.slice A n c] w fun e w' => ∃ v, e = .returned v ∧ St N w' (Row k50 50 v (orderE zs) :: L) ∧ Below N w w' := by
  subst hn
  have HS := Aside0.mk HS0
  have HB := Aside0.mk (Below.refl N w)
  have HC := Aside0.mk hc
  have hmm := @run_makeMap Tryz.prog
  clear HS0 hc
  go_enter Tryz.func32, Tryz.ntmps32
  go_upto_region 3 with (fail)
  obtain ⟨b, hb_⟩ : ∃ b, b = w.heap.size := ⟨_, rfl⟩
  have hq_ := seen_new HS.out
  rw [← hb_] at hq_ ⊢
  generalize w.alloc (.map #[] 0) = w1 at hq_ ⊢
  have n0_ := Aside0.mk (hq_.1); have n1_ := Aside0.mk (hq_.2); clear HS HB; have HS := n0_; have HB := n1_; clear n0_ n1_; (try simp only [List.eraseIdx_cons_succ, List.eraseIdx_cons_zero] at HS)
  clear hq_ hmm hb_
  go_upto_region 4 with (first | ((with_reducible refine gate_callee (f := 58) rfl ?_); refine goesL_ (some 9) rfl rfl Tryz.func58 (by kernel_rfl) rfl #[.slice A zs.length c] rfl (by (try simp only [List.map_toArray, List.map_cons, List.map_nil]); first | done | rfl | (simp only [List.length_drop, List.length_take]; rfl)) ?_; (with_reducible refine (values_ok A zs.length c HS.out).mono ?_); rintro e w2 ⟨B, rfl, hs, hb⟩; refine ⟨_, rfl, ?_⟩; have n0_ := Aside0.mk (hs); have n1_ := Aside0.mk (HB.out.trans hb); clear HS HB; have HS := n0_; have HB := n1_; clear n0_ n1_; (try simp only [List.eraseIdx_cons_succ, List.eraseIdx_cons_zero] at HS); clear hs hb) | ((with_reducible refine gate_callee (f := 57) rfl ?_); refine goesL_ (some 10) rfl rfl Tryz.func57 (by kernel_rfl) rfl #[.func (.func 74) #[] #[.pointer (some ⟨B, 0, none⟩)], .func (.func 51) #[] #[]] rfl (by (try simp only [List.map_toArray, List.map_cons, List.map_nil]); first | done | rfl | (simp only [List.length_drop, List.length_take]; rfl)) ?_; (with_reducible refine (sorted_ok B A c zs hm HS.out (HC.out _ HS.out.drop.drop HB.out)).mono ?_); rintro e w3 ⟨vs, rfl, hs, hb⟩; refine ⟨_, rfl, ?_⟩; have n0_ := Aside0.mk (hs); have n1_ := Aside0.mk (HB.out.trans hb); clear HS HB; have HS := n0_; have HB := n1_; clear n0_ n1_; (try simp only [List.eraseIdx_cons_succ, List.eraseIdx_cons_zero] at HS); clear hs hb HC; obtain ⟨A2, c2, e2, _, _⟩ := HS.out.reads; rw [srt_length] at e2; subst e2))
  generalize hl_ : srt zs = l at HS
  have hll : zs.length = l.length := by rw [← hl_, srt_length]
  rw [hll] at hm HS
  simp only [hll]
  replace hl_ := Aside0.mk hl_
  have hll := Aside0.mk hll
  go_loopw [3, 12] (fun v3 v12 wr => ∃ i : Nat, i ≤ l.length ∧ v12 = .int .i64 i ∧ Aside0 (St N wr (Row k50 50 v3 (ded (l.take i)) :: Seen b ((ded (l.take i)).map (fun x => x.f0)) :: Row k50 50 (.slice A2 l.length c2) l :: L)) ∧ Aside0 (Below N w wr)) (fun _ v12 _ => l.length - (intOf v12).toNat)
  case atStart => exact ⟨0, Nat.zero_le _, rfl, ⟨HS.out.swap.rowNil⟩, HB⟩
  case round =>
    clear HS HB
    obtain ⟨i, hi, rfl, HS, HB⟩ := hrel
    by_cases hlt : i < l.length
    · obtain ⟨ad, ea, x0, x1, x2, x3, x4, x5, x6, x7, x8⟩ := at_T50 (HS.out.pick 2 rfl).rowC.2.2 (i : Int) (by omega) (by omega)
      cases ea
      rw [Int.toNat_natCast] at x0 x1 x2 x3 x4 x5 x6 x7 x8
      have q0 : decide ((i : Int) < (l.length : Int)) = true := decide_eq_true (by omega)
      have q1 := eq_true (show (i : Int) < (l.length : Int) by omega)
      have q2 := eq_true (show (0 : Int) ≤ (i : Int) by omega)
      have hdl := Aside0.mk (ded_len l i)
      have hds := Aside0.mk (show ded (l.take (i + 1)) = dedS (ded (l.take i)) (rd_T50 l (i : Int)) by rw [take_rd l i hlt, ded_snoc])
      generalize rd_T50 l (i : Int) = x at hds x0 x1 x2 x3 x4 x5 x6 x7 x8
      generalize ded (l.take i) = D at hds hdl HS
      go_upto_region 6 with (fail)
      have hbx := HS.out.box (g := wr.heap.size) (cs := #[.string x.f0.f0, .int .i64 x.f0.f1, .int .i64 x.f1, .int .i64 x.f2, .string x.f3.f0, .int .i64 x.f3.f1, .string x.f4, .int .i64 x.f5, .string x.f6]) (t := 50) rfl (new_cells wr _ _) ((Below.refl _ _).alloc (Nat.le_refl _) _)
      have hbb := below_step' HB.out HS.out.size ((Below.refl _ _).alloc (Nat.le_refl _) (.cells #[.string x.f0.f0, .int .i64 x.f0.f1, .int .i64 x.f1, .int .i64 x.f2, .string x.f3.f0, .int .i64 x.f3.f1, .string x.f4, .int .i64 x.f5, .string x.f6] 50))
      generalize wr.heap.size = g at hbx hbb ⊢
      generalize wr.alloc (.cells #[.string x.f0.f0, .int .i64 x.f0.f1, .int .i64 x.f1, .int .i64 x.f2, .string x.f3.f0, .int .i64 x.f3.f1, .string x.f4, .int .i64 x.f5, .string x.f6] 50) = w4 at hbx hbb ⊢
      clear x0 x1 x2 x3 x4 x5 x6 x7 x8 q0 q1 q2
      have n0_ := Aside0.mk (hbx); have n1_ := Aside0.mk (hbb); clear HS HB; have HS := n0_; have HB := n1_; clear n0_ n1_; (try simp only [List.eraseIdx_cons_succ, List.eraseIdx_cons_zero] at HS)
      clear hbx hbb
      have hc0 := ((HS.out.pick 0 rfl).cell 0).trans (show _ = some (Value.string x.f0.f0) from rfl)
      have hc0 := ((HS.out.pick 0 rfl).cell 0).trans (show _ = some (Value.string x.f0.f0) from rfl)
      have hc1 := ((HS.out.pick 0 rfl).cell 1).trans (show _ = some (Value.int .i64 x.f0.f1) from rfl)
      have hc2 := ((HS.out.pick 0 rfl).cell 2).trans (show _ = some (Value.int .i64 x.f1) from rfl)
      have hc3 := ((HS.out.pick 0 rfl).cell 3).trans (show _ = some (Value.int .i64 x.f2) from rfl)
      have hc4 := ((HS.out.pick 0 rfl).cell 4).trans (show _ = some (Value.string x.f3.f0) from rfl)
      have hc5 := ((HS.out.pick 0 rfl).cell 5).trans (show _ = some (Value.int .i64 x.f3.f1) from rfl)
      have hc6 := ((HS.out.pick 0 rfl).cell 6).trans (show _ = some (Value.string x.f4) from rfl)
      have hc7 := ((HS.out.pick 0 rfl).cell 7).trans (show _ = some (Value.int .i64 x.f5) from rfl)
      have hc8 := ((HS.out.pick 0 rfl).cell 8).trans (show _ = some (Value.string x.f6) from rfl)
      by_cases hk : x.f0 ∈ D.map (fun x => x.f0)
      · have hlk := Aside0.mk (lookup_seen x.f0 (seen_at (HS.out.pick 2 rfl)))
        rw [decide_eq_true hk] at hlk
        have hk := Aside0.mk hk
        go_wp2_with (first | (at_lookup; refine S_lookup rfl (.tmp 16) (.tmp 18) 93 rfl (.map (some b)) (keyV x.f0) _ rfl rfl hlk.out ?_))
        go_roundw
        case rel =>
          refine ⟨i + 1, by omega, by go_num, ?_, HB⟩
          rw [hds.out]
          unfold dedS
          rw [if_pos hk.out]
          exact ⟨HS.out.drop⟩
        case measure => simp [intOf]; omega
      · have hlk := Aside0.mk (lookup_seen x.f0 (seen_at (HS.out.pick 2 rfl)))
        rw [decide_eq_false hk] at hlk
        have hk := Aside0.mk hk
        go_wp2_with (first | (at_lookup; refine S_lookup rfl (.tmp 16) (.tmp 18) 93 rfl (.map (some b)) (keyV x.f0) _ rfl rfl hlk.out ?_) | (at_mapUpdate; obtain ⟨o_, hr_, hs_⟩ := update_seen x.f0 hk.out (seen_at (HS.out.pick 2 rfl)); refine S_update rfl (.tmp 21) (.tmp 23) (.const (.bool true)) 93 rfl (.map (some b)) (keyV x.f0) (.bool true) rfl rfl rfl hr_ ?_; have hq_ := seen_put (HS.out.pick 2 rfl) hs_; generalize Go.ChangeMaps.setBlock _ _ _ = w5 at hq_ ⊢; clear hr_ hs_; have n0_ := Aside0.mk ((hq_.1.pick 2 rfl).pick 2 rfl); have n1_ := Aside0.mk (HB.out.trans hq_.2); clear HS HB; have HS := n0_; have HB := n1_; clear n0_ n1_; (try simp only [List.eraseIdx_cons_succ, List.eraseIdx_cons_zero] at HS); clear hq_; clear hc0 hc1 hc2 hc3 hc4 hc5 hc6 hc7 hc8; have hc0 := ((HS.out.pick 0 rfl).cell 0).trans (show _ = some (Value.string x.f0.f0) from rfl); have hc1 := ((HS.out.pick 0 rfl).cell 1).trans (show _ = some (Value.int .i64 x.f0.f1) from rfl); have hc2 := ((HS.out.pick 0 rfl).cell 2).trans (show _ = some (Value.int .i64 x.f1) from rfl); have hc3 := ((HS.out.pick 0 rfl).cell 3).trans (show _ = some (Value.int .i64 x.f2) from rfl); have hc4 := ((HS.out.pick 0 rfl).cell 4).trans (show _ = some (Value.string x.f3.f0) from rfl); have hc5 := ((HS.out.pick 0 rfl).cell 5).trans (show _ = some (Value.int .i64 x.f3.f1) from rfl); have hc6 := ((HS.out.pick 0 rfl).cell 6).trans (show _ = some (Value.string x.f4) from rfl); have hc7 := ((HS.out.pick 0 rfl).cell 7).trans (show _ = some (Value.int .i64 x.f5) from rfl); have hc8 := ((HS.out.pick 0 rfl).cell 8).trans (show _ = some (Value.string x.f6) from rfl)) | ((with_reducible refine gate_builtin (b := .append) (xs := #[.tmp 24, .tmp 26]) rfl ?_); at_builtin; refine S_append k50 rfl (.tmp 24) (.tmp 26) 25 50 (.agg #[(.string ⟨#[]⟩), (.int .i64 0), (.int .i64 0), (.int .i64 0), (.string ⟨#[]⟩), (.int .i64 0), (.string ⟨#[]⟩), (.int .i64 0), (.string ⟨#[]⟩)]) 104 rfl Tryz.underlying25 info50 rfl (by decide) (by omega) _ _ x [.string x.f0.f0, .int .i64 x.f0.f1, .int .i64 x.f1, .int .i64 x.f2, .string x.f3.f0, .int .i64 x.f3.f1, .string x.f4, .int .i64 x.f5, .string x.f6] rfl rfl (flat_k50 _ _ x) (HS.out.pick 1 rfl) HB.out (by have := hdl.out; omega) ?_; intro v6 w6 hs hb; clear hc0 hc1 hc2 hc3 hc4 hc5 hc6 hc7 hc8; have n0_ := Aside0.mk (hs); have n1_ := Aside0.mk (hb); clear HS HB; have HS := n0_; have HB := n1_; clear n0_ n1_; (try simp only [List.eraseIdx_cons_succ, List.eraseIdx_cons_zero] at HS); clear hs hb))
        go_roundw
        case rel =>
          refine ⟨i + 1, by omega, by go_num, ?_, HB⟩
          rw [hds.out]
          unfold dedS
          rw [if_neg hk.out, List.map_append]
          exact ⟨HS.out.swap.drop⟩
        case measure => simp [intOf]; omega
    · obtain rfl : i = l.length := by omega
      have q0 : decide ((l.length : Int) < (l.length : Int)) = false := decide_eq_false (by omega)
      go_wp2
      go_ret
      refine ⟨_, rfl, ?_, HB.out⟩
      unfold orderE
      rw [hl_.out]
      have h := HS.out
      rw [List.take_length] at h
      exact h.swap.drop.swap.drop
end Go.Proofs.YtcjfgejiknlpfaaGreat.PI
end

/-! # Cnt -/
section
namespace Go.Proofs.YtcjfgejiknlpfaaGreat.PI
open Go.RowKit Go.Proofs.YtcjfgejiknlpfaaGreatW.PrintWords
set_option linter.unusedVariables false
set_option linter.unusedSimpArgs false
theorem rd27_at (l : List S50) (i : Nat) (h : i < l.length) : rd_T50 l (i : Int) = l[i] := by simp [rd_T50, h]
theorem put_ord {l : List S50} {x : S50} {k : Nat} (hO : Ord l) (hk : k ≤ l.length) (hi : ∀ j : Nat, k ≤ j → j < l.length → Bf x (rd_T50 l (j : Int))) (lo : 0 < k → ¬ Bf x (rd_T50 l ((k - 1 : Nat) : Int))) : Ord (l.take k ++ x :: l.drop k) := by
  have hO2 := hO
  unfold Ord at hO ⊢
  rw [← List.take_append_drop k l] at hO
  obtain ⟨h1, h2, h3⟩ := List.pairwise_append.mp hO
  have hB : ∀ y ∈ l.drop k, Bf x y := fun y hy => by
    obtain ⟨j, hj, rfl⟩ := List.mem_iff_getElem.mp hy
    rw [List.length_drop] at hj
    have := hi (k + j) (by omega) (by omega)
    rw [rd27_at l (k + j) (by omega)] at this
    rw [List.getElem_drop]
    exact this
  refine List.pairwise_append.mpr ⟨h1, List.pairwise_cons.mpr ⟨fun y hy hb => bf_asymm hb (hB y hy), h2⟩, fun a ha b hb => ?_⟩
  rcases List.mem_cons.mp hb with rfl | hb
  · intro hba
    obtain ⟨j, hj, rfl⟩ := List.mem_iff_getElem.mp ha
    rw [List.length_take] at hj
    rw [List.getElem_take] at hba
    have hl := lo (by omega)
    rw [rd27_at l (k - 1) (by omega)] at hl
    by_cases hjk : j = k - 1
    · subst hjk; exact hl hba
    · have hp := List.pairwise_iff_getElem.mp hO2 j (k - 1) (by omega) (by omega) (by omega)
      by_cases e : l[j] = l[k - 1]
      · exact hl (e ▸ hba)
      · refine hl (bf_trans hba (bf_tri hp (fun h => e h.symm)))
  · exact h3 a ha b hb
theorem srt_put {l : List S50} {x : S50} {k : Nat} (hk : k ≤ (srt l).length) (hi : ∀ j : Nat, k ≤ j → j < (srt l).length → Bf x (rd_T50 (srt l) (j : Int))) (lo : 0 < k → ¬ Bf x (rd_T50 (srt l) ((k - 1 : Nat) : Int))) : srt (l ++ [x]) = (srt l).take k ++ x :: (srt l).drop k := by
  refine (srt_unique ?_ (put_ord (srt_ord l) hk hi lo)).symm
  have h1 : ((srt l).take k ++ x :: (srt l).drop k).Perm (x :: ((srt l).take k ++ (srt l).drop k)) := List.perm_middle
  rw [List.take_append_drop] at h1
  exact h1.trans (((srt_perm l).cons x).trans (List.perm_append_comm (l₁ := [x])))
end Go.Proofs.YtcjfgejiknlpfaaGreat.PI
end

/-! # Pl -/
section
namespace Go.Proofs.YtcjfgejiknlpfaaGreat.PI
open Go.RowKit Go.Proofs.YtcjfgejiknlpfaaGreatW.PrintWords
set_option linter.unusedVariables false
set_option linter.unusedSimpArgs false
structure PS where
  st : Int
  ti : ByteArray
  op : Int
  en : Int
  ca : S33
  pe : List S69
  th : List S71
  no : Int
def PS0 : PS := ⟨0, ⟨#[]⟩, 0, 0, z33, [], [], 0⟩
/-- The index of the theory with a key, or -1. -/
def thIxN (k : S33) : List S71 → Nat → Int
  | [], _ => -1
  | t :: l, i => if t.f0 = k then (i : Int) else thIxN k l (i + 1)
def thIx (k : S33) (l : List S71) : Int := thIxN k l 0
theorem thIxN_hit (k : S33) : ∀ (l : List S71) (i j : Nat), j < l.length → (∀ m : Nat, m < j → (rd_T71 l m).f0 ≠ k) → (rd_T71 l j).f0 = k → thIxN k l i = ((i + j : Nat) : Int)
  | [], _, _, h, _, _ => absurd h (Nat.not_lt_zero _)
  | t :: l, i, 0, _, _, h => by
    unfold thIxN
    rw [if_pos (by simpa [rd_T71] using h)]; rfl
  | t :: l, i, j + 1, hj, hm, h => by
    unfold thIxN
    have h0 : ¬ t.f0 = k := by have := hm 0 (by omega); simpa [rd_T71] using this
    rw [if_neg h0, thIxN_hit k l (i + 1) j (by simpa using hj) (fun m hm2 => by have := hm (m + 1) (by omega); simpa [rd_T71] using this) (by simpa [rd_T71] using h)]
    congr 1; omega
theorem thIxN_none (k : S33) : ∀ (l : List S71) (i : Nat), (∀ m : Nat, m < l.length → (rd_T71 l m).f0 ≠ k) → thIxN k l i = -1
  | [], _, _ => rfl
  | t :: l, i, hm => by
    unfold thIxN
    have h0 : ¬ t.f0 = k := by have := hm 0 (by simp); simpa [rd_T71] using this
    rw [if_neg h0, thIxN_none k l (i + 1) (fun m hm2 => by have := hm (m + 1) (by simpa using hm2); simpa [rd_T71] using this)]
theorem thIx_hit {k : S33} {l : List S71} {j : Nat} (hj : j < l.length) (hm : ∀ m : Nat, m < j → (rd_T71 l m).f0 ≠ k) (h : (rd_T71 l j).f0 = k) : thIx k l = (j : Int) := by
  have := thIxN_hit k l 0 j hj hm h
  unfold thIx
  rw [this, Nat.zero_add]
theorem thIx_none {k : S33} {l : List S71} (hm : ∀ m : Nat, m < l.length → (rd_T71 l m).f0 ≠ k) : thIx k l = -1 := thIxN_none k l 0 hm
theorem thIxN_range (k : S33) : ∀ (l : List S71) (i : Nat), thIxN k l i = -1 ∨ ∃ j : Nat, j < l.length ∧ thIxN k l i = ((i + j : Nat) : Int) ∧ (rd_T71 l j).f0 = k
  | [], _ => .inl rfl
  | t :: l, i => by
    unfold thIxN
    by_cases h : t.f0 = k
    · rw [if_pos h]; exact .inr ⟨0, by simp, rfl, by simpa [rd_T71] using h⟩
    · rw [if_neg h]
      rcases thIxN_range k l (i + 1) with h1 | ⟨j, h1, h2, h3⟩
      · exact .inl h1
      · exact .inr ⟨j + 1, by simpa using h1, by rw [h2]; congr 1; omega, by simpa [rd_T71] using h3⟩
theorem thIx_range (k : S33) (l : List S71) : thIx k l = -1 ∨ ∃ j : Nat, j < l.length ∧ thIx k l = (j : Int) ∧ (rd_T71 l j).f0 = k := by
  rcases thIxN_range k l 0 with h | ⟨j, h1, h2, h3⟩
  · exact .inl h
  · exact .inr ⟨j, h1, by unfold thIx; rw [h2, Nat.zero_add], h3⟩
/-! ### people, by name -/
def IncP (l : List S69) : Prop := l.Pairwise fun x y => bcmp x.f0 y.f0 < 0
/-- Where somebody is, or would be. -/
def plcP (nm : ByteArray) : List S69 → Nat
  | [] => 0
  | x :: l => if bcmp x.f0 nm < 0 then plcP nm l + 1 else 0
def hitP (nm : ByteArray) (l : List S69) : Bool := decide (plcP nm l < l.length) && (bcmp (rd_T69 l (plcP nm l)).f0 nm == 0)
theorem plcP_le (nm : ByteArray) : ∀ l, plcP nm l ≤ l.length
  | [] => Nat.le_refl _
  | x :: l => by
    unfold plcP
    split
    · have := plcP_le nm l; simp; omega
    · exact Nat.zero_le _
theorem rdP_cons (y : S69) (l : List S69) (j : Nat) : rd_T69 (y :: l) ((j + 1 : Nat) : Int) = rd_T69 l (j : Int) := by simp [rd_T69]
theorem plcP_lo (nm : ByteArray) : ∀ (l : List S69) (j : Nat), j < plcP nm l → bcmp (rd_T69 l (j : Int)).f0 nm < 0
  | [], j, h => absurd h (Nat.not_lt_zero _)
  | x :: l, j, h => by
    unfold plcP at h
    split at h
    · rename_i hx
      cases j with
      | zero => simpa [rd_T69] using hx
      | succ j => rw [rdP_cons]; exact plcP_lo nm l j (by omega)
    · exact absurd h (Nat.not_lt_zero _)
theorem bcmp_lt_trans {a b c : ByteArray} (h1 : bcmp a b < 0) (h2 : bcmp b c < 0) : bcmp a c < 0 := (bcmp_neg_iff _ _).mpr (bl_trans _ _ _ ((bcmp_neg_iff _ _).mp h1) ((bcmp_neg_iff _ _).mp h2))
theorem plcP_hi (nm : ByteArray) : ∀ (l : List S69), IncP l → ∀ j : Nat, plcP nm l ≤ j → j < l.length → 0 ≤ bcmp (rd_T69 l (j : Int)).f0 nm
  | [], _, j, _, h => absurd h (Nat.not_lt_zero _)
  | x :: l, hI, j, hj, hl => by
    obtain ⟨hx, hI2⟩ := List.pairwise_cons.mp hI
    unfold plcP at hj
    split at hj
    · cases j with
      | zero => omega
      | succ j => rw [rdP_cons]; exact plcP_hi nm l hI2 j (by omega) (by simpa using hl)
    · rename_i hn
      cases j with
      | zero => rw [show rd_T69 (x :: l) ((0 : Nat) : Int) = x by simp [rd_T69]]; omega
      | succ j =>
        rw [rdP_cons]
        have hj2 : j < l.length := by simpa using hl
        have hm := hx (rd_T69 l (j : Int)) (by simp [rd_T69, hj2])
        by_cases h : bcmp (rd_T69 l (j : Int)).f0 nm < 0
        · exact absurd (bcmp_lt_trans hm h) hn
        · omega
def roleP (nm : ByteArray) (l : List S69) : Int := if hitP nm l = true then (rd_T69 l (plcP nm l : Nat)).f1 else 1
def rightP (k : Int) : Int := if k = 7 ∨ k = 8 ∨ k = 9 then 3 else if k = 3 ∨ k = 4 ∨ k = 5 ∨ k = 6 then 2 else 1
theorem right_ok (k : Int) : incident_right.f 2 k = some (rightP k) := by
  unfold incident_right.f rightP
  by_cases h7 : k = 7
  · subst h7; rfl
  · by_cases h8 : k = 8
    · subst h8; rfl
    · by_cases h9 : k = 9
      · subst h9; rfl
      · simp only [h7, h8, h9, if_false, false_or, incident_right.j0, beq_iff_eq]
        by_cases h3 : k = 3
        · simp [h3]
        · by_cases h4 : k = 4
          · simp [h4]
          · by_cases h5 : k = 5
            · simp [h5]
            · by_cases h6 : k = 6 <;> simp [h3, h4, h5, h6]
def targetP (s : PS) (e : S50) : Int :=
  if e.f2 = 6 then (if s.st = 1 then 0 else 9)
  else if e.f2 = 4 ∨ e.f2 = 5 ∨ e.f2 = 7 then
    if thIx e.f3 s.th < 0 then 5
    else if e.f2 = 4 ∧ e.f3.f0 = e.f0.f0 then 6
    else if e.f2 = 7 ∧ (rd_T71 s.th (thIx e.f3 s.th)).f2 ≠ 2 then 7
    else 0
  else 0
def reasonP (s : PS) (e : S50) : Int :=
  if s.st = 0 ∧ e.f2 ≠ 1 then 1
  else if s.st ≠ 0 ∧ e.f2 = 1 then 2
  else if s.st = 3 ∧ e.f2 ≠ 2 ∧ e.f2 ≠ 8 ∧ e.f2 ≠ 1 then 3
  else if e.f2 = 8 ∧ s.st ≠ 3 then 8
  else if roleP e.f0.f0 s.pe < rightP e.f2 then 4
  else targetP s e
/-- Somebody gets a role. -/
def assignP (nm : ByteArray) (r : Int) (l : List S69) : List S69 :=
  if hitP nm l = true then l.set (plcP nm l) ⟨(rd_T69 l (plcP nm l : Nat)).f0, r⟩ else l.take (plcP nm l) ++ ⟨nm, r⟩ :: l.drop (plcP nm l)
/-- A theory's status turns. -/
def statP (k : S33) (v : Int) (l : List S71) : List S71 := l.set (thIx k l).toNat ⟨(rd_T71 l (thIx k l)).f0, (rd_T71 l (thIx k l)).f1, v⟩
def effP (s : PS) (e : S50) : PS :=
  if e.f2 = 1 then { s with st := 1, ti := e.f6, op := e.f1, pe := assignP e.f0.f0 3 s.pe }
  else if e.f2 = 2 then { s with no := s.no + 1 }
  else if e.f2 = 3 then { s with th := s.th ++ [⟨e.f0, e.f6, 1⟩] }
  else if e.f2 = 4 then { s with th := statP e.f3 2 s.th }
  else if e.f2 = 5 then { s with th := statP e.f3 3 s.th }
  else if e.f2 = 6 then { s with st := 2 }
  else if e.f2 = 7 then { s with st := 3, en := e.f1, ca := e.f3 }
  else if e.f2 = 8 then { s with st := 1, en := 0, ca := z33 }
  else { s with pe := assignP e.f4 e.f5 s.pe }
def stepP (x : PS × List Int) (e : S50) : PS × List Int :=
  (if reasonP x.1 e = 0 then effP x.1 e else x.1, x.2 ++ [reasonP x.1 e])
def runO (l : List S50) : PS × List Int := l.foldl stepP (PS0, [])
def runP (l : List S50) : PS × List Int := runO (orderE l)
theorem runO_snoc (l : List S50) (e : S50) : runO (l ++ [e]) = stepP (runO l) e := by simp [runO, List.foldl_append]
end Go.Proofs.YtcjfgejiknlpfaaGreat.PI
end
