/- slices.SortFunc over a row of keys: the same keys, in order. -/
import Derived.Test.YtddhpkobingmhaaMrg
import Derived.Test.YtddhpkobingmhaaSortLay
import Derived.Shelf.SlSortCmp.NoneTotal

namespace Go.Proofs.Ytddhpkobingmhaa.PB
open Go.RowKit Go.Proofs.YtddhpkobingmhaaW.PrintWords Go.Proofs.YtddhpkobingmhaaW.PrintLast Go.Proofs.YtddhpkobingmhaaW.PrintMore Go.Proofs.Ytddhpkobingmhaa.Sep
set_option linter.unusedVariables false
set_option linter.unusedSimpArgs false
set_option maxRecDepth 100000

def Sorted (l : List S52) : Prop := ∀ i j, i < j → j < l.length → ¬ Bf (rd_T52 l (j : Int)) (rd_T52 l (i : Int))
theorem cmp_lays (blk off size : Nat) (w : World) : CmpLays Try.prog 55 #[] enc52 2 kcmp blk off size w := fun _ _ _ _ x y => compare_grown x y _
theorem get_rd (l : List S52) (i : Nat) : l.toArray[i]! = rd_T52 l (i : Int) := by
  unfold rd_T52
  rw [Int.toNat_natCast, List.getD_eq_getElem?_getD]
  by_cases h : i < l.length
  · rw [getElem!_pos _ i (by simpa using h), List.getElem?_eq_getElem h]; rfl
  · rw [getElem!_neg _ i (by simpa using h), List.getElem?_eq_none (by omega)]; rfl
theorem enc_one (x : S52) : ∀ v ∈ enc52 x, v.oneCell' = true := by
  intro v hv
  simp only [enc52, List.mem_cons, List.not_mem_nil, or_false] at hv
  rcases hv with rfl | rfl <;> rfl
theorem enters55 (args : Array Value) (w : World) : (callFunc 55 args).run Try.prog w = .ok (.enter 55 args) w := enters_of Try.func55 (by kernel_rfl) rfl args w
theorem sort_ok (l : List S52) (hl : l.length ≤ 1000000) (v : Value) {N : Nat} {w : World} {L : List Res} (HS : St N w (Row k52 52 v l :: L)) :
    Calls Try.prog 81 #[v, .func (.func 55) #[] #[]] w fun e w' => e = .returned (.tuple #[]) ∧ ∃ l' : List S52, l'.length = l.length ∧ (∀ x, x ∈ l' ↔ x ∈ l) ∧ Sorted l' ∧ St N w' (Row k52 52 v l' :: L) ∧ Below N w w' := by
  rcases St.open_row flatK HS with ⟨rfl, rfl⟩ | ⟨g, cap, cur, rfl, h1, h2, h3, h4, h5⟩
  · have := AnyF.slices_SortFunc_none Try.sort81 none 0 (.func (.func 55) #[] #[]) w
    refine Calls.mono (f := 81) this ?_
    rintro e w' ⟨rfl, rfl⟩
    exact ⟨rfl, [], rfl, fun x => Iff.rfl, fun i j _ h => absurd h (Nat.not_lt_zero j), HS, Below.refl _ _⟩
  · have hH := holds_row h5 h4
    have := AnyQ.slices_SortFunc Try.sort81 2 Try.isAgg52 Try.sizeOf52 enc52 (fun _ => rfl) enc_one kcmp swo_k 55 #[] g 0 cap l.toArray w enters55 (cmp_lays g 0 _ w) hH (blk_lt h5.blk) (by simp; omega)
    change Calls Try.prog 81 _ _ _ at this
    rw [List.size_toArray] at this
    refine this.mono ?_
    rintro e w' ⟨rfl, d', n, os, ⟨hp1, _, hp3⟩, hs, rfl⟩
    obtain ⟨l', rfl⟩ : ∃ l' : List S52, d' = l'.toArray := ⟨d'.toList, by simp⟩
    have e1 : l'.length = l.length := by simpa using hp1
    have hp : l'.Perm l := by
      have := hp3
      simp only [e1, List.size_toArray, List.extract_toArray] at this
      simpa [List.take_of_length_le (show l'.length ≤ l.length by omega)] using this
    have h3' : cur.length = cap * 2 := h3
    obtain ⟨hs1, hb1⟩ := sorted_piece (l := l') h5 (by omega) n os
    have h4' : (encs enc52 l' ++ cur.drop (l'.length * 2)).take (l'.length * 2) = encs enc52 l' := List.take_left' (encs_len2 l')
    refine ⟨rfl, l', e1, fun x => hp.mem_iff, fun i j hij hj => ?_, ?_, hb1⟩
    · have h9 := hs i j (Nat.zero_le _) hij (by simpa using e1 ▸ hj)
      rw [get_rd, get_rd] at h9
      unfold ltOf at h9
      exact of_decide_eq_false h9
    · have := St.shut_row flatK (xs := l') hs1 (by omega) h2 (by rw [List.length_append, List.length_drop, encs_len2]; show _ = cap * 2; have : cur.length = cap * 2 := h3; omega) h4'
      rwa [e1] at this
end Go.Proofs.Ytddhpkobingmhaa.PB
