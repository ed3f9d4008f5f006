/- What keys makes of small numbers: at most forty texts of three letters, each of which the check takes. Condition: the numbers are bytes. -/
import Derived.Test.YtddhpkobingmhaaTxt

namespace Go.Proofs.Ytddhpkobingmhaa.PB
open Go.RowKit Go.Proofs.YtddhpkobingmhaaW.PrintWords Go.Proofs.YtddhpkobingmhaaW.PrintLast Go.Proofs.YtddhpkobingmhaaW.PrintMore
set_option linter.unusedVariables false
set_option maxRecDepth 100000

def keyT (x : Int) : ByteArray := (⟨#[107]⟩ : ByteArray) ++ strOfNums ([(97 + (Int.tmod x 26)) % 256, (97 + ((Int.tdiv x 26) % 256)) % 256] : List Int)
theorem keyT_all : ∀ n : Fin 256, (keyT (n.val : Int)).size = 3 ∧ chk (keyT (n.val : Int)) = 0 ∧ (strOfNums ([(97 + (Int.tmod (n.val : Int) 26)) % 256, (97 + ((Int.tdiv (n.val : Int) 26) % 256)) % 256] : List Int)).size = 2 := by decide +kernel
theorem keyT_ok (x : Int) (h0 : 0 ≤ x) (h1 : x ≤ 255) : (keyT x).size = 3 ∧ chk (keyT x) = 0 ∧ (strOfNums ([(97 + (Int.tmod x 26)) % 256, (97 + ((Int.tdiv x 26) % 256)) % 256] : List Int)).size = 2 := by
  have := keyT_all ⟨x.toNat, by omega⟩
  have e : ((x.toNat : Nat) : Int) = x := by omega
  simpa only [e] using this
theorem keys_l0 (dl : List Int) (hd : ∀ x ∈ dl, 0 ≤ x ∧ x ≤ 255) : ∀ (m : Nat) (acc : List ByteArray) (i : Nat), i + m = min dl.length 40 → acc = (dl.take i).map keyT →
    sleuthlaw23_keys.l0 (m + 1) dl acc (i : Int) = some ((dl.take 40).map keyT)
  | 0, acc, i, hi, ha => by
    have hr : acc = (dl.take 40).map keyT := by
      rw [ha]; congr 1
      by_cases h : dl.length ≤ 40
      · rw [List.take_of_length_le (by omega), List.take_of_length_le (by omega)]
      · rw [show i = 40 by omega]
    rw [sleuthlaw23_keys.l0]
    by_cases h : (i : Int) < (dl.length : Int)
    · rw [if_pos h, if_neg (by omega), hr]
    · rw [if_neg h, hr]
  | m + 1, acc, i, hi, ha => by
    have hlt : i < dl.length := by omega
    have hx : rd dl (i : Int) = dl[i] := by simp [rd, hlt]
    have hk := keyT_ok dl[i] (hd _ (List.getElem_mem hlt)).1 (hd _ (List.getElem_mem hlt)).2
    have hl : acc.length ≤ 40 := by rw [ha, List.length_map, List.length_take]; omega
    rw [sleuthlaw23_keys.l0, if_pos (by omega), if_pos (by omega), if_pos (by omega), Option.bind_some, hx, if_pos (by rw [hk.2.2]; omega), if_pos (by omega)]
    have e : wrap64 ((i : Int) + 1) = ((i + 1 : Nat) : Int) := by rw [wrap64_small] <;> omega
    rw [e]
    refine keys_l0 dl hd m _ (i + 1) (by omega) ?_
    rw [ha, List.take_add_one, List.map_append, List.getElem?_eq_getElem hlt]
    rfl
/-- The texts that keys makes. -/
def ksOf (dl : List Int) : List ByteArray := (dl.take 40).map keyT
theorem keys_f (dl : List Int) (hd : ∀ x ∈ dl, 0 ≤ x ∧ x ≤ 255) : sleuthlaw23_keys.f (min dl.length 40 + 1) dl = some (ksOf dl) :=
  keys_l0 dl hd (min dl.length 40) [] 0 (by omega) rfl
theorem ksOf_len (dl : List Int) : (ksOf dl).length ≤ 40 := by unfold ksOf; rw [List.length_map, List.length_take]; omega
theorem ksOf_mem (dl : List Int) (hd : ∀ x ∈ dl, 0 ≤ x ∧ x ≤ 255) (t : ByteArray) (ht : t ∈ ksOf dl) : t.size = 3 ∧ chk t = 0 := by
  obtain ⟨x, hx, rfl⟩ := List.mem_map.mp ht
  have := hd x (List.mem_of_mem_take hx)
  exact ⟨(keyT_ok x this.1 this.2).1, (keyT_ok x this.1 this.2).2.1⟩
theorem ksOf_ok (bb : Int) (dl : List Int) (hd : ∀ x ∈ dl, 0 ≤ x ∧ x ≤ 255) : ∀ t ∈ ksOf dl, bottomk_check.f 5 t = some 0 ∧ checksum_Text.f 5 bb t = some (hashT bb t) := by
  intro t ht
  obtain ⟨h3, h0⟩ := ksOf_mem dl hd t ht
  exact ⟨h0 ▸ (chk_ok t (by omega) 5 (by omega)).1, hash_ok bb t (by omega) 5 (by omega)⟩
end Go.Proofs.Ytddhpkobingmhaa.PB
