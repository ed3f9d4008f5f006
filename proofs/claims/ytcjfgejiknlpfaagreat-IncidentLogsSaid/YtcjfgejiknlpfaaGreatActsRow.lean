/- What a row hands to a law over acts: each act is eight bytes; a slice of acts is a row of them. -/
import Derived.Test.YtcjfgejiknlpfaaGreatDec
import Derived.WalkKit
import Derived.ProofKit
import Derived.OpenShut
import Derived.ShutString
import Derived.ChangeOld
import Derived.Below
import Derived.SizedLaws
import Derived.ChangeArms
import Derived.ChangeSame
import Derived.DataElems
import Derived.Lib.SmallJoins
namespace Go.Proofs.YtcjfgejiknlpfaaGreat.PI
open Go.ChangeShapes Go.WideShapes Go.ChangeAt Go.RowKit
open Go.Proofs.YtcjfgejiknlpfaaGreatW.PrintWords
set_option linter.unusedVariables false
theorem byte_wf {x : Int} (h : (Lit.int .u8 x).wf = true) : 0 ≤ x ∧ x ≤ 255 := by
  simp [Lit.wf, IntKind.min, IntKind.max, IntKind.signed, IntKind.bits] at h
  omega
theorem list8 {α : Type} {cs : List α} (h : cs.length = 8) : ∃ c0 c1 c2 c3 c4 c5 c6 c7, cs = [c0, c1, c2, c3, c4, c5, c6, c7] := by
  match cs, h with
  | [c0, c1, c2, c3, c4, c5, c6, c7], _ => exact ⟨c0, c1, c2, c3, c4, c5, c6, c7, rfl⟩
section
variable {H : Type} {enc : TypeId × Value → H} {w : World} {base : Nat} {spare : Nat → Bool} {held : Bool} {fuel : Nat}
theorem cells23 : Tryz.prog.cellsOf 61 = 8 := by kernel_rfl
theorem cells5 : Tryz.prog.cellsOf 5 = 1 := by kernel_rfl
theorem open_act {cs : List Value} {x : DataW H × List MemPlace} (h : DataW.trod enc Tryz.prog w base spare held fuel 61 cs = some x) :
    ∃ a : S61, cs = [.int .u8 a.f0, .int .u8 a.f1, .int .u8 a.f2, .int .u8 a.f3, .int .u8 a.f4, .int .u8 a.f5, .int .u8 a.f6, .int .u8 a.f7] ∧ U8s a := by
  obtain ⟨xs, n, _, rfl, hl, hlen, hf⟩ := DataW.trod_struct Tryz.underlying61 h
  rw [cells23] at hl
  obtain ⟨c0, c1, c2, c3, c4, c5, c6, c7, rfl⟩ := list8 hl

  have g0 : ∃ m : Int, c0 = .int .u8 m ∧ (Lit.int .u8 m).wf = true := by
    have hx : DataW.trod enc Tryz.prog w base spare held n 5 (([c0, c1, c2, c3, c4, c5, c6, c7].drop 0).take (Tryz.prog.cellsOf 5)) = xs[0]? := hf 0 _ rfl
    rw [List.getElem?_eq_getElem (by rw [hlen]; decide), cells5] at hx
    change DataW.trod enc Tryz.prog w base spare held n 5 [c0] = _ at hx
    obtain ⟨m, e, _, hw⟩ := DataW.trod_int Tryz.underlying5 hx
    simp only [List.cons.injEq, and_true] at e
    exact ⟨m, e, hw⟩
  have g1 : ∃ m : Int, c1 = .int .u8 m ∧ (Lit.int .u8 m).wf = true := by
    have hx : DataW.trod enc Tryz.prog w base spare held n 5 (([c0, c1, c2, c3, c4, c5, c6, c7].drop 1).take (Tryz.prog.cellsOf 5)) = xs[1]? := hf 1 _ rfl
    rw [List.getElem?_eq_getElem (by rw [hlen]; decide), cells5] at hx
    change DataW.trod enc Tryz.prog w base spare held n 5 [c1] = _ at hx
    obtain ⟨m, e, _, hw⟩ := DataW.trod_int Tryz.underlying5 hx
    simp only [List.cons.injEq, and_true] at e
    exact ⟨m, e, hw⟩
  have g2 : ∃ m : Int, c2 = .int .u8 m ∧ (Lit.int .u8 m).wf = true := by
    have hx : DataW.trod enc Tryz.prog w base spare held n 5 (([c0, c1, c2, c3, c4, c5, c6, c7].drop 2).take (Tryz.prog.cellsOf 5)) = xs[2]? := hf 2 _ rfl
    rw [List.getElem?_eq_getElem (by rw [hlen]; decide), cells5] at hx
    change DataW.trod enc Tryz.prog w base spare held n 5 [c2] = _ at hx
    obtain ⟨m, e, _, hw⟩ := DataW.trod_int Tryz.underlying5 hx
    simp only [List.cons.injEq, and_true] at e
    exact ⟨m, e, hw⟩
  have g3 : ∃ m : Int, c3 = .int .u8 m ∧ (Lit.int .u8 m).wf = true := by
    have hx : DataW.trod enc Tryz.prog w base spare held n 5 (([c0, c1, c2, c3, c4, c5, c6, c7].drop 3).take (Tryz.prog.cellsOf 5)) = xs[3]? := hf 3 _ rfl
    rw [List.getElem?_eq_getElem (by rw [hlen]; decide), cells5] at hx
    change DataW.trod enc Tryz.prog w base spare held n 5 [c3] = _ at hx
    obtain ⟨m, e, _, hw⟩ := DataW.trod_int Tryz.underlying5 hx
    simp only [List.cons.injEq, and_true] at e
    exact ⟨m, e, hw⟩
  have g4 : ∃ m : Int, c4 = .int .u8 m ∧ (Lit.int .u8 m).wf = true := by
    have hx : DataW.trod enc Tryz.prog w base spare held n 5 (([c0, c1, c2, c3, c4, c5, c6, c7].drop 4).take (Tryz.prog.cellsOf 5)) = xs[4]? := hf 4 _ rfl
    rw [List.getElem?_eq_getElem (by rw [hlen]; decide), cells5] at hx
    change DataW.trod enc Tryz.prog w base spare held n 5 [c4] = _ at hx
    obtain ⟨m, e, _, hw⟩ := DataW.trod_int Tryz.underlying5 hx
    simp only [List.cons.injEq, and_true] at e
    exact ⟨m, e, hw⟩
  have g5 : ∃ m : Int, c5 = .int .u8 m ∧ (Lit.int .u8 m).wf = true := by
    have hx : DataW.trod enc Tryz.prog w base spare held n 5 (([c0, c1, c2, c3, c4, c5, c6, c7].drop 5).take (Tryz.prog.cellsOf 5)) = xs[5]? := hf 5 _ rfl
    rw [List.getElem?_eq_getElem (by rw [hlen]; decide), cells5] at hx
    change DataW.trod enc Tryz.prog w base spare held n 5 [c5] = _ at hx
    obtain ⟨m, e, _, hw⟩ := DataW.trod_int Tryz.underlying5 hx
    simp only [List.cons.injEq, and_true] at e
    exact ⟨m, e, hw⟩
  have g6 : ∃ m : Int, c6 = .int .u8 m ∧ (Lit.int .u8 m).wf = true := by
    have hx : DataW.trod enc Tryz.prog w base spare held n 5 (([c0, c1, c2, c3, c4, c5, c6, c7].drop 6).take (Tryz.prog.cellsOf 5)) = xs[6]? := hf 6 _ rfl
    rw [List.getElem?_eq_getElem (by rw [hlen]; decide), cells5] at hx
    change DataW.trod enc Tryz.prog w base spare held n 5 [c6] = _ at hx
    obtain ⟨m, e, _, hw⟩ := DataW.trod_int Tryz.underlying5 hx
    simp only [List.cons.injEq, and_true] at e
    exact ⟨m, e, hw⟩
  have g7 : ∃ m : Int, c7 = .int .u8 m ∧ (Lit.int .u8 m).wf = true := by
    have hx : DataW.trod enc Tryz.prog w base spare held n 5 (([c0, c1, c2, c3, c4, c5, c6, c7].drop 7).take (Tryz.prog.cellsOf 5)) = xs[7]? := hf 7 _ rfl
    rw [List.getElem?_eq_getElem (by rw [hlen]; decide), cells5] at hx
    change DataW.trod enc Tryz.prog w base spare held n 5 [c7] = _ at hx
    obtain ⟨m, e, _, hw⟩ := DataW.trod_int Tryz.underlying5 hx
    simp only [List.cons.injEq, and_true] at e
    exact ⟨m, e, hw⟩
  obtain ⟨m0, rfl, w0⟩ := g0
  obtain ⟨m1, rfl, w1⟩ := g1
  obtain ⟨m2, rfl, w2⟩ := g2
  obtain ⟨m3, rfl, w3⟩ := g3
  obtain ⟨m4, rfl, w4⟩ := g4
  obtain ⟨m5, rfl, w5⟩ := g5
  obtain ⟨m6, rfl, w6⟩ := g6
  obtain ⟨m7, rfl, w7⟩ := g7
  exact ⟨⟨m0, m1, m2, m3, m4, m5, m6, m7⟩, rfl, ⟨byte_wf w0, byte_wf w1, byte_wf w2, byte_wf w3, byte_wf w4, byte_wf w5, byte_wf w6, byte_wf w7⟩⟩
/-- A slice of acts, opened. -/
theorem open_acts {cs : List Value} {x : DataW H × List MemPlace} (h : DataW.trod enc Tryz.prog w base spare held fuel 22 cs = some x) (hb0 : base = 0 ∨ True) :
    ∃ (A : Option Addr) (c : Nat) (l : List S61), cs = [.slice A l.length c] ∧ l.length ≤ c ∧ Kd.C k61 w A l.length l ∧ ∀ a ∈ l, U8s a := by
  rcases DataW.trod_slice Tryz.underlying22 h with ⟨rfl, _⟩ | ⟨ad, len, cap, elems, rest, n, _, rfl, _, hb, hl, hm, hlen, hel, _, _⟩
  · exact ⟨none, 0, [], rfl, Nat.le_refl _, Kd.C_nil _ _, fun a ha => absurd ha (by simp)⟩
  have each : ∀ i, i < len → ∃ a : S61, (∀ j u, ([.int .u8 a.f0, .int .u8 a.f1, .int .u8 a.f2, .int .u8 a.f3, .int .u8 a.f4, .int .u8 a.f5, .int .u8 a.f6, .int .u8 a.f7] : List Value)[j]? = some u → w.cell? (ad.add (i * 8 + j)) = some u) ∧ U8s a := by
    intro i hi
    have hy := hel i hi
    rw [List.getElem?_eq_getElem (by omega : i < elems.length), cells23, Option.bind_eq_some_iff] at hy
    obtain ⟨cs', hcs, hy'⟩ := hy
    obtain ⟨a, rfl, hu⟩ := open_act hy'
    refine ⟨a, fun j u hj => ?_, hu⟩
    have hj8 : j < 8 := (List.getElem?_eq_some_iff.mp hj).1
    have h1 := (World.cells?_some hcs).2.2 j hj8
    rw [Addr.add_add] at h1
    exact h1.trans hj
  refine ⟨some ad, cap, (List.range len).map (fun i => if hi : i < len then (each i hi).choose else z61), by simp, by simpa using hl, ⟨rfl, ?_, fun _ => ⟨ad, rfl, ?_⟩⟩, ?_⟩
  · rw [List.length_map, List.length_range]; have := hm; unfold maxLen at this; omega
  · intro j p hj
    rw [List.getElem?_map, Option.map_eq_some_iff] at hj
    obtain ⟨i, hi, rfl⟩ := hj
    obtain ⟨hlt, e⟩ := List.getElem?_eq_some_iff.1 hi
    simp at hlt e
    subst e
    rw [dif_pos hlt]
    exact ⟨_, rfl, k61_mk w _, (each _ hlt).choose_spec.1⟩
  · intro a ha
    rw [List.mem_map] at ha
    obtain ⟨i, hi, rfl⟩ := ha
    have hlt : i < len := by simpa using hi
    rw [dif_pos hlt]
    exact (each _ hlt).choose_spec.2
end

end Go.Proofs.YtcjfgejiknlpfaaGreat.PI
