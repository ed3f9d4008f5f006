/- What a row hands to a law over an event: nine cells. -/
import Derived.Test.YtcjfgejiknlpfaaGreatActsRow
import Derived.Test.YtcjfgejiknlpfaaGreatJ0
namespace Go.Proofs.YtcjfgejiknlpfaaGreat.PI
open Go.ChangeShapes Go.WideShapes Go.ChangeAt Go.RowKit
open Go.Proofs.YtcjfgejiknlpfaaGreatW.PrintWords
set_option linter.unusedVariables false
section
variable {H : Type} {enc : TypeId × Value → H} {w : World} {base : Nat} {spare : Nat → Bool} {held : Bool} {fuel : Nat}
theorem cells25 : Tryz.prog.cellsOf 33 = 2 := by kernel_rfl
theorem cells27 : Tryz.prog.cellsOf 50 = 9 := by kernel_rfl
theorem cells3 : Tryz.prog.cellsOf 3 = 1 := by kernel_rfl
theorem cells9v : Tryz.prog.cellsOf 9 = 1 := by kernel_rfl
theorem list2 {α : Type} {cs : List α} (h : cs.length = 2) : ∃ a b, cs = [a, b] := by
  match cs, h with
  | [a, b], _ => exact ⟨a, b, rfl⟩
theorem list9 {α : Type} {cs : List α} (h : cs.length = 9) : ∃ c0 c1 c2 c3 c4 c5 c6 c7 c8, cs = [c0, c1, c2, c3, c4, c5, c6, c7, c8] := by
  match cs, h with
  | [c0, c1, c2, c3, c4, c5, c6, c7, c8], _ => exact ⟨c0, c1, c2, c3, c4, c5, c6, c7, c8, rfl⟩
theorem open_key {cs : List Value} {x : DataW H × List MemPlace} (h : DataW.trod enc Tryz.prog w base spare held fuel 33 cs = some x) :
    ∃ k : S33, cs = [.string k.f0, .int .i64 k.f1] := by
  obtain ⟨xs, n, _, rfl, hl, hlen, hf⟩ := DataW.trod_struct Tryz.underlying33 h
  rw [cells25] at hl
  obtain ⟨a, b, rfl⟩ := list2 hl
  have g0 : ∃ m : ByteArray, a = .string m := by
    have hx : DataW.trod enc Tryz.prog w base spare held n 9 (([a, b].drop 0).take (Tryz.prog.cellsOf 9)) = xs[0]? := hf 0 _ rfl
    rw [List.getElem?_eq_getElem (by rw [hlen]; decide), cells9v] at hx
    change DataW.trod enc Tryz.prog w base spare held n 9 [a] = _ at hx
    obtain ⟨m, e, _, hw⟩ := DataW.trod_string Tryz.underlying9 hx
    simp only [List.cons.injEq, and_true] at e
    exact ⟨m, e⟩
  have g1 : ∃ m : Int, b = .int .i64 m := by
    have hx : DataW.trod enc Tryz.prog w base spare held n 3 (([a, b].drop 1).take (Tryz.prog.cellsOf 3)) = xs[1]? := hf 1 _ rfl
    rw [List.getElem?_eq_getElem (by rw [hlen]; decide), cells3] at hx
    change DataW.trod enc Tryz.prog w base spare held n 3 [b] = _ at hx
    obtain ⟨m, e, _, hw⟩ := DataW.trod_int Tryz.underlying3 hx
    simp only [List.cons.injEq, and_true] at e
    exact ⟨m, e⟩
  obtain ⟨m0, rfl⟩ := g0
  obtain ⟨m1, rfl⟩ := g1
  exact ⟨⟨m0, m1⟩, rfl⟩
theorem open_event {cs : List Value} {x : DataW H × List MemPlace} (h : DataW.trod enc Tryz.prog w base spare held fuel 50 cs = some x) :
    ∃ e : S50, cs = [.string e.f0.f0, .int .i64 e.f0.f1, .int .i64 e.f1, .int .i64 e.f2, .string e.f3.f0, .int .i64 e.f3.f1, .string e.f4, .int .i64 e.f5, .string e.f6] := by
  obtain ⟨xs, n, _, rfl, hl, hlen, hf⟩ := DataW.trod_struct Tryz.underlying50 h
  rw [cells27] at hl
  obtain ⟨c0, c1, c2, c3, c4, c5, c6, c7, c8, rfl⟩ := list9 hl

  have hx0 : DataW.trod enc Tryz.prog w base spare held n 33 (([c0, c1, c2, c3, c4, c5, c6, c7, c8].drop 0).take (Tryz.prog.cellsOf 33)) = xs[0]? := hf 0 _ rfl
  rw [List.getElem?_eq_getElem (by rw [hlen]; decide), cells25] at hx0
  change DataW.trod enc Tryz.prog w base spare held n 33 [c0, c1] = _ at hx0
  obtain ⟨k0, e0⟩ := open_key hx0
  simp only [List.cons.injEq, and_true] at e0
  have hx1 : DataW.trod enc Tryz.prog w base spare held n 3 (([c0, c1, c2, c3, c4, c5, c6, c7, c8].drop 2).take (Tryz.prog.cellsOf 3)) = xs[1]? := hf 1 _ rfl
  rw [List.getElem?_eq_getElem (by rw [hlen]; decide), cells3] at hx1
  change DataW.trod enc Tryz.prog w base spare held n 3 [c2] = _ at hx1
  obtain ⟨m1, e1, _, _⟩ := DataW.trod_int Tryz.underlying3 hx1
  simp only [List.cons.injEq, and_true] at e1
  have hx2 : DataW.trod enc Tryz.prog w base spare held n 3 (([c0, c1, c2, c3, c4, c5, c6, c7, c8].drop 3).take (Tryz.prog.cellsOf 3)) = xs[2]? := hf 2 _ rfl
  rw [List.getElem?_eq_getElem (by rw [hlen]; decide), cells3] at hx2
  change DataW.trod enc Tryz.prog w base spare held n 3 [c3] = _ at hx2
  obtain ⟨m2, e2, _, _⟩ := DataW.trod_int Tryz.underlying3 hx2
  simp only [List.cons.injEq, and_true] at e2
  have hx3 : DataW.trod enc Tryz.prog w base spare held n 33 (([c0, c1, c2, c3, c4, c5, c6, c7, c8].drop 4).take (Tryz.prog.cellsOf 33)) = xs[3]? := hf 3 _ rfl
  rw [List.getElem?_eq_getElem (by rw [hlen]; decide), cells25] at hx3
  change DataW.trod enc Tryz.prog w base spare held n 33 [c4, c5] = _ at hx3
  obtain ⟨k3, e3⟩ := open_key hx3
  simp only [List.cons.injEq, and_true] at e3
  have hx4 : DataW.trod enc Tryz.prog w base spare held n 9 (([c0, c1, c2, c3, c4, c5, c6, c7, c8].drop 6).take (Tryz.prog.cellsOf 9)) = xs[4]? := hf 4 _ rfl
  rw [List.getElem?_eq_getElem (by rw [hlen]; decide), cells9v] at hx4
  change DataW.trod enc Tryz.prog w base spare held n 9 [c6] = _ at hx4
  obtain ⟨m4, e4, _, _⟩ := DataW.trod_string Tryz.underlying9 hx4
  simp only [List.cons.injEq, and_true] at e4
  have hx5 : DataW.trod enc Tryz.prog w base spare held n 3 (([c0, c1, c2, c3, c4, c5, c6, c7, c8].drop 7).take (Tryz.prog.cellsOf 3)) = xs[5]? := hf 5 _ rfl
  rw [List.getElem?_eq_getElem (by rw [hlen]; decide), cells3] at hx5
  change DataW.trod enc Tryz.prog w base spare held n 3 [c7] = _ at hx5
  obtain ⟨m5, e5, _, _⟩ := DataW.trod_int Tryz.underlying3 hx5
  simp only [List.cons.injEq, and_true] at e5
  have hx6 : DataW.trod enc Tryz.prog w base spare held n 9 (([c0, c1, c2, c3, c4, c5, c6, c7, c8].drop 8).take (Tryz.prog.cellsOf 9)) = xs[6]? := hf 6 _ rfl
  rw [List.getElem?_eq_getElem (by rw [hlen]; decide), cells9v] at hx6
  change DataW.trod enc Tryz.prog w base spare held n 9 [c8] = _ at hx6
  obtain ⟨m6, e6, _, _⟩ := DataW.trod_string Tryz.underlying9 hx6
  simp only [List.cons.injEq, and_true] at e6
  obtain ⟨rfl, rfl⟩ := e0
  obtain ⟨rfl, rfl⟩ := e3
  subst e1
  subst e2
  subst e4
  subst e5
  subst e6
  exact ⟨⟨k0, m1, m2, k3, m4, m5, m6⟩, rfl⟩
end
end Go.Proofs.YtcjfgejiknlpfaaGreat.PI
