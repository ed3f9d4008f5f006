/- An argument that is an array of three slices, opened: each of the slices reads. Condition: the array's type has three cells, each slice's one. -/
import Derived.WideShapes
import Derived.OpenShut
import Derived.Lib.SmallJoins
namespace Go.Proofs.Ytddhpkobingmhaa.PB
open Go.ChangeShapes Go.WideShapes Go.ChangeAt
section
variable {H : Type} {enc : TypeId × Value → H} {P : Program} {w : World} {base : Nat} {spare : Nat → Bool} {held : Bool} {t e x : TypeId} {v : Value} {d : DataW H} {p : List MemPlace}
theorem open_arr3 (ht : P.underlying t = some (.array 3 e)) (hs : P.underlying e = some (.slice x)) (hC : P.cellsOf t = 3) (hc : P.cellsOf e = 1) (h : DataW.Trod enc P w base spare held t v d p) :
    ∃ (A0 A1 A2 : Option Addr) (l0 c0 l1 c1 l2 c2 : Nat) (y0 y1 y2 : DataW H × List MemPlace) (n : Nat), v = .agg #[.slice A0 l0 c0, .slice A1 l1 c1, .slice A2 l2 c2] ∧
      DataW.trod enc P w base spare held n e [.slice A0 l0 c0] = some y0 ∧ DataW.trod enc P w base spare held n e [.slice A1 l1 c1] = some y1 ∧ DataW.trod enc P w base spare held n e [.slice A2 l2 c2] = some y2 := by
  obtain ⟨fuel, hf⟩ := h
  obtain ⟨xs, m, _, _, hl, hn, hi⟩ := DataW.trod_array ht hf
  rw [hC] at hl
  obtain ⟨cs, rfl⟩ : ∃ cs : Array Value, v = .agg cs := by
    cases v <;> first | exact ⟨_, rfl⟩ | (simp [Value.cells] at hl)
  have hl3 : cs.size = 3 := by simpa [Value.cells] using hl
  obtain ⟨a, b, c, rfl⟩ := Go.Joins.array3 hl3
  match xs, hn with
  | [y0, y1, y2], _ =>
    have h0 := hi 0 (by omega)
    have h1 := hi 1 (by omega)
    have h2 := hi 2 (by omega)
    simp only [hc, Value.cells] at h0 h1 h2
    have g0 : DataW.trod enc P w base spare held m e [a] = some y0 := by simpa using h0
    have g1 : DataW.trod enc P w base spare held m e [b] = some y1 := by simpa using h1
    have g2 : DataW.trod enc P w base spare held m e [c] = some y2 := by simpa using h2
    obtain ⟨A0, l0, c0, e0⟩ := Go.Joins.slice_form hs g0
    obtain ⟨A1, l1, c1, e1⟩ := Go.Joins.slice_form hs g1
    obtain ⟨A2, l2, c2, e2⟩ := Go.Joins.slice_form hs g2
    simp only [List.cons.injEq, and_true] at e0 e1 e2
    subst e0 e1 e2
    exact ⟨A0, A1, A2, l0, c0, l1, c1, l2, c2, y0, y1, y2, m, rfl, g0, g1, g2⟩
end
end Go.Proofs.Ytddhpkobingmhaa.PB
