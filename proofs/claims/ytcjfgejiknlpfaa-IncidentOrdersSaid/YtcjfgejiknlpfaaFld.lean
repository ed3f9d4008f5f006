/- A cell of an element of a row is stored into. -/
import Derived.Test.YtcjfgejiknlpfaaSep2
namespace Go.Proofs.Ytcjfgejiknlpfaa.Sep
open Go.RowKit Go.Proofs.YtcjfgejiknlpfaaW.PrintWords Go.Proofs.YtcjfgejiknlpfaaW.PrintLast
set_option linter.unusedVariables false
set_option linter.unusedSectionVars false
section
variable {α : Type} {d : Kd α} {enc : α → List Value} (F : Flat d enc)
include F
theorem encs_field (j : Nat) (u : Value) (x' : α) : ∀ (l : List α) (i : Nat) (hi : i < l.length), j < d.sz → (enc l[i]).set j u = enc x' → Sep.encs enc (l.set i x') = (Sep.encs enc l).set (i * d.sz + j) u
  | [], i, hi, _, _ => absurd hi (Nat.not_lt_zero i)
  | y :: l, 0, hi, hj, he => by
    simp only [List.getElem_cons_zero] at he
    rw [List.set_cons_zero, Sep.encs, Sep.encs, Nat.zero_mul, Nat.zero_add, List.set_append_left _ _ (by rw [F.sz]; exact hj), he]
  | y :: l, i + 1, hi, hj, he => by
    simp only [List.getElem_cons_succ] at he
    have ih := encs_field j u x' l i (by simpa using hi) hj he
    have e1 : (i + 1) * d.sz + j - (enc y).length = i * d.sz + j := by rw [F.sz, Nat.succ_mul]; omega
    rw [List.set_cons_succ, Sep.encs, Sep.encs, ih, List.set_append_right _ _ (by rw [F.sz, Nat.succ_mul]; omega), e1]
variable {N : Nat} {w w0 w1 : World} {L : List Res} {e : Nat} {v : Value} {l : List α}
theorem St.row_some (h : St N w (Row d e v l :: L)) (hl : 0 < l.length) : ∃ g cap, v = .slice (some ⟨g, 0, none⟩) l.length cap ∧ ∀ i, w.frozen? ⟨g, i, none⟩ = false := by
  rcases St.open_row F h with ⟨_, h1⟩ | ⟨g, cap, cur, e1, _, _, _, _, h5⟩
  · rw [h1] at hl; simp at hl
  · exact ⟨g, cap, e1, fun i => h5.frozen i⟩
theorem St.field {g n cap : Nat} (h : St N w (Row d e (.slice (some ⟨g, 0, none⟩) n cap) l :: L)) (i j : Nat) (u : Value) (x' : α) (hi : i < l.length) (hj : j < d.sz) (he : (enc l[i]).set j u = enc x') (hb : Below N w0 w) :
    St N (w.setCell ⟨g, i * d.sz + j, none⟩ u) (Row d e (.slice (some ⟨g, 0, none⟩) n cap) (l.set i x') :: L) ∧ Below N w0 (w.setCell ⟨g, i * d.sz + j, none⟩ u) := by
  rcases St.open_row F h with ⟨e1, _⟩ | ⟨g', cap', cur, e1, h1, h2, h3, h4, h5⟩
  · cases e1
  · cases e1
    refine ⟨?_, hb.setCell h5.ge _⟩
    have h6 := h5.set (i * d.sz + j) u (cur.set (i * d.sz + j) u).toArray (by simp)
    have := St.shut_row F (xs := l.set i x') h6 (by simpa using h1) h2 (by rw [List.length_set]; exact h3) (by
      rw [List.length_set, List.take_set, h4, encs_field F j u x' l i hi hj he])
    rwa [List.length_set] at this
end
end Go.Proofs.Ytcjfgejiknlpfaa.Sep
