/- Structs of two and of three cells stored whole. -/
import Derived.Test.YtcjfgejiknlpfaaSep
namespace Go.Proofs.Ytcjfgejiknlpfaa.Sep
open Go.RowKit Go.Proofs.YtcjfgejiknlpfaaW.PrintWords Go.Proofs.YtcjfgejiknlpfaaW.PrintLast
set_option linter.unusedVariables false
variable {N : Nat} {w w0 w1 : World} {L : List Res} {g : Nat} {t : TypeId}
theorem St.set2 {x y a b : Value} (h : St N w (Blk g #[x, y] t :: L)) (e : w1 = (w.setCell ⟨g, 0, none⟩ a).setCell ⟨g, 1, none⟩ b) : St N w1 (Blk g #[a, b] t :: L) := by
  subst e; exact (h.set 0 a #[a, y] rfl).set 1 b #[a, b] rfl
theorem St.below_set2 {x y a b : Value} (h : St N w (Blk g #[x, y] t :: L)) (hb : Below N w0 w) (e : w1 = (w.setCell ⟨g, 0, none⟩ a).setCell ⟨g, 1, none⟩ b) : Below N w0 w1 := by
  subst e; exact (h.set 0 a #[a, y] rfl).below_set (h.below_set hb)
theorem St.set3 {x y z a b c : Value} (h : St N w (Blk g #[x, y, z] t :: L)) (e : w1 = ((w.setCell ⟨g, 0, none⟩ a).setCell ⟨g, 1, none⟩ b).setCell ⟨g, 2, none⟩ c) : St N w1 (Blk g #[a, b, c] t :: L) := by
  subst e; exact ((h.set 0 a #[a, y, z] rfl).set 1 b #[a, b, z] rfl).set 2 c #[a, b, c] rfl
theorem St.below_set3 {x y z a b c : Value} (h : St N w (Blk g #[x, y, z] t :: L)) (hb : Below N w0 w) (e : w1 = ((w.setCell ⟨g, 0, none⟩ a).setCell ⟨g, 1, none⟩ b).setCell ⟨g, 2, none⟩ c) : Below N w0 w1 := by
  subst e; exact ((h.set 0 a #[a, y, z] rfl).set 1 b #[a, b, z] rfl).below_set ((h.set 0 a #[a, y, z] rfl).below_set (h.below_set hb))
end Go.Proofs.Ytcjfgejiknlpfaa.Sep
