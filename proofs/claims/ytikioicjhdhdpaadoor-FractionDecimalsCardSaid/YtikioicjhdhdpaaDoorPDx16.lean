-- Written by a program of this session (gprint.py) out of Lean's own print of the program. Lean checks it.
import Derived.Test.YtikioicjhdhdpaaDoorPDx0
namespace Go.Proofs.YtikioicjhdhdpaaDoor.PD
open Go.RowKit Go.Proofs.YtikioicjhdhdpaaDoorW.PrintWords Go.Proofs.YtikioicjhdhdpaaDoorW.PrintLast Go.Proofs.YtikioicjhdhdpaaDoorW.PrintMore
attribute [local go_sem] max2_int min2_int max_two min_two max_three min_three max_four min_four   -- for this text's walks alone
set_option linter.unusedVariables false
set_option linter.unusedSimpArgs false

/-! ### strings_Repeat: function 25 -/
def strings_Repeat.f (a0 : ByteArray) (a1 : Int) : Option ByteArray := if 0 ≤ a1 then (if a0.size * a1.toNat ≤ 1000000 ∧ a1 ≤ 1000000 then some ⟨(Lib.repeatL a0.data.toList a1.toNat).toArray⟩ else none) else none
theorem strings_Repeat.calls (a0 : ByteArray) (a1 : Int) (r : ByteArray) (w : World) (h : strings_Repeat.f a0 a1 = some r) :
    Calls Tryd.prog 25 #[.string a0, .int .i64 a1] w fun e w' => e = .returned (.string r) ∧ Below w.heap.size w w' := by
  unfold strings_Repeat.f at h
  by_cases h0 : 0 ≤ a1
  · rw [if_pos h0] at h
    by_cases h1 : a0.size * a1.toNat ≤ 1000000 ∧ a1 ≤ 1000000
    · rw [if_pos h1] at h
      obtain rfl := Option.some.inj h
      have e : a1 = ((a1.toNat : Nat) : Int) := by omega
      have := Tryd.strings_Repeat a0 a1.toNat w (by omega) (by omega)
      rw [← e] at this
      exact this
    · rw [if_neg h1] at h
      cases h
  · rw [if_neg h0] at h
    cases h

end Go.Proofs.YtikioicjhdhdpaaDoor.PD
