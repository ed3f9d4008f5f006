/- FractionPrints, in plain numbers and lists. -/
import Derived.Test.YtikioicjhdhdpaaDoorMath3
import Derived.Test.YtikioicjhdhdpaaDoorPDx15
-- NEEDS D: sleuthlaw02_FractionPrints
namespace Go.Proofs.YtikioicjhdhdpaaDoor.Pure
open Go.RowKit Go.Proofs.YtikioicjhdhdpaaDoor.PD Go.Proofs.YtikioicjhdhdpaaDoorW.PrintWords Go.Proofs.YtikioicjhdhdpaaDoorW.PrintLast
set_option linter.unusedVariables false
theorem ptail_no (k : Nat) (neg : Bool) (L : List UInt8) (hl : L.length ≤ 1000) (h : L.getLast? ≠ some 37) : ptail k neg (B L) = ptail2 k neg false (B L) := by
  rw [ptail_eq, CutSuffix_no _ _ hl h]; rfl
theorem last_dec (X : List UInt8) (u : Nat) : (X ++ Lib.decDigits u).getLast? ≠ some 37 := by
  have e := List.dropLast_concat_getLast (dec_ne u)
  have hm := dec_all u _ (List.getLast_mem (dec_ne u))
  rw [← e, ← List.append_assoc, List.getLast?_concat]
  intro h
  rw [Option.some.inj h] at hm
  revert hm
  unfold isD
  decide
theorem not_in (u : Nat) (c : UInt8) (h : ¬ isD c) : c ∉ Lib.decDigits u := fun hm => h (dec_all u c hm)
theorem head_dec (u : Nat) (X : List UInt8) (c : UInt8) (h : ¬ isD c) : (Lib.decDigits u ++ X).head? ≠ some c := by
  intro hh
  have h1 := dec_ne u
  cases e : Lib.decDigits u with
  | nil => exact h1 e
  | cons y t =>
    rw [e] at hh
    simp at hh
    exact not_in u c h (by rw [e, hh]; exact List.mem_cons_self)
theorem fin_can (a b : Int) (h : can a b) : mkE a b = (a, b, 0) := by
  unfold mkE
  rw [if_neg (by have := h.1; omega), mk_can a b h]
theorem fin_ok (a b : Int) (h : can a b) (neg : Bool) (hn : neg = decide (a < 0)) : fin neg (a.natAbs : Int) b = (a, b, 0) := by
  unfold fin
  subst hn
  by_cases c : a < 0
  · rw [decide_eq_true c, if_pos rfl, show -((a.natAbs : Nat) : Int) = a by omega]; exact fin_can a b h
  · rw [decide_eq_false c, if_neg (by decide), show ((a.natAbs : Nat) : Int) = a by omega]; exact fin_can a b h
def rest (a b : Int) : List UInt8 := if b = 1 then Lib.decDigits a.natAbs else Lib.decDigits a.natAbs ++ 47 :: Lib.decDigits b.toNat
theorem rest_len (a b : Int) (h : can a b) : (rest a b).length ≤ 15 := by
  obtain ⟨b0, b1, a0, a1, _⟩ := h
  have l1 := dec_len7 a.natAbs (by omega)
  have l2 := dec_len7 b.toNat (by omega)
  unfold rest
  by_cases c : b = 1
  · rw [if_pos c]; omega
  · rw [if_neg c]; simp; omega
theorem prt_eq (a b : Int) (h : can a b) : prt a b = if a < 0 then 45 :: rest a b else rest a b := by
  obtain ⟨b0, b1, a0, a1, _⟩ := h
  unfold prt rest
  rw [itoa_nat b (by omega)]
  by_cases c : a < 0
  · rw [if_pos c, itoa_neg a c]
    by_cases c1 : b = 1
    · rw [if_pos c1, if_pos c1]
    · rw [if_neg c1, if_neg c1]; rfl
  · rw [if_neg c, itoa_nat a (by omega), show a.toNat = a.natAbs by omega]
theorem tail_ok (k : Nat) (hk : 200 ≤ k) (a b : Int) (h : can a b) (neg : Bool) (hn : neg = decide (a < 0)) : ptail k neg (B (rest a b)) = some (a, b, 0) := by
  have hl := rest_len a b h
  have h' := h
  obtain ⟨b0, b1, a0, a1, _⟩ := h'
  unfold rest at hl ⊢
  by_cases c : b = 1
  · rw [if_pos c] at hl ⊢
    have hlast := last_dec [] a.natAbs
    rw [List.nil_append] at hlast
    rw [ptail_no k neg _ (by omega) hlast, plain_all k hk neg false _ (by omega) (not_in _ _ (by unfold isD; decide)) (not_in _ _ (by unfold isD; decide)), if_pos ⟨dec_ne _, dec_all _⟩, if_neg (by decide), dec_vl]
    have := fin_ok a b h neg hn
    rw [c] at this ⊢
    rw [this]
  · rw [if_neg c] at hl ⊢
    rw [ptail_no k neg _ (by omega) (by
      have := last_dec (Lib.decDigits a.natAbs ++ [47]) b.toNat
      rwa [List.append_assoc] at this), slash_all k hk neg false _ _ (by omega) (not_in _ _ (by unfold isD; decide)), if_pos ⟨⟨dec_ne _, dec_all _⟩, ⟨dec_ne _, dec_all _⟩, rfl⟩, dec_vl, dec_vl, show ((b.toNat : Nat) : Int) = b by omega, fin_ok a b h neg hn]
theorem Parse_prt (k : Nat) (hk : 200 ≤ k) (a b : Int) (h : can a b) : fraction_Parse.f k (B (prt a b)) = some (a, b, 0) := by
  have hl := rest_len a b h
  rw [prt_eq a b h]
  by_cases c : a < 0
  · rw [if_pos c, Parse_eq k _ (by rw [B_size]; simp; omega), CutPrefix_B, Option.bind_some]
    exact tail_ok k hk a b h true (decide_eq_true c).symm
  · rw [if_neg c, Parse_eq k _ (by rw [B_size]; omega), CutPrefix_no, Option.bind_some]
    · exact tail_ok k hk a b h false (decide_eq_false c).symm
    · unfold rest
      by_cases c1 : b = 1
      · rw [if_pos c1]
        have := head_dec a.natAbs [] 45 (by unfold isD; decide)
        rwa [List.append_nil] at this
      · rw [if_neg c1]
        exact head_dec a.natAbs _ 45 (by unfold isD; decide)
theorem FractionPrints : sleuthlaw02_FractionPrints.Pure := by
  intro a b ha hb
  refine ⟨400, ?_⟩
  unfold sleuthlaw02_FractionPrints.f
  rw [known_ok _ (by omega), Option.bind_some, if_pos rfl, Check_ok _ (by omega), Option.bind_some]
  by_cases h : can a b
  · rw [decide_eq_true h, show (400 : Nat) = 399 + 1 from rfl, sleuthlaw02_FractionPrints.j0, if_neg (by decide), Print_ok a b h, Option.bind_some, Parse_prt _ (by omega) a b h, Option.bind_some, RPrint_ok _ (by omega) a b h, Option.bind_some, if_pos rfl]
    simp
  · rw [decide_eq_false h, show (400 : Nat) = 399 + 1 from rfl, sleuthlaw02_FractionPrints.j0, if_pos (by decide), known_ok _ (by omega)]; rfl
end Go.Proofs.YtikioicjhdhdpaaDoor.Pure
