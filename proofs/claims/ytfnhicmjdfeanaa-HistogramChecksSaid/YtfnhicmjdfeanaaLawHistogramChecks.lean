/- The row of HistogramChecks: a law over a slice of structs. -/
import Derived.Test.YtfnhicmjdfeanaaRows
import Derived.Test.YtfnhicmjdfeanaaPHx29
import Derived.Test.YtfnhicmjdfeanaaPureHistogramChecks
import Derived.WalkKit
import Derived.ProofKit
import Derived.OpenShut
import Derived.ShutString
import Derived.ChangeOld
import Derived.Below
import Derived.SizedLaws
import Derived.ChangeArms
import Derived.ChangeSame
import Derived.DataElems
namespace Go.Proofs.Ytfnhicmjdfeanaa.histogramChecks
open Go.ChangeShapes Go.WideShapes Go.ChangeAt Go.RowKit
open Go.Proofs.YtfnhicmjdfeanaaW.PrintWords
set_option linter.unusedVariables false
/-- A slice of structs of two whole numbers, opened: each element's two cells. -/
theorem open_pairs {H : Type} {enc : TypeId × Value → H} {P : Program} {w : World} {base : Nat} {spare : Nat → Bool} {held : Bool} {t e : TypeId} {f0 f1 : Field} {k0 k1 : IntKind} {fuel : Nat} {cs : List Value} {x : DataW H × List MemPlace}
    (ht : P.underlying t = some (.slice e)) (he : P.underlying e = some (.struct #[f0, f1])) (hC : P.cellsOf e = 2) (o0 : f0.offset = 0) (o1 : f1.offset = 1) (c0 : P.cellsOf f0.type = 1) (c1 : P.cellsOf f1.type = 1) (h0 : P.underlying f0.type = some (.int k0)) (h1 : P.underlying f1.type = some (.int k1))
    (h : DataW.trod enc P w base spare held fuel t cs = some x) :
    cs = [.slice none 0 0] ∨ ∃ (a : Addr) (len cap : Nat) (zs : List (Int × Int)), cs = [.slice (some a) len cap] ∧ len ≤ cap ∧ cap ≤ maxLen ∧ zs.length = len ∧
      ∀ j p, zs[j]? = some p → w.cell? (a.add (j * 2)) = some (.int k0 p.1) ∧ w.cell? (a.add (j * 2 + 1)) = some (.int k1 p.2) ∧ (Lit.int k0 p.1).wf = true ∧ (Lit.int k1 p.2).wf = true := by
  rcases DataW.trod_slice ht h with ⟨hx, _⟩ | ⟨a, len, cap, elems, rest, n, _, rfl, _, hb, hl, hm, hlen, hel, _, _⟩
  · exact Or.inl hx
  right
  have each : ∀ i, i < len → ∃ p : Int × Int, w.cell? (a.add (i * 2)) = some (.int k0 p.1) ∧ w.cell? (a.add (i * 2 + 1)) = some (.int k1 p.2) ∧ (Lit.int k0 p.1).wf = true ∧ (Lit.int k1 p.2).wf = true := by
    intro i hi
    have hy := hel i hi
    have hsome : ∃ y, elems[i]? = some y := ⟨_, List.getElem?_eq_getElem (by omega)⟩
    obtain ⟨y, ey⟩ := hsome
    rw [ey, hC, Option.bind_eq_some_iff] at hy
    obtain ⟨cs', hcs, hy'⟩ := hy
    obtain ⟨y0, y1, m, _, hsz, z0, z1⟩ := trod_struct2 he hy'
    rw [o0, c0] at z0
    rw [o1, c1] at z1
    unfold World.cells? at hcs
    rw [if_pos (by have hbl : (a.add (i * 2)).block = a.block := by unfold Addr.add; split <;> rfl
                   rw [hbl]; exact hb)] at hcs
    simp only [List.range_succ, List.range_zero, List.nil_append, List.cons_append, List.mapM_cons, List.mapM_nil] at hcs
    cases hc0 : w.cell? ((a.add (i * 2)).add 0) with
    | none => simp [hc0] at hcs
    | some v0 =>
      cases hc1 : w.cell? ((a.add (i * 2)).add 1) with
      | none => simp [hc0, hc1] at hcs
      | some v1 =>
        simp [hc0, hc1] at hcs
        subst hcs
        simp at z0 z1
        obtain ⟨m0, e0, _, w0⟩ := DataW.trod_int h0 z0
        obtain ⟨m1, e1, _, w1⟩ := DataW.trod_int h1 z1
        simp only [List.cons.injEq, and_true] at e0 e1
        subst e0 e1
        refine ⟨(m0, m1), ?_, ?_, w0, w1⟩
        · rw [Addr.add_add, Nat.add_zero] at hc0; exact hc0
        · rw [Addr.add_add] at hc1; exact hc1
  refine ⟨a, len, cap, (List.range len).map (fun i => if hi : i < len then (each i hi).choose else (0, 0)), rfl, hl, hm, by simp, ?_⟩
  intro j p hj
  rw [List.getElem?_map, Option.map_eq_some_iff] at hj
  obtain ⟨i, hi, rfl⟩ := hj
  obtain ⟨hlt, e⟩ := List.getElem?_eq_some_iff.1 hi
  simp at hlt e
  subst e
  rw [dif_pos hlt]
  exact (each _ hlt).choose_spec

theorem own : ownKnob Try.prog.godebug = none := by kernel_rfl
theorem laidOut : laidOutB Try.prog = true := by kernel_rfl
set_option maxRecDepth 100000 in
theorem lifted (os : Os) (started : os.Started) (H : Type) (enc : TypeId × Value → H) :
    ReturnsInHanded {} Try.checked os 7 .any (Rows.histogramChecksSpec.pre6 enc Try.prog Try.f7 Rows.histogramChecksRow.domain false) (Rows.histogramChecksSpec.post enc Try.prog Try.f7 false true false false) := by
  refine returnsInHanded_of_change_sized (C := Try.checked) own started (by kernel_rfl) Try.func7
    (ChangeSpec.witness6 (enc := enc) (C := Try.checked) false ⟨#[], #[.slice none 0 0], []⟩ 8 (by kernel_rfl) (by kernel_rfl) (by kernel_rfl) (by kernel_rfl)) ?_
  intro W base args ds gs before hval0 hW hcnd hsz0 _
  have hval : ∀ (j : Nat) t v, Try.f7.params[j]? = some t → args[j]? = some v → Value.okWide Try.prog W .any base t v := hval0
  have hW' := hW
  obtain ⟨p, q, hA0, hV, rfl, hfz, hnd⟩ := hW
  have hA : DataW.TrodAll enc Try.prog W 0 (fun _ => true) true Try.f7.params.toList args.toList ds p := hA0
  rw [Try.params7] at hA hval
  obtain ⟨v0, vs0, d0, ds0, p0, q0, hargs, rfl, rfl, h0, r0⟩ := trodAll_cons hA
  obtain ⟨rfl, rfl, rfl⟩ := trodAll_nil r0
  obtain rfl : args = #[v0] := by cases args; simp_all
  obtain ⟨rfl, rfl⟩ := trodVars_none hV
  obtain ⟨a0, len0, cap0, rfl⟩ := okWide_slice Try.underlying31 (hval 0 31 v0 rfl rfl)
  have k0 := h0
  have lt0 : ∀ x ∈ p0, x.block < W.heap.size := by obtain ⟨m, hm⟩ := k0; exact DataW.trod_lt m _ _ _ hm
  obtain ⟨l, hl, hle, hml, hC⟩ : ∃ l : List PH.S67, l.length = len0 ∧ len0 ≤ cap0 ∧ l.length ≤ 9223372036854775807 ∧ Kd.C PH.k67 W a0 len0 l := by
    obtain ⟨fuel, hf⟩ := h0
    rcases open_pairs Try.underlying31 Try.underlying67 (by kernel_rfl) rfl rfl (by kernel_rfl) (by kernel_rfl) Try.underlying3 Try.underlying3 hf with hcs | ⟨x, n, c, zs, hcs, hl, hm, hz, hcell⟩
    · simp [Value.cells] at hcs
      obtain ⟨rfl, rfl, rfl⟩ := hcs
      exact ⟨[], rfl, Nat.le_refl _, by decide, rfl, by decide, fun h => absurd h (by decide)⟩
    · simp [Value.cells] at hcs
      obtain ⟨rfl, rfl, rfl⟩ := hcs
      have hmx : cap0 ≤ 9223372036854775807 := Nat.le_trans hm (by decide)
      refine ⟨zs.map fun p => ⟨p.1, p.2⟩, by simp [hz], hl, by simp [hz]; omega, by simp [hz], by omega, fun _ => ⟨x, rfl, ?_⟩⟩
      intro j p hj
      rw [List.getElem?_map, Option.map_eq_some_iff] at hj
      obtain ⟨y, hy, rfl⟩ := hj
      obtain ⟨e0, e1, _, _⟩ := hcell j y hy
      refine ⟨_, rfl, PH.k67_mk W ⟨y.1, y.2⟩, ?_⟩
      · intro i u hu
        match i, hu with
        | 0, hu => simp at hu; subst hu; exact e0
        | 1, hu => simp at hu; subst hu; exact e1
        | i + 2, hu => simp at hu
  subst hl
  clear hA0 hval0 hsz0
  refine (PH.sleuthlaw21_HistogramChecks.calls 400000 a0 cap0 l true W hC hle (Pure.checks_true l hml) rfl).mono fun e W' ⟨he, bel⟩ => ?_
  subst he
  exact ⟨_, rfl, _, _, _, [], _, [], hW', trodAll_mk1 (shut_bool Try.underlying4 _), (trodAll_cons_mk (Below.trod laidOut (by kernel_rfl) (of_decide_eq_true (by kernel_rfl)) k0 bel lt0) trodAll_mk0), rfl, bel.frame _, fun h => by cases h⟩
theorem over : Rows.histogramChecksRow.holds Try.pinned (OpenSpec.ofChange Rows.histogramChecksSpec) :=
  OpenClaim.holds_of_wide 7 Try.f7 rfl rfl rfl rfl rfl rfl rfl ⟨rfl, rfl, rfl, rfl, rfl⟩ rfl rfl rfl rfl rfl (by kernel_rfl) Try.func7 (by kernel_rfl)
    (of_decide_eq_true (by kernel_rfl)) (by unfold Func.isWrapper; first | (rw [if_pos (by decide +kernel)]; kernel_rfl) | (rw [if_neg (by decide +kernel)]; exact ⟨rfl, rfl⟩))
    (fun os started H enc _ => lifted os started H enc)
theorem proved : Rows.HistogramChecksSaid := over
#print axioms proved
end Go.Proofs.Ytfnhicmjdfeanaa.histogramChecks
namespace Go.Proofs.Ytfnhicmjdfeanaa
/-- The row, under a short name, for the claim. -/
theorem histogramChecks_holds : Rows.HistogramChecksSaid := histogramChecks.proved
end Go.Proofs.Ytfnhicmjdfeanaa
