/- slices.Values and slices.Collect over events: a range over a function. -/
import Derived.RangeFuncNested
import Derived.RangeFuncBound
import Derived.RangeFuncCalls
import Derived.RangeFuncLeaves
import Derived.Shelf.Abstract
import Derived.Shelf.RegionOpen
import Derived.WalkKit
import Derived.OwnWalkIn
import Derived.TacticsInMore
import Derived.LoopNIn
import Derived.LoopIn
import Derived.Maps.AppendAt
import Derived.Test.YtcjfgejiknlpfaaGreatJ0
namespace Go.Proofs.YtcjfgejiknlpfaaGreat.PI
open Go.RowKit Go.Shelf Go.Proofs.YtcjfgejiknlpfaaGreatW.PrintWords Go.Proofs.YtcjfgejiknlpfaaGreatW.PrintLast
attribute [local go_sem] Oper.semAt_some
set_option linter.unusedVariables false
set_option linter.unusedSimpArgs false
/-- The cells of an event, of events. -/
def evC (x : S50) : List Value := [.string x.f0.f0, .int .i64 x.f0.f1, .int .i64 x.f1, .int .i64 x.f2, .string x.f3.f0, .int .i64 x.f3.f1, .string x.f4, .int .i64 x.f5, .string x.f6]
def evCs : List S50 → List Value
  | [] => []
  | x :: l => evC x ++ evCs l
theorem evCs_append : ∀ (l m : List S50), evCs (l ++ m) = evCs l ++ evCs m
  | [], m => rfl
  | x :: l, m => by rw [List.cons_append, evCs, evCs, evCs_append l m, List.append_assoc]
theorem evCs_one (x : S50) : evCs [x] = evC x := List.append_nil _
/-- A block of cells speaks of cells alone. -/
theorem blk_own {β : Type} (B : Nat) (cs : Array Value) (t : TypeId) : Own (fun (_ : β) W => W.heap[B]? = some (.cells cs t (0, 0))) := fun s X Y row hs hg hrow => by
  refine (hg.block B (Array.getElem?_eq_some_iff.1 hs).1 (fun e' => ?_)).trans hs
  obtain ⟨o, ho, hc⟩ := hrow B e'.symm
  rw [hs] at ho; cases ho; cases hc
theorem cells_at {W : World} {B : Nat} {cs : Array Value} {t : TypeId} (h : W.heap[B]? = some (.cells cs t (0, 0))) (i : Nat) : W.cell? ⟨B, i, none⟩ = cs[i]? := by simp [World.cell?, h]
theorem cells_frozen {W : World} {B : Nat} {cs : Array Value} {t : TypeId} (h : W.heap[B]? = some (.cells cs t (0, 0))) (i : Nat) : W.frozen? ⟨B, i, none⟩ = false := by simp [World.frozen?, h]
theorem new_cells (W : World) (cs : Array Value) (t : TypeId) : (W.alloc (.cells cs t)).heap[W.heap.size]? = some (.cells cs t (0, 0)) := World.alloc_heap_new W _
/-- What has come when k rounds are over. -/
def uptoE (l : List S50) (k : Nat) : List S50 := (List.range k).map fun j : Nat => rd_T50 l (j : Int)
theorem uptoE_succ (l : List S50) (k : Nat) : uptoE l (k + 1) = uptoE l k ++ [rd_T50 l (k : Int)] := by simp [uptoE, List.range_succ]
theorem uptoE_length (l : List S50) (k : Nat) : (uptoE l k).length = k := by simp [uptoE]
theorem uptoE_all (l : List S50) : uptoE l l.length = l := by
  apply List.ext_getElem
  · simp [uptoE]
  · intro i h1 h2
    simp [uptoE, rd_T50, h2]
abbrev encE (x : S50) : Array Value := #[.agg #[.string x.f0.f0, .int .i64 x.f0.f1, .int .i64 x.f1, .int .i64 x.f2, .string x.f3.f0, .int .i64 x.f3.f1, .string x.f4, .int .i64 x.f5, .string x.f6]]
set_option maxRecDepth 100000 in
set_option maxHeartbeats 4000000 in
/-- slices.Values's closure. -/
theorem values1_in (F : Fence) (n : Nat) (h65 : F.fn 74) (hro : F.round = none) (hn : 1 ≤ n) (l Bs n₀ : Nat) (A : Option Addr) (c : Nat) (zs : List S50) (J Jx : List S50 → World → Prop)
    (hY : ∀ pre x W, J pre W → pre.length < zs.length → YieldAt F (n - 1) Tryz.prog l (encE x) W fun e W' =>
      (e = .returned (.bool true) ∧ J (pre ++ [x]) W' ∧ Below n₀ W W') ∨ (e = .returned (.bool false) ∧ Jx (pre ++ [x]) W'))
    (W : World) (hJ : AbidesFrom W.heap.size J) (hBs : W.cell? ⟨Bs, 0, none⟩ = some (.slice A zs.length c)) (hn₀ : n₀ ≤ W.heap.size) (hc : ∀ W1, Below n₀ W W1 → Kd.C k50 W1 A zs.length zs) (h0 : J [] W) (hm : (zs.length : Int) ≤ 9223372036854775806) :
    CallsIn F n Tryz.prog 74 #[.func (.yield l) #[] #[], .pointer (some ⟨Bs, 0, none⟩)] W fun e W' => (∃ v, e = .returned v) ∧ ((∃ ys, ys = zs ∧ J ys W') ∨ (∃ pre, True ∧ Jx pre W')) := by
  refine callsIn_of_wp Tryz.func74 rfl h65 ?_ hro
  simp only [Tryz.ntmps74, List.size_toArray, List.length_cons, List.length_nil, Nat.reduceAdd, Nat.reduceSub, Array.replicate_succ, Array.replicate_zero, List.push_toArray, List.append_toArray, List.nil_append, List.cons_append]
  gi_wp2
  gi_loopw [7] (fun i wr => ∃ k : Nat, k ≤ zs.length ∧ i = .int .i64 k ∧ J (uptoE zs k) wr ∧ Below n₀ W wr)
    (fun i _ => zs.length - (intOf i).toNat)
  case atStart => exact ⟨0, Nat.zero_le _, rfl, h0, Below.refl _ _⟩
  case round =>
    obtain ⟨k, hk, rfl, hJs, hnx⟩ := hrel
    by_cases hlt : k < zs.length
    · obtain ⟨ad, rfl, x0, x1, x2, x3, x4, x5, x6, x7, x8⟩ := at_T50 (hc wr hnx) (k : Int) (by omega) (by omega)
      rw [Int.toNat_natCast] at x0 x1 x2 x3 x4 x5 x6 x7 x8
      have q0 : decide ((k : Int) < (zs.length : Int)) = true := decide_eq_true (by omega)
      have q1 := eq_true (show (k : Int) < (zs.length : Int) by omega)
      have q2 := eq_true (show (0 : Int) ≤ (k : Int) by omega)
      have hsz := hnx.size
      obtain ⟨Wa, hWa⟩ : ∃ Wa, wr.alloc (.cells #[.string (rd_T50 zs (k : Int)).f0.f0, .int .i64 (rd_T50 zs (k : Int)).f0.f1, .int .i64 (rd_T50 zs (k : Int)).f1, .int .i64 (rd_T50 zs (k : Int)).f2, .string (rd_T50 zs (k : Int)).f3.f0, .int .i64 (rd_T50 zs (k : Int)).f3.f1, .string (rd_T50 zs (k : Int)).f4, .int .i64 (rd_T50 zs (k : Int)).f5, .string (rd_T50 zs (k : Int)).f6] 50) = Wa := ⟨_, rfl⟩
      have hJa : J (uptoE zs k) Wa := by rw [← hWa]; exact hJ _ wr _ none hJs (World.grownBy_alloc wr _ none) (fun r e => by cases e)
      have hba : Below n₀ wr Wa := by rw [← hWa]; exact (Below.refl _ _).alloc (by omega) _
      have hbk : Wa.heap[wr.heap.size]? = some (.cells #[.string (rd_T50 zs (k : Int)).f0.f0, .int .i64 (rd_T50 zs (k : Int)).f0.f1, .int .i64 (rd_T50 zs (k : Int)).f1, .int .i64 (rd_T50 zs (k : Int)).f2, .string (rd_T50 zs (k : Int)).f3.f0, .int .i64 (rd_T50 zs (k : Int)).f3.f1, .string (rd_T50 zs (k : Int)).f4, .int .i64 (rd_T50 zs (k : Int)).f5, .string (rd_T50 zs (k : Int)).f6] 50 (0, 0)) := by rw [← hWa]; exact new_cells _ _ _
      obtain ⟨fn, tmps, assign, body, hy, hR⟩ := hY _ (rd_T50 zs (k : Int)) Wa hJa (by rw [uptoE_length]; exact hlt)
      have y0 := cells_at hbk 0
      have y1 := cells_at hbk 1
      have y2 := cells_at hbk 2
      have y3 := cells_at hbk 3
      have y4 := cells_at hbk 4
      have y5 := cells_at hbk 5
      have y6 := cells_at hbk 6
      have y7 := cells_at hbk 7
      have y8 := cells_at hbk 8
      simp only [List.getElem?_toArray, List.getElem?_cons_zero, List.getElem?_cons_succ] at y0 y1 y2 y3 y4 y5 y6 y7 y8
      gi_wp2
      refine hR.mono ?_
      rintro e W3 (⟨rfl, hJ3, hk3⟩ | ⟨rfl, hJx3⟩)
      · gi_wp2
        go_roundw
        case rel => exact ⟨k + 1, by omega, by simp, by rw [uptoE_succ]; exact hJ3, (hnx.trans hba).trans hk3⟩
        case measure => simp [intOf]; omega
      · gi_wp2
        refine bodyPost_ret (results_none rfl _ _ _) rfl ?_
        exact ⟨⟨_, rfl⟩, .inr ⟨_, trivial, hJx3⟩⟩
    · obtain rfl : k = zs.length := by omega
      have q0 : decide ((zs.length : Int) < (zs.length : Int)) = false := decide_eq_false (by omega)
      gi_wp2
      go_end0
      exact ⟨⟨_, rfl⟩, .inl ⟨_, rfl, by rw [← uptoE_all zs]; exact hJs⟩⟩
/-- slices.Values hands back an iterator over the events. -/
theorem values_stops (F : Fence) (n : Nat) (h65 : F.fn 74) (hro : F.round = none) (hn : 1 ≤ n) (Bs n₀ : Nat) (A : Option Addr) (c : Nat) (zs : List S50) (hm : (zs.length : Int) ≤ 9223372036854775806) (w : World) (hBs : Bs < w.heap.size) (hn₀ : n₀ ≤ w.heap.size)
    (hc : w.cell? ⟨Bs, 0, none⟩ = some (.slice A zs.length c)) (hI : ∀ W1, Below n₀ w W1 → Kd.C k50 W1 A zs.length zs) :
    SeqStopsK F n Tryz.prog 74 #[.pointer (some ⟨Bs, 0, none⟩)] encE (Below n₀) (fun ys => ys = zs) (fun _ => True) zs.length w := fun l J Jx W hW hJ _ hY h0 =>
  values1_in F n h65 hro hn l Bs n₀ A c zs J Jx hY W hJ ((hW.cell (p := ⟨Bs, 0, none⟩) hBs).trans hc) (Nat.le_trans hn₀ hW.size) (fun W1 h1 => hI W1 ((hW.mono hn₀).trans h1)) h0 hm
/-- slices.Values(s): the slice is boxed; the function value captures the box. -/
theorem values_in (F : Fence) (n : Nat) (h42 : F.fn 58) (hro : F.round = none) (a : Option Addr) (len cap : Nat) (w : World) :
    CallsIn F n Tryz.prog 58 #[.slice a len cap] w fun e w' => e = .returned (.func (.func 74) #[] #[.pointer (some ⟨w.heap.size, 0, none⟩)]) ∧ w' = w.alloc (.cells #[.slice a len cap] 25) := by
  refine callsIn_of_wp Tryz.func58 rfl h42 ?_ hro
  simp only [Tryz.ntmps58, List.size_toArray, List.length_cons, List.length_nil, Nat.reduceAdd, Nat.reduceSub, Array.replicate_succ, Array.replicate_zero, List.push_toArray, List.append_toArray, List.nil_append, List.cons_append]
  gi_wp2
  go_ret
  exact ⟨rfl, rfl⟩
theorem evC_one (x : S50) : ∀ u ∈ evC x, u.oneCell' = true := by
  intro u hu
  simp only [evC, List.mem_cons, List.not_mem_nil, or_false] at hu
  rcases hu with rfl | rfl | rfl | rfl | rfl | rfl | rfl | rfl | rfl <;> rfl
set_option maxRecDepth 100000 in
set_option maxHeartbeats 4000000 in
/-- slices.AppendSeq(nil, slices.Values(l)): the events of l in a row of the call's own. -/
theorem appendSeq_in (F : Fence) (n : Nat) (h76 : F.fn 110) (h65 : F.fn 74) (hro : F.round = none) (hn : 2 ≤ n) (Bs : Nat) (A : Option Addr) (c : Nat) (zs : List S50) (hm : zs.length ≤ 1000000) (w : World) (hBs : Bs < w.heap.size)
    (hc : w.cell? ⟨Bs, 0, none⟩ = some (.slice A zs.length c)) (hI : ∀ W1, Below w.heap.size w W1 → Kd.C k50 W1 A zs.length zs) :
    CallsIn F n Tryz.prog 110 #[.slice none 0 0, .func (.func 74) #[] #[.pointer (some ⟨Bs, 0, none⟩)]] w fun e W' => ∃ v, e = .returned v ∧ W'.ownsRow w.heap.size 50 9 v zs.length (evCs zs) ∧ Below w.heap.size w W' := by
  have h1 : 1 ≤ n := by omega
  obtain ⟨i0, hi, hz0, hz1, hz2⟩ := info_parts info50
  refine callsIn_of_wp_marks Tryz.func110 rfl h76 ?_ hro
  simp only [Tryz.ntmps110, List.size_toArray, List.length_cons, List.length_nil, Nat.reduceAdd, Nat.reduceSub, Array.replicate_succ, Array.replicate_zero, List.push_toArray, List.append_toArray, List.nil_append, List.cons_append]
  gi_wp2
  have bO := Boxed.new w 25 (.slice none 0 0)
  have hB0 : Below w.heap.size w (w.alloc (.cells #[.slice none 0 0] 25)) := (Below.refl _ w).alloc (Nat.le_refl _) _
  refine wpIn_rangeFunc_ownH hro h1 (gf := 74) (lb := #[.pointer (some ⟨Bs, 0, none⟩)]) rfl h65 (enters_of Tryz.func74 (by kernel_rfl) rfl)
    (values_stops F (n - 1) h65 hro (by omega) Bs w.heap.size A c zs (by omega) (w.alloc (.cells #[.slice none 0 0] 25)) (by simp; omega) (by simp) ((hB0.cell (p := ⟨Bs, 0, none⟩) hBs).trans hc) (fun W1 h1 => hI W1 (hB0.trans h1))) belowK_t (belowK_b (by simp)) (Below.refl _ _) (fun _ => rfl)
    (fun pre W => (∃ v, Boxed W w.heap.size 25 v ∧ W.ownsRow w.heap.size 50 9 v pre.length (evCs pre) ∧ True) ∧ Below w.heap.size w W)
    (fun _ _ _ => False)
    (OwnFrom.and (Own.from (holdsRow_own w.heap.size w.heap.size 25 50 9 (fun pre => pre.length) (fun pre => evCs pre) (fun _ _ => True)) _) (ownFrom_below (Nat.le_refl _) (by simp)))
    (fun _ _ _ _ _ hs _ _ => hs)
    ⟨⟨_, bO, World.ownsRow_nil _ _ _ _, trivial⟩, hB0⟩
    (fun x a' W => ∃ Bx, w.heap.size < Bx ∧ W.heap[Bx]? = some (.cells #[.string x.f0.f0, .int .i64 x.f0.f1, .int .i64 x.f1, .int .i64 x.f2, .string x.f3.f0, .int .i64 x.f3.f1, .string x.f4, .int .i64 x.f5, .string x.f6] 50 (0, 0)) ∧ a' = { tmps := #[.slice none 0 0, .func (.func 74) #[] #[.pointer (some ⟨Bs, 0, none⟩)], .pointer (some ⟨w.heap.size, 0, none⟩), undef, .slice none 0 0, .pointer (some ⟨Bx, 0, none⟩), .func (.func 74) #[] #[.pointer (some ⟨Bs, 0, none⟩)], .agg #[.string x.f0.f0, .int .i64 x.f0.f1, .int .i64 x.f1, .int .i64 x.f2, .string x.f3.f0, .int .i64 x.f3.f1, .string x.f4, .int .i64 x.f5, .string x.f6], undef, undef, undef, undef, undef], defers := [] })
    (fun x a' _ X Y row hs hg hr => by obtain ⟨Bx, h1, h2, h3⟩ := hs; exact ⟨Bx, h1, blk_own Bx _ 50 () X Y row h2 hg (fun r e => (hr r e).2), h3⟩)
    ?assign ?body ?done ?stop
  case assign =>
    rintro l pre x W K ⟨⟨v, hv, hrow, _⟩, hB⟩ hK
    gi_wp2
    exact hK _ _ ((KeepsOthers.alloc _ _).from _) ((Below.refl _ W).alloc hB.size _) ⟨⟨v, hv.alloc _, hrow.alloc _, trivial⟩, hB.alloc hB.size _⟩ ⟨W.heap.size, hv.lt, new_cells W _ _, rfl⟩
  case body =>
    rintro l pre x a' W hl ⟨r, hr⟩ ⟨⟨v, hv, hrow, _⟩, hB⟩ ⟨Bx, hBx, bX, rfl⟩ hlt
    have hc := hv.cell
    have y0 := cells_at bX 0
    have y1 := cells_at bX 1
    have y2 := cells_at bX 2
    have y3 := cells_at bX 3
    have y4 := cells_at bX 4
    have y5 := cells_at bX 5
    have y6 := cells_at bX 6
    have y7 := cells_at bX 7
    have y8 := cells_at bX 8
    simp only [List.getElem?_toArray, List.getElem?_cons_zero, List.getElem?_cons_succ] at y0 y1 y2 y3 y4 y5 y6 y7 y8
    gi_wp2_with (gi_at_builtin; refine wpListIn_append_own _ rfl _ _ 25 rfl w.heap.size 50 i0 (.agg #[(.string ⟨#[]⟩), (.int .i64 0), (.int .i64 0), (.int .i64 0), (.string ⟨#[]⟩), (.int .i64 0), (.string ⟨#[]⟩), (.int .i64 0), (.string ⟨#[]⟩)]) 9 104 Tryz.underlying25 hi hz0 hz1 hz2 rfl (by decide) _ _ _ rfl (hrow.alloc _) ⟨W.heap.size, 0, none⟩ 1 1 (evC x) rfl rfl (fun j u hj => by have := cells_at (new_cells W #[.string x.f0.f0, .int .i64 x.f0.f1, .int .i64 x.f1, .int .i64 x.f2, .string x.f3.f0, .int .i64 x.f3.f1, .string x.f4, .int .i64 x.f5, .string x.f6] 50) j; rw [List.getElem?_toArray] at this; rw [Addr.add_lit, Nat.zero_add]; exact this.trans hj) (evC_one x) (by unfold maxLen; omega) (by omega) (by have := hB.size; simp; omega) ?_; intro v' w1 hown' hgrow _; obtain ⟨g', cap', rfl⟩ := ownsRow_succ hown'; obtain ⟨hv1, hv2, hr2, hk2, hb2⟩ := hv.appended (by decide) hrow hB.size (Nat.le_refl _) hown' hgrow; have hc1 := hv1.cell; have hf1 := hv1.frozen)
    exact ⟨hk2.from _, hb2, ⟨_, hv2, by rw [evCs_append, evCs_one]; simpa using hr2, trivial⟩, hB.trans hb2⟩
  case done =>
    rintro D ys W hD rfl ⟨⟨v, hv, hrow, _⟩, hB⟩ hK
    have hc := hv.cell
    gi_wp2
    refine ⟨by simp, .inl ⟨_, _, rfl, run_takeDeferred hK, ?_⟩⟩
    exact ⟨_, results_tmp rfl _ _ _, v, rfl, ownsRow_putObj hrow _ hK rfl, hB.trans (belowK_b (w := w) (Nat.le_refl _) W D _ _ (by simp at hD; omega) hK rfl rfl)⟩
  case stop =>
    rintro D c pre W _ _ h _
    exact h.elim
end Go.Proofs.YtcjfgejiknlpfaaGreat.PI
