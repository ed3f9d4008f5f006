/- Texts of this claim, taken together: Sk1, Sk2, Sk3, Sk4, Sk5, Key, Sk6, Sk7. -/
import Derived.Test.YtddhpkobingmhaaJ3
import Derived.Test.YtddhpkobingmhaaJ0
import Derived.Lib.LazyBuf
import Derived.Test.YtddhpkobingmhaaJ1
/-! # Sk1 -/
section
namespace Go.Proofs.Ytddhpkobingmhaa.PB
open Go.RowKit Go.Proofs.YtddhpkobingmhaaW.PrintWords Go.Proofs.YtddhpkobingmhaaW.PrintLast Go.Proofs.YtddhpkobingmhaaW.PrintMore Go.Proofs.Ytddhpkobingmhaa.Sep
set_option linter.unusedVariables false
set_option linter.unusedSimpArgs false
set_option maxHeartbeats 8000000
set_option maxRecDepth 100000

theorem bottomk_New.ok (a b : Int) (ha : 1 ≤ a) (ha2 : a ≤ 1024) (hb0 : 0 ≤ b) (hb2 : b ≤ 1048576) {N : Nat} {w : World} {L : List Res} (HS0 : St N w L) :
    Calls Try.prog 20 #[.int .i64 a, .int .i64 b] w fun e w' => ∃ p : Nat, e = .returned (.tuple #[.pointer (some ⟨p, 0, none⟩), .int .i64 0]) ∧ St N w' (Blk p #[.int .i64 a, .int .i64 b, .slice none 0 0, .bool false] 59 :: L) ∧ Below N w w' := by
  have HS := Aside0.mk HS0
  have HB := Aside0.mk (Below.refl N w)
  clear HS0
  have c1 : decide (a < 1) = false := decide_eq_false (by omega)
  have c2 : decide (1024 < a) = false := decide_eq_false (by omega)
  have c3 : decide (b < 0) = false := decide_eq_false (by omega)
  have c4 : decide (1048576 < b) = false := decide_eq_false (by omega)
  go_enter Try.func20, Try.ntmps20
  go_wp2_with (first | ((with_reducible refine gate_dst (N := 23) rfl ?_); refine box_event ?hg (N := 23) ?hd (cs := #[.int .i64 a, .int .i64 b, .slice none 0 0, .bool false]) (t := 59) ?hr ?_; (case hd => rfl); (case hg => rfl); (case hr => first | (go_simp; done) | (go_simp; rfl)); intro p hg w1 hbox hb; have n0_ := Aside0.mk (HS.out.box hg hbox hb); have n1_ := Aside0.mk (below_step' HB.out HS.out.size hb); clear HS HB; have HS := n0_; have HB := n1_; clear n0_ n1_; (try simp only [List.eraseIdx_cons_succ, List.eraseIdx_cons_zero] at HS); clear hb hbox hg))
  go_ret2
  exact ⟨p, rfl, HS.out, HB.out⟩

theorem bottomk_New.bad (a b : Int) (h : a < 1 ∨ 1024 < a ∨ b < 0 ∨ 1048576 < b) (w : World) :
    Calls Try.prog 20 #[.int .i64 a, .int .i64 b] w fun e w' => e = .returned (.tuple #[.pointer none, .int .i64 2]) ∧ w' = w := by
  by_cases h1 : a < 1
  · have c1 := decide_eq_true h1
    go_enter Try.func20, Try.ntmps20
    go_wp2
    go_ret2
    exact ⟨rfl, rfl⟩
  · have c1 := decide_eq_false h1
    by_cases h2 : 1024 < a
    · have c2 := decide_eq_true h2
      go_enter Try.func20, Try.ntmps20
      go_wp2
      go_ret2
      exact ⟨rfl, rfl⟩
    · have c2 := decide_eq_false h2
      by_cases h3 : b < 0
      · have c3 := decide_eq_true h3
        go_enter Try.func20, Try.ntmps20
        go_wp2
        go_ret2
        exact ⟨rfl, rfl⟩
      · have c3 := decide_eq_false h3
        have c4 : decide (1048576 < b) = true := decide_eq_true (by omega)
        go_enter Try.func20, Try.ntmps20
        go_wp2
        go_ret2
        exact ⟨rfl, rfl⟩

end Go.Proofs.Ytddhpkobingmhaa.PB
end

/-! # Sk2 -/
section
namespace Go.Proofs.Ytddhpkobingmhaa.PB
open Go.RowKit Go.Proofs.YtddhpkobingmhaaW.PrintWords Go.Proofs.YtddhpkobingmhaaW.PrintLast Go.Proofs.YtddhpkobingmhaaW.PrintMore Go.Proofs.Ytddhpkobingmhaa.Sep
set_option linter.unusedVariables false
set_option linter.unusedSimpArgs false
set_option maxHeartbeats 8000000
set_option maxRecDepth 100000

theorem bottomk_Size.ok (a b : Int) (v : Value) (m : Bool) (p : Nat) (w : World) (hp : w.heap[p]? = some (.cells #[.int .i64 a, .int .i64 b, v, .bool m] 59 (0, 0))) :
    Calls Try.prog 37 #[.pointer (some ⟨p, 0, none⟩)] w fun e w' => e = .returned (.int .i64 a) ∧ w' = w := by
  have hc0 : w.cell? ⟨p, 0, none⟩ = some (.int .i64 a) := (blk_cell hp 0).trans rfl
  clear hp
  go_enter Try.func37, Try.ntmps37
  go_wp2
  go_ret
  exact ⟨rfl, rfl⟩

theorem bottomk_Size.nil (w : World) : Calls Try.prog 37 #[.pointer none] w fun e w' => e = .returned (.int .i64 0) ∧ w' = w := by
  go_enter Try.func37, Try.ntmps37
  go_wp2
  go_ret
  exact ⟨rfl, rfl⟩

theorem bottomk_Seed.ok (a b : Int) (v : Value) (m : Bool) (p : Nat) (w : World) (hp : w.heap[p]? = some (.cells #[.int .i64 a, .int .i64 b, v, .bool m] 59 (0, 0))) :
    Calls Try.prog 38 #[.pointer (some ⟨p, 0, none⟩)] w fun e w' => e = .returned (.int .i64 b) ∧ w' = w := by
  have hc1 : w.cell? ⟨p, 1, none⟩ = some (.int .i64 b) := (blk_cell hp 1).trans rfl
  clear hp
  go_enter Try.func38, Try.ntmps38
  go_wp2
  go_ret
  exact ⟨rfl, rfl⟩

theorem bottomk_Seed.nil (w : World) : Calls Try.prog 38 #[.pointer none] w fun e w' => e = .returned (.int .i64 0) ∧ w' = w := by
  go_enter Try.func38, Try.ntmps38
  go_wp2
  go_ret
  exact ⟨rfl, rfl⟩

theorem bottomk_Exact.ok (a b : Int) (v : Value) (m : Bool) (p : Nat) (w : World) (hp : w.heap[p]? = some (.cells #[.int .i64 a, .int .i64 b, v, .bool m] 59 (0, 0))) :
    Calls Try.prog 19 #[.pointer (some ⟨p, 0, none⟩)] w fun e w' => e = .returned (.bool (!m)) ∧ w' = w := by
  have hc3 : w.cell? ⟨p, 3, none⟩ = some (.bool m) := (blk_cell hp 3).trans rfl
  clear hp
  go_enter Try.func19, Try.ntmps19
  go_wp2
  go_ret
  exact ⟨rfl, rfl⟩

theorem bottomk_Exact.nil (w : World) : Calls Try.prog 19 #[.pointer none] w fun e w' => e = .returned (.bool false) ∧ w' = w := by
  go_enter Try.func19, Try.ntmps19
  go_wp2
  go_ret
  exact ⟨rfl, rfl⟩

theorem bottomk_Least.ok (a b : Int) (A : Option Addr) (n c : Nat) (hn : n ≤ 1000000) (m : Bool) (p : Nat) (w : World) (hp : w.heap[p]? = some (.cells #[.int .i64 a, .int .i64 b, .slice A n c, .bool m] 59 (0, 0))) :
    Calls Try.prog 18 #[.pointer (some ⟨p, 0, none⟩)] w fun e w' => e = .returned (.int .i64 (if m = true then (n : Int) + 1 else n)) ∧ w' = w := by
  have hc2 : w.cell? ⟨p, 2, none⟩ = some (.slice A n c) := (blk_cell hp 2).trans rfl
  have hc3 : w.cell? ⟨p, 3, none⟩ = some (.bool m) := (blk_cell hp 3).trans rfl
  clear hp
  cases m with
  | true =>
    go_enter Try.func18, Try.ntmps18
    go_wp2
    go_ret
    exact ⟨rfl, rfl⟩
  | false =>
    go_enter Try.func18, Try.ntmps18
    go_wp2
    go_ret
    exact ⟨rfl, rfl⟩

theorem bottomk_Least.nil (w : World) : Calls Try.prog 18 #[.pointer none] w fun e w' => e = .returned (.int .i64 0) ∧ w' = w := by
  go_enter Try.func18, Try.ntmps18
  go_wp2
  go_ret
  exact ⟨rfl, rfl⟩

theorem flat52 (W : World) (N : Nat) : ∀ (x : S52) (cs : List Value), k52.K W x cs → k52.M W N (fun _ => False) x cs := fun x cs h => by
  rw [k52_open h]; exact k52_mkM _ _ _ _
theorem run_eql_nil {P : Program} (w : World) {t e : TypeId} {a : Option Addr} {l c : Nat} (h : P.underlying t = some (.slice e)) : (binOp .eql t (.slice a l c) (.slice none 0 0)).run P w = .ok (.bool a.isNone) w := Go.run_eql_slice_nil w t e a l c h
theorem slices_Clone.ok {N : Nat} {w : World} {L : List Res} (A : Option Addr) (c : Nat) (l : List S52) (hl : l.length ≤ 1000000) (hnil : A = none → l = [] ∧ c = 0) (hc : k52.C w A l.length l) (HS0 : St N w L) :
    Calls Try.prog 62 #[.slice A l.length c] w fun e w' => ∃ v, e = .returned v ∧ St N w' (Row k52 52 v l :: L) ∧ Below N w w' := by
  cases A with
  | none =>
    obtain ⟨rfl, rfl⟩ := hnil rfl
    have he : ∀ w' : World, (binOp .eql 26 (.slice none 0 0) (.slice none 0 0)).run Try.prog w' = .ok (.bool true) w' := fun w' => run_eql_nil w' Try.underlying26
    go_enter Try.func62, Try.ntmps62
    go_wp2
    go_ret
    exact ⟨_, rfl, HS0.rowNil, Below.refl _ _⟩
  | some A =>
    have HS := Aside0.mk HS0
    have HB := Aside0.mk (Below.refl N w)
    have HC := Aside0.mk hc
    clear HS0 hc hnil
    have he : ∀ w' : World, (binOp .eql 26 (.slice (some A) l.length c) (.slice none 0 0)).run Try.prog w' = .ok (.bool false) w' := fun w' => run_eql_nil w' Try.underlying26
    go_enter Try.func62, Try.ntmps62
    go_wp2_with (first | ((with_reducible refine gate_dst (N := 5) rfl ?_); refine S_lit k52 52 ?hg (Nt := 5) ?hd (xs := ([] : List S52)) (inner := []) ?hr ?hp HS.out (by simp) ?_; (case hd => rfl); (case hg => rfl); (case hr => first | (go_simp; done) | (go_simp; rfl)); (case hp => exact Reps.none _ _); intro v1 w1 hs hb; have n2_ := Aside0.mk (Kd.C_below HC.out hb); clear HC; have HC := n2_; clear n2_; have n0_ := Aside0.mk (hs); have n1_ := Aside0.mk (below_step' HB.out HS.out.size hb); clear HS HB; have HS := n0_; have HB := n1_; clear n0_ n1_; (try simp only [List.eraseIdx_cons_succ, List.eraseIdx_cons_zero] at HS); clear hs hb) | ((with_reducible refine gate_builtin (b := .append) (xs := #[.tmp 5, .tmp 6]) rfl ?_); at_builtin; refine S_append_rows k52 rfl (.tmp 5) (.tmp 6) 26 52 (.agg #[(.int .i64 0), (.string ⟨#[]⟩)]) 24 rfl Try.underlying26 info52 rfl (by decide) (by omega) v1 [] l (some A) l.length c rfl rfl (flat52 _ _) HS.out HC.out HB.out (by simp; omega) ?_; intro v2 w2 hs hb; clear HC; have n0_ := Aside0.mk (hs); have n1_ := Aside0.mk (hb); clear HS HB; have HS := n0_; have HB := n1_; clear n0_ n1_; (try simp only [List.eraseIdx_cons_succ, List.eraseIdx_cons_zero] at HS); clear hs hb))
    go_ret
    exact ⟨_, rfl, HS.out, HB.out⟩

theorem bottomk_Keys.ok {N : Nat} {w : World} {L : List Res} (a b : Int) (A : Option Addr) (c : Nat) (l : List S52) (m : Bool) (p : Nat) (hp : w.heap[p]? = some (.cells #[.int .i64 a, .int .i64 b, .slice A l.length c, .bool m] 59 (0, 0))) (hl : l.length ≤ 1000000) (hnil : A = none → l = [] ∧ c = 0) (hc : k52.C w A l.length l) (HS0 : St N w L) :
    Calls Try.prog 36 #[.pointer (some ⟨p, 0, none⟩)] w fun e w' => ∃ v, e = .returned v ∧ St N w' (Row k52 52 v l :: L) ∧ Below N w w' := by
  have hc2 : w.cell? ⟨p, 2, none⟩ = some (.slice A l.length c) := (blk_cell hp 2).trans rfl
  have HS := Aside0.mk HS0
  have HB := Aside0.mk (Below.refl N w)
  have HC := Aside0.mk hc
  have HN := Aside0.mk hnil
  clear HS0 hc hnil hp
  go_enter Try.func36, Try.ntmps36
  go_wp2_with (first | ((with_reducible refine gate_callee (f := 62) rfl ?_); refine goesL_ (some 9) rfl rfl Try.func62 (by kernel_rfl) rfl #[.slice A l.length c] rfl (by (try simp only [List.map_toArray, List.map_cons, List.map_nil]); first | done | rfl | (simp only [List.length_drop, List.length_take]; rfl)) ?_; (with_reducible refine (slices_Clone.ok A c l hl HN.out HC.out HS.out).mono ?_); rintro e w1 ⟨v1, rfl, hs, hb⟩; refine ⟨_, rfl, ?_⟩; have n0_ := Aside0.mk (hs); have n1_ := Aside0.mk (HB.out.trans hb); clear HS HB; have HS := n0_; have HB := n1_; clear n0_ n1_; (try simp only [List.eraseIdx_cons_succ, List.eraseIdx_cons_zero] at HS); clear hs hb))
  go_ret
  exact ⟨_, rfl, HS.out, HB.out⟩

theorem bottomk_Keys.nil (w : World) : Calls Try.prog 36 #[.pointer none] w fun e w' => e = .returned (.slice none 0 0) ∧ w' = w := by
  go_enter Try.func36, Try.ntmps36
  go_wp2
  go_ret
  exact ⟨rfl, rfl⟩

end Go.Proofs.Ytddhpkobingmhaa.PB
end

/-! # Sk3 -/
section
namespace Go.Proofs.Ytddhpkobingmhaa.PB
open Go.RowKit Go.Proofs.YtddhpkobingmhaaW.PrintWords Go.Proofs.YtddhpkobingmhaaW.PrintLast Go.Proofs.YtddhpkobingmhaaW.PrintMore Go.Proofs.Ytddhpkobingmhaa.Sep
set_option linter.unusedVariables false
set_option linter.unusedSimpArgs false
set_option maxHeartbeats 8000000
set_option maxRecDepth 100000
/-- Runs of 'true' and 'false' in turn. -/
@[reducible] def tfs : Bool → List Nat → List Bool
  | _, [] => []
  | b, n :: l => List.replicate n b ++ tfs (!b) l

def icmp (a b : Int) : Int := if a < b then -1 else if b < a then 1 else 0
def bcmp (a b : ByteArray) : Int := if Op.bytesLess a.toList b.toList = true then -1 else if Op.bytesLess b.toList a.toList = true then 1 else 0
def kcmp (x y : S52) : Int := if icmp x.f0 y.f0 = 0 then bcmp x.f1 y.f1 else icmp x.f0 y.f0
theorem ci_ok (a b : Int) : cmp_Compare_int.f a b = some (icmp a b) := by
  have h : ∀ z : Int, (z != z) = false := fun z => by simp
  unfold cmp_Compare_int.f cmp_isNaN_int.f icmp
  rw [h, h, Option.bind_some, Option.bind_some, if_neg (by decide), if_neg (by decide)]
  by_cases h1 : a < b
  · rw [if_pos h1, if_pos h1]
  · rw [if_neg h1, if_neg h1]
    by_cases h2 : b < a
    · rw [if_pos h2, if_pos h2]
    · rw [if_neg h2, if_neg h2]
theorem cs_ok (a b : ByteArray) : cmp_Compare_string.f a b = some (bcmp a b) := by
  have h : ∀ z : ByteArray, (z.toList != z.toList) = false := fun z => by simp
  unfold cmp_Compare_string.f cmp_isNaN_string.f bcmp
  rw [h, h, Option.bind_some, Option.bind_some, if_neg (by decide), if_neg (by decide)]
  by_cases h1 : Op.bytesLess a.toList b.toList = true
  · rw [if_pos h1, if_pos h1]
  · rw [if_neg h1, if_neg h1]
    by_cases h2 : Op.bytesLess b.toList a.toList = true
    · rw [if_pos h2, if_pos h2]
    · rw [if_neg h2, if_neg h2]
theorem or_two (k : Nat) (a b : Int) : cmp_Or_int.f (k + 3) [a, b] = some (if a = 0 then b else a) := by
  unfold cmp_Or_int.f
  have r0 : rd [a, b] 0 = a := rfl
  have r1 : rd [a, b] 1 = b := rfl
  have l2 : (([a, b].length : Nat) : Int) = 2 := rfl
  have w0 : wrap64 (0 + 1) = 1 := by unfold wrap64; omega
  have w1 : wrap64 (1 + 1) = 2 := by unfold wrap64; omega
  rw [l2, show k + 3 = (k + 2) + 1 from rfl, cmp_Or_int.l0, if_pos (by decide), if_pos (by decide), if_pos (by rw [l2]; decide), r0]
  by_cases h : a = 0
  · rw [if_pos h, if_pos h, w0, show k + 2 = (k + 1) + 1 from rfl, cmp_Or_int.l0, if_pos (by decide), if_pos (by decide), if_pos (by rw [l2]; decide), r1]
    by_cases h2 : b = 0
    · rw [if_pos h2, w1, cmp_Or_int.l0, if_neg (by decide), h2]
    · rw [if_neg h2]
  · rw [if_neg h, if_neg h]
theorem compare_ok (k : Nat) (hk : 10 ≤ k) (x y : S52) : bottomk_compare.f k x.f0 x.f1 y.f0 y.f1 = some (kcmp x y) := by
  unfold bottomk_compare.f kcmp
  obtain ⟨k, rfl⟩ : ∃ j, k = j + 3 := ⟨k - 3, by omega⟩
  rw [ci_ok, Option.bind_some, cs_ok, Option.bind_some, or_two, Option.bind_some]

def bsf.T5 : Bool × List (List Nat × List Nat) := (true, [([], []), ([], []), ([], []), ([1, 2], [1, 2]), ([3], [3]), ([], []), ([0, 4, 5], [0, 4, 5]), ([6], [6])])
def bsf.B5 : List Nat := [0, 0, 0, 6, 14, 0, 63, 127]
theorem bsf.tab5 : rtab .any (opsOf Try.f69 5) = bsf.T5 := by kernel_rfl
theorem bsf.bits5 : waitsOk bsf.T5.2 bsf.B5 = true := by kernel_rfl
def bsf.T8 : Bool × List (List Nat × List Nat) := (true, [([], []), ([], []), ([], []), ([1, 2], [1, 2]), ([3], [3]), ([4], [4]), ([4], [4]), ([4], [4]), ([6, 7, 4], [4, 6, 7]), ([8, 4], [4, 8]), ([4], [4]), ([5, 9, 10, 4, 4], [4, 5, 9, 10]), ([11, 4], [4, 11]), ([4, 12], [4, 12]), ([0, 11, 0], [0]), ([13, 14, 0, 1, 2, 3, 4, 5, 6, 7, 8, 9, 10, 11, 12, 13, 14], [13])])
def bsf.B8 : List Nat := [0, 0, 0, 6, 14, 30, 30, 30, 222, 478, 30, 2046, 4094, 8190, 4095, 32767]
theorem bsf.tab8 : rtab .any (opsOf Try.f69 8) = bsf.T8 := by kernel_rfl
theorem bsf.bits8 : waitsOk bsf.T8.2 bsf.B8 = true := by kernel_rfl
theorem bsf_ok (A : Option Addr) (c : Nat) (l : List S52) (hl : l.length ≤ 1000000) (x : S52) (i : Nat) (hi : i ≤ l.length) (hlo : ∀ j : Nat, j < i → kcmp (rd_T52 l j) x < 0) (hhi : ∀ j : Nat, i ≤ j → j < l.length → 0 ≤ kcmp (rd_T52 l j) x) (w : World) (hc : k52.C w A l.length l) :
    Calls Try.prog 69 #[.slice A l.length c, .agg #[.int .i64 x.f0, .string x.f1], .func (.func 55) #[] #[]] w fun e w' => e = .returned (.tuple #[.int .i64 i, .bool (decide (i < l.length) && (kcmp (rd_T52 l i) x == 0))]) ∧ Below w.heap.size w w' := by
  have HS := Aside0.mk (St.none_ (N := w.heap.size) (w := w) (Nat.le_refl _))
  have HB := Aside0.mk (Below.refl w.heap.size w)
  have HC := Aside0.mk hc
  have HLO := Aside0.mk hlo
  have HHI := Aside0.mk hhi
  clear hc hlo hhi
  go_enter Try.func69, Try.ntmps69
  go_wp2_with (first | ((with_reducible refine gate_dst (N := 4) rfl ?_); refine box_event ?hg (N := 4) ?hd (cs := #[.int .i64 x.f0, .string x.f1]) (t := 52) ?hr ?_; (case hd => rfl); (case hg => rfl); (case hr => first | (go_simp; done) | (go_simp; rfl)); intro g hg w1 hbox hb; have n0_ := Aside0.mk (HS.out.box hg hbox hb); have n1_ := Aside0.mk (below_step' HB.out HS.out.size hb); clear HS HB; have HS := n0_; have HB := n1_; clear n0_ n1_; (try simp only [List.eraseIdx_cons_succ, List.eraseIdx_cons_zero] at HS); clear hb hbox hg))
  go_loopw [9, 10] (fun v9 v10 wc => ∃ lo hi : Nat, lo ≤ i ∧ i ≤ hi ∧ hi ≤ l.length ∧ v9 = .int .i64 lo ∧ v10 = .int .i64 hi ∧ Aside0 (St w.heap.size wc [Blk g #[.int .i64 x.f0, .string x.f1] 52]) ∧ Aside0 (Below w.heap.size w wc)) (fun v9 v10 _ => (intOf v10 - intOf v9).toNat)
  case atStart => exact ⟨0, l.length, by omega, hi, Nat.le_refl _, rfl, rfl, HS, HB⟩
  case round =>
    clear HS HB
    obtain ⟨lo, hi', h1, h2, h3, rfl, rfl, HS, HB⟩ := hrel
    by_cases hlt : lo < hi'
    · have hd : decide ((lo : Int) < (hi' : Int)) = true := decide_eq_true (by omega)
      obtain ⟨m, hm⟩ : ∃ m : Int, ((lo : Int) + (hi' : Int)) / 2 = m := ⟨_, rfl⟩
      have m0 : 0 ≤ m := by omega
      have m1 : (lo : Int) ≤ m := by omega
      have m2 : m < (hi' : Int) := by omega
      have q0 := eq_true m0
      have q1 := eq_true (show m < (l.length : Int) by omega)
      have q2 := decide_eq_true (show m < (l.length : Int) by omega)
      obtain ⟨ad, e, hx0, hx1⟩ := at_T52 (Kd.C_below HC.out HB.out) m m0 (by omega)
      cases e
      replace hx0 := Aside0.mk hx0
      replace hx1 := Aside0.mk hx1
      go_upto_region 5 with (fail)
      (try rw [hm])
      clear hm
      by_cases hk : kcmp (rd_T52 l m) x < 0
      · have hk2 := Aside0.mk hk
        have hk1 := decide_eq_true hk
        clear hk
        have n2_ := Aside0.mk (show wr.drew.cell? _ = _ from hx0.out); have n3_ := Aside0.mk (show wr.drew.cell? _ = _ from hx1.out); clear hx0 hx1; have hx0 := n2_; have hx1 := n3_; clear n2_ n3_
        have n0_ := Aside0.mk (HS.out.drew); have n1_ := Aside0.mk (HB.out.drew); clear HS HB; have HS := n0_; have HB := n1_; clear n0_ n1_
        refine start_ (n := 8) (S := fun w' => w'.cell? (ad.add (m.toNat * 2)) = some (.int .i64 (rd_T52 l m).f0) ∧ w'.cell? ⟨(ad.add (m.toNat * 2)).block, (ad.add (m.toNat * 2)).off + 1, none⟩ = some (.string (rd_T52 l m).f1) ∧ w'.cell? ⟨g, 0, none⟩ = some (.int .i64 x.f0) ∧ w'.cell? ⟨g, 1, none⟩ = some (.string x.f1)) (ds := []) #[false, false, false, false, false, false, false, false] (by kernel_rfl) rfl rfl ⟨hx0.out, hx1.out, ((HS.out.cell 0).trans rfl), ((HS.out.cell 1).trans rfl)⟩ (fun hHeld => ?_); refine with_tabW bsf.tab5 bsf.bits5 (fun HT_ HW_ => ?_)
        generalize wr.drew = w3 at HS HB hx0 hx1 hHeld ⊢
        refine pU 0 24 #[true, false, false, false, false, false, false, false] rfl rfl HT_ ?_
        refine pU 1 25 #[true, true, false, false, false, false, false, false] rfl rfl HT_ ?_
        refine pU 2 26 #[true, true, true, false, false, false, false, false] rfl rfl HT_ ?_
        refine pU 3 27 #[true, true, true, true, false, false, false, false] rfl rfl HT_ ?_
        refine tK 4 28 #[true, true, true, true, true, false, false, false] rfl rfl HT_ HW_ hHeld ?_ (by rintro w' ⟨s0, s1, s2, s3⟩; go_simp; with_reducible rfl)
        refine tK 5 29 #[true, true, true, true, true, true, false, false] rfl rfl HT_ HW_ hHeld ?_ (by rintro w' ⟨s0, s1, s2, s3⟩; go_simp; with_reducible rfl)
        refine one_ (i := 6) (N := some 30) #[true, true, true, true, true, true, true, false] rfl rfl (one_of HT_.out (by kernel_rfl)) (by decide) (fun K hK => ?_)
        refine goesV_ #[] Try.func55 (by kernel_rfl) rfl #[.agg #[.int .i64 (rd_T52 l m).f0, .string (rd_T52 l m).f1], .agg #[.int .i64 x.f0, .string x.f1]] (by rfl) rfl rfl (by rfl) (by (try simp only [List.map_toArray, List.map_cons, List.map_nil]); first | done | rfl | (simp; done)) ?_
        with_reducible refine (bottomk_compare.calls 10 _ _ _ _ _ _ (compare_ok 10 (by omega) (rd_T52 l m) x)).mono ?_
        rintro e w4 ⟨rfl, hb⟩
        refine ⟨_, rfl, ?_⟩
        have n0_ := Aside0.mk (HS.out.step hb); have n1_ := Aside0.mk (below_step' HB.out HS.out.size hb); clear HS HB; have HS := n0_; have HB := n1_; clear n0_ n1_; (try simp only [List.eraseIdx_cons_succ, List.eraseIdx_cons_zero] at HS)
        have n2_ := Aside0.mk ((hb.cell (World.block_lt_of_cell? _ _ hx0.out)).trans hx0.out); have n3_ := Aside0.mk ((hb.cell (World.block_lt_of_cell? _ _ hx1.out)).trans hx1.out); clear hx0 hx1 hb; have hx0 := n2_; have hx1 := n3_; clear n2_ n3_
        refine hK.out _ _ ⟨hx0.out, hx1.out, ((HS.out.cell 0).trans rfl), ((HS.out.cell 1).trans rfl)⟩ (fun hHeld => ?_)
        clear hK K
        refine norm_ (a' := ?_) ?_ ?_
        rotate_left
        · show Act.put _ (some 30) _ = _
          simp only [Act.put, List.setIfInBounds_toArray, List.set_cons_zero, List.set_cons_succ, i64_w, i32_w]
          rfl
        refine pU 7 31 #[true, true, true, true, true, true, true, true] rfl rfl HT_ ?_
        refine done_ (done_of HT_.out (by kernel_rfl)) ?_
        clear HT_ HW_
        try clear hHeld
        go_wp2
        go_roundw
        case rel =>
          have hk := hk2.out
          obtain ⟨M, rfl⟩ := Int.eq_ofNat_of_zero_le m0
          refine ⟨M + 1, hi', ?_, h2, h3, by go_num, rfl, HS, HB⟩
          by_cases h : M < i
          · omega
          · have := HHI.out M (by omega) (by omega); omega
        case measure => simp [intOf]; omega
      · have hk2 := Aside0.mk hk
        have hk1 := decide_eq_false hk
        clear hk
        have n2_ := Aside0.mk (show wr.drew.cell? _ = _ from hx0.out); have n3_ := Aside0.mk (show wr.drew.cell? _ = _ from hx1.out); clear hx0 hx1; have hx0 := n2_; have hx1 := n3_; clear n2_ n3_
        have n0_ := Aside0.mk (HS.out.drew); have n1_ := Aside0.mk (HB.out.drew); clear HS HB; have HS := n0_; have HB := n1_; clear n0_ n1_
        refine start_ (n := 8) (S := fun w' => w'.cell? (ad.add (m.toNat * 2)) = some (.int .i64 (rd_T52 l m).f0) ∧ w'.cell? ⟨(ad.add (m.toNat * 2)).block, (ad.add (m.toNat * 2)).off + 1, none⟩ = some (.string (rd_T52 l m).f1) ∧ w'.cell? ⟨g, 0, none⟩ = some (.int .i64 x.f0) ∧ w'.cell? ⟨g, 1, none⟩ = some (.string x.f1)) (ds := []) #[false, false, false, false, false, false, false, false] (by kernel_rfl) rfl rfl ⟨hx0.out, hx1.out, ((HS.out.cell 0).trans rfl), ((HS.out.cell 1).trans rfl)⟩ (fun hHeld => ?_); refine with_tabW bsf.tab5 bsf.bits5 (fun HT_ HW_ => ?_)
        generalize wr.drew = w3 at HS HB hx0 hx1 hHeld ⊢
        refine pU 0 24 #[true, false, false, false, false, false, false, false] rfl rfl HT_ ?_
        refine pU 1 25 #[true, true, false, false, false, false, false, false] rfl rfl HT_ ?_
        refine pU 2 26 #[true, true, true, false, false, false, false, false] rfl rfl HT_ ?_
        refine pU 3 27 #[true, true, true, true, false, false, false, false] rfl rfl HT_ ?_
        refine tK 4 28 #[true, true, true, true, true, false, false, false] rfl rfl HT_ HW_ hHeld ?_ (by rintro w' ⟨s0, s1, s2, s3⟩; go_simp; with_reducible rfl)
        refine tK 5 29 #[true, true, true, true, true, true, false, false] rfl rfl HT_ HW_ hHeld ?_ (by rintro w' ⟨s0, s1, s2, s3⟩; go_simp; with_reducible rfl)
        refine one_ (i := 6) (N := some 30) #[true, true, true, true, true, true, true, false] rfl rfl (one_of HT_.out (by kernel_rfl)) (by decide) (fun K hK => ?_)
        refine goesV_ #[] Try.func55 (by kernel_rfl) rfl #[.agg #[.int .i64 (rd_T52 l m).f0, .string (rd_T52 l m).f1], .agg #[.int .i64 x.f0, .string x.f1]] (by rfl) rfl rfl (by rfl) (by (try simp only [List.map_toArray, List.map_cons, List.map_nil]); first | done | rfl | (simp; done)) ?_
        with_reducible refine (bottomk_compare.calls 10 _ _ _ _ _ _ (compare_ok 10 (by omega) (rd_T52 l m) x)).mono ?_
        rintro e w4 ⟨rfl, hb⟩
        refine ⟨_, rfl, ?_⟩
        have n0_ := Aside0.mk (HS.out.step hb); have n1_ := Aside0.mk (below_step' HB.out HS.out.size hb); clear HS HB; have HS := n0_; have HB := n1_; clear n0_ n1_; (try simp only [List.eraseIdx_cons_succ, List.eraseIdx_cons_zero] at HS)
        have n2_ := Aside0.mk ((hb.cell (World.block_lt_of_cell? _ _ hx0.out)).trans hx0.out); have n3_ := Aside0.mk ((hb.cell (World.block_lt_of_cell? _ _ hx1.out)).trans hx1.out); clear hx0 hx1 hb; have hx0 := n2_; have hx1 := n3_; clear n2_ n3_
        refine hK.out _ _ ⟨hx0.out, hx1.out, ((HS.out.cell 0).trans rfl), ((HS.out.cell 1).trans rfl)⟩ (fun hHeld => ?_)
        clear hK K
        refine norm_ (a' := ?_) ?_ ?_
        rotate_left
        · show Act.put _ (some 30) _ = _
          simp only [Act.put, List.setIfInBounds_toArray, List.set_cons_zero, List.set_cons_succ, i64_w, i32_w]
          rfl
        refine pU 7 31 #[true, true, true, true, true, true, true, true] rfl rfl HT_ ?_
        refine done_ (done_of HT_.out (by kernel_rfl)) ?_
        clear HT_ HW_
        try clear hHeld
        go_wp2
        go_roundw
        case rel =>
          have hk := hk2.out
          obtain ⟨M, rfl⟩ := Int.eq_ofNat_of_zero_le m0
          refine ⟨lo, M, h1, ?_, by omega, rfl, rfl, HS, HB⟩
          by_cases h : M < i
          · have := HLO.out M h; omega
          · omega
        case measure => simp [intOf]; omega
    · obtain rfl : i = lo := by omega
      obtain rfl : i = hi' := by omega
      have hd : decide ((i : Int) < (i : Int)) = false := decide_eq_false (by omega)
      by_cases hin : i < l.length
      · have q0 := eq_true (show (0 : Int) ≤ (i : Int) by omega)
        have q2 : decide ((i : Int) < (l.length : Int)) = true := decide_eq_true (by omega)
        have q3 : decide (i < l.length) = true := decide_eq_true hin
        obtain ⟨ad, e, hx0, hx1⟩ := at_T52 (Kd.C_below HC.out HB.out) (i : Int) (by omega) (by omega)
        cases e
        rw [Int.toNat_natCast] at hx0 hx1
        replace hx0 := Aside0.mk hx0
        replace hx1 := Aside0.mk hx1
        go_upto_region 8 with (fail)
        have n2_ := Aside0.mk (show wr.drew.cell? _ = _ from hx0.out); have n3_ := Aside0.mk (show wr.drew.cell? _ = _ from hx1.out); clear hx0 hx1; have hx0 := n2_; have hx1 := n3_; clear n2_ n3_
        have n0_ := Aside0.mk (HS.out.drew); have n1_ := Aside0.mk (HB.out.drew); clear HS HB; have HS := n0_; have HB := n1_; clear n0_ n1_
        refine start_ (n := 16) (S := fun w' => w'.cell? (ad.add (i * 2)) = some (.int .i64 (rd_T52 l (i : Int)).f0) ∧ w'.cell? ⟨(ad.add (i * 2)).block, (ad.add (i * 2)).off + 1, none⟩ = some (.string (rd_T52 l (i : Int)).f1) ∧ w'.cell? ⟨g, 0, none⟩ = some (.int .i64 x.f0) ∧ w'.cell? ⟨g, 1, none⟩ = some (.string x.f1)) (ds := []) (tfs true [0, 16]).toArray (by kernel_rfl) rfl rfl ⟨hx0.out, hx1.out, ((HS.out.cell 0).trans rfl), ((HS.out.cell 1).trans rfl)⟩ (fun hHeld => ?_); refine with_tabW bsf.tab8 bsf.bits8 (fun HT_ HW_ => ?_)
        generalize wr.drew = w3 at HS HB hx0 hx1 hHeld ⊢
        refine pU 0 35 (tfs true [1, 15]).toArray rfl rfl HT_ ?_
        refine pU 1 36 (tfs true [2, 14]).toArray rfl rfl HT_ ?_
        refine pU 2 37 (tfs true [3, 13]).toArray rfl rfl HT_ ?_
        refine pU 3 38 (tfs true [4, 12]).toArray rfl rfl HT_ ?_
        refine pU 4 39 (tfs true [5, 11]).toArray rfl rfl HT_ ?_
        refine pU 5 40 (tfs true [6, 10]).toArray rfl rfl HT_ ?_
        refine pU 6 41 (tfs true [7, 9]).toArray rfl rfl HT_ ?_
        refine pU 7 42 (tfs true [8, 8]).toArray rfl rfl HT_ ?_
        refine pU 8 43 (tfs true [9, 7]).toArray rfl rfl HT_ ?_
        refine tK 9 44 (tfs true [10, 6]).toArray rfl rfl HT_ HW_ hHeld ?_ (by rintro w' ⟨s0, s1, s2, s3⟩; go_simp; with_reducible rfl)
        refine tK 10 45 (tfs true [11, 5]).toArray rfl rfl HT_ HW_ hHeld ?_ (by rintro w' ⟨s0, s1, s2, s3⟩; go_simp; with_reducible rfl)
        refine one_ (i := 11) (N := some 46) (tfs true [12, 4]).toArray rfl rfl (one_of HT_.out (by kernel_rfl)) (by decide) (fun K hK => ?_)
        refine goesV_ #[] Try.func55 (by kernel_rfl) rfl #[.agg #[.int .i64 (rd_T52 l (i : Int)).f0, .string (rd_T52 l (i : Int)).f1], .agg #[.int .i64 x.f0, .string x.f1]] (by rfl) rfl rfl (by rfl) (by (try simp only [List.map_toArray, List.map_cons, List.map_nil]); first | done | rfl | (simp; done)) ?_
        with_reducible refine (bottomk_compare.calls 10 _ _ _ _ _ _ (compare_ok 10 (by omega) (rd_T52 l (i : Int)) x)).mono ?_
        rintro e w4 ⟨rfl, hb⟩
        refine ⟨_, rfl, ?_⟩
        have n0_ := Aside0.mk (HS.out.step hb); have n1_ := Aside0.mk (below_step' HB.out HS.out.size hb); clear HS HB; have HS := n0_; have HB := n1_; clear n0_ n1_; (try simp only [List.eraseIdx_cons_succ, List.eraseIdx_cons_zero] at HS)
        have n2_ := Aside0.mk ((hb.cell (World.block_lt_of_cell? _ _ hx0.out)).trans hx0.out); have n3_ := Aside0.mk ((hb.cell (World.block_lt_of_cell? _ _ hx1.out)).trans hx1.out); clear hx0 hx1 hb; have hx0 := n2_; have hx1 := n3_; clear n2_ n3_
        refine hK.out _ _ ⟨hx0.out, hx1.out, ((HS.out.cell 0).trans rfl), ((HS.out.cell 1).trans rfl)⟩ (fun hHeld => ?_)
        clear hK K
        refine norm_ (a' := ?_) ?_ ?_
        rotate_left
        · show Act.put _ (some 46) _ = _
          simp only [Act.put, List.setIfInBounds_toArray, List.set_cons_zero, List.set_cons_succ, i64_w, i32_w]
          rfl
        refine pU 12 47 (tfs true [13, 3]).toArray rfl rfl HT_ ?_
        refine pU 13 48 (tfs true [14, 2]).toArray rfl rfl HT_ ?_
        refine pU 14 6 (tfs true [15, 1]).toArray rfl rfl HT_ ?_
        refine pU 15 7 (tfs true [16]).toArray rfl rfl HT_ ?_
        refine done_ (done_of HT_.out (by kernel_rfl)) ?_
        clear HT_ HW_
        try clear hHeld
        go_wp2
        go_ret2
        exact ⟨by simp [q3], HB.out⟩
      · have q2 : decide ((i : Int) < (l.length : Int)) = false := decide_eq_false (by omega)
        have q3 : decide (i < l.length) = false := decide_eq_false hin
        go_upto_region 8 with (fail)
        have n0_ := Aside0.mk (HS.out.drew); have n1_ := Aside0.mk (HB.out.drew); clear HS HB; have HS := n0_; have HB := n1_; clear n0_ n1_
        refine start_ (n := 16) (S := fun w' => True) (ds := []) (tfs true [0, 16]).toArray (by kernel_rfl) rfl rfl trivial (fun hHeld => ?_); refine with_tabW bsf.tab8 bsf.bits8 (fun HT_ HW_ => ?_)
        generalize wr.drew = w3 at HS HB hHeld ⊢
        refine pU 0 35 (tfs true [1, 15]).toArray rfl rfl HT_ ?_
        refine pU 1 36 (tfs true [2, 14]).toArray rfl rfl HT_ ?_
        refine pU 2 37 (tfs true [3, 13]).toArray rfl rfl HT_ ?_
        refine pU 3 38 (tfs true [4, 12]).toArray rfl rfl HT_ ?_
        refine pU 4 39 (tfs true [5, 11]).toArray rfl rfl HT_ ?_
        refine pO 5 (some 40) (tfs true [6, 10]).toArray rfl rfl HT_ ?_
        refine pO 6 (some 41) (tfs true [7, 9]).toArray rfl rfl HT_ ?_
        refine pO 7 (some 42) (tfs true [8, 8]).toArray rfl rfl HT_ ?_
        refine pO 8 (some 43) (tfs true [9, 7]).toArray rfl rfl HT_ ?_
        refine pO 9 (some 44) (tfs true [10, 6]).toArray rfl rfl HT_ ?_
        refine pO 10 (some 45) (tfs true [11, 5]).toArray rfl rfl HT_ ?_
        refine pO 11 (some 46) (tfs true [12, 4]).toArray rfl rfl HT_ ?_
        refine pO 12 (some 47) (tfs true [13, 3]).toArray rfl rfl HT_ ?_
        refine pU 13 48 (tfs true [14, 2]).toArray rfl rfl HT_ ?_
        refine pU 14 6 (tfs true [15, 1]).toArray rfl rfl HT_ ?_
        refine pU 15 7 (tfs true [16]).toArray rfl rfl HT_ ?_
        refine done_ (done_of HT_.out (by kernel_rfl)) ?_
        clear HT_ HW_
        try clear hHeld
        go_wp2
        go_ret2
        exact ⟨by simp [q3], HB.out⟩

end Go.Proofs.Ytddhpkobingmhaa.PB
end

/-! # Sk4 -/
section
namespace Go.Proofs.Ytddhpkobingmhaa.PB
open Go.RowKit Go.Proofs.YtddhpkobingmhaaW.PrintWords Go.Proofs.YtddhpkobingmhaaW.PrintLast Go.Proofs.YtddhpkobingmhaaW.PrintMore Go.Proofs.Ytddhpkobingmhaa.Sep
set_option linter.unusedVariables false
set_option linter.unusedSimpArgs false
set_option maxHeartbeats 8000000
set_option maxRecDepth 100000

def enc52 (x : S52) : List Value := [.int .i64 x.f0, .string x.f1]
theorem flatK : Flat k52 enc52 where
  K := k52_open
  M := fun w base ok x => k52_mkM w base ok x
  sz := fun _ => rfl
  one := fun x v h => by simp [enc52] at h; rcases h with rfl | rfl <;> rfl

def ins_70_.T11 : Bool × List (List Nat × List Nat) := (true, [([], []), ([], []), ([], []), ([1, 2], [1, 2]), ([0, 3], [0, 3]), ([], []), ([], []), ([5, 6], [5, 6]), ([4, 7], [4, 7])])
def ins_70_.B11 : List Nat := [0, 0, 0, 6, 15, 0, 0, 96, 255]
theorem ins_70_.tab11 : rtab .any (opsOf Try.f70 11) = ins_70_.T11 := by kernel_rfl
theorem ins_70_.bits11 : waitsOk ins_70_.T11.2 ins_70_.B11 = true := by kernel_rfl
def ins_70_.T15 : Bool × List (List Nat × List Nat) := (true, [([], []), ([], []), ([], []), ([1, 2], [1, 2]), ([0, 3], [0, 3]), ([], []), ([], []), ([5, 6], [5, 6]), ([4, 7], [4, 7])])
def ins_70_.B15 : List Nat := [0, 0, 0, 6, 15, 0, 0, 96, 255]
theorem ins_70_.tab15 : rtab .any (opsOf Try.f70 15) = ins_70_.T15 := by kernel_rfl
theorem ins_70_.bits15 : waitsOk ins_70_.T15.2 ins_70_.B15 = true := by kernel_rfl
theorem info52_size : (Try.prog.info? 52).map (·.size) = some 2 := by
  obtain ⟨i0, hi0, _, h1, _⟩ := info_parts info52
  rw [hi0]; simp [h1]
theorem slices_Insert.ok (x : S52) (xs : List S52) (i : Nat) (hi : i ≤ xs.length) (hm : xs.length ≤ 1000000) (v u : Value) {N : Nat} {w : World} {L : List Res} (HS0 : St N w (Row k52 52 v xs :: Row k52 52 u [x] :: L)) :
    Calls Try.prog 70 #[v, .int .i64 i, u] w fun e w' => ∃ v', e = .returned v' ∧ St N w' (Row k52 52 v' (xs.take i ++ x :: xs.drop i) :: L) ∧ Below N w w' := by
  obtain ⟨n, hn⟩ : ∃ n, xs.length = n := ⟨_, rfl⟩
  rw [hn] at hi hm
  have HB := Aside0.mk (Below.refl N w)
  rcases St.open_row flatK HS0.swap with ⟨rfl, h⟩ | ⟨gv, cv, curv, rfl, hv1, hv2, hv3, hv4, hs1⟩
  · cases h
  clear HS0
  rw [show ([x] : List S52).length = 1 from rfl] at hv1 hv4 ⊢
  by_cases he : i = n
  · subst he
    have HS := Aside0.mk (St.shut_row flatK (xs := [x]) hs1 hv1 hv2 hv3 hv4).swap
    clear hs1
    obtain ⟨A, c, hv, hc1, hc⟩ := HS.out.reads
    subst hv
    obtain ⟨A2, c2, e2, _, hC2⟩ := HS.out.swap.reads
    obtain ⟨rfl, rfl⟩ : A2 = some ⟨gv, 0, none⟩ ∧ c2 = cv := by simp at e2; exact ⟨e2.1.symm, e2.2.symm⟩
    have HC := Aside0.mk hC2
    clear hC2 e2 hc
    rw [hn] at HS hc1 ⊢
    go_enter Try.func70, Try.ntmps70
    go_wp2_with (first | ((with_reducible refine gate_builtin (b := .append) (xs := #[.tmp 23, .tmp 24]) rfl ?_); at_builtin; refine S_append_rows k52 rfl (.tmp 23) (.tmp 24) 26 52 (.agg #[(.int .i64 0), (.string ⟨#[]⟩)]) 24 rfl Try.underlying26 info52 rfl (by decide) (by omega) _ xs [x] (some ⟨gv, 0, none⟩) 1 c2 rfl rfl (flat52 _ _) HS.out ?hC HB.out (by rw [hn]; omega) ?_; (case hC => exact HC.out); intro v2 w2 hs hb; have n0_ := Aside0.mk (hs); have n1_ := Aside0.mk (hb); clear HS HB; have HS := n0_; have HB := n1_; clear n0_ n1_; (try simp only [List.eraseIdx_cons_succ, List.eraseIdx_cons_zero] at HS); clear hs hb))
    all_goals
      go_ret
      refine ⟨_, rfl, ?_, HB.out⟩
      have := HS.out.swap.drop
      rwa [List.take_of_length_le (by omega), List.drop_of_length_le (by omega)]
  replace hs1 := hs1.swap
  rcases St.open_row flatK hs1 with ⟨_, h⟩ | ⟨g, cap, cur, rfl, hq1, hq2, hq3, hq4, hs2⟩
  · subst h; simp at hn; omega
  clear hs1
  rw [hn] at hq1 hq4 ⊢
  have hil : i < n := by omega
  obtain ⟨A, hA⟩ : ∃ A, A = encs enc52 (xs.take i) := ⟨_, rfl⟩
  obtain ⟨B, hB⟩ : ∃ B, B = encs enc52 (xs.drop i) := ⟨_, rfl⟩
  obtain ⟨X, hX⟩ : ∃ X, X = encs enc52 [x] := ⟨_, rfl⟩
  have lA : A.length = i * 2 := by rw [hA, encs_len flatK, List.length_take, hn]; show min i n * 2 = _; omega
  have lB : B.length = (n - i) * 2 := by rw [hB, encs_len flatK, List.length_drop, hn]; rfl
  have lX : X.length = 2 := by rw [hX, encs_len flatK]; rfl
  have lC : cur.length = cap * 2 := hq3
  have lV : curv.length = cv * 2 := hv3
  have oB : ∀ u ∈ B, u.oneCell' = true := fun u hu => encs_one flatK _ u (hB ▸ hu)
  have oX : ∀ u ∈ X, u.oneCell' = true := fun u hu => encs_one flatK _ u (hX ▸ hu)
  have hcut : cur = A ++ (B ++ cur.drop (n * 2)) := by rw [hA, hB, ← List.append_assoc, ← encs_append flatK, List.take_append_drop, ← hq4]; exact (List.take_append_drop _ _).symm
  have tA : cur.take (i * 2) = A := by rw [hcut, ← lA, List.take_left' rfl]
  have sB : ∀ j u, B[j]? = some u → cur[i * 2 + j]? = some u := fun j u hj => by
    have hj1 : j < B.length := (List.getElem?_eq_some_iff.mp hj).1
    rw [hcut, List.getElem?_append_right (by omega), lA, Nat.add_sub_cancel_left, List.getElem?_append_left hj1]; exact hj
  have sX : ∀ j u, X[j]? = some u → curv[j]? = some u := fun j u hj => by
    rw [hX, ← hv4] at hj
    rw [List.getElem?_take] at hj
    split at hj
    · exact hj
    · cases hj
  have HS := Aside0.mk hs2
  clear hs2 hq3 hv3
  have hne : gv ≠ g := fun h => HS.out.ne h.symm
  have hsz : ∀ w, (Go.sizeOf 52).run Try.prog w = .ok 2 w := fun w => by
    obtain ⟨i0, hi0, _, h1, _⟩ := info_parts info52
    simp [Go.sizeOf, typeInfo, hi0, h1]
  have hw1 : IntKind.i64.wrap ((i : Int) + 1) = (i : Int) + 1 := by rw [IntKind.wrap_i64]; omega
  have hb1 : (0 : Int) ≤ (i : Int) + 1 := by omega
  have htn : ((i : Int) + 1).toNat = i + 1 := by omega
  have hw2 : IntKind.i64.wrap ((n : Int) + 1) = (n : Int) + 1 := by rw [IntKind.wrap_i64]; omega
  have htm : ((n : Int) + 1).toNat = n + 1 := by omega
  have hnz : ¬ ((i : Int) = (n : Int)) := by omega
  have hin : (i : Int) ≤ (n : Int) + 1 := by omega
  have hi1 : i ≤ n + 1 := by omega
  have hi0 : i ≤ n := by omega
  have hb4 : ¬ (cap = i) := by omega
  replace hcut := Aside0.mk hcut
  replace tA := Aside0.mk tA
  replace hA := Aside0.mk hA
  replace hB := Aside0.mk hB
  replace hX := Aside0.mk hX
  clear hq4 hv4
  by_cases hr : n + 1 ≤ cap
  · have hov : ∀ o lb cb, (callFunc 87 #[.slice (some ⟨gv, 0, none⟩) 1 cv, .slice (some ⟨g, o, none⟩) lb cb]).run Try.prog w = .ok (.value (.bool false)) w := fun o lb cb => by
      rw [run_callFunc_extern Try.func87 (by kernel_rfl) (by kernel_rfl) (by kernel_rfl) (e := Extern.SlicesOverlaps.overlaps #[26, 26] #[4]) (by kernel_rfl),
        Lib.run_overlaps_apart w 26 4 52 Try.underlying26 2 hsz ⟨gv, 0, none⟩ ⟨g, o, none⟩ 1 cv lb cb hne 52 52 curv.toArray.size cur.toArray.size (shape_of (HS.out.pick 1 rfl).blk) (shape_of HS.out.blk) (by rw [List.size_toArray, lC]; omega) ((HS.out.pick 1 rfl).frozen 0) ((HS.out.pick 1 rfl).frozen _)]
      rfl
    have hb2 : ¬ (cap = i + 1) := by omega
    have hr2 : ¬ ((cap : Int) < (n : Int) + 1) := by omega
    have hr3 : (n : Int) + 1 ≤ (cap : Int) := by omega
    have lS : (splice cur ((i + 1) * 2) B).length = cap * 2 := by rw [length_splice _ _ _ (by rw [lB, lC]; omega), lC]
    go_enter Try.func70, Try.ntmps70
    go_upto_region 15 with (first | (simp only [hov]))
    have n0_ := Aside0.mk (HS.out.drew); have n1_ := Aside0.mk (HB.out.drew); clear HS HB; have HS := n0_; have HB := n1_; clear n0_ n1_
    refine start_ (n := 9) (S := fun w' => True) (ds := []) #[false, false, false, false, false, false, false, false, false] (by kernel_rfl) rfl rfl trivial (fun hHeld => ?_); refine with_tabW ins_70_.tab15 ins_70_.bits15 (fun HT_ HW_ => ?_)
    generalize w.drew = w2 at HS HB hHeld ⊢
    refine pU 0 69 #[true, false, false, false, false, false, false, false, false] rfl rfl HT_ ?_
    refine pU 1 70 #[true, true, false, false, false, false, false, false, false] rfl rfl HT_ ?_
    refine pU 2 71 #[true, true, true, false, false, false, false, false, false] rfl rfl HT_ ?_
    refine pU 3 72 #[true, true, true, true, false, false, false, false, false] rfl rfl HT_ ?_
    refine pU 4 73 #[true, true, true, true, true, false, false, false, false] rfl rfl HT_ ?_
    refine pU 5 74 #[true, true, true, true, true, true, false, false, false] rfl rfl HT_ ?_
    refine pU 6 75 #[true, true, true, true, true, true, true, false, false] rfl rfl HT_ ?_
    refine pU 7 76 #[true, true, true, true, true, true, true, true, false] rfl rfl HT_ ?_
    refine one_ (i := 8) (N := some 77) #[true, true, true, true, true, true, true, true, true] rfl rfl (one_of HT_.out (by kernel_rfl)) (by decide) (fun K hK => ?_)
    refine S_copy_step (by rfl) (.tmp 73) (.tmp 76) 26 26 rfl 52 Try.underlying26 2 info52_size g ?a73_1 ((i + 1) * 2) ?a73_2 ?a73_3 g ?a73_4 (i * 2) ?a73_5 ?a73_6 ?hd ?hs (cur) 52 (B) ?o1 ?o2 ?hn ?hsrc ?hfit ?h1 HS.out HB.out ?_
    (case hd => rfl)
    (case hs => rfl)
    (case o1 => first | rfl | omega | (simp; done) | (simp; omega))
    (case o2 => first | rfl | omega | (simp; done) | (simp; omega))
    (case hn => (rw [lB]; show _ = min _ _ * _; omega))
    (case hsrc => exact fun j u hj => ((HS.out.pick 0 rfl).cell _).trans (by rw [List.getElem?_toArray]; exact sB j u hj))
    (case hfit => (simp only [lB, lC]; omega))
    (case h1 => exact oB)
    intro w3 hs hb
    have n0_ := Aside0.mk (hs); have n1_ := Aside0.mk (hb); clear HS HB; have HS := n0_; have HB := n1_; clear n0_ n1_; (try simp only [List.eraseIdx_cons_succ, List.eraseIdx_cons_zero] at HS)
    clear hs hb
    refine hK.out _ _ trivial (fun hHeld => ?_)
    clear hK K
    refine norm_ (a' := ?_) ?_ ?_
    rotate_left
    · show Act.put _ (some 77) _ = _
      simp only [Act.put, List.setIfInBounds_toArray, List.set_cons_zero, List.set_cons_succ, i64_w, i32_w]
      rfl
    refine done_ (done_of HT_.out (by kernel_rfl)) ?_
    clear HT_ HW_
    try clear hHeld
    go_wp2_with (first | ((with_reducible refine gate_builtin (b := .copy) (xs := #[.tmp 80, .tmp 81]) rfl ?_); refine S_copy rfl (.tmp 80) (.tmp 81) 26 26 rfl 52 Try.underlying26 2 info52_size g ?a80_1 (i * 2) ?a80_2 ?a80_3 gv ?a80_4 (0) ?a80_5 ?a80_6 ?hd ?hs (splice cur ((i + 1) * 2) B) 52 (X) ?o1 ?o2 ?hn ?hsrc ?hfit ?h1 HS.out HB.out ?_; (case hd => rfl); (case hs => rfl); (case o1 => first | rfl | omega | (simp; done) | (simp; omega)); (case o2 => first | rfl | omega | (simp; done) | (simp; omega)); (case hn => (rw [lX]; show _ = min _ _ * _; omega)); (case hsrc => exact fun j u hj => ((HS.out.pick 1 rfl).cell _).trans (by rw [Nat.zero_add, List.getElem?_toArray]; exact sX j u hj)); (case hfit => (simp only [lX, lS]; omega)); (case h1 => exact oX); intro w3 hs hb; have n0_ := Aside0.mk (hs); have n1_ := Aside0.mk (hb); clear HS HB; have HS := n0_; have HB := n1_; clear n0_ n1_; (try simp only [List.eraseIdx_cons_succ, List.eraseIdx_cons_zero] at HS); clear hs hb))
    go_ret
    refine ⟨_, rfl, ?_, HB.out⟩
    have h := St.shut_row flatK (xs := xs.take i ++ x :: xs.drop i) (HS.out) (cap := cap) (by simp [hn]; omega) hq2 ?_ ?_
    · have h2 := h.swap.drop
      rwa [show (xs.take i ++ x :: xs.drop i).length = n + 1 by simp [hn]; omega] at h2
    · exact (length_splice _ _ _ (by rw [lS, lX]; omega)).trans lS
    · rw [show (xs.take i ++ x :: xs.drop i).length = n + 1 by simp [hn]; omega, encs_append flatK, show x :: xs.drop i = [x] ++ xs.drop i from rfl, encs_append flatK, ← hA.out, ← hB.out, ← hX.out]
      exact ins_room cur A B _ X _ _ _ hcut.out (by omega) (by omega) (by show (n + 1) * 2 = _; omega) (by rw [List.length_drop]; omega)
  · have hcap : n = cap := by omega
    subst hcap
    have hr2 : ((n : Int) < (n : Int) + 1) := by omega
    have hki : (0 : Int) ≤ (n : Int) + 1 - (i : Int) := by omega
    have hw3 : IntKind.i64.wrap ((n : Int) + 1 - (i : Int)) = (n : Int) + 1 - (i : Int) := by rw [IntKind.wrap_i64]; omega
    go_enter Try.func70, Try.ntmps70
    go_upto_region 11 with (first | ((with_reducible refine gate_builtin (b := .append) (xs := #[.tmp 34, .tmp 39]) rfl ?_); refine S_append_zeros 2 rfl (.tmp 34) (.tmp 39) 26 3 52 (.agg #[(.int .i64 0), (.string ⟨#[]⟩)]) 24 rfl Try.underlying26 Try.underlying3 info52 rfl (by omega) (by omega) g i _ (n + 1 - i) (n + 1) (by omega) ((n : Int) + 1 - (i : Int)) rfl rfl (by omega) cur (by rw [lC]; omega) (by omega) (by omega) (by omega) HS.out HB.out ?_; intro g1 G zs w1 hG1 hG2 lZ hs hb; rw [tA.out] at hs; have n0_ := Aside0.mk (hs); have n1_ := Aside0.mk (hb); clear HS HB; have HS := n0_; have HB := n1_; clear n0_ n1_; (try simp only [List.eraseIdx_cons_succ, List.eraseIdx_cons_zero] at HS); clear hs hb; have b1 : ¬ (G = i) := (by omega); have b2 : ¬ (G = i + 1) := (by omega); have lS2 : (splice (A ++ zs) (i * 2) X).length = G * 2 := (by rw [length_splice _ _ _ (by simp only [List.length_append, lA, lX, lZ]; omega), List.length_append, lA, lZ]; omega)) | ((with_reducible refine gate_builtin (b := .copy) (xs := #[.tmp 43, .tmp 44]) rfl ?_); refine S_copy rfl (.tmp 43) (.tmp 44) 26 26 rfl 52 Try.underlying26 2 info52_size g1 ?a43_1 (i * 2) ?a43_2 ?a43_3 gv ?a43_4 (0) ?a43_5 ?a43_6 ?hd ?hs (A ++ zs) 52 (X) ?o1 ?o2 ?hn ?hsrc ?hfit ?h1 HS.out HB.out ?_; (case hd => rfl); (case hs => rfl); (case o1 => first | rfl | omega | (simp; done) | (simp; omega)); (case o2 => first | rfl | omega | (simp; done) | (simp; omega)); (case hn => (rw [lX]; show _ = min _ _ * _; omega)); (case hsrc => exact fun j u hj => ((HS.out.pick 2 rfl).cell _).trans (by rw [Nat.zero_add, List.getElem?_toArray]; exact sX j u hj)); (case hfit => (simp only [List.length_append, lA, lX, lZ]; omega)); (case h1 => exact oX); intro w3 hs hb; have n0_ := Aside0.mk (hs); have n1_ := Aside0.mk (hb); clear HS HB; have HS := n0_; have HB := n1_; clear n0_ n1_; (try simp only [List.eraseIdx_cons_succ, List.eraseIdx_cons_zero] at HS); clear hs hb))
    have n0_ := Aside0.mk (HS.out.drew); have n1_ := Aside0.mk (HB.out.drew); clear HS HB; have HS := n0_; have HB := n1_; clear n0_ n1_
    refine start_ (n := 9) (S := fun w' => True) (ds := []) #[false, false, false, false, false, false, false, false, false] (by kernel_rfl) rfl rfl trivial (fun hHeld => ?_); refine with_tabW ins_70_.tab11 ins_70_.bits11 (fun HT_ HW_ => ?_)
    generalize w3.drew = w4 at HS HB hHeld ⊢
    refine pU 0 46 #[true, false, false, false, false, false, false, false, false] rfl rfl HT_ ?_
    refine pU 1 47 #[true, true, false, false, false, false, false, false, false] rfl rfl HT_ ?_
    refine pU 2 48 #[true, true, true, false, false, false, false, false, false] rfl rfl HT_ ?_
    refine pU 3 49 #[true, true, true, true, false, false, false, false, false] rfl rfl HT_ ?_
    refine pU 4 50 #[true, true, true, true, true, false, false, false, false] rfl rfl HT_ ?_
    refine pU 5 51 #[true, true, true, true, true, true, false, false, false] rfl rfl HT_ ?_
    refine pU 6 52 #[true, true, true, true, true, true, true, false, false] rfl rfl HT_ ?_
    refine pU 7 53 #[true, true, true, true, true, true, true, true, false] rfl rfl HT_ ?_
    refine one_ (i := 8) (N := some 54) #[true, true, true, true, true, true, true, true, true] rfl rfl (one_of HT_.out (by kernel_rfl)) (by decide) (fun K hK => ?_)
    refine S_copy_step (by rfl) (.tmp 50) (.tmp 53) 26 26 rfl 52 Try.underlying26 2 info52_size g1 ?a50_1 ((i + 1) * 2) ?a50_2 ?a50_3 g ?a50_4 (i * 2) ?a50_5 ?a50_6 ?hd ?hs (splice (A ++ zs) (i * 2) X) 52 (B) ?o1 ?o2 ?hn ?hsrc ?hfit ?h1 HS.out HB.out ?_
    (case hd => rfl)
    (case hs => rfl)
    (case o1 => first | rfl | omega | (simp; done) | (simp; omega))
    (case o2 => first | rfl | omega | (simp; done) | (simp; omega))
    (case hn => (rw [lB]; show _ = min _ _ * _; omega))
    (case hsrc => exact fun j u hj => ((HS.out.pick 1 rfl).cell _).trans (by rw [List.getElem?_toArray]; exact sB j u hj))
    (case hfit => (simp only [lB, lS2]; omega))
    (case h1 => exact oB)
    intro w3 hs hb
    have n0_ := Aside0.mk (hs); have n1_ := Aside0.mk (hb); clear HS HB; have HS := n0_; have HB := n1_; clear n0_ n1_; (try simp only [List.eraseIdx_cons_succ, List.eraseIdx_cons_zero] at HS)
    clear hs hb
    refine hK.out _ _ trivial (fun hHeld => ?_)
    clear hK K
    refine norm_ (a' := ?_) ?_ ?_
    rotate_left
    · show Act.put _ (some 54) _ = _
      simp only [Act.put, List.setIfInBounds_toArray, List.set_cons_zero, List.set_cons_succ, i64_w, i32_w]
      rfl
    refine done_ (done_of HT_.out (by kernel_rfl)) ?_
    clear HT_ HW_
    try clear hHeld
    go_wp2
    go_ret
    refine ⟨_, rfl, ?_, HB.out⟩
    have h := St.shut_row flatK (xs := xs.take i ++ x :: xs.drop i) (HS.out) (cap := G) (by simp [hn]; omega) hG2 ?_ ?_
    · have h2 := h.swap.drop.swap.drop
      rwa [show (xs.take i ++ x :: xs.drop i).length = n + 1 by simp [hn]; omega] at h2
    · exact (length_splice _ _ _ (by rw [lS2, lB]; omega)).trans lS2
    · rw [show (xs.take i ++ x :: xs.drop i).length = n + 1 by simp [hn]; omega, encs_append flatK, show x :: xs.drop i = [x] ++ xs.drop i from rfl, encs_append flatK, ← hA.out, ← hB.out, ← hX.out]
      exact ins_grow A zs X B _ _ _ (by omega) (by omega) (by show (n + 1) * 2 = _; omega) (by omega)

end Go.Proofs.Ytddhpkobingmhaa.PB
end

/-! # Sk5 -/
section
namespace Go.Proofs.Ytddhpkobingmhaa.PB
open Go.RowKit Go.Proofs.YtddhpkobingmhaaW.PrintWords Go.Proofs.YtddhpkobingmhaaW.PrintLast Go.Proofs.YtddhpkobingmhaaW.PrintMore Go.Proofs.Ytddhpkobingmhaa.Sep
set_option linter.unusedVariables false
set_option linter.unusedSimpArgs false
set_option maxHeartbeats 8000000
set_option maxRecDepth 100000

def put.T1 : Bool × List (List Nat × List Nat) := (true, [([], []), ([0], [0]), ([1], [1]), ([2], [2]), ([], []), ([3, 4], [3, 4]), ([5], [5]), ([6], [6]), ([6], [6]), ([7, 5, 0, 1, 2, 3, 4, 5, 6, 7], [7]), ([8, 9, 0, 1, 2, 3, 4, 5, 6, 7, 8, 9], [8])])
def put.B1 : List Nat := [0, 1, 3, 7, 0, 31, 63, 127, 127, 255, 1023]
theorem put.tab1 : rtab .any (opsOf Try.f44 1) = put.T1 := by kernel_rfl
theorem put.bits1 : waitsOk put.T1.2 put.B1 = true := by kernel_rfl
def put.T3 : Bool × List (List Nat × List Nat) := (true, [([], []), ([], []), ([1], [1]), ([2], [2]), ([3], [3]), ([], []), ([], []), ([6], [6]), ([4, 5, 7], [4, 5, 7]), ([0, 0, 1, 2, 3, 4, 5, 6, 7, 8], [0]), ([9, 0, 1, 2, 3, 4, 5, 6, 7, 8], [9]), ([10, 8, 8, 0, 1, 2, 3, 4, 5, 6, 7, 8], [8, 10])])
def put.B3 : List Nat := [0, 0, 2, 6, 14, 0, 0, 64, 254, 511, 1023, 2047]
theorem put.tab3 : rtab .any (opsOf Try.f44 3) = put.T3 := by kernel_rfl
theorem put.bits3 : waitsOk put.T3.2 put.B3 = true := by kernel_rfl
def put.T4 : Bool × List (List Nat × List Nat) := (true, [([], []), ([0], [0]), ([1], [1]), ([2], [2]), ([3], [3]), ([], []), ([5], [5]), ([6], [6]), ([7], [7]), ([4, 8], [4, 8])])
def put.B4 : List Nat := [0, 1, 3, 7, 15, 0, 32, 96, 224, 511]
theorem put.tab4 : rtab .any (opsOf Try.f44 4) = put.T4 := by kernel_rfl
theorem put.bits4 : waitsOk put.T4.2 put.B4 = true := by kernel_rfl
def put.T5 : Bool × List (List Nat × List Nat) := (true, [([], []), ([], []), ([], []), ([2], [2]), ([3], [3]), ([4], [4]), ([], []), ([6], [6]), ([7], [7]), ([8], [8]), ([5, 9], [5, 9]), ([0, 0, 2, 3, 4, 5, 6, 7, 8, 9, 10], [0]), ([11, 0, 2, 3, 4, 5, 6, 7, 8, 9, 10], [11]), ([12, 10, 0, 2, 3, 4, 5, 6, 7, 8, 9, 10], [10, 12]), ([1, 0, 1, 2, 3, 4, 5, 6, 7, 8, 9, 10, 11, 12, 13], [1]), ([14, 0, 1, 2, 3, 4, 5, 6, 7, 8, 9, 10, 11, 12, 13], [14]), ([15, 13, 0, 1, 2, 3, 4, 5, 6, 7, 8, 9, 10, 11, 12, 13], [15])])
def put.B5 : List Nat := [0, 0, 0, 4, 12, 28, 0, 64, 192, 448, 1020, 2045, 4093, 8189, 16383, 32767, 65535]
theorem put.tab5 : rtab .any (opsOf Try.f44 5) = put.T5 := by kernel_rfl
theorem put.bits5 : waitsOk put.T5.2 put.B5 = true := by kernel_rfl
/-- What a sketch of room for Kn keys makes of its keys when one more comes to place i. -/
def putK (Kn : Nat) (l : List S52) (i : Nat) (x : S52) : List S52 := (l.take i ++ x :: l.drop i).take Kn
def PutPost (Kn : Nat) (sd : Int) (more : Bool) (xs : List S52) (i : Nat) (x : S52) (p N : Nat) (w : World) (L : List Res) (fd : Bool) (w' : World) : Prop :=
  ∃ v', (if fd = true then St N w' (Blk p #[.int .i64 Kn, .int .i64 sd, v', .bool more] 59 :: Row k52 52 v' xs :: L)
      else St N w' (Blk p #[.int .i64 Kn, .int .i64 sd, v', .bool (more || decide (Kn < xs.length + 1))] 59 :: Row k52 52 v' (putK Kn xs i x) :: L)) ∧ Below N w w'
theorem put_ok (Kn : Nat) (sd : Int) (more : Bool) (xs : List S52) (hl : xs.length ≤ 1000000 - 1) (hKn : xs.length ≤ Kn) (hK2 : Kn ≤ 1000000) (x : S52) (i : Nat) (hi : i ≤ xs.length) (hlo : ∀ j : Nat, j < i → kcmp (rd_T52 xs j) x < 0) (hhi : ∀ j : Nat, i ≤ j → j < xs.length → 0 ≤ kcmp (rd_T52 xs j) x)
    (v : Value) (p : Nat) {N : Nat} {w : World} {L : List Res} (HS0 : St N w (Blk p #[.int .i64 Kn, .int .i64 sd, v, .bool more] 59 :: Row k52 52 v xs :: L)) :
    Calls Try.prog 44 #[.pointer (some ⟨p, 0, none⟩), .agg #[.int .i64 x.f0, .string x.f1]] w fun e w' => e = .returned (.tuple #[]) ∧ PutPost Kn sd more xs i x p N w L (decide (i < xs.length) && (kcmp (rd_T52 xs i) x == 0)) w' := by
  obtain ⟨A, c, hv, hc, _⟩ := HS0.swap.reads
  subst hv
  have HS := Aside0.mk HS0
  have HB := Aside0.mk (Below.refl N w)
  have HLO := Aside0.mk hlo
  have HHI := Aside0.mk hhi
  clear HS0 hlo hhi
  generalize hfd : (decide (i < xs.length) && (kcmp (rd_T52 xs i) x == 0)) = fd
  go_enter Try.func44, Try.ntmps44
  go_upto_region 1 with (first | ((with_reducible refine gate_dst (N := 3) rfl ?_); refine box_event ?hg (N := 3) ?hd (cs := #[.int .i64 x.f0, .string x.f1]) (t := 52) ?hr ?_; (case hd => rfl); (case hg => rfl); (case hr => first | (go_simp; done) | (go_simp; rfl)); intro g hg w1 hbox hb; have n0_ := Aside0.mk (HS.out.box hg hbox hb); have n1_ := Aside0.mk (below_step' HB.out HS.out.size hb); clear HS HB; have HS := n0_; have HB := n1_; clear n0_ n1_; (try simp only [List.eraseIdx_cons_succ, List.eraseIdx_cons_zero] at HS); clear hb hbox hg))
  have n0_ := Aside0.mk (HS.out.swap); clear HS; have HS := n0_; clear n0_
  have n0_ := Aside0.mk (HS.out.drew); have n1_ := Aside0.mk (HB.out.drew); clear HS HB; have HS := n0_; have HB := n1_; clear n0_ n1_
  refine start_ (n := 11) (S := fun w' => w'.cell? ⟨p, 2, none⟩ = some (.slice A xs.length c) ∧ w'.cell? ⟨g, 0, none⟩ = some (.int .i64 x.f0) ∧ w'.cell? ⟨g, 1, none⟩ = some (.string x.f1)) (ds := []) #[false, false, false, false, false, false, false, false, false, false, false] (by kernel_rfl) rfl rfl ⟨((HS.out.pick 0 rfl).cell 2).trans rfl, ((HS.out.pick 1 rfl).cell 0).trans rfl, ((HS.out.pick 1 rfl).cell 1).trans rfl⟩ (fun hHeld => ?_); refine with_tabW put.tab1 put.bits1 (fun HT_ HW_ => ?_)
  generalize w1.drew = w2 at HS HB hHeld ⊢
  refine pU 0 7 #[true, false, false, false, false, false, false, false, false, false, false] rfl rfl HT_ ?_
  refine pU 1 8 #[true, true, false, false, false, false, false, false, false, false, false] rfl rfl HT_ ?_
  refine pU 2 9 #[true, true, true, false, false, false, false, false, false, false, false] rfl rfl HT_ ?_
  refine tK 3 10 #[true, true, true, true, false, false, false, false, false, false, false] rfl rfl HT_ HW_ hHeld ?_ (by rintro w' ⟨s0, s1, s2⟩; go_simp; with_reducible rfl)
  refine tK 4 11 #[true, true, true, true, true, false, false, false, false, false, false] rfl rfl HT_ HW_ hHeld ?_ (by rintro w' ⟨s0, s1, s2⟩; go_simp; with_reducible rfl)
  refine one_ (i := 5) (N := some 12) #[true, true, true, true, true, true, false, false, false, false, false] rfl rfl (one_of HT_.out (by kernel_rfl)) (by decide) (fun K hK => ?_)
  refine goes_ Try.func69 (by kernel_rfl) rfl #[.slice A xs.length c, .agg #[.int .i64 x.f0, .string x.f1], .func (.func 55) #[] #[]] (by rfl) rfl rfl (by (try simp only [List.map_toArray, List.map_cons, List.map_nil]); first | done | rfl | (simp only [List.length_drop, List.length_take]; rfl)) ?_
  with_reducible refine (bsf_ok A c xs (by omega) x i hi HLO.out HHI.out _ (HS.out.pick 2 rfl).rowC.2.2).mono ?_
  rintro e w3 ⟨rfl, hb⟩
  refine ⟨_, rfl, ?_⟩
  have n0_ := Aside0.mk (HS.out.step hb); have n1_ := Aside0.mk (below_step' HB.out HS.out.size hb); clear HS HB; have HS := n0_; have HB := n1_; clear n0_ n1_; (try simp only [List.eraseIdx_cons_succ, List.eraseIdx_cons_zero] at HS)
  clear hb
  refine hK.out _ _ ⟨((HS.out.pick 0 rfl).cell 2).trans rfl, ((HS.out.pick 1 rfl).cell 0).trans rfl, ((HS.out.pick 1 rfl).cell 1).trans rfl⟩ (fun hHeld => ?_)
  clear hK K
  refine norm_ (a' := ?_) ?_ ?_
  rotate_left
  · show Act.put _ (some 12) _ = _
    simp only [Act.put, List.setIfInBounds_toArray, List.set_cons_zero, List.set_cons_succ, i64_w, i32_w]
    rfl
  refine pU 6 6 #[true, true, true, true, true, true, true, false, false, false, false] rfl rfl HT_ ?_
  refine pU 7 13 #[true, true, true, true, true, true, true, true, false, false, false] rfl rfl HT_ ?_
  refine pU 8 14 #[true, true, true, true, true, true, true, true, true, false, false] rfl rfl HT_ ?_
  refine pU 9 4 #[true, true, true, true, true, true, true, true, true, true, false] rfl rfl HT_ ?_
  refine pU 10 5 #[true, true, true, true, true, true, true, true, true, true, true] rfl rfl HT_ ?_
  refine done_ (done_of HT_.out (by kernel_rfl)) ?_
  clear HT_ HW_
  try clear hHeld
  rw [hfd]
  cases fd with
  | true =>
    go_wp2
    ((try simp only [Exit.inBlock, Exit.then]); first | refine bodyPost_end (results_none rfl _ _ _) rfl ?_ | refine bodyPost_ret (results_none rfl _ _ _) rfl ?_)
    exact ⟨rfl, _, Eq.mpr (if_pos rfl) HS.out.swap.drop, HB.out⟩
  | false =>
    go_upto_region 3 with (fail)
    have n0_ := Aside0.mk (HS.out.drew); have n1_ := Aside0.mk (HB.out.drew); clear HS HB; have HS := n0_; have HB := n1_; clear n0_ n1_
    refine start_ (n := 12) (S := fun w' => w'.cell? ⟨p, 2, none⟩ = some (.slice A xs.length c) ∧ w'.cell? ⟨g, 0, none⟩ = some (.int .i64 x.f0) ∧ w'.cell? ⟨g, 1, none⟩ = some (.string x.f1)) (ds := [11]) (tfs true [0, 12]).toArray (by kernel_rfl) rfl rfl ⟨((HS.out.pick 0 rfl).cell 2).trans rfl, ((HS.out.pick 1 rfl).cell 0).trans rfl, ((HS.out.pick 1 rfl).cell 1).trans rfl⟩ (fun hHeld => ?_); refine with_tabW put.tab3 put.bits3 (fun HT_ HW_ => ?_)
    generalize w3.drew = w4 at HS HB hHeld ⊢
    refine pU 0 16 (tfs true [1, 11]).toArray rfl rfl HT_ ?_
    refine pU 1 17 (tfs true [2, 10]).toArray rfl rfl HT_ ?_
    refine pU 2 18 (tfs true [3, 9]).toArray rfl rfl HT_ ?_
    refine pU 3 19 (tfs true [4, 8]).toArray rfl rfl HT_ ?_
    refine pU 5 21 (tfs true [4, 1, 1, 6]).toArray rfl rfl HT_ ?_
    refine tK 4 20 (tfs true [6, 6]).toArray rfl rfl HT_ HW_ hHeld ?_ (by rintro w' ⟨s0, s1, s2⟩; go_simp; with_reducible rfl)
    refine tK 6 22 (tfs true [7, 5]).toArray rfl rfl HT_ HW_ hHeld ?_ (by rintro w' ⟨s0, s1, s2⟩; go_simp; with_reducible rfl)
    refine one_ (i := 7) (N := some 23) (tfs true [8, 4]).toArray rfl rfl (one_of HT_.out (by kernel_rfl)) (by decide) (fun K hK => ?_)
    refine S_lit_step k52 52 (by rfl) (Nt := 23) rfl (xs := [x]) (inner := [.int .i64 x.f0, .string x.f1]) ?hr ?hp HS.out (by simp) ?_
    (case hr => first | (go_simp; done) | (go_simp; rfl))
    (case hp => exact reps_encs flatK (fun y => flatK.M _ _ _ y) [x])
    intro u w5 hs hb
    have n0_ := Aside0.mk (((hs.pick 3 rfl).pick 3 rfl).pick 3 rfl); have n1_ := Aside0.mk (below_step' HB.out HS.out.size hb); clear HS HB; have HS := n0_; have HB := n1_; clear n0_ n1_; (try simp only [List.eraseIdx_cons_succ, List.eraseIdx_cons_zero] at HS)
    clear hs hb
    refine hK.out _ _ ⟨((HS.out.pick 0 rfl).cell 2).trans rfl, ((HS.out.pick 1 rfl).cell 0).trans rfl, ((HS.out.pick 1 rfl).cell 1).trans rfl⟩ (fun hHeld => ?_)
    clear hK K
    refine norm_ (a' := ?_) ?_ ?_
    rotate_left
    · show Act.put _ (some 23) _ = _
      simp only [Act.put, List.setIfInBounds_toArray, List.set_cons_zero, List.set_cons_succ, i64_w, i32_w]
      rfl
    refine one_ (i := 8) (N := some 24) (tfs true [9, 3]).toArray rfl rfl (one_of HT_.out (by kernel_rfl)) (by decide) (fun K hK => ?_)
    refine goes_ Try.func70 (by kernel_rfl) rfl #[.slice A xs.length c, .int .i64 i, u] (by rfl) rfl rfl (by (try simp only [List.map_toArray, List.map_cons, List.map_nil]); first | done | rfl | (simp only [List.length_drop, List.length_take]; rfl)) ?_
    with_reducible refine (slices_Insert.ok x xs i hi (by omega) _ _ ((HS.out.pick 3 rfl).pick 3 rfl)).mono ?_
    rintro e w6 ⟨v', rfl, hs, hb⟩
    refine ⟨_, rfl, ?_⟩
    have n0_ := Aside0.mk ((hs.pick 2 rfl).pick 2 rfl); have n1_ := Aside0.mk (HB.out.trans hb); clear HS HB; have HS := n0_; have HB := n1_; clear n0_ n1_; (try simp only [List.eraseIdx_cons_succ, List.eraseIdx_cons_zero] at HS)
    clear hs hb; obtain ⟨A', c', hv', hc', _⟩ := (HS.out.pick 2 rfl).reads; rw [List.length_append, List.length_cons, List.length_take, List.length_drop, Nat.min_eq_left hi, show i + (xs.length - i + 1) = xs.length + 1 by omega] at hv' hc'; subst hv'; have q2 := ((HS.out.pick 0 rfl).cell 2).trans (show _ = some (.slice A xs.length c) from rfl); have q3 := (HS.out.pick 0 rfl).frozen 2
    refine hK.out _ _ ⟨((HS.out.pick 0 rfl).cell 2).trans rfl, ((HS.out.pick 1 rfl).cell 0).trans rfl, ((HS.out.pick 1 rfl).cell 1).trans rfl⟩ (fun hHeld => ?_)
    clear hK K
    refine norm_ (a' := ?_) ?_ ?_
    rotate_left
    · show Act.put _ (some 24) _ = _
      simp only [Act.put, List.setIfInBounds_toArray, List.set_cons_zero, List.set_cons_succ, i64_w, i32_w]
      rfl
    refine pU 9 25 (tfs true [10, 2]).toArray rfl rfl HT_ ?_
    refine pU 10 26 (tfs true [11, 1]).toArray rfl rfl HT_ ?_
    refine last_ (i := 11) (N := none) (tfs true [12]).toArray rfl rfl (one_of HT_.out (by kernel_rfl)) (by decide) (fun K hK => ?_)
    refine skip_ (w1 := ?_) (by rfl) rfl ?_ ?_
    rotate_left
    · go_simp
      rfl
    clear q2 q3
    have n0_ := Aside0.mk ((HS.out.pick 0 rfl).set 2 (.slice A' (xs.length + 1) c') #[.int .i64 Kn, .int .i64 sd, .slice A' (xs.length + 1) c', .bool more] rfl); have n1_ := Aside0.mk ((HS.out.pick 0 rfl).below_set (i := 2) (u := .slice A' (xs.length + 1) c') HB.out); clear HS HB; have HS := n0_; have HB := n1_; clear n0_ n1_; (try simp only [List.eraseIdx_cons_succ, List.eraseIdx_cons_zero] at HS)
    refine hK.out _ _ ?_
    clear hK K
    refine done_ (done_of HT_.out (by kernel_rfl)) ?_
    clear HT_ HW_
    try clear hHeld
    go_upto_region 4 with (fail)
    generalize (World.setCell _ _ _) = w7 at HS HB ⊢
    have n0_ := Aside0.mk (HS.out.drew); have n1_ := Aside0.mk (HB.out.drew); clear HS HB; have HS := n0_; have HB := n1_; clear n0_ n1_
    refine start_ (n := 10) (S := fun w' => w'.cell? ⟨p, 2, none⟩ = some (.slice A' (xs.length + 1) c') ∧ w'.cell? ⟨p, 0, none⟩ = some (.int .i64 Kn)) (ds := []) #[false, false, false, false, false, false, false, false, false, false] (by kernel_rfl) rfl rfl ⟨((HS.out.pick 0 rfl).cell 2).trans rfl, ((HS.out.pick 0 rfl).cell 0).trans rfl⟩ (fun hHeld => ?_); refine with_tabW put.tab4 put.bits4 (fun HT_ HW_ => ?_)
    generalize w7.drew = w8 at HS HB hHeld ⊢
    refine pU 0 27 #[true, false, false, false, false, false, false, false, false, false] rfl rfl HT_ ?_
    refine pU 1 28 #[true, true, false, false, false, false, false, false, false, false] rfl rfl HT_ ?_
    refine pU 2 29 #[true, true, true, false, false, false, false, false, false, false] rfl rfl HT_ ?_
    refine pU 5 32 #[true, true, true, false, false, true, false, false, false, false] rfl rfl HT_ ?_
    refine pU 6 33 #[true, true, true, false, false, true, true, false, false, false] rfl rfl HT_ ?_
    refine pU 7 34 #[true, true, true, false, false, true, true, true, false, false] rfl rfl HT_ ?_
    refine tK 3 30 #[true, true, true, true, false, true, true, true, false, false] rfl rfl HT_ HW_ hHeld ?_ (by rintro w' ⟨s0, s1⟩; go_simp; with_reducible rfl)
    refine pU 4 31 #[true, true, true, true, true, true, true, true, false, false] rfl rfl HT_ ?_
    refine tK 8 35 #[true, true, true, true, true, true, true, true, true, false] rfl rfl HT_ HW_ hHeld ?_ (by rintro w' ⟨s0, s1⟩; go_simp; with_reducible rfl)
    refine pU 9 36 #[true, true, true, true, true, true, true, true, true, true] rfl rfl HT_ ?_
    refine done_ (done_of HT_.out (by kernel_rfl)) ?_
    clear HT_ HW_
    try clear hHeld
    by_cases ho : Kn < xs.length + 1
    · have q0 : decide ((Kn : Int) < ((xs.length + 1 : Nat) : Int)) = true := decide_eq_true (by omega)
      have q1 : decide ((Kn : Int) < (xs.length : Int) + 1) = true := decide_eq_true (by omega)
      have q4 : (Kn : Int) ≤ (c' : Int) := by omega
      go_upto_region 5 with (fail)
      have n0_ := Aside0.mk (HS.out.drew); have n1_ := Aside0.mk (HB.out.drew); clear HS HB; have HS := n0_; have HB := n1_; clear n0_ n1_
      refine start_ (n := 17) (S := fun w' => w'.cell? ⟨p, 2, none⟩ = some (.slice A' (xs.length + 1) c') ∧ w'.cell? ⟨p, 0, none⟩ = some (.int .i64 Kn)) (ds := [13, 16]) (tfs true [0, 17]).toArray (by kernel_rfl) rfl rfl ⟨((HS.out.pick 0 rfl).cell 2).trans rfl, ((HS.out.pick 0 rfl).cell 0).trans rfl⟩ (fun hHeld => ?_); refine with_tabW put.tab5 put.bits5 (fun HT_ HW_ => ?_)
      generalize w8.drew = w9 at HS HB hHeld ⊢
      refine pU 0 37 (tfs true [1, 16]).toArray rfl rfl HT_ ?_
      refine pU 1 38 (tfs true [2, 15]).toArray rfl rfl HT_ ?_
      refine pU 2 39 (tfs true [3, 14]).toArray rfl rfl HT_ ?_
      refine pU 3 40 (tfs true [4, 13]).toArray rfl rfl HT_ ?_
      refine pU 4 41 (tfs true [5, 12]).toArray rfl rfl HT_ ?_
      refine pU 6 43 (tfs true [5, 1, 1, 10]).toArray rfl rfl HT_ ?_
      refine pU 7 44 (tfs true [5, 1, 2, 9]).toArray rfl rfl HT_ ?_
      refine pU 8 45 (tfs true [5, 1, 3, 8]).toArray rfl rfl HT_ ?_
      refine tK 5 42 (tfs true [9, 8]).toArray rfl rfl HT_ HW_ hHeld ?_ (by rintro w' ⟨s0, s1⟩; go_simp; with_reducible rfl)
      refine tK 9 46 (tfs true [10, 7]).toArray rfl rfl HT_ HW_ hHeld ?_ (by rintro w' ⟨s0, s1⟩; go_simp; with_reducible rfl)
      refine pU 10 47 (tfs true [11, 6]).toArray rfl rfl HT_ ?_
      refine pU 11 48 (tfs true [12, 5]).toArray rfl rfl HT_ ?_
      refine pU 12 49 (tfs true [13, 4]).toArray rfl rfl HT_ ?_
      refine last_ (i := 13) (N := none) (tfs true [14, 3]).toArray rfl rfl (one_of HT_.out (by kernel_rfl)) (by decide) (fun K hK => ?_)
      have q2 := ((HS.out.pick 0 rfl).cell 2).trans (show _ = some (.slice A' (xs.length + 1) c') from rfl); have q3 := (HS.out.pick 0 rfl).frozen 2
      refine skip_ (w1 := ?_) (by rfl) rfl ?_ ?_
      rotate_left
      · go_simp
        rfl
      clear q2 q3
      have n0_ := Aside0.mk ((HS.out.pick 0 rfl).set 2 (.slice A' Kn c') #[.int .i64 Kn, .int .i64 sd, .slice A' Kn c', .bool more] rfl); have n1_ := Aside0.mk ((HS.out.pick 0 rfl).below_set (i := 2) (u := .slice A' Kn c') HB.out); clear HS HB; have HS := n0_; have HB := n1_; clear n0_ n1_; (try simp only [List.eraseIdx_cons_succ, List.eraseIdx_cons_zero] at HS)
      refine hK.out _ _ ?_
      clear hK K
      refine pU 14 50 (tfs true [15, 2]).toArray rfl rfl HT_ ?_
      refine pU 15 51 (tfs true [16, 1]).toArray rfl rfl HT_ ?_
      refine last_ (i := 16) (N := none) (tfs true [17]).toArray rfl rfl (one_of HT_.out (by kernel_rfl)) (by decide) (fun K hK => ?_)
      have q2 := ((HS.out.pick 0 rfl).cell 3).trans (show _ = some (.bool more) from rfl); have q3 := (HS.out.pick 0 rfl).frozen 3
      refine skip_ (w1 := ?_) (by rfl) rfl ?_ ?_
      rotate_left
      · go_simp
        rfl
      clear q2 q3
      have n0_ := Aside0.mk ((HS.out.pick 0 rfl).set 3 (.bool true) #[.int .i64 Kn, .int .i64 sd, .slice A' Kn c', .bool true] rfl); have n1_ := Aside0.mk ((HS.out.pick 0 rfl).below_set (i := 3) (u := .bool true) HB.out); clear HS HB; have HS := n0_; have HB := n1_; clear n0_ n1_; (try simp only [List.eraseIdx_cons_succ, List.eraseIdx_cons_zero] at HS)
      refine hK.out _ _ ?_
      clear hK K
      refine done_ (done_of HT_.out (by kernel_rfl)) ?_
      clear HT_ HW_
      try clear hHeld
      go_wp2
      ((try simp only [Exit.inBlock, Exit.then]); first | refine bodyPost_end (results_none rfl _ _ _) rfl ?_ | refine bodyPost_ret (results_none rfl _ _ _) rfl ?_)
      refine ⟨rfl, .slice A' Kn c', (Eq.mpr (if_neg (by simp)) ?_), HB.out⟩
      rw [show (more || decide (Kn < xs.length + 1)) = true by simp [ho]]
      have h := St.cutRow flatK (HS.out.pick 2 rfl) Kn (by simp; omega)
      exact ((h.pick 2 rfl).drop).swap
    · have q0 : decide ((Kn : Int) < ((xs.length + 1 : Nat) : Int)) = false := decide_eq_false (by omega)
      have q1 : decide ((Kn : Int) < (xs.length : Int) + 1) = false := decide_eq_false (by omega)
      go_wp2
      ((try simp only [Exit.inBlock, Exit.then]); first | refine bodyPost_end (results_none rfl _ _ _) rfl ?_ | refine bodyPost_ret (results_none rfl _ _ _) rfl ?_)
      refine ⟨rfl, .slice A' (xs.length + 1) c', (Eq.mpr (if_neg (by simp)) ?_), HB.out⟩
      rw [show (more || decide (Kn < xs.length + 1)) = more by simp [ho], putK, List.take_of_length_le (by simp; omega)]
      exact (((HS.out.pick 2 rfl).pick 2 rfl).drop).swap

end Go.Proofs.Ytddhpkobingmhaa.PB
end

/-! # Key -/
section
namespace Go.Proofs.Ytddhpkobingmhaa.PB
open Go.RowKit Go.Proofs.YtddhpkobingmhaaW.PrintWords
set_option linter.unusedVariables false
set_option linter.unusedSimpArgs false
theorem bl_irrefl : ∀ x : List UInt8, Op.bytesLess x x = false
  | [] => rfl
  | a :: x => by simp only [Op.bytesLess, bl_irrefl x, Bool.and_false, Bool.or_false, decide_eq_false_iff_not]; rw [UInt8.lt_iff_toNat_lt]; omega
theorem bl_trans : ∀ x y z : List UInt8, Op.bytesLess x y = true → Op.bytesLess y z = true → Op.bytesLess x z = true
  | _, [], _, h, _ => by simp [Op.bytesLess] at h
  | _, _ :: _, [], _, h => by simp [Op.bytesLess] at h
  | [], _ :: _, _ :: _, _, _ => rfl
  | a :: x, b :: y, c :: z, h1, h2 => by
    have ih := bl_trans x y z
    simp only [Op.bytesLess, Bool.or_eq_true, decide_eq_true_iff, Bool.and_eq_true, beq_iff_eq, UInt8.lt_iff_toNat_lt] at *
    rcases h1 with h1 | ⟨rfl, h1⟩ <;> rcases h2 with h2 | ⟨rfl, h2⟩
    · left; omega
    · left; exact h1
    · left; exact h2
    · right; exact ⟨rfl, ih h1 h2⟩
theorem bl_tri (x y : List UInt8) (h1 : Op.bytesLess x y = false) (h2 : Op.bytesLess y x = false) : x = y := by
  have := bytesLess_flip x y
  rw [h1, h2, Bool.false_or] at this
  simpa using this
theorem bytes_ext (a b : ByteArray) (h : a.toList = b.toList) : a = b := by
  rw [ByteArray.toList_eq, ByteArray.toList_eq] at h
  exact ByteArray.ext (Array.toList_inj.mp h)
/-- x stands ahead of y. -/
def Bf (x y : S52) : Prop := kcmp x y < 0
instance (x y : S52) : Decidable (Bf x y) := by unfold Bf; infer_instance
theorem bf_iff (x y : S52) : Bf x y ↔ x.f0 < y.f0 ∨ (x.f0 = y.f0 ∧ Op.bytesLess x.f1.toList y.f1.toList = true) := by
  unfold Bf kcmp icmp bcmp
  by_cases h1 : x.f0 < y.f0
  · simp [h1]
  · by_cases h2 : y.f0 < x.f0
    · have h3 : ¬ x.f0 = y.f0 := by omega
      simp [h1, h2, h3]
    · have h3 : x.f0 = y.f0 := by omega
      rw [if_neg h1, if_neg h2, if_pos rfl]
      by_cases h4 : Op.bytesLess x.f1.toList y.f1.toList = true
      · simp [h3, h4]
      · rw [if_neg h4]
        by_cases h5 : Op.bytesLess y.f1.toList x.f1.toList = true <;> simp [h1, h4, h5]
theorem kz_iff (x y : S52) : kcmp x y = 0 ↔ x = y := by
  unfold kcmp icmp bcmp
  constructor
  · intro h
    by_cases h1 : x.f0 < y.f0
    · simp [h1] at h
    · by_cases h2 : y.f0 < x.f0
      · simp [h1, h2] at h
      · rw [if_neg h1, if_neg h2, if_pos rfl] at h
        by_cases h4 : Op.bytesLess x.f1.toList y.f1.toList = true
        · simp [h4] at h
        · by_cases h5 : Op.bytesLess y.f1.toList x.f1.toList = true
          · simp [h4, h5] at h
          · have e := bytes_ext _ _ (bl_tri _ _ (by simpa using h4) (by simpa using h5))
            obtain ⟨a, b⟩ := x
            obtain ⟨a', b'⟩ := y
            simp only at e h1 h2
            rw [e, show a = a' by omega]
  · rintro rfl
    simp [bl_irrefl]
instance : DecidableEq S52 := fun x y => decidable_of_iff (kcmp x y = 0) (kz_iff x y)
theorem bf_irrefl (x : S52) : ¬ Bf x x := fun h => by
  have := (kz_iff x x).mpr rfl
  unfold Bf at h; omega
theorem bf_trans {x y z : S52} (h1 : Bf x y) (h2 : Bf y z) : Bf x z := by
  rw [bf_iff] at *
  rcases h1 with h1 | ⟨e1, h1⟩ <;> rcases h2 with h2 | ⟨e2, h2⟩
  · left; omega
  · left; omega
  · left; omega
  · right; exact ⟨by omega, bl_trans _ _ _ h1 h2⟩
theorem bf_asymm {x y : S52} (h1 : Bf x y) (h2 : Bf y x) : False := bf_irrefl x (bf_trans h1 h2)
theorem bf_tri {x y : S52} (h1 : ¬ Bf x y) (h2 : ¬ x = y) : Bf y x := by
  rw [bf_iff] at *
  by_cases h3 : x.f0 = y.f0
  · right
    refine ⟨h3.symm, ?_⟩
    by_cases h4 : Op.bytesLess y.f1.toList x.f1.toList = true
    · exact h4
    · exfalso
      by_cases h5 : Op.bytesLess x.f1.toList y.f1.toList = true
      · exact h1 (.inr ⟨h3, h5⟩)
      · have e := bytes_ext _ _ (bl_tri _ _ (by simpa using h5) (by simpa using h4))
        obtain ⟨a, b⟩ := x
        obtain ⟨a', b'⟩ := y
        simp only at e h3
        exact h2 (by rw [e, h3])
  · left
    have : ¬ x.f0 < y.f0 := fun h => h1 (.inl h)
    omega
/-- In order, each once. -/
def Inc (l : List S52) : Prop := l.Pairwise Bf
def ins (x : S52) : List S52 → List S52
  | [] => [x]
  | y :: l => if Bf y x then y :: ins x l else if y = x then y :: l else x :: y :: l
/-- The place of x. -/
def plc (x : S52) : List S52 → Nat
  | [] => 0
  | y :: l => if Bf y x then plc x l + 1 else 0
/-- x stands in its place. -/
def hit (x : S52) (l : List S52) : Bool := decide (plc x l < l.length) && (kcmp (rd_T52 l (plc x l)) x == 0)
theorem plc_le (x : S52) : ∀ l, plc x l ≤ l.length
  | [] => Nat.le_refl _
  | y :: l => by
    unfold plc
    have := plc_le x l
    split
    · rw [List.length_cons]; omega
    · omega
theorem rd_cons (y : S52) (l : List S52) (j : Nat) : rd_T52 (y :: l) ((j + 1 : Nat) : Int) = rd_T52 l (j : Int) := by simp [rd_T52]
theorem plc_lo (x : S52) : ∀ (l : List S52) (j : Nat), j < plc x l → kcmp (rd_T52 l j) x < 0
  | [], j, h => by simp [plc] at h
  | y :: l, j, h => by
    unfold plc at h
    split at h
    · next hy =>
      cases j with
      | zero => exact hy
      | succ j => rw [rd_cons]; exact plc_lo x l j (by omega)
    · omega
theorem inc_all {x y : S52} {l : List S52} (h : Inc (y :: l)) (hy : ¬ Bf y x) : ∀ z ∈ l, ¬ Bf z x := fun z hz hb => hy (bf_trans ((List.pairwise_cons.mp h).1 z hz) hb)
theorem plc_hi (x : S52) : ∀ (l : List S52), Inc l → ∀ j : Nat, plc x l ≤ j → j < l.length → 0 ≤ kcmp (rd_T52 l j) x
  | [], _, j, _, h => by simp at h
  | y :: l, hI, j, h, hj => by
    unfold plc at h
    split at h
    · next hy =>
      cases j with
      | zero => omega
      | succ j => rw [rd_cons]; exact plc_hi x l (List.pairwise_cons.mp hI).2 j (by omega) (by simpa using hj)
    · next hy =>
      have hm : rd_T52 (y :: l) (j : Int) ∈ y :: l := by
        unfold rd_T52
        rw [Int.toNat_natCast, List.getD_eq_getElem?_getD, List.getElem?_eq_getElem hj]
        exact List.getElem_mem hj
      have : ¬ Bf (rd_T52 (y :: l) (j : Int)) x := by
        rcases List.mem_cons.mp hm with h1 | h1
        · rw [h1]; exact hy
        · exact inc_all hI hy _ h1
      unfold Bf at this
      omega
theorem hit_cons_lt {x y : S52} {l : List S52} (h : Bf y x) : hit x (y :: l) = hit x l := by
  unfold hit
  rw [show plc x (y :: l) = plc x l + 1 by simp [plc, h], rd_cons]
  simp
theorem hit_cons_ge {x y : S52} {l : List S52} (h : ¬ Bf y x) : hit x (y :: l) = decide (y = x) := by
  unfold hit
  rw [show plc x (y :: l) = 0 by simp [plc, h]]
  have : rd_T52 (y :: l) ((0 : Nat) : Int) = y := rfl
  rw [this]
  have h0 := kz_iff y x
  by_cases he : y = x
  · simp [he, (kz_iff x x).mpr rfl]
  · have : ¬ kcmp y x = 0 := fun h => he (h0.mp h)
    simp [he, this]
theorem ins_hit (x : S52) : ∀ l, hit x l = true → ins x l = l
  | [], h => by simp [hit] at h
  | y :: l, h => by
    unfold ins
    split
    · next hy => rw [hit_cons_lt hy] at h; rw [ins_hit x l h]
    · next hy =>
      rw [hit_cons_ge hy] at h
      rw [if_pos (by simpa using h)]
theorem ins_miss (x : S52) : ∀ l, hit x l = false → ins x l = l.take (plc x l) ++ x :: l.drop (plc x l)
  | [], h => rfl
  | y :: l, h => by
    unfold ins plc
    split
    · next hy => rw [hit_cons_lt hy] at h; rw [ins_miss x l h]; rfl
    · next hy =>
      rw [hit_cons_ge hy] at h
      rw [if_neg (by simpa using h)]; rfl
theorem hit_mem (x : S52) : ∀ l, hit x l = true → x ∈ l
  | [], h => by simp [hit] at h
  | y :: l, h => by
    by_cases hy : Bf y x
    · rw [hit_cons_lt hy] at h; exact List.mem_cons_of_mem _ (hit_mem x l h)
    · rw [hit_cons_ge hy] at h
      have : y = x := by simpa using h
      rw [this]; exact List.mem_cons_self
theorem mem_hit (x : S52) : ∀ l, Inc l → x ∈ l → hit x l = true
  | [], _, h => by simp at h
  | y :: l, hI, h => by
    by_cases hy : Bf y x
    · rw [hit_cons_lt hy]
      rcases List.mem_cons.mp h with rfl | h
      · exact absurd hy (bf_irrefl _)
      · exact mem_hit x l (List.pairwise_cons.mp hI).2 h
    · rw [hit_cons_ge hy]
      rcases List.mem_cons.mp h with rfl | h
      · simp
      · exact absurd ((List.pairwise_cons.mp hI).1 x h) hy
theorem mem_ins {x z : S52} : ∀ {l : List S52}, z ∈ ins x l ↔ z = x ∨ z ∈ l
  | [] => by simp [ins]
  | y :: l => by
    unfold ins
    split
    · rw [List.mem_cons, List.mem_cons, mem_ins (l := l)]
      constructor
      · rintro (h | h | h) <;> simp [h]
      · rintro (h | h | h) <;> simp [h]
    · split
      · next h => subst h; simp
      · simp
theorem inc_ins (x : S52) : ∀ {l : List S52}, Inc l → Inc (ins x l)
  | [], _ => by simp [ins, Inc]
  | y :: l, h => by
    have h1 := List.pairwise_cons.mp h
    unfold ins
    split
    · next hy =>
      refine List.pairwise_cons.mpr ⟨fun z hz => ?_, inc_ins x h1.2⟩
      rcases mem_ins.mp hz with rfl | hz
      · exact hy
      · exact h1.1 z hz
    · next hy =>
      split
      · exact h
      · next he =>
        have hb := bf_tri hy he
        refine List.pairwise_cons.mpr ⟨fun z hz => ?_, h⟩
        rcases List.mem_cons.mp hz with rfl | hz
        · exact hb
        · exact bf_trans hb (h1.1 z hz)
theorem length_ins (x : S52) (l : List S52) : (ins x l).length = if hit x l = true then l.length else l.length + 1 := by
  by_cases h : hit x l = true
  · rw [if_pos h, ins_hit x l h]
  · rw [if_neg h, ins_miss x l (by simpa using h)]
    have := plc_le x l
    simp; omega
theorem inc_take {l : List S52} (h : Inc l) (K : Nat) : Inc (l.take K) := h.sublist (List.take_sublist _ _)
theorem take_ins (x : S52) : ∀ (K : Nat) (l : List S52), (ins x (l.take K)).take K = (ins x l).take K
  | 0, _ => by simp
  | K + 1, [] => by simp
  | K + 1, y :: l => by
    rw [List.take_succ_cons]
    unfold ins
    split
    · rw [List.take_succ_cons, List.take_succ_cons, take_ins x K l]
    · split
      · rw [List.take_succ_cons, List.take_succ_cons, List.take_take, Nat.min_self]
      · rw [List.take_succ_cons, List.take_succ_cons]
        cases K with
        | zero => simp
        | succ K => rw [List.take_succ_cons, List.take_succ_cons, List.take_take]; congr 3; omega
/-- What a sketch of K keys keeps of the keys in order. -/
theorem put_hit (K : Nat) (x : S52) (l : List S52) (hI : Inc l) (h : hit x (l.take K) = true) : ins x l = l := ins_hit x l (mem_hit x l hI (List.mem_of_mem_take (hit_mem x _ h)))
theorem put_miss (K : Nat) (x : S52) (l : List S52) (h : hit x (l.take K) = false) : putK K (l.take K) (plc x (l.take K)) x = (ins x l).take K := by
  rw [putK, ← ins_miss x _ h, take_ins]
theorem more_miss (K : Nat) (x : S52) (l : List S52) (hI : Inc l) (h : hit x (l.take K) = false) : (decide (K < l.length) || decide (K < (l.take K).length + 1)) = decide (K < (ins x l).length) := by
  rw [length_ins]
  by_cases h1 : K < l.length
  · have : K < if hit x l = true then l.length else l.length + 1 := by split <;> omega
    simp [h1, this]
  · have e : l.take K = l := List.take_of_length_le (by omega)
    rw [e] at h ⊢
    rw [if_neg (by simp [h])]
    simp [h1]
end Go.Proofs.Ytddhpkobingmhaa.PB
end

/-! # Sk6 -/
section
namespace Go.Proofs.Ytddhpkobingmhaa.PB
open Go.RowKit Go.Proofs.YtddhpkobingmhaaW.PrintWords Go.Proofs.YtddhpkobingmhaaW.PrintLast Go.Proofs.YtddhpkobingmhaaW.PrintMore Go.Proofs.Ytddhpkobingmhaa.Sep
set_option linter.unusedVariables false
set_option linter.unusedSimpArgs false
set_option maxHeartbeats 8000000
set_option maxRecDepth 100000

/-- A sketch of room for K keys that has been given the keys l, in order. -/
def Sk (p : Nat) (Kn : Nat) (sd : Int) (l : List S52) : Res := Some_ fun v => Two (Blk p #[.int .i64 Kn, .int .i64 sd, v, .bool (decide (Kn < l.length))] 59) (Row k52 52 v (l.take Kn))
theorem put_sk {Kn : Nat} {sd : Int} {l : List S52} {x : S52} {p N : Nat} {w w' : World} {L : List Res} (hI : Inc l) (h : PutPost Kn sd (decide (Kn < l.length)) (l.take Kn) (plc x (l.take Kn)) x p N w L (hit x (l.take Kn)) w') : St N w' (Sk p Kn sd (ins x l) :: L) ∧ Below N w w' := by
  obtain ⟨v', h1, h2⟩ := h
  refine ⟨?_, h2⟩
  by_cases hh : hit x (l.take Kn) = true
  · rw [if_pos hh] at h1
    rw [put_hit Kn x l hI hh]
    exact (h1.one).hide (f := fun v => Two (Blk p #[.int .i64 Kn, .int .i64 sd, v, .bool (decide (Kn < l.length))] 59) (Row k52 52 v (l.take Kn))) v'
  · rw [if_neg hh] at h1
    have hh : hit x (l.take Kn) = false := by simpa using hh
    rw [more_miss Kn x l hI hh, put_miss Kn x l hh] at h1
    exact (h1.one).hide (f := fun v => Two (Blk p #[.int .i64 Kn, .int .i64 sd, v, .bool (decide (Kn < (ins x l).length))] 59) (Row k52 52 v ((ins x l).take Kn))) v'
theorem Sk_open {p Kn : Nat} {sd : Int} {l : List S52} {N : Nat} {w : World} {L : List Res} (h : St N w (Sk p Kn sd l :: L)) : ∃ v, St N w (Blk p #[.int .i64 Kn, .int .i64 sd, v, .bool (decide (Kn < l.length))] 59 :: Row k52 52 v (l.take Kn) :: L) := by
  obtain ⟨v, hv⟩ := h.ex
  exact ⟨v, hv.two⟩
theorem Sk_shut {p Kn : Nat} {sd : Int} {l : List S52} {v : Value} {N : Nat} {w : World} {L : List Res} (h : St N w (Blk p #[.int .i64 Kn, .int .i64 sd, v, .bool (decide (Kn < l.length))] 59 :: Row k52 52 v (l.take Kn) :: L)) : St N w (Sk p Kn sd l :: L) :=
  (h.one).hide (f := fun v => Two (Blk p #[.int .i64 Kn, .int .i64 sd, v, .bool (decide (Kn < l.length))] 59) (Row k52 52 v (l.take Kn))) v

theorem bottomk_Add.nil (s : ByteArray) (w : World) : Calls Try.prog 23 #[.pointer none, .string s] w fun e w' => e = .returned (.int .i64 1) ∧ w' = w := by
  go_enter Try.func23, Try.ntmps23
  go_wp2
  go_ret
  exact ⟨rfl, rfl⟩
theorem bottomk_Add.bad (k : Nat) (s : ByteArray) (r : Int) (hr : r ≠ 0) (hck : bottomk_check.f k s = some r) (p : Nat) {N : Nat} {w : World} {L : List Res} (HS0 : St N w L) :
    Calls Try.prog 23 #[.pointer (some ⟨p, 0, none⟩), .string s] w fun e w' => e = .returned (.int .i64 r) ∧ St N w' L ∧ Below N w w' := by
  have HS := Aside0.mk HS0
  have HB := Aside0.mk (Below.refl N w)
  clear HS0
  go_enter Try.func23, Try.ntmps23
  go_wp2_with (first | ((with_reducible refine gate_callee (f := 43) rfl ?_); refine goesL_ (some 9) rfl rfl Try.func43 (by kernel_rfl) rfl #[.string s] rfl (by (try simp only [List.map_toArray, List.map_cons, List.map_nil]); first | done | rfl | (simp only [List.length_drop, List.length_take]; rfl)) ?_; (with_reducible refine (bottomk_check.calls k s r _ hck).mono ?_); rintro e w1 ⟨rfl, hb⟩; refine ⟨_, rfl, ?_⟩; have n0_ := Aside0.mk (HS.out.step hb); have n1_ := Aside0.mk (below_step' HB.out HS.out.size hb); clear HS HB; have HS := n0_; have HB := n1_; clear n0_ n1_; (try simp only [List.eraseIdx_cons_succ, List.eraseIdx_cons_zero] at HS); clear hb))
  go_ret
  exact ⟨rfl, HS.out, HB.out⟩
theorem bottomk_Add.ok (k k2 : Nat) (s : ByteArray) (hck : bottomk_check.f k s = some 0) (h : Int) (sd : Int) (htx : checksum_Text.f k2 sd s = some h) (Kn : Nat) (hK : Kn ≤ 1024) (l : List S52) (hI : Inc l) (p : Nat) {N : Nat} {w : World} {L : List Res} (HS0 : St N w (Sk p Kn sd l :: L)) :
    Calls Try.prog 23 #[.pointer (some ⟨p, 0, none⟩), .string s] w fun e w' => e = .returned (.int .i64 0) ∧ St N w' (Sk p Kn sd (ins ⟨h, s⟩ l) :: L) ∧ Below N w w' := by
  obtain ⟨v, hv⟩ := Sk_open HS0
  have HS := Aside0.mk hv
  have HB := Aside0.mk (Below.refl N w)
  clear HS0 hv
  go_enter Try.func23, Try.ntmps23
  go_wp2_with (first | ((with_reducible refine gate_callee (f := 43) rfl ?_); refine goesL_ (some 9) rfl rfl Try.func43 (by kernel_rfl) rfl #[.string s] rfl (by (try simp only [List.map_toArray, List.map_cons, List.map_nil]); first | done | rfl | (simp only [List.length_drop, List.length_take]; rfl)) ?_; (with_reducible refine (bottomk_check.calls k s 0 _ hck).mono ?_); rintro e w1 ⟨rfl, hb⟩; refine ⟨_, rfl, ?_⟩; have n0_ := Aside0.mk (HS.out.step hb); have n1_ := Aside0.mk (below_step' HB.out HS.out.size hb); clear HS HB; have HS := n0_; have HB := n1_; clear n0_ n1_; (try simp only [List.eraseIdx_cons_succ, List.eraseIdx_cons_zero] at HS); clear hb; have hc0_1 := ((HS.out.pick 0 rfl).cell 1).trans (show _ = some (.int .i64 sd) from rfl)) | ((with_reducible refine gate_callee (f := 45) rfl ?_); refine goesL_ (some 19) rfl rfl Try.func45 (by kernel_rfl) rfl #[.int .i64 sd, .string s] rfl (by (try simp only [List.map_toArray, List.map_cons, List.map_nil]); first | done | rfl | (simp only [List.length_drop, List.length_take]; rfl)) ?_; (with_reducible refine (checksum_Text.calls k2 sd s h _ htx).mono ?_); rintro e w2 ⟨rfl, hb0⟩; have hb := hb0.below; clear hb0; refine ⟨_, rfl, ?_⟩; have n0_ := Aside0.mk (HS.out.step hb); have n1_ := Aside0.mk (below_step' HB.out HS.out.size hb); clear HS HB; have HS := n0_; have HB := n1_; clear n0_ n1_; (try simp only [List.eraseIdx_cons_succ, List.eraseIdx_cons_zero] at HS); clear hb hc0_1) | ((with_reducible refine gate_callee (f := 44) rfl ?_); refine goesL_ (some 22) rfl rfl Try.func44 (by kernel_rfl) rfl #[.pointer (some ⟨p, 0, none⟩), .agg #[.int .i64 h, .string s]] rfl (by (try simp only [List.map_toArray, List.map_cons, List.map_nil]); first | done | rfl | (simp only [List.length_drop, List.length_take]; rfl)) ?_; (with_reducible refine (put_ok Kn sd _ (l.take Kn) (by rw [List.length_take]; omega) (by rw [List.length_take]; omega) (by omega) ⟨h, s⟩ (plc ⟨h, s⟩ (l.take Kn)) (plc_le _ _) (plc_lo _ _) (plc_hi _ _ (inc_take hI Kn)) v p HS.out).mono ?_); rintro e w3 ⟨rfl, hp⟩; refine ⟨_, rfl, ?_⟩; have n0_ := Aside0.mk ((put_sk hI hp).1); have n1_ := Aside0.mk (HB.out.trans (put_sk hI hp).2); clear HS HB; have HS := n0_; have HB := n1_; clear n0_ n1_; (try simp only [List.eraseIdx_cons_succ, List.eraseIdx_cons_zero] at HS); clear hp))
  go_ret
  exact ⟨rfl, HS.out, HB.out⟩

end Go.Proofs.Ytddhpkobingmhaa.PB
end

/-! # Sk7 -/
section
namespace Go.Proofs.Ytddhpkobingmhaa.PB
open Go.RowKit Go.Proofs.YtddhpkobingmhaaW.PrintWords Go.Proofs.YtddhpkobingmhaaW.PrintLast Go.Proofs.YtddhpkobingmhaaW.PrintMore Go.Proofs.Ytddhpkobingmhaa.Sep
set_option linter.unusedVariables false
set_option linter.unusedSimpArgs false
set_option maxHeartbeats 8000000
set_option maxRecDepth 100000

def foldk (hs : ByteArray → Int) (ts : List ByteArray) : List S52 := ts.foldl (fun l t => ins ⟨hs t, t⟩ l) []
theorem foldk_snoc (hs : ByteArray → Int) (ts : List ByteArray) (t : ByteArray) : foldk hs (ts ++ [t]) = ins ⟨hs t, t⟩ (foldk hs ts) := by simp [foldk]
theorem inc_foldl (hs : ByteArray → Int) : ∀ (ts : List ByteArray) (l : List S52), Inc l → Inc (ts.foldl (fun l t => ins ⟨hs t, t⟩ l) l)
  | [], _, h => h
  | t :: ts, l, h => inc_foldl hs ts _ (inc_ins _ h)
theorem inc_foldk (hs : ByteArray → Int) (ts : List ByteArray) : Inc (foldk hs ts) := inc_foldl hs ts [] List.Pairwise.nil
theorem rdOf_at (ts : List ByteArray) (j : Nat) (h : j < ts.length) : rdOf ByteArray.empty ts (j : Int) = ts[j] := by
  unfold rdOf
  rw [Int.toNat_natCast, List.getD_eq_getElem?_getD, List.getElem?_eq_getElem h]; rfl
theorem take_snoc (ts : List ByteArray) (j : Nat) (h : j < ts.length) : ts.take (j + 1) = ts.take j ++ [rdOf ByteArray.empty ts (j : Int)] := by
  rw [rdOf_at ts j h, List.take_add_one, List.getElem?_eq_getElem h]; rfl

theorem Sk_nil {p Kn : Nat} {sd : Int} {N : Nat} {w : World} {L : List Res} (h : St N w (Blk p #[.int .i64 Kn, .int .i64 sd, .slice none 0 0, .bool false] 59 :: L)) : St N w (Sk p Kn sd [] :: L) := by
  have h2 := (h.rowNil (d := k52) (e := 52)).swap
  refine Sk_shut (v := .slice none 0 0) ?_
  rw [show decide (Kn < ([] : List S52).length) = false by simp, List.take_nil]
  exact h2

theorem bottomk_Of.ok (k k2 : Nat) (hs : ByteArray → Int) (Kn : Nat) (hK1 : 1 ≤ Kn) (hK : Kn ≤ 1024) (sd : Int) (h0 : 0 ≤ sd) (h1 : sd ≤ 1048576) (ts : List ByteArray) (hts : ts.length ≤ 1000000) (hok : ∀ t ∈ ts, bottomk_check.f k t = some 0 ∧ checksum_Text.f k2 sd t = some (hs t))
    (vt : Value) {N : Nat} {w : World} {L : List Res} (HS0 : St N w (Row Kd.string 9 vt ts :: L)) :
    Calls Try.prog 25 #[.int .i64 Kn, .int .i64 sd, vt] w fun e w' => ∃ p : Nat, e = .returned (.tuple #[.pointer (some ⟨p, 0, none⟩), .int .i64 0]) ∧ St N w' (Sk p Kn sd (foldk hs ts) :: Row Kd.string 9 vt ts :: L) ∧ Below N w w' := by
  obtain ⟨A, c, hv, hc, _⟩ := HS0.reads
  subst hv
  have HS := Aside0.mk HS0
  have HB := Aside0.mk (Below.refl N w)
  have HOK := Aside0.mk hok
  clear HS0 hok
  go_enter Try.func25, Try.ntmps25
  go_wp2_with (first | ((with_reducible refine gate_callee (f := 20) rfl ?_); refine goesL_ (some 16) rfl rfl Try.func20 (by kernel_rfl) rfl #[.int .i64 Kn, .int .i64 sd] rfl (by (try simp only [List.map_toArray, List.map_cons, List.map_nil]); first | done | rfl | (simp only [List.length_drop, List.length_take]; rfl)) ?_; (with_reducible refine (bottomk_New.ok Kn sd (by omega) (by omega) h0 h1 HS.out).mono ?_); rintro e w1 ⟨p, rfl, hs, hb⟩; refine ⟨_, rfl, ?_⟩; have n0_ := Aside0.mk (Sk_nil hs); have n1_ := Aside0.mk (HB.out.trans hb); clear HS HB; have HS := n0_; have HB := n1_; clear n0_ n1_; (try simp only [List.eraseIdx_cons_succ, List.eraseIdx_cons_zero] at HS); clear hs hb))
  go_loopw [24] (fun v24 wc => ∃ j : Nat, j ≤ ts.length ∧ v24 = .int .i64 j ∧ Aside0 (St N wc (Sk p Kn sd (foldk hs (ts.take j)) :: Row Kd.string 9 (.slice A ts.length c) ts :: L)) ∧ Aside0 (Below N w wc)) (fun v24 _ => (ts.length - intOf v24).toNat)
  case atStart => exact ⟨0, by omega, rfl, HS, HB⟩
  case round =>
    clear HS HB
    obtain ⟨j, hj, rfl, HS, HB⟩ := hrel
    by_cases hlt : j < ts.length
    · have hmem : rdOf ByteArray.empty ts (j : Int) ∈ ts := by rw [rdOf_at ts j (by omega)]; exact List.getElem_mem _
      have hck := Aside0.mk (HOK.out _ hmem).1
      have htx := Aside0.mk (HOK.out _ hmem).2
      clear hmem
      have hc2 := ((HS.out.swap.rowC).2.2)
      obtain ⟨ad, e, hx⟩ := Kd.at_string hc2 (j : Int) (by omega) (by omega)
      clear hc2
      cases e
      rw [Int.toNat_natCast] at hx
      have q1 : (0 : Int) ≤ (j : Int) := by omega
      have q2 : (j : Int) < (ts.length : Int) := by omega
      go_wp2_with (first | ((with_reducible refine gate_callee (f := 23) rfl ?_); refine goesL_ (some 30) rfl rfl Try.func23 (by kernel_rfl) rfl #[.pointer (some ⟨p, 0, none⟩), .string (rdOf ByteArray.empty ts (j : Int))] rfl (by (try simp only [List.map_toArray, List.map_cons, List.map_nil]); first | done | rfl | (simp only [List.length_drop, List.length_take]; rfl)) ?_; (with_reducible refine (bottomk_Add.ok k k2 _ hck.out _ sd htx.out Kn (by omega) (foldk hs (ts.take j)) (inc_foldk _ _) p HS.out).mono ?_); rintro e w3 ⟨rfl, hs1, hb⟩; refine ⟨_, rfl, ?_⟩; have n0_ := Aside0.mk (hs1); have n1_ := Aside0.mk (HB.out.trans hb); clear HS HB; have HS := n0_; have HB := n1_; clear n0_ n1_; (try simp only [List.eraseIdx_cons_succ, List.eraseIdx_cons_zero] at HS); clear hs1 hb))
      go_roundw
      case rel => exact ⟨j + 1, by omega, by go_num, Aside0.mk (by rw [take_snoc ts j (by omega), foldk_snoc]; exact HS.out), HB⟩
      case measure => simp [intOf]; omega
    ·
      obtain rfl : j = ts.length := by omega
      have hlt : ¬ ((ts.length : Int) < (ts.length : Int)) := by omega
      go_wp2
      go_ret2
      exact ⟨p, rfl, by have := HS.out; rwa [List.take_length] at this, HB.out⟩

theorem bottomk_Of.bad (k k2 : Nat) (hs : ByteArray → Int) (Kn : Nat) (hK1 : 1 ≤ Kn) (hK : Kn ≤ 1024) (sd : Int) (h0 : 0 ≤ sd) (h1 : sd ≤ 1048576) (ts : List ByteArray) (hts : ts.length ≤ 1000000) (m : Nat) (hm : m < ts.length) (hok : ∀ t ∈ ts.take m, bottomk_check.f k t = some 0 ∧ checksum_Text.f k2 sd t = some (hs t)) (r : Int) (hr0 : r ≠ 0) (hbad : bottomk_check.f k (rdOf ByteArray.empty ts (m : Int)) = some r)
    (vt : Value) {N : Nat} {w : World} {L : List Res} (HS0 : St N w (Row Kd.string 9 vt ts :: L)) :
    Calls Try.prog 25 #[.int .i64 Kn, .int .i64 sd, vt] w fun e w' => e = .returned (.tuple #[.pointer none, .int .i64 r]) ∧ St N w' (Row Kd.string 9 vt ts :: L) ∧ Below N w w' := by
  obtain ⟨A, c, hv, hc, _⟩ := HS0.reads
  subst hv
  have HS := Aside0.mk HS0
  have HB := Aside0.mk (Below.refl N w)
  have HOK := Aside0.mk hok
  have HBAD := Aside0.mk hbad
  clear hbad
  clear HS0 hok
  go_enter Try.func25, Try.ntmps25
  go_wp2_with (first | ((with_reducible refine gate_callee (f := 20) rfl ?_); refine goesL_ (some 16) rfl rfl Try.func20 (by kernel_rfl) rfl #[.int .i64 Kn, .int .i64 sd] rfl (by (try simp only [List.map_toArray, List.map_cons, List.map_nil]); first | done | rfl | (simp only [List.length_drop, List.length_take]; rfl)) ?_; (with_reducible refine (bottomk_New.ok Kn sd (by omega) (by omega) h0 h1 HS.out).mono ?_); rintro e w1 ⟨p, rfl, hs, hb⟩; refine ⟨_, rfl, ?_⟩; have n0_ := Aside0.mk (Sk_nil hs); have n1_ := Aside0.mk (HB.out.trans hb); clear HS HB; have HS := n0_; have HB := n1_; clear n0_ n1_; (try simp only [List.eraseIdx_cons_succ, List.eraseIdx_cons_zero] at HS); clear hs hb))
  go_loopw [24] (fun v24 wc => ∃ j : Nat, j ≤ m ∧ v24 = .int .i64 j ∧ Aside0 (St N wc (Sk p Kn sd (foldk hs (ts.take j)) :: Row Kd.string 9 (.slice A ts.length c) ts :: L)) ∧ Aside0 (Below N w wc)) (fun v24 _ => (ts.length - intOf v24).toNat)
  case atStart => exact ⟨0, by omega, rfl, HS, HB⟩
  case round =>
    clear HS HB
    obtain ⟨j, hj, rfl, HS, HB⟩ := hrel
    by_cases hlt : j < m
    · have hmem : rdOf ByteArray.empty ts (j : Int) ∈ ts.take m := by rw [rdOf_at ts j (by omega)]; exact List.mem_take_iff_getElem.mpr ⟨j, by omega, rfl⟩
      have hck := Aside0.mk (HOK.out _ hmem).1
      have htx := Aside0.mk (HOK.out _ hmem).2
      clear hmem
      have hc2 := ((HS.out.swap.rowC).2.2)
      obtain ⟨ad, e, hx⟩ := Kd.at_string hc2 (j : Int) (by omega) (by omega)
      clear hc2
      cases e
      rw [Int.toNat_natCast] at hx
      have q1 : (0 : Int) ≤ (j : Int) := by omega
      have q2 : (j : Int) < (ts.length : Int) := by omega
      go_wp2_with (first | ((with_reducible refine gate_callee (f := 23) rfl ?_); refine goesL_ (some 30) rfl rfl Try.func23 (by kernel_rfl) rfl #[.pointer (some ⟨p, 0, none⟩), .string (rdOf ByteArray.empty ts (j : Int))] rfl (by (try simp only [List.map_toArray, List.map_cons, List.map_nil]); first | done | rfl | (simp only [List.length_drop, List.length_take]; rfl)) ?_; (with_reducible refine (bottomk_Add.ok k k2 _ hck.out _ sd htx.out Kn (by omega) (foldk hs (ts.take j)) (inc_foldk _ _) p HS.out).mono ?_); rintro e w3 ⟨rfl, hs1, hb⟩; refine ⟨_, rfl, ?_⟩; have n0_ := Aside0.mk (hs1); have n1_ := Aside0.mk (HB.out.trans hb); clear HS HB; have HS := n0_; have HB := n1_; clear n0_ n1_; (try simp only [List.eraseIdx_cons_succ, List.eraseIdx_cons_zero] at HS); clear hs1 hb))
      go_roundw
      case rel => exact ⟨j + 1, by omega, by go_num, Aside0.mk (by rw [take_snoc ts j (by omega), foldk_snoc]; exact HS.out), HB⟩
      case measure => simp [intOf]; omega
    ·
      obtain rfl : j = m := by omega
      have hc2 := ((HS.out.swap.rowC).2.2)
      obtain ⟨ad, e, hx⟩ := Kd.at_string hc2 (j : Int) (by omega) (by omega)
      clear hc2
      cases e
      rw [Int.toNat_natCast] at hx
      have q1 : (0 : Int) ≤ (j : Int) := by omega
      have q2 : (j : Int) < (ts.length : Int) := by omega
      go_wp2_with (first | ((with_reducible refine gate_callee (f := 23) rfl ?_); refine goesL_ (some 30) rfl rfl Try.func23 (by kernel_rfl) rfl #[.pointer (some ⟨p, 0, none⟩), .string (rdOf ByteArray.empty ts (j : Int))] rfl (by (try simp only [List.map_toArray, List.map_cons, List.map_nil]); first | done | rfl | (simp only [List.length_drop, List.length_take]; rfl)) ?_; (with_reducible refine (bottomk_Add.bad k _ r hr0 HBAD.out p HS.out).mono ?_); rintro e w3 ⟨rfl, hs1, hb⟩; refine ⟨_, rfl, ?_⟩; have n0_ := Aside0.mk (hs1); have n1_ := Aside0.mk (HB.out.trans hb); clear HS HB; have HS := n0_; have HB := n1_; clear n0_ n1_; (try simp only [List.eraseIdx_cons_succ, List.eraseIdx_cons_zero] at HS); clear hs1 hb))
      go_ret2
      exact ⟨rfl, HS.out.drop, HB.out⟩

end Go.Proofs.Ytddhpkobingmhaa.PB
end
