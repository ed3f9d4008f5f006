/- Sketches: what is read of them. -/
import Derived.Test.YtddhpkobingmhaaSk1
import Derived.Lib.LazyBuf
namespace Go.Proofs.Ytddhpkobingmhaa.PB
open Go.RowKit Go.Proofs.YtddhpkobingmhaaW.PrintWords Go.Proofs.YtddhpkobingmhaaW.PrintLast Go.Proofs.YtddhpkobingmhaaW.PrintMore Go.Proofs.Ytddhpkobingmhaa.Sep
set_option linter.unusedVariables false
set_option linter.unusedSimpArgs false
set_option maxHeartbeats 8000000
set_option maxRecDepth 100000

theorem bottomk_Size.ok (a b : Int) (v : Value) (m : Bool) (p : Nat) (w : World) (hp : w.heap[p]? = some (.cells #[.int .i64 a, .int .i64 b, v, .bool m] 59 (0, 0))) :
    Calls Try.prog 37 #[.pointer (some ⟨p, 0, none⟩)] w fun e w' => e = .returned (.int .i64 a) ∧ w' = w := by
  have hc0 : w.cell? ⟨p, 0, none⟩ = some (.int .i64 a) := (blk_cell hp 0).trans rfl
  clear hp
  go_enter Try.func37, Try.ntmps37
  go_wp2
  go_ret
  exact ⟨rfl, rfl⟩

theorem bottomk_Size.nil (w : World) : Calls Try.prog 37 #[.pointer none] w fun e w' => e = .returned (.int .i64 0) ∧ w' = w := by
  go_enter Try.func37, Try.ntmps37
  go_wp2
  go_ret
  exact ⟨rfl, rfl⟩

theorem bottomk_Seed.ok (a b : Int) (v : Value) (m : Bool) (p : Nat) (w : World) (hp : w.heap[p]? = some (.cells #[.int .i64 a, .int .i64 b, v, .bool m] 59 (0, 0))) :
    Calls Try.prog 38 #[.pointer (some ⟨p, 0, none⟩)] w fun e w' => e = .returned (.int .i64 b) ∧ w' = w := by
  have hc1 : w.cell? ⟨p, 1, none⟩ = some (.int .i64 b) := (blk_cell hp 1).trans rfl
  clear hp
  go_enter Try.func38, Try.ntmps38
  go_wp2
  go_ret
  exact ⟨rfl, rfl⟩

theorem bottomk_Seed.nil (w : World) : Calls Try.prog 38 #[.pointer none] w fun e w' => e = .returned (.int .i64 0) ∧ w' = w := by
  go_enter Try.func38, Try.ntmps38
  go_wp2
  go_ret
  exact ⟨rfl, rfl⟩

theorem bottomk_Exact.ok (a b : Int) (v : Value) (m : Bool) (p : Nat) (w : World) (hp : w.heap[p]? = some (.cells #[.int .i64 a, .int .i64 b, v, .bool m] 59 (0, 0))) :
    Calls Try.prog 19 #[.pointer (some ⟨p, 0, none⟩)] w fun e w' => e = .returned (.bool (!m)) ∧ w' = w := by
  have hc3 : w.cell? ⟨p, 3, none⟩ = some (.bool m) := (blk_cell hp 3).trans rfl
  clear hp
  go_enter Try.func19, Try.ntmps19
  go_wp2
  go_ret
  exact ⟨rfl, rfl⟩

theorem bottomk_Exact.nil (w : World) : Calls Try.prog 19 #[.pointer none] w fun e w' => e = .returned (.bool false) ∧ w' = w := by
  go_enter Try.func19, Try.ntmps19
  go_wp2
  go_ret
  exact ⟨rfl, rfl⟩

theorem bottomk_Least.ok (a b : Int) (A : Option Addr) (n c : Nat) (hn : n ≤ 1000000) (m : Bool) (p : Nat) (w : World) (hp : w.heap[p]? = some (.cells #[.int .i64 a, .int .i64 b, .slice A n c, .bool m] 59 (0, 0))) :
    Calls Try.prog 18 #[.pointer (some ⟨p, 0, none⟩)] w fun e w' => e = .returned (.int .i64 (if m = true then (n : Int) + 1 else n)) ∧ w' = w := by
  have hc2 : w.cell? ⟨p, 2, none⟩ = some (.slice A n c) := (blk_cell hp 2).trans rfl
  have hc3 : w.cell? ⟨p, 3, none⟩ = some (.bool m) := (blk_cell hp 3).trans rfl
  clear hp
  cases m with
  | true =>
    go_enter Try.func18, Try.ntmps18
    go_wp2
    go_ret
    exact ⟨rfl, rfl⟩
  | false =>
    go_enter Try.func18, Try.ntmps18
    go_wp2
    go_ret
    exact ⟨rfl, rfl⟩

theorem bottomk_Least.nil (w : World) : Calls Try.prog 18 #[.pointer none] w fun e w' => e = .returned (.int .i64 0) ∧ w' = w := by
  go_enter Try.func18, Try.ntmps18
  go_wp2
  go_ret
  exact ⟨rfl, rfl⟩

theorem flat52 (W : World) (N : Nat) : ∀ (x : S52) (cs : List Value), k52.K W x cs → k52.M W N (fun _ => False) x cs := fun x cs h => by
  rw [k52_open h]; exact k52_mkM _ _ _ _
theorem run_eql_nil {P : Program} (w : World) {t e : TypeId} {a : Option Addr} {l c : Nat} (h : P.underlying t = some (.slice e)) : (binOp .eql t (.slice a l c) (.slice none 0 0)).run P w = .ok (.bool a.isNone) w := Go.run_eql_slice_nil w t e a l c h
theorem slices_Clone.ok {N : Nat} {w : World} {L : List Res} (A : Option Addr) (c : Nat) (l : List S52) (hl : l.length ≤ 1000000) (hnil : A = none → l = [] ∧ c = 0) (hc : k52.C w A l.length l) (HS0 : St N w L) :
    Calls Try.prog 62 #[.slice A l.length c] w fun e w' => ∃ v, e = .returned v ∧ St N w' (Row k52 52 v l :: L) ∧ Below N w w' := by
  cases A with
  | none =>
    obtain ⟨rfl, rfl⟩ := hnil rfl
    have he : ∀ w' : World, (binOp .eql 26 (.slice none 0 0) (.slice none 0 0)).run Try.prog w' = .ok (.bool true) w' := fun w' => run_eql_nil w' Try.underlying26
    go_enter Try.func62, Try.ntmps62
    go_wp2
    go_ret
    exact ⟨_, rfl, HS0.rowNil, Below.refl _ _⟩
  | some A =>
    have HS := Aside0.mk HS0
    have HB := Aside0.mk (Below.refl N w)
    have HC := Aside0.mk hc
    clear HS0 hc hnil
    have he : ∀ w' : World, (binOp .eql 26 (.slice (some A) l.length c) (.slice none 0 0)).run Try.prog w' = .ok (.bool false) w' := fun w' => run_eql_nil w' Try.underlying26
    go_enter Try.func62, Try.ntmps62
    go_wp2_with (first | ((with_reducible refine gate_dst (N := 5) rfl ?_); refine S_lit k52 52 ?hg (Nt := 5) ?hd (xs := ([] : List S52)) (inner := []) ?hr ?hp HS.out (by simp) ?_; (case hd => rfl); (case hg => rfl); (case hr => first | (go_simp; done) | (go_simp; rfl)); (case hp => exact Reps.none _ _); intro v1 w1 hs hb; have n2_ := Aside0.mk (Kd.C_below HC.out hb); clear HC; have HC := n2_; clear n2_; have n0_ := Aside0.mk (hs); have n1_ := Aside0.mk (below_step' HB.out HS.out.size hb); clear HS HB; have HS := n0_; have HB := n1_; clear n0_ n1_; (try simp only [List.eraseIdx_cons_succ, List.eraseIdx_cons_zero] at HS); clear hs hb) | ((with_reducible refine gate_builtin (b := .append) (xs := #[.tmp 5, .tmp 6]) rfl ?_); at_builtin; refine S_append_rows k52 rfl (.tmp 5) (.tmp 6) 26 52 (.agg #[(.int .i64 0), (.string ⟨#[]⟩)]) 24 rfl Try.underlying26 info52 rfl (by decide) (by omega) v1 [] l (some A) l.length c rfl rfl (flat52 _ _) HS.out HC.out HB.out (by simp; omega) ?_; intro v2 w2 hs hb; clear HC; have n0_ := Aside0.mk (hs); have n1_ := Aside0.mk (hb); clear HS HB; have HS := n0_; have HB := n1_; clear n0_ n1_; (try simp only [List.eraseIdx_cons_succ, List.eraseIdx_cons_zero] at HS); clear hs hb))
    go_ret
    exact ⟨_, rfl, HS.out, HB.out⟩

theorem bottomk_Keys.ok {N : Nat} {w : World} {L : List Res} (a b : Int) (A : Option Addr) (c : Nat) (l : List S52) (m : Bool) (p : Nat) (hp : w.heap[p]? = some (.cells #[.int .i64 a, .int .i64 b, .slice A l.length c, .bool m] 59 (0, 0))) (hl : l.length ≤ 1000000) (hnil : A = none → l = [] ∧ c = 0) (hc : k52.C w A l.length l) (HS0 : St N w L) :
    Calls Try.prog 36 #[.pointer (some ⟨p, 0, none⟩)] w fun e w' => ∃ v, e = .returned v ∧ St N w' (Row k52 52 v l :: L) ∧ Below N w w' := by
  have hc2 : w.cell? ⟨p, 2, none⟩ = some (.slice A l.length c) := (blk_cell hp 2).trans rfl
  have HS := Aside0.mk HS0
  have HB := Aside0.mk (Below.refl N w)
  have HC := Aside0.mk hc
  have HN := Aside0.mk hnil
  clear HS0 hc hnil hp
  go_enter Try.func36, Try.ntmps36
  go_wp2_with (first | ((with_reducible refine gate_callee (f := 62) rfl ?_); refine goesL_ (some 9) rfl rfl Try.func62 (by kernel_rfl) rfl #[.slice A l.length c] rfl (by (try simp only [List.map_toArray, List.map_cons, List.map_nil]); first | done | rfl | (simp only [List.length_drop, List.length_take]; rfl)) ?_; (with_reducible refine (slices_Clone.ok A c l hl HN.out HC.out HS.out).mono ?_); rintro e w1 ⟨v1, rfl, hs, hb⟩; refine ⟨_, rfl, ?_⟩; have n0_ := Aside0.mk (hs); have n1_ := Aside0.mk (HB.out.trans hb); clear HS HB; have HS := n0_; have HB := n1_; clear n0_ n1_; (try simp only [List.eraseIdx_cons_succ, List.eraseIdx_cons_zero] at HS); clear hs hb))
  go_ret
  exact ⟨_, rfl, HS.out, HB.out⟩

theorem bottomk_Keys.nil (w : World) : Calls Try.prog 36 #[.pointer none] w fun e w' => e = .returned (.slice none 0 0) ∧ w' = w := by
  go_enter Try.func36, Try.ntmps36
  go_wp2
  go_ret
  exact ⟨rfl, rfl⟩

end Go.Proofs.Ytddhpkobingmhaa.PB
