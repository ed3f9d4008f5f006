/- Sketches: what the package's own functions do to them. -/
import Derived.Test.YtddhpkobingmhaaSep
import Derived.Test.YtddhpkobingmhaaPBx0
namespace Go.Proofs.Ytddhpkobingmhaa.PB
open Go.RowKit Go.Proofs.YtddhpkobingmhaaW.PrintWords Go.Proofs.YtddhpkobingmhaaW.PrintLast Go.Proofs.YtddhpkobingmhaaW.PrintMore Go.Proofs.Ytddhpkobingmhaa.Sep
set_option linter.unusedVariables false
set_option linter.unusedSimpArgs false
set_option maxHeartbeats 8000000
set_option maxRecDepth 100000

theorem bottomk_New.ok (a b : Int) (ha : 1 ≤ a) (ha2 : a ≤ 1024) (hb0 : 0 ≤ b) (hb2 : b ≤ 1048576) {N : Nat} {w : World} {L : List Res} (HS0 : St N w L) :
    Calls Try.prog 20 #[.int .i64 a, .int .i64 b] w fun e w' => ∃ p : Nat, e = .returned (.tuple #[.pointer (some ⟨p, 0, none⟩), .int .i64 0]) ∧ St N w' (Blk p #[.int .i64 a, .int .i64 b, .slice none 0 0, .bool false] 59 :: L) ∧ Below N w w' := by
  have HS := Aside0.mk HS0
  have HB := Aside0.mk (Below.refl N w)
  clear HS0
  have c1 : decide (a < 1) = false := decide_eq_false (by omega)
  have c2 : decide (1024 < a) = false := decide_eq_false (by omega)
  have c3 : decide (b < 0) = false := decide_eq_false (by omega)
  have c4 : decide (1048576 < b) = false := decide_eq_false (by omega)
  go_enter Try.func20, Try.ntmps20
  go_wp2_with (first | ((with_reducible refine gate_dst (N := 23) rfl ?_); refine box_event ?hg (N := 23) ?hd (cs := #[.int .i64 a, .int .i64 b, .slice none 0 0, .bool false]) (t := 59) ?hr ?_; (case hd => rfl); (case hg => rfl); (case hr => first | (go_simp; done) | (go_simp; rfl)); intro p hg w1 hbox hb; have n0_ := Aside0.mk (HS.out.box hg hbox hb); have n1_ := Aside0.mk (below_step' HB.out HS.out.size hb); clear HS HB; have HS := n0_; have HB := n1_; clear n0_ n1_; (try simp only [List.eraseIdx_cons_succ, List.eraseIdx_cons_zero] at HS); clear hb hbox hg))
  go_ret2
  exact ⟨p, rfl, HS.out, HB.out⟩

theorem bottomk_New.bad (a b : Int) (h : a < 1 ∨ 1024 < a ∨ b < 0 ∨ 1048576 < b) (w : World) :
    Calls Try.prog 20 #[.int .i64 a, .int .i64 b] w fun e w' => e = .returned (.tuple #[.pointer none, .int .i64 2]) ∧ w' = w := by
  by_cases h1 : a < 1
  · have c1 := decide_eq_true h1
    go_enter Try.func20, Try.ntmps20
    go_wp2
    go_ret2
    exact ⟨rfl, rfl⟩
  · have c1 := decide_eq_false h1
    by_cases h2 : 1024 < a
    · have c2 := decide_eq_true h2
      go_enter Try.func20, Try.ntmps20
      go_wp2
      go_ret2
      exact ⟨rfl, rfl⟩
    · have c2 := decide_eq_false h2
      by_cases h3 : b < 0
      · have c3 := decide_eq_true h3
        go_enter Try.func20, Try.ntmps20
        go_wp2
        go_ret2
        exact ⟨rfl, rfl⟩
      · have c3 := decide_eq_false h3
        have c4 : decide (1048576 < b) = true := decide_eq_true (by omega)
        go_enter Try.func20, Try.ntmps20
        go_wp2
        go_ret2
        exact ⟨rfl, rfl⟩

end Go.Proofs.Ytddhpkobingmhaa.PB
