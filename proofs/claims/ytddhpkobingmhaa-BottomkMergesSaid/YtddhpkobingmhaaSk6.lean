/- A sketch takes a text. -/
import Derived.Test.YtddhpkobingmhaaKey
import Derived.Test.YtddhpkobingmhaaPBx6
import Derived.Test.YtddhpkobingmhaaPBx3
namespace Go.Proofs.Ytddhpkobingmhaa.PB
open Go.RowKit Go.Proofs.YtddhpkobingmhaaW.PrintWords Go.Proofs.YtddhpkobingmhaaW.PrintLast Go.Proofs.YtddhpkobingmhaaW.PrintMore Go.Proofs.Ytddhpkobingmhaa.Sep
set_option linter.unusedVariables false
set_option linter.unusedSimpArgs false
set_option maxHeartbeats 8000000
set_option maxRecDepth 100000

/-- A sketch of room for K keys that has been given the keys l, in order. -/
def Sk (p : Nat) (Kn : Nat) (sd : Int) (l : List S52) : Res := Some_ fun v => Two (Blk p #[.int .i64 Kn, .int .i64 sd, v, .bool (decide (Kn < l.length))] 59) (Row k52 52 v (l.take Kn))
theorem put_sk {Kn : Nat} {sd : Int} {l : List S52} {x : S52} {p N : Nat} {w w' : World} {L : List Res} (hI : Inc l) (h : PutPost Kn sd (decide (Kn < l.length)) (l.take Kn) (plc x (l.take Kn)) x p N w L (hit x (l.take Kn)) w') : St N w' (Sk p Kn sd (ins x l) :: L) ∧ Below N w w' := by
  obtain ⟨v', h1, h2⟩ := h
  refine ⟨?_, h2⟩
  by_cases hh : hit x (l.take Kn) = true
  · rw [if_pos hh] at h1
    rw [put_hit Kn x l hI hh]
    exact (h1.one).hide (f := fun v => Two (Blk p #[.int .i64 Kn, .int .i64 sd, v, .bool (decide (Kn < l.length))] 59) (Row k52 52 v (l.take Kn))) v'
  · rw [if_neg hh] at h1
    have hh : hit x (l.take Kn) = false := by simpa using hh
    rw [more_miss Kn x l hI hh, put_miss Kn x l hh] at h1
    exact (h1.one).hide (f := fun v => Two (Blk p #[.int .i64 Kn, .int .i64 sd, v, .bool (decide (Kn < (ins x l).length))] 59) (Row k52 52 v ((ins x l).take Kn))) v'
theorem Sk_open {p Kn : Nat} {sd : Int} {l : List S52} {N : Nat} {w : World} {L : List Res} (h : St N w (Sk p Kn sd l :: L)) : ∃ v, St N w (Blk p #[.int .i64 Kn, .int .i64 sd, v, .bool (decide (Kn < l.length))] 59 :: Row k52 52 v (l.take Kn) :: L) := by
  obtain ⟨v, hv⟩ := h.ex
  exact ⟨v, hv.two⟩
theorem Sk_shut {p Kn : Nat} {sd : Int} {l : List S52} {v : Value} {N : Nat} {w : World} {L : List Res} (h : St N w (Blk p #[.int .i64 Kn, .int .i64 sd, v, .bool (decide (Kn < l.length))] 59 :: Row k52 52 v (l.take Kn) :: L)) : St N w (Sk p Kn sd l :: L) :=
  (h.one).hide (f := fun v => Two (Blk p #[.int .i64 Kn, .int .i64 sd, v, .bool (decide (Kn < l.length))] 59) (Row k52 52 v (l.take Kn))) v

theorem bottomk_Add.nil (s : ByteArray) (w : World) : Calls Try.prog 23 #[.pointer none, .string s] w fun e w' => e = .returned (.int .i64 1) ∧ w' = w := by
  go_enter Try.func23, Try.ntmps23
  go_wp2
  go_ret
  exact ⟨rfl, rfl⟩
theorem bottomk_Add.bad (k : Nat) (s : ByteArray) (r : Int) (hr : r ≠ 0) (hck : bottomk_check.f k s = some r) (p : Nat) {N : Nat} {w : World} {L : List Res} (HS0 : St N w L) :
    Calls Try.prog 23 #[.pointer (some ⟨p, 0, none⟩), .string s] w fun e w' => e = .returned (.int .i64 r) ∧ St N w' L ∧ Below N w w' := by
  have HS := Aside0.mk HS0
  have HB := Aside0.mk (Below.refl N w)
  clear HS0
  go_enter Try.func23, Try.ntmps23
  go_wp2_with (first | ((with_reducible refine gate_callee (f := 43) rfl ?_); refine goesL_ (some 9) rfl rfl Try.func43 (by kernel_rfl) rfl #[.string s] rfl (by (try simp only [List.map_toArray, List.map_cons, List.map_nil]); first | done | rfl | (simp only [List.length_drop, List.length_take]; rfl)) ?_; (with_reducible refine (bottomk_check.calls k s r _ hck).mono ?_); rintro e w1 ⟨rfl, hb⟩; refine ⟨_, rfl, ?_⟩; have n0_ := Aside0.mk (HS.out.step hb); have n1_ := Aside0.mk (below_step' HB.out HS.out.size hb); clear HS HB; have HS := n0_; have HB := n1_; clear n0_ n1_; (try simp only [List.eraseIdx_cons_succ, List.eraseIdx_cons_zero] at HS); clear hb))
  go_ret
  exact ⟨rfl, HS.out, HB.out⟩
theorem bottomk_Add.ok (k k2 : Nat) (s : ByteArray) (hck : bottomk_check.f k s = some 0) (h : Int) (sd : Int) (htx : checksum_Text.f k2 sd s = some h) (Kn : Nat) (hK : Kn ≤ 1024) (l : List S52) (hI : Inc l) (p : Nat) {N : Nat} {w : World} {L : List Res} (HS0 : St N w (Sk p Kn sd l :: L)) :
    Calls Try.prog 23 #[.pointer (some ⟨p, 0, none⟩), .string s] w fun e w' => e = .returned (.int .i64 0) ∧ St N w' (Sk p Kn sd (ins ⟨h, s⟩ l) :: L) ∧ Below N w w' := by
  obtain ⟨v, hv⟩ := Sk_open HS0
  have HS := Aside0.mk hv
  have HB := Aside0.mk (Below.refl N w)
  clear HS0 hv
  go_enter Try.func23, Try.ntmps23
  go_wp2_with (first | ((with_reducible refine gate_callee (f := 43) rfl ?_); refine goesL_ (some 9) rfl rfl Try.func43 (by kernel_rfl) rfl #[.string s] rfl (by (try simp only [List.map_toArray, List.map_cons, List.map_nil]); first | done | rfl | (simp only [List.length_drop, List.length_take]; rfl)) ?_; (with_reducible refine (bottomk_check.calls k s 0 _ hck).mono ?_); rintro e w1 ⟨rfl, hb⟩; refine ⟨_, rfl, ?_⟩; have n0_ := Aside0.mk (HS.out.step hb); have n1_ := Aside0.mk (below_step' HB.out HS.out.size hb); clear HS HB; have HS := n0_; have HB := n1_; clear n0_ n1_; (try simp only [List.eraseIdx_cons_succ, List.eraseIdx_cons_zero] at HS); clear hb; have hc0_1 := ((HS.out.pick 0 rfl).cell 1).trans (show _ = some (.int .i64 sd) from rfl)) | ((with_reducible refine gate_callee (f := 45) rfl ?_); refine goesL_ (some 19) rfl rfl Try.func45 (by kernel_rfl) rfl #[.int .i64 sd, .string s] rfl (by (try simp only [List.map_toArray, List.map_cons, List.map_nil]); first | done | rfl | (simp only [List.length_drop, List.length_take]; rfl)) ?_; (with_reducible refine (checksum_Text.calls k2 sd s h _ htx).mono ?_); rintro e w2 ⟨rfl, hb0⟩; have hb := hb0.below; clear hb0; refine ⟨_, rfl, ?_⟩; have n0_ := Aside0.mk (HS.out.step hb); have n1_ := Aside0.mk (below_step' HB.out HS.out.size hb); clear HS HB; have HS := n0_; have HB := n1_; clear n0_ n1_; (try simp only [List.eraseIdx_cons_succ, List.eraseIdx_cons_zero] at HS); clear hb hc0_1) | ((with_reducible refine gate_callee (f := 44) rfl ?_); refine goesL_ (some 22) rfl rfl Try.func44 (by kernel_rfl) rfl #[.pointer (some ⟨p, 0, none⟩), .agg #[.int .i64 h, .string s]] rfl (by (try simp only [List.map_toArray, List.map_cons, List.map_nil]); first | done | rfl | (simp only [List.length_drop, List.length_take]; rfl)) ?_; (with_reducible refine (put_ok Kn sd _ (l.take Kn) (by rw [List.length_take]; omega) (by rw [List.length_take]; omega) (by omega) ⟨h, s⟩ (plc ⟨h, s⟩ (l.take Kn)) (plc_le _ _) (plc_lo _ _) (plc_hi _ _ (inc_take hI Kn)) v p HS.out).mono ?_); rintro e w3 ⟨rfl, hp⟩; refine ⟨_, rfl, ?_⟩; have n0_ := Aside0.mk ((put_sk hI hp).1); have n1_ := Aside0.mk (HB.out.trans (put_sk hI hp).2); clear HS HB; have HS := n0_; have HB := n1_; clear n0_ n1_; (try simp only [List.eraseIdx_cons_succ, List.eraseIdx_cons_zero] at HS); clear hp))
  go_ret
  exact ⟨rfl, HS.out, HB.out⟩

end Go.Proofs.Ytddhpkobingmhaa.PB
