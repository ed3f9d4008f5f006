/- Sketches that do not fit, and no sketch at all. -/
import Derived.Test.YtddhpkobingmhaaJ10
import Derived.Test.YtddhpkobingmhaaJ6
import Derived.Test.YtddhpkobingmhaaJ5

namespace Go.Proofs.Ytddhpkobingmhaa.PB
open Go.RowKit Go.Proofs.YtddhpkobingmhaaW.PrintWords Go.Proofs.YtddhpkobingmhaaW.PrintLast Go.Proofs.YtddhpkobingmhaaW.PrintMore Go.Proofs.Ytddhpkobingmhaa.Sep
set_option linter.unusedVariables false
set_option linter.unusedSimpArgs false
set_option maxHeartbeats 8000000
set_option maxRecDepth 100000

theorem fits_n1 (q : Option Addr) (w : World) : Calls Try.prog 63 #[.pointer none, .pointer q] w fun e w' => e = .returned (.int .i64 1) ∧ w' = w := by
  go_enter Try.func63, Try.ntmps63
  go_wp2
  go_ret
  exact ⟨rfl, rfl⟩

theorem fits_n2 (p : Addr) (w : World) : Calls Try.prog 63 #[.pointer (some p), .pointer none] w fun e w' => e = .returned (.int .i64 1) ∧ w' = w := by
  go_enter Try.func63, Try.ntmps63
  go_wp2
  go_ret
  exact ⟨rfl, rfl⟩

theorem union_n1 (q : Option Addr) (w : World) : Calls Try.prog 65 #[.pointer none, .pointer q] w fun e w' => e = .returned (.tuple #[.pointer none, .int .i64 1]) ∧ w' = w := by
  go_enter Try.func65, Try.ntmps65
  go_wp2_with (first | ((with_reducible refine gate_callee (f := 63) rfl ?_); refine goesL_ (some 10) rfl rfl Try.func63 (by kernel_rfl) rfl #[.pointer none, .pointer q] rfl (by (try simp only [List.map_toArray, List.map_cons, List.map_nil]); first | done | rfl) ?_; (with_reducible refine (fits_n1 q _).mono ?_); rintro e w1 ⟨rfl, rfl⟩; refine ⟨_, rfl, ?_⟩))
  go_ret2
  exact ⟨rfl, rfl⟩

theorem union_n2 (p : Addr) (w : World) : Calls Try.prog 65 #[.pointer (some p), .pointer none] w fun e w' => e = .returned (.tuple #[.pointer none, .int .i64 1]) ∧ w' = w := by
  go_enter Try.func65, Try.ntmps65
  go_wp2_with (first | ((with_reducible refine gate_callee (f := 63) rfl ?_); refine goesL_ (some 10) rfl rfl Try.func63 (by kernel_rfl) rfl #[.pointer (some p), .pointer none] rfl (by (try simp only [List.map_toArray, List.map_cons, List.map_nil]); first | done | rfl) ?_; (with_reducible refine (fits_n2 p _).mono ?_); rintro e w1 ⟨rfl, rfl⟩; refine ⟨_, rfl, ?_⟩))
  go_ret2
  exact ⟨rfl, rfl⟩

theorem Distinct_n (w : World) : Calls Try.prog 16 #[.pointer none] w fun e w' => e = .returned (.int .i64 0) ∧ w' = w := by
  go_enter Try.func16, Try.ntmps16
  go_wp2
  go_ret
  exact ⟨rfl, rfl⟩

theorem Union_n2 (p : Addr) (w : World) : Calls Try.prog 34 #[.pointer (some p), .pointer none] w fun e w' => e = .returned (.tuple #[.int .i64 0, .int .i64 1]) ∧ w' = w := by
  go_enter Try.func34, Try.ntmps34
  go_wp2_with (first | ((with_reducible refine gate_callee (f := 65) rfl ?_); refine goesL_ (some 11) rfl rfl Try.func65 (by kernel_rfl) rfl #[.pointer (some p), .pointer none] rfl (by (try simp only [List.map_toArray, List.map_cons, List.map_nil]); first | done | rfl) ?_; (with_reducible refine (union_n2 p _).mono ?_); rintro e w1 ⟨rfl, rfl⟩; refine ⟨_, rfl, ?_⟩) | ((with_reducible refine gate_callee (f := 16) rfl ?_); refine goesL_ (some 15) rfl rfl Try.func16 (by kernel_rfl) rfl #[.pointer none] rfl (by (try simp only [List.map_toArray, List.map_cons, List.map_nil]); first | done | rfl) ?_; (with_reducible refine (Distinct_n _).mono ?_); rintro e w1 ⟨rfl, rfl⟩; refine ⟨_, rfl, ?_⟩))
  go_ret2
  exact ⟨rfl, rfl⟩

theorem Overlap_n1 (q : Option Addr) (w : World) : Calls Try.prog 35 #[.pointer none, .pointer q] w fun e w' => e = .returned (.tuple #[.int .i64 0, .int .i64 1]) ∧ w' = w := by
  go_enter Try.func35, Try.ntmps35
  go_wp2_with (first | ((with_reducible refine gate_callee (f := 65) rfl ?_); refine goesL_ (some 14) rfl rfl Try.func65 (by kernel_rfl) rfl #[.pointer none, .pointer q] rfl (by (try simp only [List.map_toArray, List.map_cons, List.map_nil]); first | done | rfl) ?_; (with_reducible refine (union_n1 q _).mono ?_); rintro e w1 ⟨rfl, rfl⟩; refine ⟨_, rfl, ?_⟩))
  go_ret2
  exact ⟨rfl, rfl⟩

theorem Merge_n1 (q : Option Addr) (w : World) : Calls Try.prog 33 #[.pointer none, .pointer q] w fun e w' => e = .returned (.int .i64 1) ∧ w' = w := by
  go_enter Try.func33, Try.ntmps33
  go_wp2_with (first | ((with_reducible refine gate_callee (f := 63) rfl ?_); refine goesL_ (some 9) rfl rfl Try.func63 (by kernel_rfl) rfl #[.pointer none, .pointer q] rfl (by (try simp only [List.map_toArray, List.map_cons, List.map_nil]); first | done | rfl) ?_; (with_reducible refine (fits_n1 q _).mono ?_); rintro e w1 ⟨rfl, rfl⟩; refine ⟨_, rfl, ?_⟩))
  go_ret
  exact ⟨rfl, rfl⟩

theorem Merge_n2 (p : Addr) (w : World) : Calls Try.prog 33 #[.pointer (some p), .pointer none] w fun e w' => e = .returned (.int .i64 1) ∧ w' = w := by
  go_enter Try.func33, Try.ntmps33
  go_wp2_with (first | ((with_reducible refine gate_callee (f := 63) rfl ?_); refine goesL_ (some 9) rfl rfl Try.func63 (by kernel_rfl) rfl #[.pointer (some p), .pointer none] rfl (by (try simp only [List.map_toArray, List.map_cons, List.map_nil]); first | done | rfl) ?_; (with_reducible refine (fits_n2 p _).mono ?_); rintro e w1 ⟨rfl, rfl⟩; refine ⟨_, rfl, ?_⟩))
  go_ret
  exact ⟨rfl, rfl⟩

theorem Size_n (w : World) : Calls Try.prog 37 #[.pointer none] w fun e w' => e = .returned (.int .i64 0) ∧ w' = w := by
  go_enter Try.func37, Try.ntmps37
  go_wp2
  go_ret
  exact ⟨rfl, rfl⟩

theorem Seed_n (w : World) : Calls Try.prog 38 #[.pointer none] w fun e w' => e = .returned (.int .i64 0) ∧ w' = w := by
  go_enter Try.func38, Try.ntmps38
  go_wp2
  go_ret
  exact ⟨rfl, rfl⟩

theorem Least_n (w : World) : Calls Try.prog 18 #[.pointer none] w fun e w' => e = .returned (.int .i64 0) ∧ w' = w := by
  go_enter Try.func18, Try.ntmps18
  go_wp2
  go_ret
  exact ⟨rfl, rfl⟩

theorem Keys_n (w : World) : Calls Try.prog 36 #[.pointer none] w fun e w' => e = .returned (.slice none 0 0) ∧ w' = w := by
  go_enter Try.func36, Try.ntmps36
  go_wp2
  go_ret
  exact ⟨rfl, rfl⟩

theorem Encode_n (w : World) : Calls Try.prog 30 #[.pointer none] w fun e w' => e = .returned (.string ⟨#[]⟩) ∧ w' = w := by
  go_enter Try.func30, Try.ntmps30
  go_wp2
  go_ret
  exact ⟨rfl, rfl⟩

theorem Exact_n (w : World) : Calls Try.prog 19 #[.pointer none] w fun e w' => e = .returned (.bool false) ∧ w' = w := by
  go_enter Try.func19, Try.ntmps19
  go_wp2
  go_ret
  exact ⟨rfl, rfl⟩

theorem Equal_nn (w : World) : Calls Try.prog 27 #[.pointer none, .pointer none] w fun e w' => e = .returned (.bool true) ∧ w' = w := by
  go_enter Try.func27, Try.ntmps27
  go_wp2
  go_ret
  exact ⟨rfl, rfl⟩

theorem run_equalIn_nil_ptr {P : Program} (w : World) (d : Nat) (t : TypeId) (q : Addr) (h : P.underlying t = some (.pointer (P.pointee t))) : (Op.equalIn (d + 1) t (.pointer none) (.pointer (some q))).run P w = .ok false w := by
  simp [Op.equalIn, run_underlying h]
theorem run_eql_nil_ptr {P : Program} (w : World) (t : TypeId) (q : Addr) (h : P.underlying t = some (.pointer (P.pointee t))) : (binOp .eql t (.pointer none) (.pointer (some q))).run P w = .ok (.bool false) w := by
  have he : (Op.equal t (.pointer none) (.pointer (some q))).run P w = .ok false w := run_equalIn_nil_ptr w 9999 t q h
  simp only [binOp]
  simp [he]

theorem Equal_n1 (q : Nat) (w : World) : Calls Try.prog 27 #[.pointer none, .pointer (some ⟨q, 0, none⟩)] w fun e w' => e = .returned (.bool false) ∧ w' = w := by
  have pn : ∀ w, (binOp .eql 25 (.pointer none) (.pointer (some ⟨q, 0, none⟩))).run Try.prog w = .ok (.bool false) w := fun w => run_eql_nil_ptr w 25 _ rfl
  go_enter Try.func27, Try.ntmps27
  go_wp2
  go_ret
  exact ⟨rfl, rfl⟩

theorem Equal_n2 (p : Nat) (w : World) : Calls Try.prog 27 #[.pointer (some ⟨p, 0, none⟩), .pointer none] w fun e w' => e = .returned (.bool false) ∧ w' = w := by
  go_enter Try.func27, Try.ntmps27
  go_wp2
  go_ret
  exact ⟨rfl, rfl⟩

theorem fits_conf (p q Ka Kb : Nat) (sa sb : Int) (l m : List S52) (h : ¬ ((Ka : Int) = (Kb : Int) ∧ sa = sb)) {N : Nat} {w : World} {L : List Res} (HS0 : St N w (Sk p Ka sa l :: Sk q Kb sb m :: L)) :
    Calls Try.prog 63 #[.pointer (some ⟨p, 0, none⟩), .pointer (some ⟨q, 0, none⟩)] w fun e w' => e = .returned (.int .i64 17) ∧ St N w' (Sk p Ka sa l :: Sk q Kb sb m :: L) ∧ Below N w w' := by
  obtain ⟨v1, h1⟩ := Sk_open HS0
  have h2 := h1.pick 2 rfl
  simp only [List.eraseIdx_cons_succ, List.eraseIdx_cons_zero] at h2
  obtain ⟨v2, h3⟩ := Sk_open h2
  have h4 := h3.pick 2 rfl
  simp only [List.eraseIdx_cons_succ, List.eraseIdx_cons_zero] at h4
  have fin : ∀ w', St N w' (Blk p #[.int .i64 Ka, .int .i64 sa, v1, .bool (decide (Ka < l.length))] 59 :: Blk q #[.int .i64 Kb, .int .i64 sb, v2, .bool (decide (Kb < m.length))] 59 :: Row k52 52 v2 (m.take Kb) :: Row k52 52 v1 (l.take Ka) :: L) → St N w' (Sk p Ka sa l :: Sk q Kb sb m :: L) := by
    intro w' hs
    have h6 := hs.pick 3 rfl
    simp only [List.eraseIdx_cons_succ, List.eraseIdx_cons_zero] at h6
    have h7 := Sk_shut h6.swap
    have h8 := (h7.pick 2 rfl).pick 2 rfl
    simp only [List.eraseIdx_cons_succ, List.eraseIdx_cons_zero] at h8
    exact (Sk_shut h8).swap
  by_cases hk : (Ka : Int) = (Kb : Int)
  · have hs' : ¬ sa = sb := fun e => h ⟨hk, e⟩
    obtain rfl : Ka = Kb := by omega
    refine (fits_seed p q v1 v2 _ _ (Ka : Int) sa (Ka : Int) sb (by simp) (by simpa using hs') h4).mono ?_
    rintro e w' ⟨rfl, hs, hb⟩
    exact ⟨rfl, fin w' hs, hb⟩
  · refine (fits_size p q v1 v2 _ _ (Ka : Int) sa (Kb : Int) sb (by simpa using hk) h4).mono ?_
    rintro e w' ⟨rfl, hs, hb⟩
    exact ⟨rfl, fin w' hs, hb⟩

theorem union_conf (p q Ka Kb : Nat) (sa sb : Int) (l m : List S52) (h : ¬ ((Ka : Int) = (Kb : Int) ∧ sa = sb)) {N : Nat} {w : World} {L : List Res} (HS0 : St N w (Sk p Ka sa l :: Sk q Kb sb m :: L)) :
    Calls Try.prog 65 #[.pointer (some ⟨p, 0, none⟩), .pointer (some ⟨q, 0, none⟩)] w fun e w' => e = .returned (.tuple #[.pointer none, .int .i64 17]) ∧ St N w' (Sk p Ka sa l :: Sk q Kb sb m :: L) ∧ Below N w w' := by
  have HS := Aside0.mk HS0
  have HB := Aside0.mk (Below.refl N w)
  have hne := Aside0.mk h
  clear HS0 h
  go_enter Try.func65, Try.ntmps65
  go_wp2_with (first | ((with_reducible refine gate_callee (f := 63) rfl ?_); refine goesL_ (some 10) rfl rfl Try.func63 (by kernel_rfl) rfl #[.pointer (some ⟨p, 0, none⟩), .pointer (some ⟨q, 0, none⟩)] rfl (by (try simp only [List.map_toArray, List.map_cons, List.map_nil]); first | done | rfl | (simp only [List.length_drop, List.length_take]; rfl)) ?_; (with_reducible refine (fits_conf p q Ka Kb sa sb l m hne.out HS.out).mono ?_); rintro e w1 ⟨rfl, hs1, hb⟩; refine ⟨_, rfl, ?_⟩; have n0_ := Aside0.mk (hs1); have n1_ := Aside0.mk (HB.out.trans hb); clear HS HB; have HS := n0_; have HB := n1_; clear n0_ n1_; (try simp only [List.eraseIdx_cons_succ, List.eraseIdx_cons_zero] at HS); clear hs1 hb))
  go_ret2
  exact ⟨rfl, HS.out, HB.out⟩

theorem Union_conf (p q Ka Kb : Nat) (sa sb : Int) (l m : List S52) (h : ¬ ((Ka : Int) = (Kb : Int) ∧ sa = sb)) {N : Nat} {w : World} {L : List Res} (HS0 : St N w (Sk p Ka sa l :: Sk q Kb sb m :: L)) :
    Calls Try.prog 34 #[.pointer (some ⟨p, 0, none⟩), .pointer (some ⟨q, 0, none⟩)] w fun e w' => e = .returned (.tuple #[.int .i64 0, .int .i64 17]) ∧ St N w' (Sk p Ka sa l :: Sk q Kb sb m :: L) ∧ Below N w w' := by
  have HS := Aside0.mk HS0
  have HB := Aside0.mk (Below.refl N w)
  have hne := Aside0.mk h
  clear HS0 h
  go_enter Try.func34, Try.ntmps34
  go_wp2_with (first | ((with_reducible refine gate_callee (f := 65) rfl ?_); refine goesL_ (some 11) rfl rfl Try.func65 (by kernel_rfl) rfl #[.pointer (some ⟨p, 0, none⟩), .pointer (some ⟨q, 0, none⟩)] rfl (by (try simp only [List.map_toArray, List.map_cons, List.map_nil]); first | done | rfl | (simp only [List.length_drop, List.length_take]; rfl)) ?_; (with_reducible refine (union_conf p q Ka Kb sa sb l m hne.out HS.out).mono ?_); rintro e w1 ⟨rfl, hs1, hb⟩; refine ⟨_, rfl, ?_⟩; have n0_ := Aside0.mk (hs1); have n1_ := Aside0.mk (HB.out.trans hb); clear HS HB; have HS := n0_; have HB := n1_; clear n0_ n1_; (try simp only [List.eraseIdx_cons_succ, List.eraseIdx_cons_zero] at HS); clear hs1 hb) | ((with_reducible refine gate_callee (f := 16) rfl ?_); refine goesL_ (some 15) rfl rfl Try.func16 (by kernel_rfl) rfl #[.pointer none] rfl (by (try simp only [List.map_toArray, List.map_cons, List.map_nil]); first | done | rfl) ?_; (with_reducible refine (Distinct_n _).mono ?_); rintro e w1 ⟨rfl, rfl⟩; refine ⟨_, rfl, ?_⟩))
  go_ret2
  exact ⟨rfl, HS.out, HB.out⟩

theorem Overlap_conf (p q Ka Kb : Nat) (sa sb : Int) (l m : List S52) (h : ¬ ((Ka : Int) = (Kb : Int) ∧ sa = sb)) {N : Nat} {w : World} {L : List Res} (HS0 : St N w (Sk p Ka sa l :: Sk q Kb sb m :: L)) :
    Calls Try.prog 35 #[.pointer (some ⟨p, 0, none⟩), .pointer (some ⟨q, 0, none⟩)] w fun e w' => e = .returned (.tuple #[.int .i64 0, .int .i64 17]) ∧ St N w' (Sk p Ka sa l :: Sk q Kb sb m :: L) ∧ Below N w w' := by
  have HS := Aside0.mk HS0
  have HB := Aside0.mk (Below.refl N w)
  have hne := Aside0.mk h
  clear HS0 h
  go_enter Try.func35, Try.ntmps35
  go_wp2_with (first | ((with_reducible refine gate_callee (f := 65) rfl ?_); refine goesL_ (some 14) rfl rfl Try.func65 (by kernel_rfl) rfl #[.pointer (some ⟨p, 0, none⟩), .pointer (some ⟨q, 0, none⟩)] rfl (by (try simp only [List.map_toArray, List.map_cons, List.map_nil]); first | done | rfl | (simp only [List.length_drop, List.length_take]; rfl)) ?_; (with_reducible refine (union_conf p q Ka Kb sa sb l m hne.out HS.out).mono ?_); rintro e w1 ⟨rfl, hs1, hb⟩; refine ⟨_, rfl, ?_⟩; have n0_ := Aside0.mk (hs1); have n1_ := Aside0.mk (HB.out.trans hb); clear HS HB; have HS := n0_; have HB := n1_; clear n0_ n1_; (try simp only [List.eraseIdx_cons_succ, List.eraseIdx_cons_zero] at HS); clear hs1 hb))
  go_ret2
  exact ⟨rfl, HS.out, HB.out⟩

theorem Merge_conf (p q Ka Kb : Nat) (sa sb : Int) (l m : List S52) (h : ¬ ((Ka : Int) = (Kb : Int) ∧ sa = sb)) {N : Nat} {w : World} {L : List Res} (HS0 : St N w (Sk p Ka sa l :: Sk q Kb sb m :: L)) :
    Calls Try.prog 33 #[.pointer (some ⟨p, 0, none⟩), .pointer (some ⟨q, 0, none⟩)] w fun e w' => e = .returned (.int .i64 17) ∧ St N w' (Sk p Ka sa l :: Sk q Kb sb m :: L) ∧ Below N w w' := by
  have HS := Aside0.mk HS0
  have HB := Aside0.mk (Below.refl N w)
  have hne := Aside0.mk h
  clear HS0 h
  go_enter Try.func33, Try.ntmps33
  go_wp2_with (first | ((with_reducible refine gate_callee (f := 63) rfl ?_); refine goesL_ (some 9) rfl rfl Try.func63 (by kernel_rfl) rfl #[.pointer (some ⟨p, 0, none⟩), .pointer (some ⟨q, 0, none⟩)] rfl (by (try simp only [List.map_toArray, List.map_cons, List.map_nil]); first | done | rfl | (simp only [List.length_drop, List.length_take]; rfl)) ?_; (with_reducible refine (fits_conf p q Ka Kb sa sb l m hne.out HS.out).mono ?_); rintro e w1 ⟨rfl, hs1, hb⟩; refine ⟨_, rfl, ?_⟩; have n0_ := Aside0.mk (hs1); have n1_ := Aside0.mk (HB.out.trans hb); clear HS HB; have HS := n0_; have HB := n1_; clear n0_ n1_; (try simp only [List.eraseIdx_cons_succ, List.eraseIdx_cons_zero] at HS); clear hs1 hb))
  go_ret
  exact ⟨rfl, HS.out, HB.out⟩

theorem inc0' : Inc ([] : List S52) := List.Pairwise.nil

theorem inc1 (x : S52) : Inc [x] := List.pairwise_singleton _ _
theorem mem1 (x : S52) : ∀ y, y ∈ [x] ↔ y ∈ ([] : List S52) ∨ y ∈ [x] := fun y => by simp

theorem nil_Union (p q Ka Kb : Nat) (sa sb : Int) (x : S52) (hx : Hin [x]) (ha : 1 ≤ Ka) (hKa : Ka ≤ 1000) (hb : 1 ≤ Kb) (E : Int) (hE : E = if (Ka : Int) = (Kb : Int) ∧ sa = sb then 0 else 17) {N : Nat} {w : World} {L : List Res} (HS0 : St N w (Sk p Ka sa [] :: Sk q Kb sb [x] :: L)) :
    Calls Try.prog 34 #[.pointer (some ⟨p, 0, none⟩), .pointer (some ⟨q, 0, none⟩)] w fun e w' => (∃ D : Int, e = .returned (.tuple #[.int .i64 D, .int .i64 E])) ∧ St N w' (Sk p Ka sa [] :: Sk q Kb sb [x] :: L) ∧ Below N w w' := by
  subst hE
  by_cases h : (Ka : Int) = (Kb : Int) ∧ sa = sb
  · rw [if_pos h]
    obtain ⟨h1, rfl⟩ := h
    obtain rfl : Ka = Kb := by omega
    refine (Union_sk p q Ka sa ha hKa [] [x] [x] inc0' (inc1 x) (inc1 x) (mem1 x) hx HS0).mono ?_
    rintro e w' ⟨rfl, hs, hb⟩
    exact ⟨⟨_, rfl⟩, hs, hb⟩
  · rw [if_neg h]
    refine (Union_conf p q Ka Kb sa sb [] [x] h HS0).mono ?_
    rintro e w' ⟨rfl, hs, hb⟩
    exact ⟨⟨_, rfl⟩, hs, hb⟩

theorem nil_Overlap (p q Ka Kb : Nat) (sa sb : Int) (x : S52) (hx : Hin [x]) (ha : 1 ≤ Ka) (hKa : Ka ≤ 1000) (hb : 1 ≤ Kb) (E : Int) (hE : E = if (Ka : Int) = (Kb : Int) ∧ sa = sb then 0 else 17) {N : Nat} {w : World} {L : List Res} (HS0 : St N w (Sk p Ka sa [] :: Sk q Kb sb [x] :: L)) :
    Calls Try.prog 35 #[.pointer (some ⟨p, 0, none⟩), .pointer (some ⟨q, 0, none⟩)] w fun e w' => (∃ D : Int, e = .returned (.tuple #[.int .i64 D, .int .i64 E])) ∧ St N w' (Sk p Ka sa [] :: Sk q Kb sb [x] :: L) ∧ Below N w w' := by
  subst hE
  by_cases h : (Ka : Int) = (Kb : Int) ∧ sa = sb
  · rw [if_pos h]
    obtain ⟨h1, rfl⟩ := h
    obtain rfl : Ka = Kb := by omega
    refine (Overlap_sk p q Ka sa hKa [] [x] [x] inc0' (inc1 x) (inc1 x) (mem1 x) HS0).mono ?_
    rintro e w' ⟨rfl, hs, hb⟩
    exact ⟨⟨_, rfl⟩, hs, hb⟩
  · rw [if_neg h]
    refine (Overlap_conf p q Ka Kb sa sb [] [x] h HS0).mono ?_
    rintro e w' ⟨rfl, hs, hb⟩
    exact ⟨⟨_, rfl⟩, hs, hb⟩

theorem nil_Merge (p q Ka Kb : Nat) (sa sb : Int) (x : S52) (hx : Hin [x]) (ha : 1 ≤ Ka) (hKa : Ka ≤ 1000) (hb : 1 ≤ Kb) (E : Int) (hE : E = if (Ka : Int) = (Kb : Int) ∧ sa = sb then 0 else 17) {N : Nat} {w : World} {L : List Res} (HS0 : St N w (Sk p Ka sa [] :: Sk q Kb sb [x] :: L)) :
    Calls Try.prog 33 #[.pointer (some ⟨p, 0, none⟩), .pointer (some ⟨q, 0, none⟩)] w fun e w' => e = .returned (.int .i64 E) ∧ St N w' (Sk q Kb sb [x] :: L) ∧ Below N w w' := by
  subst hE
  by_cases h : (Ka : Int) = (Kb : Int) ∧ sa = sb
  · rw [if_pos h]
    obtain ⟨h1, rfl⟩ := h
    obtain rfl : Ka = Kb := by omega
    refine (Merge_sk p q Ka sa hKa [] [x] [x] inc0' (inc1 x) (inc1 x) (mem1 x) HS0).mono ?_
    rintro e w' ⟨rfl, hs, hb⟩
    exact ⟨rfl, hs.drop, hb⟩
  · rw [if_neg h]
    refine (Merge_conf p q Ka Kb sa sb [] [x] h HS0).mono ?_
    rintro e w' ⟨rfl, hs, hb⟩
    exact ⟨rfl, hs.drop, hb⟩

theorem nil_Equal (p q Ka Kb : Nat) (sa sb : Int) (x : S52) (hKa : Ka ≤ 1000) (hb : 1 ≤ Kb) {N : Nat} {w : World} {L : List Res} (HS0 : St N w (Sk p Ka sa [] :: Sk q Kb sb [x] :: L)) :
    Calls Try.prog 27 #[.pointer (some ⟨p, 0, none⟩), .pointer (some ⟨q, 0, none⟩)] w fun e w' => e = .returned (.bool false) ∧ St N w' (Sk p Ka sa [] :: Sk q Kb sb [x] :: L) ∧ Below N w w' := by
  refine (Equal_sk p q Ka Kb sa sb [] [x] (by omega) HS0).mono ?_
  rintro e w' ⟨rfl, hs, hbb⟩
  refine ⟨?_, hs, hbb⟩
  rw [decide_eq_false]
  rintro ⟨_, _, _, h⟩
  obtain ⟨n, rfl⟩ : ∃ n, Kb = n + 1 := ⟨Kb - 1, by omega⟩
  simp at h

def mdg.T2 : Bool × List (List Nat × List Nat) := (true, [([], []), ([], []), ([1], [1]), ([2], [2]), ([], []), ([4], [4]), ([0, 3, 5, 5], [0, 3, 5]), ([6], [6]), ([7], [7]), ([7], [7]), ([8, 6, 0, 1, 2, 3, 4, 5, 6, 7, 8], [8]), ([9, 10, 0, 1, 2, 3, 4, 5, 6, 7, 8, 9, 10], [9])])
def mdg.B2 : List Nat := [0, 0, 2, 6, 0, 16, 63, 127, 255, 255, 511, 2047]
theorem mdg.tab2 : rtab .any (opsOf Try.f12 2) = mdg.T2 := by kernel_rfl
theorem mdg.bits2 : waitsOk mdg.T2.2 mdg.B2 = true := by kernel_rfl
def mdg.T5 : Bool × List (List Nat × List Nat) := (true, [([], []), ([], []), ([], []), ([2], [2]), ([3], [3]), ([], []), ([5], [5]), ([1, 4, 6, 6], [1, 4, 6]), ([0, 7, 0], [0]), ([7, 8, 0, 1, 2, 3, 4, 5, 6, 7, 8], [7])])
def mdg.B5 : List Nat := [0, 0, 0, 4, 12, 0, 32, 126, 255, 511]
theorem mdg.tab5 : rtab .any (opsOf Try.f12 5) = mdg.T5 := by kernel_rfl
theorem mdg.bits5 : waitsOk mdg.T5.2 mdg.B5 = true := by kernel_rfl
theorem made_gen (a bb : Int) (ha0 : 0 ≤ a) (ha1 : a ≤ 255) (hb0 : 0 ≤ bb) (hb1 : bb ≤ 255) (A : Option Addr) (c : Nat) (dl : List Int) (hc : dl.length ≤ c) (Kn : Nat) (hKn : 1 + a % 12 = (Kn : Int)) (k kc k2 : Nat) (hs : ByteArray → Int) (ts : List ByteArray) (hk0 : sleuthlaw23_keys.f k dl = some ts) (hts : ts.length ≤ 1000) (hok : ∀ t ∈ ts, bottomk_check.f kc t = some 0 ∧ checksum_Text.f k2 bb t = some (hs t)) {N : Nat} {w : World} {L : List Res} (HC0 : ∀ w', St N w' L → Kd.C (Kd.int .u8) w' A dl.length dl) (HS0 : St N w L) :
    Calls Try.prog 12 #[.agg #[.int .u8 a, .int .u8 bb], .slice A dl.length c] w fun e w' => ∃ (p : Nat) (v : Value), e = .returned (.tuple #[.pointer (some ⟨p, 0, none⟩), .agg #[.int .i64 Kn, .int .i64 bb, v]]) ∧ St N w' (Row k52 52 v (foldk hs ts) :: Sk p Kn bb (foldk hs ts) :: L) ∧ Below N w w' := by
  have HS := Aside0.mk HS0
  have HB := Aside0.mk (Below.refl N w)
  have HC := Aside0.mk HC0
  have HOK := Aside0.mk hok
  have hk := Aside0.mk hk0
  clear HS0 HC0 hok hk0
  have hw1 : wrap64 bb = bb := by unfold wrap64; omega
  have hw2 : IntKind.i64.wrap bb = bb := by rw [IntKind.wrap_i64]; omega
  go_enter Try.func12, Try.ntmps12
  go_upto_region 2 with (first | ((with_reducible refine gate_dst (N := 2) rfl ?_); refine box_event ?hg (N := 2) ?hd (cs := #[.int .u8 a, .int .u8 bb]) (t := 23) ?hr ?_; (case hd => rfl); (case hg => rfl); (case hr => first | (go_simp; done) | (go_simp; rfl)); intro b hg w1 hbox hb; have n0_ := Aside0.mk (HS.out.box hg hbox hb); have n1_ := Aside0.mk (below_step' HB.out HS.out.size hb); clear HS HB; have HS := n0_; have HB := n1_; clear n0_ n1_; (try simp only [List.eraseIdx_cons_succ, List.eraseIdx_cons_zero] at HS); clear hb hbox hg) | ((with_reducible refine gate_dst (N := 5) rfl ?_); refine box_event ?hg (N := 5) ?hd (cs := #[.int .i64 0, .int .i64 0, .slice none 0 0]) (t := 28) ?hr ?_; (case hd => rfl); (case hg => rfl); (case hr => first | (go_simp; done) | (go_simp; rfl)); intro r hg w2 hbox hb; have n0_ := Aside0.mk (HS.out.box hg hbox hb); have n1_ := Aside0.mk (below_step' HB.out HS.out.size hb); clear HS HB; have HS := n0_; have HB := n1_; clear n0_ n1_; (try simp only [List.eraseIdx_cons_succ, List.eraseIdx_cons_zero] at HS); clear hb hbox hg; have hc1_0 := ((HS.out.pick 1 rfl).cell 0).trans (show _ = some (.int .u8 a) from rfl)))
  (try rw [hKn])
  have n0_ := Aside0.mk (HS.out.drew); have n1_ := Aside0.mk (HB.out.drew); clear HS HB; have HS := n0_; have HB := n1_; clear n0_ n1_
  refine start_ (n := 12) (S := fun w' => w'.cell? ⟨b, 1, none⟩ = some (.int .u8 bb)) (ds := []) (tfs true [0, 12]).toArray (by kernel_rfl) rfl rfl (((HS.out.pick 1 rfl).cell 1).trans rfl) (fun hHeld => ?_); refine with_tabW mdg.tab2 mdg.bits2 (fun HT_ HW_ => ?_)
  generalize w2.drew = w3 at HS HB hHeld ⊢
  refine pU 0 15 (tfs true [1, 11]).toArray rfl rfl HT_ ?_
  refine pU 1 16 (tfs true [2, 10]).toArray rfl rfl HT_ ?_
  refine pU 4 19 (tfs true [2, 2, 1, 7]).toArray rfl rfl HT_ ?_
  refine tK 2 17 (tfs true [3, 1, 1, 7]).toArray rfl rfl HT_ HW_ hHeld ?_ (by rintro w' s0; go_simp; with_reducible rfl)
  refine pU 3 18 (tfs true [5, 7]).toArray rfl rfl HT_ ?_
  refine one_ (i := 5) (N := some 20) (tfs true [6, 6]).toArray rfl rfl (one_of HT_.out (by kernel_rfl)) (by decide) (fun K hK => ?_)
  refine goes_ Try.func22 (by kernel_rfl) rfl #[.slice A dl.length c] (by rfl) rfl rfl (by (try simp only [List.map_toArray, List.map_cons, List.map_nil]); first | done | rfl | (simp only [List.length_drop, List.length_take]; rfl)) ?_
  with_reducible refine (sleuthlaw23_keys.calls k A c dl ts _ (HC.out _ HS.out.drop.drop) hc hk.out).mono ?_
  rintro e w4 ⟨vt, rfl, ho, hb⟩
  refine ⟨_, rfl, ?_⟩
  have n0_ := Aside0.mk ((((HS.out.made ho hb).pick 2 rfl).pick 2 rfl)); have n1_ := Aside0.mk (below_step' HB.out HS.out.size hb); clear HS HB; have HS := n0_; have HB := n1_; clear n0_ n1_; (try simp only [List.eraseIdx_cons_succ, List.eraseIdx_cons_zero] at HS)
  clear ho hb
  refine hK.out _ _ (((HS.out.pick 1 rfl).cell 1).trans rfl) (fun hHeld => ?_)
  clear hK K
  refine norm_ (a' := ?_) ?_ ?_
  rotate_left
  · show Act.put _ (some 20) _ = _
    simp only [Act.put, List.setIfInBounds_toArray, List.set_cons_zero, List.set_cons_succ, i64_w, i32_w]
    rfl
  refine one_ (i := 6) (N := some 21) (tfs true [7, 5]).toArray rfl rfl (one_of HT_.out (by kernel_rfl)) (by decide) (fun K hK => ?_)
  refine goes_ Try.func25 (by kernel_rfl) rfl #[.int .i64 Kn, .int .i64 bb, vt] (by rfl) rfl rfl (by (try simp only [List.map_toArray, List.map_cons, List.map_nil]); first | done | rfl | (simp only [List.length_drop, List.length_take]; rfl)) ?_
  with_reducible refine (bottomk_Of.ok kc k2 hs Kn (by omega) (by omega) bb hb0 (by omega) ts (by omega) HOK.out vt (HS.out.pick 2 rfl)).mono ?_
  rintro e w5 ⟨p, rfl, hs1, hb⟩
  refine ⟨_, rfl, ?_⟩
  have n0_ := Aside0.mk (((hs1.pick 3 rfl).pick 3 rfl)); have n1_ := Aside0.mk (HB.out.trans hb); clear HS HB; have HS := n0_; have HB := n1_; clear n0_ n1_; (try simp only [List.eraseIdx_cons_succ, List.eraseIdx_cons_zero] at HS)
  clear hs1 hb
  refine hK.out _ _ (((HS.out.pick 1 rfl).cell 1).trans rfl) (fun hHeld => ?_)
  clear hK K
  refine norm_ (a' := ?_) ?_ ?_
  rotate_left
  · show Act.put _ (some 21) _ = _
    simp only [Act.put, List.setIfInBounds_toArray, List.set_cons_zero, List.set_cons_succ, i64_w, i32_w]
    rfl
  refine pU 7 14 (tfs true [8, 4]).toArray rfl rfl HT_ ?_
  refine pU 8 22 (tfs true [9, 3]).toArray rfl rfl HT_ ?_
  refine pU 9 23 (tfs true [10, 2]).toArray rfl rfl HT_ ?_
  refine pU 10 7 (tfs true [11, 1]).toArray rfl rfl HT_ ?_
  refine pU 11 8 (tfs true [12]).toArray rfl rfl HT_ ?_
  refine done_ (done_of HT_.out (by kernel_rfl)) ?_
  clear HT_ HW_
  try clear hHeld
  go_upto_region 5 with (fail)
  have n0_ := Aside0.mk (HS.out.drew); have n1_ := Aside0.mk (HB.out.drew); clear HS HB; have HS := n0_; have HB := n1_; clear n0_ n1_
  refine start_ (n := 10) (S := fun w' => w'.cell? ⟨b, 1, none⟩ = some (.int .u8 bb)) (ds := [9]) #[false, false, false, false, false, false, false, false, false, false] (by kernel_rfl) rfl rfl (((HS.out.pick 1 rfl).cell 1).trans rfl) (fun hHeld => ?_); refine with_tabW mdg.tab5 mdg.bits5 (fun HT_ HW_ => ?_)
  generalize w5.drew = w7 at HS HB hHeld ⊢
  refine pU 0 27 #[true, false, false, false, false, false, false, false, false, false] rfl rfl HT_ ?_
  refine pU 1 28 #[true, true, false, false, false, false, false, false, false, false] rfl rfl HT_ ?_
  refine pU 2 29 #[true, true, true, false, false, false, false, false, false, false] rfl rfl HT_ ?_
  refine pU 5 32 #[true, true, true, false, false, true, false, false, false, false] rfl rfl HT_ ?_
  refine tK 3 30 #[true, true, true, true, false, true, false, false, false, false] rfl rfl HT_ HW_ hHeld ?_ (by rintro w' s0; go_simp; with_reducible rfl)
  refine pU 4 31 #[true, true, true, true, true, true, false, false, false, false] rfl rfl HT_ ?_
  refine one_ (i := 6) (N := some 33) #[true, true, true, true, true, true, true, false, false, false] rfl rfl (one_of HT_.out (by kernel_rfl)) (by decide) (fun K hK => ?_)
  refine goes_ Try.func22 (by kernel_rfl) rfl #[.slice A dl.length c] (by rfl) rfl rfl (by (try simp only [List.map_toArray, List.map_cons, List.map_nil]); first | done | rfl | (simp only [List.length_drop, List.length_take]; rfl)) ?_
  with_reducible refine (sleuthlaw23_keys.calls k A c dl ts _ (HC.out _ HS.out.drop.drop.drop.drop) hc hk.out).mono ?_
  rintro e w4 ⟨vt2, rfl, ho, hb⟩
  refine ⟨_, rfl, ?_⟩
  have n0_ := Aside0.mk ((((((HS.out.made ho hb).pick 4 rfl).pick 4 rfl).pick 4 rfl).pick 4 rfl)); have n1_ := Aside0.mk (below_step' HB.out HS.out.size hb); clear HS HB; have HS := n0_; have HB := n1_; clear n0_ n1_; (try simp only [List.eraseIdx_cons_succ, List.eraseIdx_cons_zero] at HS)
  clear ho hb; obtain ⟨A2, c2, e2, _, _⟩ := (HS.out.pick 4 rfl).reads; subst e2
  refine hK.out _ _ (((HS.out.pick 1 rfl).cell 1).trans rfl) (fun hHeld => ?_)
  clear hK K
  refine norm_ (a' := ?_) ?_ ?_
  rotate_left
  · show Act.put _ (some 33) _ = _
    simp only [Act.put, List.setIfInBounds_toArray, List.set_cons_zero, List.set_cons_succ, i64_w, i32_w]
    rfl
  refine one_ (i := 7) (N := some 34) #[true, true, true, true, true, true, true, true, false, false] rfl rfl (one_of HT_.out (by kernel_rfl)) (by decide) (fun K hK => ?_)
  refine goes_ Try.func24 (by kernel_rfl) rfl #[.int .i64 Kn, .int .i64 bb, .slice A2 ts.length c2] (by rfl) rfl rfl (by (try simp only [List.map_toArray, List.map_cons, List.map_nil]); first | done | rfl | (simp only [List.length_drop, List.length_take]; rfl)) ?_
  with_reducible refine (ofl_ok Kn bb k2 hs ts ts.length (Nat.le_refl _) (by omega) (fun t ht => (HOK.out t ht).2) A2 c2 (HS.out.pick 4 rfl)).mono ?_
  rintro e w8 ⟨v3, rfl, hs1, hb⟩; rw [List.take_length] at hs1
  refine ⟨_, rfl, ?_⟩
  have n0_ := Aside0.mk (((((((hs1.pick 2 rfl).pick 3 rfl).pick 4 rfl).pick 2 rfl).pick 2 rfl).pick 1 rfl)); have n1_ := Aside0.mk (HB.out.trans hb); clear HS HB; have HS := n0_; have HB := n1_; clear n0_ n1_; (try simp only [List.eraseIdx_cons_succ, List.eraseIdx_cons_zero] at HS)
  clear hs1 hb; obtain ⟨A3, n3, c3, rfl⟩ : ∃ (A : Option Addr) (n c : Nat), v3 = .slice A n c := (by obtain ⟨A, c, e, _, _⟩ := (HS.out.pick 3 rfl).reads; exact ⟨A, _, c, e⟩); have q0 := ((HS.out.pick 0 rfl).cell 0).trans (show _ = some (.int .i64 0) from rfl); have f0 := (HS.out.pick 0 rfl).frozen 0; have q1 := ((HS.out.pick 0 rfl).cell 1).trans (show _ = some (.int .i64 0) from rfl); have f1 := (HS.out.pick 0 rfl).frozen 1; have q2 := ((HS.out.pick 0 rfl).cell 2).trans (show _ = some (.slice none 0 0) from rfl); have f2 := (HS.out.pick 0 rfl).frozen 2
  refine hK.out _ _ (((HS.out.pick 1 rfl).cell 1).trans rfl) (fun hHeld => ?_)
  clear hK K
  refine norm_ (a' := ?_) ?_ ?_
  rotate_left
  · show Act.put _ (some 34) _ = _
    simp only [Act.put, List.setIfInBounds_toArray, List.set_cons_zero, List.set_cons_succ, i64_w, i32_w]
    rfl
  refine pU 8 4 #[true, true, true, true, true, true, true, true, true, false] rfl rfl HT_ ?_
  refine last_ (i := 9) (N := none) #[true, true, true, true, true, true, true, true, true, true] rfl rfl (one_of HT_.out (by kernel_rfl)) (by decide) (fun K hK => ?_)
  refine skip_ (w1 := ?_) (by rfl) rfl ?_ ?_
  rotate_left
  · go_simp
    rfl
  clear q0 q1 q2 f0 f1 f2
  have n0_ := Aside0.mk ((((HS.out.pick 0 rfl).set 0 (.int .i64 Kn) #[.int .i64 Kn, .int .i64 0, .slice none 0 0] rfl).set 1 (.int .i64 bb) #[.int .i64 Kn, .int .i64 bb, .slice none 0 0] rfl).set 2 (.slice A3 n3 c3) #[.int .i64 Kn, .int .i64 bb, .slice A3 n3 c3] rfl); have n1_ := Aside0.mk ((((HS.out.pick 0 rfl).set 0 (.int .i64 Kn) #[.int .i64 Kn, .int .i64 0, .slice none 0 0] rfl).set 1 (.int .i64 bb) #[.int .i64 Kn, .int .i64 bb, .slice none 0 0] rfl).below_set (i := 2) (u := .slice A3 n3 c3) (((HS.out.pick 0 rfl).set 0 (.int .i64 Kn) #[.int .i64 Kn, .int .i64 0, .slice none 0 0] rfl).below_set (i := 1) (u := .int .i64 bb) ((HS.out.pick 0 rfl).below_set (i := 0) (u := .int .i64 Kn) HB.out))); clear HS HB; have HS := n0_; have HB := n1_; clear n0_ n1_; (try simp only [List.eraseIdx_cons_succ, List.eraseIdx_cons_zero] at HS)
  refine hK.out _ _ ?_
  clear hK K
  refine done_ (done_of HT_.out (by kernel_rfl)) ?_
  clear HT_ HW_
  try clear hHeld
  generalize (World.setCell (World.setCell (World.setCell _ _ _) _ _) _ _) = w9 at HS HB ⊢
  go_wp2
  (try simp only [Exit.inBlock, Exit.then])
  refine bodyPost_ret (results_tc rfl _ _ r 28 _ (0, 0) _ rfl HS.out.blk Try.underlying28 rfl (by kernel_rfl)) rfl ?_
  exact ⟨p, .slice A3 n3 c3, rfl, ((((HS.out.drop.drop.swap).pick 2 rfl).drop).pick 2 rfl).drop, HB.out⟩

end Go.Proofs.Ytddhpkobingmhaa.PB
