/- Of: a sketch of a list of texts. -/
import Derived.Test.YtddhpkobingmhaaSk6
namespace Go.Proofs.Ytddhpkobingmhaa.PB
open Go.RowKit Go.Proofs.YtddhpkobingmhaaW.PrintWords Go.Proofs.YtddhpkobingmhaaW.PrintLast Go.Proofs.YtddhpkobingmhaaW.PrintMore Go.Proofs.Ytddhpkobingmhaa.Sep
set_option linter.unusedVariables false
set_option linter.unusedSimpArgs false
set_option maxHeartbeats 8000000
set_option maxRecDepth 100000

def foldk (hs : ByteArray → Int) (ts : List ByteArray) : List S52 := ts.foldl (fun l t => ins ⟨hs t, t⟩ l) []
theorem foldk_snoc (hs : ByteArray → Int) (ts : List ByteArray) (t : ByteArray) : foldk hs (ts ++ [t]) = ins ⟨hs t, t⟩ (foldk hs ts) := by simp [foldk]
theorem inc_foldl (hs : ByteArray → Int) : ∀ (ts : List ByteArray) (l : List S52), Inc l → Inc (ts.foldl (fun l t => ins ⟨hs t, t⟩ l) l)
  | [], _, h => h
  | t :: ts, l, h => inc_foldl hs ts _ (inc_ins _ h)
theorem inc_foldk (hs : ByteArray → Int) (ts : List ByteArray) : Inc (foldk hs ts) := inc_foldl hs ts [] List.Pairwise.nil
theorem rdOf_at (ts : List ByteArray) (j : Nat) (h : j < ts.length) : rdOf ByteArray.empty ts (j : Int) = ts[j] := by
  unfold rdOf
  rw [Int.toNat_natCast, List.getD_eq_getElem?_getD, List.getElem?_eq_getElem h]; rfl
theorem take_snoc (ts : List ByteArray) (j : Nat) (h : j < ts.length) : ts.take (j + 1) = ts.take j ++ [rdOf ByteArray.empty ts (j : Int)] := by
  rw [rdOf_at ts j h, List.take_add_one, List.getElem?_eq_getElem h]; rfl

theorem Sk_nil {p Kn : Nat} {sd : Int} {N : Nat} {w : World} {L : List Res} (h : St N w (Blk p #[.int .i64 Kn, .int .i64 sd, .slice none 0 0, .bool false] 59 :: L)) : St N w (Sk p Kn sd [] :: L) := by
  have h2 := (h.rowNil (d := k52) (e := 52)).swap
  refine Sk_shut (v := .slice none 0 0) ?_
  rw [show decide (Kn < ([] : List S52).length) = false by simp, List.take_nil]
  exact h2

theorem bottomk_Of.ok (k k2 : Nat) (hs : ByteArray → Int) (Kn : Nat) (hK1 : 1 ≤ Kn) (hK : Kn ≤ 1024) (sd : Int) (h0 : 0 ≤ sd) (h1 : sd ≤ 1048576) (ts : List ByteArray) (hts : ts.length ≤ 1000000) (hok : ∀ t ∈ ts, bottomk_check.f k t = some 0 ∧ checksum_Text.f k2 sd t = some (hs t))
    (vt : Value) {N : Nat} {w : World} {L : List Res} (HS0 : St N w (Row Kd.string 9 vt ts :: L)) :
    Calls Try.prog 25 #[.int .i64 Kn, .int .i64 sd, vt] w fun e w' => ∃ p : Nat, e = .returned (.tuple #[.pointer (some ⟨p, 0, none⟩), .int .i64 0]) ∧ St N w' (Sk p Kn sd (foldk hs ts) :: Row Kd.string 9 vt ts :: L) ∧ Below N w w' := by
  obtain ⟨A, c, hv, hc, _⟩ := HS0.reads
  subst hv
  have HS := Aside0.mk HS0
  have HB := Aside0.mk (Below.refl N w)
  have HOK := Aside0.mk hok
  clear HS0 hok
  go_enter Try.func25, Try.ntmps25
  go_wp2_with (first | ((with_reducible refine gate_callee (f := 20) rfl ?_); refine goesL_ (some 16) rfl rfl Try.func20 (by kernel_rfl) rfl #[.int .i64 Kn, .int .i64 sd] rfl (by (try simp only [List.map_toArray, List.map_cons, List.map_nil]); first | done | rfl | (simp only [List.length_drop, List.length_take]; rfl)) ?_; (with_reducible refine (bottomk_New.ok Kn sd (by omega) (by omega) h0 h1 HS.out).mono ?_); rintro e w1 ⟨p, rfl, hs, hb⟩; refine ⟨_, rfl, ?_⟩; have n0_ := Aside0.mk (Sk_nil hs); have n1_ := Aside0.mk (HB.out.trans hb); clear HS HB; have HS := n0_; have HB := n1_; clear n0_ n1_; (try simp only [List.eraseIdx_cons_succ, List.eraseIdx_cons_zero] at HS); clear hs hb))
  go_loopw [24] (fun v24 wc => ∃ j : Nat, j ≤ ts.length ∧ v24 = .int .i64 j ∧ Aside0 (St N wc (Sk p Kn sd (foldk hs (ts.take j)) :: Row Kd.string 9 (.slice A ts.length c) ts :: L)) ∧ Aside0 (Below N w wc)) (fun v24 _ => (ts.length - intOf v24).toNat)
  case atStart => exact ⟨0, by omega, rfl, HS, HB⟩
  case round =>
    clear HS HB
    obtain ⟨j, hj, rfl, HS, HB⟩ := hrel
    by_cases hlt : j < ts.length
    · have hmem : rdOf ByteArray.empty ts (j : Int) ∈ ts := by rw [rdOf_at ts j (by omega)]; exact List.getElem_mem _
      have hck := Aside0.mk (HOK.out _ hmem).1
      have htx := Aside0.mk (HOK.out _ hmem).2
      clear hmem
      have hc2 := ((HS.out.swap.rowC).2.2)
      obtain ⟨ad, e, hx⟩ := Kd.at_string hc2 (j : Int) (by omega) (by omega)
      clear hc2
      cases e
      rw [Int.toNat_natCast] at hx
      have q1 : (0 : Int) ≤ (j : Int) := by omega
      have q2 : (j : Int) < (ts.length : Int) := by omega
      go_wp2_with (first | ((with_reducible refine gate_callee (f := 23) rfl ?_); refine goesL_ (some 30) rfl rfl Try.func23 (by kernel_rfl) rfl #[.pointer (some ⟨p, 0, none⟩), .string (rdOf ByteArray.empty ts (j : Int))] rfl (by (try simp only [List.map_toArray, List.map_cons, List.map_nil]); first | done | rfl | (simp only [List.length_drop, List.length_take]; rfl)) ?_; (with_reducible refine (bottomk_Add.ok k k2 _ hck.out _ sd htx.out Kn (by omega) (foldk hs (ts.take j)) (inc_foldk _ _) p HS.out).mono ?_); rintro e w3 ⟨rfl, hs1, hb⟩; refine ⟨_, rfl, ?_⟩; have n0_ := Aside0.mk (hs1); have n1_ := Aside0.mk (HB.out.trans hb); clear HS HB; have HS := n0_; have HB := n1_; clear n0_ n1_; (try simp only [List.eraseIdx_cons_succ, List.eraseIdx_cons_zero] at HS); clear hs1 hb))
      go_roundw
      case rel => exact ⟨j + 1, by omega, by go_num, Aside0.mk (by rw [take_snoc ts j (by omega), foldk_snoc]; exact HS.out), HB⟩
      case measure => simp [intOf]; omega
    ·
      obtain rfl : j = ts.length := by omega
      have hlt : ¬ ((ts.length : Int) < (ts.length : Int)) := by omega
      go_wp2
      go_ret2
      exact ⟨p, rfl, by have := HS.out; rwa [List.take_length] at this, HB.out⟩

theorem bottomk_Of.bad (k k2 : Nat) (hs : ByteArray → Int) (Kn : Nat) (hK1 : 1 ≤ Kn) (hK : Kn ≤ 1024) (sd : Int) (h0 : 0 ≤ sd) (h1 : sd ≤ 1048576) (ts : List ByteArray) (hts : ts.length ≤ 1000000) (m : Nat) (hm : m < ts.length) (hok : ∀ t ∈ ts.take m, bottomk_check.f k t = some 0 ∧ checksum_Text.f k2 sd t = some (hs t)) (r : Int) (hr0 : r ≠ 0) (hbad : bottomk_check.f k (rdOf ByteArray.empty ts (m : Int)) = some r)
    (vt : Value) {N : Nat} {w : World} {L : List Res} (HS0 : St N w (Row Kd.string 9 vt ts :: L)) :
    Calls Try.prog 25 #[.int .i64 Kn, .int .i64 sd, vt] w fun e w' => e = .returned (.tuple #[.pointer none, .int .i64 r]) ∧ St N w' (Row Kd.string 9 vt ts :: L) ∧ Below N w w' := by
  obtain ⟨A, c, hv, hc, _⟩ := HS0.reads
  subst hv
  have HS := Aside0.mk HS0
  have HB := Aside0.mk (Below.refl N w)
  have HOK := Aside0.mk hok
  have HBAD := Aside0.mk hbad
  clear hbad
  clear HS0 hok
  go_enter Try.func25, Try.ntmps25
  go_wp2_with (first | ((with_reducible refine gate_callee (f := 20) rfl ?_); refine goesL_ (some 16) rfl rfl Try.func20 (by kernel_rfl) rfl #[.int .i64 Kn, .int .i64 sd] rfl (by (try simp only [List.map_toArray, List.map_cons, List.map_nil]); first | done | rfl | (simp only [List.length_drop, List.length_take]; rfl)) ?_; (with_reducible refine (bottomk_New.ok Kn sd (by omega) (by omega) h0 h1 HS.out).mono ?_); rintro e w1 ⟨p, rfl, hs, hb⟩; refine ⟨_, rfl, ?_⟩; have n0_ := Aside0.mk (Sk_nil hs); have n1_ := Aside0.mk (HB.out.trans hb); clear HS HB; have HS := n0_; have HB := n1_; clear n0_ n1_; (try simp only [List.eraseIdx_cons_succ, List.eraseIdx_cons_zero] at HS); clear hs hb))
  go_loopw [24] (fun v24 wc => ∃ j : Nat, j ≤ m ∧ v24 = .int .i64 j ∧ Aside0 (St N wc (Sk p Kn sd (foldk hs (ts.take j)) :: Row Kd.string 9 (.slice A ts.length c) ts :: L)) ∧ Aside0 (Below N w wc)) (fun v24 _ => (ts.length - intOf v24).toNat)
  case atStart => exact ⟨0, by omega, rfl, HS, HB⟩
  case round =>
    clear HS HB
    obtain ⟨j, hj, rfl, HS, HB⟩ := hrel
    by_cases hlt : j < m
    · have hmem : rdOf ByteArray.empty ts (j : Int) ∈ ts.take m := by rw [rdOf_at ts j (by omega)]; exact List.mem_take_iff_getElem.mpr ⟨j, by omega, rfl⟩
      have hck := Aside0.mk (HOK.out _ hmem).1
      have htx := Aside0.mk (HOK.out _ hmem).2
      clear hmem
      have hc2 := ((HS.out.swap.rowC).2.2)
      obtain ⟨ad, e, hx⟩ := Kd.at_string hc2 (j : Int) (by omega) (by omega)
      clear hc2
      cases e
      rw [Int.toNat_natCast] at hx
      have q1 : (0 : Int) ≤ (j : Int) := by omega
      have q2 : (j : Int) < (ts.length : Int) := by omega
      go_wp2_with (first | ((with_reducible refine gate_callee (f := 23) rfl ?_); refine goesL_ (some 30) rfl rfl Try.func23 (by kernel_rfl) rfl #[.pointer (some ⟨p, 0, none⟩), .string (rdOf ByteArray.empty ts (j : Int))] rfl (by (try simp only [List.map_toArray, List.map_cons, List.map_nil]); first | done | rfl | (simp only [List.length_drop, List.length_take]; rfl)) ?_; (with_reducible refine (bottomk_Add.ok k k2 _ hck.out _ sd htx.out Kn (by omega) (foldk hs (ts.take j)) (inc_foldk _ _) p HS.out).mono ?_); rintro e w3 ⟨rfl, hs1, hb⟩; refine ⟨_, rfl, ?_⟩; have n0_ := Aside0.mk (hs1); have n1_ := Aside0.mk (HB.out.trans hb); clear HS HB; have HS := n0_; have HB := n1_; clear n0_ n1_; (try simp only [List.eraseIdx_cons_succ, List.eraseIdx_cons_zero] at HS); clear hs1 hb))
      go_roundw
      case rel => exact ⟨j + 1, by omega, by go_num, Aside0.mk (by rw [take_snoc ts j (by omega), foldk_snoc]; exact HS.out), HB⟩
      case measure => simp [intOf]; omega
    ·
      obtain rfl : j = m := by omega
      have hc2 := ((HS.out.swap.rowC).2.2)
      obtain ⟨ad, e, hx⟩ := Kd.at_string hc2 (j : Int) (by omega) (by omega)
      clear hc2
      cases e
      rw [Int.toNat_natCast] at hx
      have q1 : (0 : Int) ≤ (j : Int) := by omega
      have q2 : (j : Int) < (ts.length : Int) := by omega
      go_wp2_with (first | ((with_reducible refine gate_callee (f := 23) rfl ?_); refine goesL_ (some 30) rfl rfl Try.func23 (by kernel_rfl) rfl #[.pointer (some ⟨p, 0, none⟩), .string (rdOf ByteArray.empty ts (j : Int))] rfl (by (try simp only [List.map_toArray, List.map_cons, List.map_nil]); first | done | rfl | (simp only [List.length_drop, List.length_take]; rfl)) ?_; (with_reducible refine (bottomk_Add.bad k _ r hr0 HBAD.out p HS.out).mono ?_); rintro e w3 ⟨rfl, hs1, hb⟩; refine ⟨_, rfl, ?_⟩; have n0_ := Aside0.mk (hs1); have n1_ := Aside0.mk (HB.out.trans hb); clear HS HB; have HS := n0_; have HB := n1_; clear n0_ n1_; (try simp only [List.eraseIdx_cons_succ, List.eraseIdx_cons_zero] at HS); clear hs1 hb))
      go_ret2
      exact ⟨rfl, HS.out.drop, HB.out⟩

end Go.Proofs.Ytddhpkobingmhaa.PB
