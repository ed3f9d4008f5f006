/- slices.Collect and slices.SortedFunc over slices.Values: the events in order, in a row of the call's own. -/
import Derived.Test.YtcjfgejiknlpfaaSq1
import Derived.Test.YtcjfgejiknlpfaaSq3
namespace Go.Proofs.Ytcjfgejiknlpfaa.PI
open Go.RowKit Go.Shelf Go.Proofs.YtcjfgejiknlpfaaW.PrintWords Go.Proofs.YtcjfgejiknlpfaaW.PrintLast Go.Proofs.YtcjfgejiknlpfaaW.PrintMore Go.Proofs.Ytcjfgejiknlpfaa.Sep
set_option linter.unusedVariables false
set_option linter.unusedSimpArgs false
set_option maxHeartbeats 8000000
set_option maxRecDepth 100000
theorem evCs_is : ∀ l : List S27, evCs l = Sep.encs enc27 l
  | [] => rfl
  | x :: l => by rw [evCs, Sep.encs, evCs_is l]; rfl
theorem values_ok {N : Nat} {w : World} {L : List Res} (A : Option Addr) (n c : Nat) (HS : St N w L) :
    Calls Try.prog 42 #[.slice A n c] w fun e w' => ∃ B, e = .returned (.func (.func 65) #[] #[.pointer (some ⟨B, 0, none⟩)]) ∧ St N w' (Blk B #[.slice A n c] 30 :: L) ∧ Below N w w' := by
  refine (callsIn_wide.1 (values_in Fence.wide 5 trivial rfl A n c w)).mono ?_
  rintro e w' ⟨rfl, rfl⟩
  exact ⟨_, rfl, HS.box rfl (new_cells w _ _) ((Below.refl _ _).alloc (Nat.le_refl _) _), (Below.refl _ _).alloc HS.size _⟩
theorem appendSeq_ok {N : Nat} {w : World} {L : List Res} (B : Nat) (A : Option Addr) (c : Nat) (zs : List S27) (hm : zs.length ≤ 1000000) (HS : St N w (Blk B #[.slice A zs.length c] 30 :: L)) (hI : Kd.C k27 w A zs.length zs) :
    Calls Try.prog 76 #[.slice none 0 0, .func (.func 65) #[] #[.pointer (some ⟨B, 0, none⟩)]] w fun e w' => ∃ v, e = .returned v ∧ St N w' (Row k27 27 v zs :: Blk B #[.slice A zs.length c] 30 :: L) ∧ Below N w w' := by
  refine (callsIn_wide.1 (appendSeq_in Fence.wide 8 trivial trivial rfl (by omega) B A c zs hm w (blk_lt HS.blk) (HS.cell 0) (fun W1 h1 => Kd.C_below hI h1))).mono ?_
  rintro e w' ⟨v, rfl, hr, hb⟩
  refine ⟨v, rfl, HS.made (ok := fun _ => True) ⟨fun k hk => trivial, evCs zs, hr, ?_⟩ hb, hb.mono HS.size⟩
  rw [evCs_is]
  exact reps_encs flat27 (fun y => flat27.M _ _ _ y) zs

theorem collect_ok {N : Nat} {w : World} {L : List Res} (B : Nat) (A : Option Addr) (c : Nat) (zs : List S27) (hm : zs.length ≤ 1000000) (HS0 : St N w (Blk B #[.slice A zs.length c] 30 :: L)) (hI : Kd.C k27 w A zs.length zs) :
    Calls Try.prog 63 #[.func (.func 65) #[] #[.pointer (some ⟨B, 0, none⟩)]] w fun e w' => ∃ v, e = .returned v ∧ St N w' (Row k27 27 v zs :: Blk B #[.slice A zs.length c] 30 :: L) ∧ Below N w w' := by
  have HS := Aside0.mk HS0
  have HB := Aside0.mk (Below.refl N w)
  have HI := Aside0.mk hI
  clear HS0 hI
  go_enter Try.func63, Try.ntmps63
  go_wp2_with (first | ((with_reducible refine gate_callee (f := 76) rfl ?_); refine goesL_ (some 4) rfl rfl Try.func76 (by kernel_rfl) rfl #[.slice none 0 0, .func (.func 65) #[] #[.pointer (some ⟨B, 0, none⟩)]] rfl (by (try simp only [List.map_toArray, List.map_cons, List.map_nil]); first | done | rfl | (simp only [List.length_drop, List.length_take]; rfl)) ?_; (with_reducible refine (appendSeq_ok B A c zs hm HS.out HI.out).mono ?_); rintro e w1 ⟨v1, rfl, hs, hb⟩; refine ⟨_, rfl, ?_⟩; have n0_ := Aside0.mk (hs); have n1_ := Aside0.mk (HB.out.trans hb); clear HS HB; have HS := n0_; have HB := n1_; clear n0_ n1_; (try simp only [List.eraseIdx_cons_succ, List.eraseIdx_cons_zero] at HS); clear hs hb HI))
  go_ret
  exact ⟨_, rfl, HS.out, HB.out⟩

theorem sorted_ok {N : Nat} {w : World} {L : List Res} (B : Nat) (A : Option Addr) (c : Nat) (zs : List S27) (hm : zs.length ≤ 1000000) (HS0 : St N w (Blk B #[.slice A zs.length c] 30 :: L)) (hI : Kd.C k27 w A zs.length zs) :
    Calls Try.prog 41 #[.func (.func 65) #[] #[.pointer (some ⟨B, 0, none⟩)], .func (.func 12) #[] #[]] w fun e w' => ∃ v, e = .returned v ∧ St N w' (Row k27 27 v (srt zs) :: L) ∧ Below N w w' := by
  have HS := Aside0.mk HS0
  have HB := Aside0.mk (Below.refl N w)
  have HI := Aside0.mk hI
  clear HS0 hI
  go_enter Try.func41, Try.ntmps41
  go_wp2_with (first | ((with_reducible refine gate_callee (f := 63) rfl ?_); refine goesL_ (some 7) rfl rfl Try.func63 (by kernel_rfl) rfl #[.func (.func 65) #[] #[.pointer (some ⟨B, 0, none⟩)]] rfl (by (try simp only [List.map_toArray, List.map_cons, List.map_nil]); first | done | rfl | (simp only [List.length_drop, List.length_take]; rfl)) ?_; (with_reducible refine (collect_ok B A c zs hm HS.out HI.out).mono ?_); rintro e w1 ⟨v1, rfl, hs, hb⟩; refine ⟨_, rfl, ?_⟩; have n0_ := Aside0.mk (hs); have n1_ := Aside0.mk (HB.out.trans hb); clear HS HB; have HS := n0_; have HB := n1_; clear n0_ n1_; (try simp only [List.eraseIdx_cons_succ, List.eraseIdx_cons_zero] at HS); clear hs hb HI) | ((with_reducible refine gate_callee (f := 64) rfl ?_); refine goesL_ (some 10) rfl rfl Try.func64 (by kernel_rfl) rfl #[v1, .func (.func 12) #[] #[]] rfl (by (try simp only [List.map_toArray, List.map_cons, List.map_nil]); first | done | rfl | (simp only [List.length_drop, List.length_take]; rfl)) ?_; (with_reducible refine (sort_ok zs hm v1 HS.out).mono ?_); rintro e w2 ⟨rfl, hs, hb⟩; refine ⟨_, rfl, ?_⟩; have n0_ := Aside0.mk (hs); have n1_ := Aside0.mk (HB.out.trans hb); clear HS HB; have HS := n0_; have HB := n1_; clear n0_ n1_; (try simp only [List.eraseIdx_cons_succ, List.eraseIdx_cons_zero] at HS); clear hs hb))
  go_ret
  exact ⟨_, rfl, HS.out.swap.drop, HB.out⟩

end Go.Proofs.Ytcjfgejiknlpfaa.PI
