/- The first example. -/
import Derived.Test.YtddhpkobingmhaaTxt
namespace Go.Proofs.Ytddhpkobingmhaa.PB
open Go.RowKit Go.Proofs.YtddhpkobingmhaaW.PrintWords Go.Proofs.YtddhpkobingmhaaW.PrintLast Go.Proofs.YtddhpkobingmhaaW.PrintMore Go.Proofs.Ytddhpkobingmhaa.Sep
set_option linter.unusedVariables false
set_option linter.unusedSimpArgs false
set_option maxHeartbeats 8000000
set_option maxRecDepth 100000

theorem bottomk_Distinct.exact (a b : Int) (A : Option Addr) (n c : Nat) (p : Nat) (w : World) (hp : w.heap[p]? = some (.cells #[.int .i64 a, .int .i64 b, .slice A n c, .bool false] 59 (0, 0))) :
    Calls Try.prog 16 #[.pointer (some ⟨p, 0, none⟩)] w fun e w' => e = .returned (.int .i64 n) ∧ w' = w := by
  have hc2 : w.cell? ⟨p, 2, none⟩ = some (.slice A n c) := (blk_cell hp 2).trans rfl
  have hc3 : w.cell? ⟨p, 3, none⟩ = some (.bool false) := (blk_cell hp 3).trans rfl
  clear hp
  go_enter Try.func16, Try.ntmps16
  go_wp2
  go_ret
  exact ⟨rfl, rfl⟩
theorem mem_length {x : S52} {l : List S52} (hI : Inc l) : (ins x l).length = if x ∈ l then l.length else l.length + 1 := by
  rw [length_ins]
  by_cases h : x ∈ l
  · rw [if_pos h, if_pos (mem_hit x l hI h)]
  · rw [if_neg h, if_neg (fun hh => h (hit_mem x l hh))]
@[reducible] def tA : ByteArray := ⟨#[97]⟩
@[reducible] def tB : ByteArray := ⟨#[98]⟩
@[reducible] def tC : ByteArray := ⟨#[99]⟩
theorem chkA : bottomk_check.f 8 tA = some 0 := by kernel_rfl
theorem chkB : bottomk_check.f 8 tB = some 0 := by kernel_rfl
theorem chkC : bottomk_check.f 8 tC = some 0 := by kernel_rfl
theorem hashA (a : Int) : checksum_Text.f 8 a tA = some (hashT a tA) := hash_ok a tA (by decide) 8 (by decide)
theorem hashB (a : Int) : checksum_Text.f 8 a tB = some (hashT a tB) := hash_ok a tB (by decide) 8 (by decide)
theorem hashC (a : Int) : checksum_Text.f 8 a tC = some (hashT a tC) := hash_ok a tC (by decide) 8 (by decide)
theorem neAB : tA ≠ tB := by decide
theorem neAC : tA ≠ tC := by decide
theorem neBC : tB ≠ tC := by decide
theorem key_ne {a b : Int} {s t : ByteArray} (h : s ≠ t) : (⟨a, s⟩ : S52) ≠ ⟨b, t⟩ := fun e => h (congrArg S52.f1 e)
theorem len3 : (foldk (hashT 5) [tA, tB, tA]).length = 2 := by
  have h0 := inc_foldk (hashT 5) []
  have h1 := inc_foldk (hashT 5) [tA]
  have h2 := inc_foldk (hashT 5) [tA, tB]
  show (ins ⟨hashT 5 tA, tA⟩ (foldk (hashT 5) [tA, tB])).length = 2
  rw [mem_length h2, if_pos (by show _ ∈ ins ⟨hashT 5 tB, tB⟩ (ins ⟨hashT 5 tA, tA⟩ []); rw [mem_ins, mem_ins]; simp)]
  show (ins ⟨hashT 5 tB, tB⟩ (foldk (hashT 5) [tA])).length = 2
  rw [mem_length h1, if_neg (by show ¬ _ ∈ ins ⟨hashT 5 tA, tA⟩ []; rw [mem_ins]; simp [key_ne neAB.symm])]
  rfl
theorem len4 : (ins ⟨hashT 5 tC, tC⟩ (foldk (hashT 5) [tA, tB, tA])).length = 3 := by
  rw [mem_length (inc_foldk _ _), len3, if_neg]
  show ¬ _ ∈ ins ⟨hashT 5 tA, tA⟩ (ins ⟨hashT 5 tB, tB⟩ (ins ⟨hashT 5 tA, tA⟩ []))
  rw [mem_ins, mem_ins, mem_ins]
  simp [key_ne neAC.symm, key_ne neBC.symm]

/-- Keys of a sketch: a row of its own beside it. -/
theorem Keys_sk (Kn : Nat) (sd : Int) (l : List S52) (A : Option Addr) (n c : Nat) (m : Bool) (p : Nat) (hK : Kn ≤ 1024) {N : Nat} {w : World} {L : List Res} (HS : St N w (Blk p #[.int .i64 Kn, .int .i64 sd, .slice A n c, .bool m] 59 :: Row k52 52 (.slice A n c) (l.take Kn) :: L)) :
    Calls Try.prog 36 #[.pointer (some ⟨p, 0, none⟩)] w fun e w' => ∃ v, e = .returned v ∧ St N w' (Row k52 52 v (l.take Kn) :: Blk p #[.int .i64 Kn, .int .i64 sd, .slice A n c, .bool m] 59 :: Row k52 52 (.slice A n c) (l.take Kn) :: L) ∧ Below N w w' := by
  obtain ⟨hn, hc, hC⟩ := HS.swap.rowC
  subst hn
  refine bottomk_Keys.ok _ _ A c (l.take Kn) m p HS.blk (by rw [List.length_take]; omega) ?_ hC HS
  rintro rfl
  rcases St.open_row flatK HS.swap with ⟨e1, h1⟩ | ⟨g, cap, cur, e1, _⟩
  · simp at e1; exact ⟨h1, e1.2⟩
  · cases e1
theorem known_ok {N : Nat} {w : World} {L : List Res} (HS0 : St N w L) :
    Calls Try.prog 13 #[] w fun e w' => e = .returned (.bool true) ∧ St N w' L ∧ Below N w w' := by
  have HS := Aside0.mk HS0
  have HB := Aside0.mk (Below.refl N w)
  clear HS0
  have ok3 : ∀ t ∈ [tA, tB, tA], bottomk_check.f 8 t = some 0 ∧ checksum_Text.f 8 5 t = some (hashT 5 t) := by
    intro t ht
    simp only [List.mem_cons, List.not_mem_nil, or_false] at ht
    rcases ht with rfl | rfl | rfl
    · exact ⟨chkA, hashA 5⟩
    · exact ⟨chkB, hashB 5⟩
    · exact ⟨chkA, hashA 5⟩
  have d3 : decide (2 < (foldk (hashT 5) [tA, tB, tA]).length) = false := by rw [len3]; rfl
  have l3 : ((foldk (hashT 5) [tA, tB, tA]).take 2).length = 2 := by rw [List.length_take, len3]; rfl
  have d4 : decide (2 < (ins ⟨hashT 5 tC, tC⟩ (foldk (hashT 5) [tA, tB, tA])).length) = true := by rw [len4]; rfl
  have l4 : ((ins ⟨hashT 5 tC, tC⟩ (foldk (hashT 5) [tA, tB, tA])).take 2).length = 2 := by rw [List.length_take, len4]; rfl
  replace ok3 := Aside0.mk ok3
  replace d3 := Aside0.mk d3
  replace l3 := Aside0.mk l3
  replace d4 := Aside0.mk d4
  replace l4 := Aside0.mk l4
  go_enter Try.func13, Try.ntmps13
  go_wp2_with (first | ((with_reducible refine gate_dst (N := 5) rfl ?_); refine S_lit Kd.string 9 ?hg (Nt := 5) ?hd (xs := [tA, tB, tA]) (inner := [.string tA, .string tB, .string tA]) ?hr ?hp HS.out (by simp) ?_; (case hd => rfl); (case hg => rfl); (case hr => first | (go_simp; done) | (go_simp; rfl)); (case hp => exact Reps.one (show Kd.M Kd.string _ _ _ tA [.string tA] from rfl) (Reps.one (show Kd.M Kd.string _ _ _ tB [.string tB] from rfl) (Reps.one (show Kd.M Kd.string _ _ _ tA [.string tA] from rfl) (Reps.none _ _)))); intro v0 w1 hs hb; have n0_ := Aside0.mk (hs); have n1_ := Aside0.mk (below_step' HB.out HS.out.size hb); clear HS HB; have HS := n0_; have HB := n1_; clear n0_ n1_; (try simp only [List.eraseIdx_cons_succ, List.eraseIdx_cons_zero] at HS); clear hs hb) | ((with_reducible refine gate_callee (f := 25) rfl ?_); refine goesL_ (some 6) rfl rfl Try.func25 (by kernel_rfl) rfl #[.int .i64 ((2 : Nat) : Int), .int .i64 5, v0] rfl (by (try simp only [List.map_toArray, List.map_cons, List.map_nil]); first | done | rfl | (simp only [List.length_drop, List.length_take]; rfl)) ?_; (with_reducible refine (bottomk_Of.ok 8 8 (hashT 5) 2 (by omega) (by omega) 5 (by omega) (by omega) [tA, tB, tA] (by simp) ok3.out v0 HS.out).mono ?_); rintro e w2 ⟨p, rfl, hs, hb⟩; refine ⟨_, rfl, ?_⟩; have n0_ := Aside0.mk (hs); have n1_ := Aside0.mk (HB.out.trans hb); clear HS HB; have HS := n0_; have HB := n1_; clear n0_ n1_; (try simp only [List.eraseIdx_cons_succ, List.eraseIdx_cons_zero] at HS); clear hs hb; obtain ⟨v1, hv1⟩ := Sk_open HS.out; rw [d3.out] at hv1; obtain ⟨A1, c1, e1, hcc1, hC1⟩ := hv1.swap.reads; rw [l3.out] at e1; subst e1; clear HS; have HS := Aside0.mk hv1; clear hv1) | (go_at_call 19; refine (bottomk_Exact.ok _ _ _ _ p _ HS.out.blk).mono ?_; rintro e w' ⟨rfl, rfl⟩; have n0_ := Aside0.mk (HS.out); have n1_ := Aside0.mk (HB.out); clear HS HB; have HS := n0_; have HB := n1_; clear n0_ n1_; (try simp only [List.eraseIdx_cons_succ, List.eraseIdx_cons_zero] at HS)) | (go_at_call 16; refine (bottomk_Distinct.exact _ _ _ _ _ p _ HS.out.blk).mono ?_; rintro e w' ⟨rfl, rfl⟩; have n0_ := Aside0.mk (HS.out); have n1_ := Aside0.mk (HB.out); clear HS HB; have HS := n0_; have HB := n1_; clear n0_ n1_; (try simp only [List.eraseIdx_cons_succ, List.eraseIdx_cons_zero] at HS)) | ((with_reducible refine gate_callee (f := 23) rfl ?_); refine goesL_ (some 26) rfl rfl Try.func23 (by kernel_rfl) rfl #[.pointer (some ⟨p, 0, none⟩), .string tC] rfl (by (try simp only [List.map_toArray, List.map_cons, List.map_nil]); first | done | rfl | (simp only [List.length_drop, List.length_take]; rfl)) ?_; (with_reducible refine (bottomk_Add.ok 8 8 tC chkC (hashT 5 tC) 5 (hashC 5) 2 (by omega) (foldk (hashT 5) [tA, tB, tA]) (inc_foldk _ _) p (Sk_shut (by rw [d3.out]; exact HS.out))).mono ?_); rintro e w4 ⟨rfl, hs, hb⟩; refine ⟨_, rfl, ?_⟩; have n0_ := Aside0.mk (hs); have n1_ := Aside0.mk (HB.out.trans hb); clear HS HB; have HS := n0_; have HB := n1_; clear n0_ n1_; (try simp only [List.eraseIdx_cons_succ, List.eraseIdx_cons_zero] at HS); clear hs hb; obtain ⟨v2, hv2⟩ := Sk_open HS.out; rw [d4.out] at hv2; obtain ⟨A2, c2, e2, hcc2, hC2⟩ := hv2.swap.reads; rw [l4.out] at e2; subst e2; clear HS; have HS := Aside0.mk hv2; clear hv2) | (go_at_call 19; refine (bottomk_Exact.ok _ _ _ _ p _ HS.out.blk).mono ?_; rintro e w' ⟨rfl, rfl⟩; have n0_ := Aside0.mk (HS.out); have n1_ := Aside0.mk (HB.out); clear HS HB; have HS := n0_; have HB := n1_; clear n0_ n1_; (try simp only [List.eraseIdx_cons_succ, List.eraseIdx_cons_zero] at HS)) | (go_at_call 18; refine (bottomk_Least.ok _ _ A2 2 c2 (by omega) _ p _ HS.out.blk).mono ?_; rintro e w' ⟨rfl, rfl⟩; have n0_ := Aside0.mk (HS.out); have n1_ := Aside0.mk (HB.out); clear HS HB; have HS := n0_; have HB := n1_; clear n0_ n1_; (try simp only [List.eraseIdx_cons_succ, List.eraseIdx_cons_zero] at HS)) | (go_at_call 36; refine (Keys_sk 2 5 (ins ⟨hashT 5 tC, tC⟩ (foldk (hashT 5) [tA, tB, tA])) A2 2 c2 true p (by omega) HS.out).mono ?_; rintro e w7 ⟨v9, rfl, hs, hb⟩; have n0_ := Aside0.mk (hs); have n1_ := Aside0.mk (HB.out.trans hb); clear HS HB; have HS := n0_; have HB := n1_; clear n0_ n1_; (try simp only [List.eraseIdx_cons_succ, List.eraseIdx_cons_zero] at HS); clear hs hb; obtain ⟨A9, c9, e9, _, _⟩ := HS.out.reads; rw [l4.out] at e9; subst e9))
  go_ret
  exact ⟨rfl, HS.out.drop.drop.drop.drop, HB.out⟩

end Go.Proofs.Ytddhpkobingmhaa.PB
