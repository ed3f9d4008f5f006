/- Texts of this claim, taken together: Txt, Sk8, Keys. -/
import Derived.Test.YtddhpkobingmhaaJ4
import Derived.Test.YtddhpkobingmhaaJ0
/-! # Txt -/
section
namespace Go.Proofs.Ytddhpkobingmhaa.PB
open Go.RowKit Go.Proofs.YtddhpkobingmhaaW.PrintWords
set_option linter.unusedVariables false
set_option linter.unusedSimpArgs false
set_option maxRecDepth 100000
theorem wrap64_small (n : Int) (h0 : 0 ≤ n) (h1 : n < 9223372036854775808) : wrap64 n = n := by unfold wrap64; omega
theorem text_l0 (s : ByteArray) (hs : s.size ≤ 1000000) : ∀ (m j : Nat) (x : Int), j + m = s.size → ∃ h, ∀ k, m + 1 ≤ k → checksum_Text.l0 k s x (s.size : Int) (j : Int) = some h
  | 0, j, x, hj => ⟨wrap64 (x / 4), fun k hk => by
    obtain ⟨k, rfl⟩ : ∃ q, k = q + 1 := ⟨k - 1, by omega⟩
    rw [checksum_Text.l0, if_neg (by omega)]⟩
  | m + 1, j, x, hj => by
    have hw : ∀ a b, checksum_Word.f a b = some ((checksum_Word.f a b).getD 0) := fun a b => rfl
    obtain ⟨h, ih⟩ := text_l0 s hs m (j + 1) ((checksum_Word.f x (IntKind.u64.wrap (bt s (j : Int)))).getD 0) (by omega)
    refine ⟨h, fun k hk => ?_⟩
    obtain ⟨k, rfl⟩ : ∃ q, k = q + 1 := ⟨k - 1, by omega⟩
    rw [checksum_Text.l0, if_pos (by omega), if_pos (by omega), if_pos (by omega), hw, Option.bind_some, wrap64_small _ (by omega) (by omega)]
    exact ih k (by omega)
/-- The hash of a text. -/
def hashT (a : Int) (s : ByteArray) : Int := (checksum_Text.f (s.size + 1) a s).getD 0
theorem hash_ok (a : Int) (s : ByteArray) (hs : s.size ≤ 1000000) (k : Nat) (hk : s.size + 1 ≤ k) : checksum_Text.f k a s = some (hashT a s) := by
  have hw : ∀ a b, checksum_Word.f a b = some ((checksum_Word.f a b).getD 0) := fun a b => rfl
  obtain ⟨h, ih⟩ := text_l0 s hs s.size 0 ((checksum_Word.f (IntKind.u64.wrap a) (IntKind.u64.wrap (s.size : Int))).getD 0) (by omega)
  have e : ∀ k, s.size + 1 ≤ k → checksum_Text.f k a s = some h := fun k hk => by
    unfold checksum_Text.f
    rw [hw, Option.bind_some]
    exact ih k hk
  rw [e k hk, hashT, e _ (Nat.le_refl _)]; rfl
theorem within_l0 (s : ByteArray) (hs : s.size ≤ 1000000) : ∀ (m j : Nat), j + m = s.size → ∃ b : Bool, ∀ k, m + 1 ≤ k → attribute_within.l0 k s 32 126 (s.size : Int) (j : Int) = some b ∧ sleuthlaw23_check.l0 k s (j : Int) = some (if b = true then 0 else 3)
  | 0, j, hj => ⟨true, fun k hk => by
    obtain ⟨k, rfl⟩ : ∃ q, k = q + 1 := ⟨k - 1, by omega⟩
    rw [attribute_within.l0, if_neg (by omega), sleuthlaw23_check.l0, if_neg (by omega)]
    exact ⟨rfl, rfl⟩⟩
  | m + 1, j, hj => by
    obtain ⟨b, ih⟩ := within_l0 s hs m (j + 1) (by omega)
    by_cases h1 : bt s (j : Int) < 32
    · refine ⟨false, fun k hk => ?_⟩
      obtain ⟨k, rfl⟩ : ∃ q, k = q + 1 := ⟨k - 1, by omega⟩
      rw [attribute_within.l0, if_pos (by omega), if_pos (by omega), if_pos (by omega), if_pos h1, sleuthlaw23_check.l0, if_pos (by omega), if_pos (by omega), if_pos h1]
      exact ⟨rfl, rfl⟩
    · by_cases h2 : bt s (j : Int) > 126
      · refine ⟨false, fun k hk => ?_⟩
        obtain ⟨k, rfl⟩ : ∃ q, k = q + 1 := ⟨k - 1, by omega⟩
        rw [attribute_within.l0, if_pos (by omega), if_pos (by omega), if_pos (by omega), if_neg h1, if_pos h2, sleuthlaw23_check.l0, if_pos (by omega), if_pos (by omega), if_neg h1, if_pos h2]
        exact ⟨rfl, rfl⟩
      · refine ⟨b, fun k hk => ?_⟩
        obtain ⟨k, rfl⟩ : ∃ q, k = q + 1 := ⟨k - 1, by omega⟩
        rw [attribute_within.l0, if_pos (by omega), if_pos (by omega), if_pos (by omega), if_neg h1, if_neg h2, sleuthlaw23_check.l0, if_pos (by omega), if_pos (by omega), if_neg h1, if_neg h2, wrap64_small _ (by omega) (by omega)]
        exact ih k (by omega)
/-- The code with which a text is refused; 0: it is not. -/
def chk (s : ByteArray) : Int := (bottomk_check.f (s.size + 2) s).getD 0
theorem chk_ok (s : ByteArray) (hs : s.size ≤ 1000000) (k : Nat) (hk : s.size + 2 ≤ k) : bottomk_check.f k s = some (chk s) ∧ sleuthlaw23_check.f k s = some (chk s) := by
  obtain ⟨b, ih⟩ := within_l0 s hs s.size 0 (by omega)
  obtain ⟨r, hr⟩ : ∃ r : Int, r = if (s.size : Int) > 4096 then 5 else if b = true then 0 else 3 := ⟨_, rfl⟩
  have e : ∀ k, s.size + 2 ≤ k → bottomk_check.f k s = some r ∧ sleuthlaw23_check.f k s = some r := fun k hk => by
    obtain ⟨h1, h2⟩ := ih k (by omega)
    replace h1 : attribute_within.l0 k s 32 126 (s.size : Int) 0 = some b := h1
    replace h2 : sleuthlaw23_check.l0 k s 0 = some (if b = true then 0 else 3) := h2
    have j0 : ∀ q : Bool, attribute_CheckValue.j0 k q 1 s 0 = some (if (s.size : Int) > 4096 then 5 else if q = true then 0 else 3) := fun q => by
      obtain ⟨k, rfl⟩ : ∃ q, k = q + 1 := ⟨k - 1, by omega⟩
      rw [attribute_CheckValue.j0]
      split
      · rfl
      · split <;> rfl
    constructor
    · unfold bottomk_check.f attribute_CheckValue.f attribute_within.f
      rw [if_pos rfl, h1, Option.bind_some, j0, j0, hr]
      cases b <;> simp
    · unfold sleuthlaw23_check.f
      rw [h2, hr]
      split <;> rfl
  have e2 : chk s = r := by rw [chk, (e _ (Nat.le_refl _)).1]; rfl
  rw [e2]
  exact e k hk
end Go.Proofs.Ytddhpkobingmhaa.PB
end

/-! # Sk8 -/
section
namespace Go.Proofs.Ytddhpkobingmhaa.PB
open Go.RowKit Go.Proofs.YtddhpkobingmhaaW.PrintWords Go.Proofs.YtddhpkobingmhaaW.PrintLast Go.Proofs.YtddhpkobingmhaaW.PrintMore Go.Proofs.Ytddhpkobingmhaa.Sep
set_option linter.unusedVariables false
set_option linter.unusedSimpArgs false
set_option maxHeartbeats 8000000
set_option maxRecDepth 100000

theorem bottomk_Distinct.exact (a b : Int) (A : Option Addr) (n c : Nat) (p : Nat) (w : World) (hp : w.heap[p]? = some (.cells #[.int .i64 a, .int .i64 b, .slice A n c, .bool false] 59 (0, 0))) :
    Calls Try.prog 16 #[.pointer (some ⟨p, 0, none⟩)] w fun e w' => e = .returned (.int .i64 n) ∧ w' = w := by
  have hc2 : w.cell? ⟨p, 2, none⟩ = some (.slice A n c) := (blk_cell hp 2).trans rfl
  have hc3 : w.cell? ⟨p, 3, none⟩ = some (.bool false) := (blk_cell hp 3).trans rfl
  clear hp
  go_enter Try.func16, Try.ntmps16
  go_wp2
  go_ret
  exact ⟨rfl, rfl⟩
theorem mem_length {x : S52} {l : List S52} (hI : Inc l) : (ins x l).length = if x ∈ l then l.length else l.length + 1 := by
  rw [length_ins]
  by_cases h : x ∈ l
  · rw [if_pos h, if_pos (mem_hit x l hI h)]
  · rw [if_neg h, if_neg (fun hh => h (hit_mem x l hh))]
@[reducible] def tA : ByteArray := ⟨#[97]⟩
@[reducible] def tB : ByteArray := ⟨#[98]⟩
@[reducible] def tC : ByteArray := ⟨#[99]⟩
theorem chkA : bottomk_check.f 8 tA = some 0 := by kernel_rfl
theorem chkB : bottomk_check.f 8 tB = some 0 := by kernel_rfl
theorem chkC : bottomk_check.f 8 tC = some 0 := by kernel_rfl
theorem hashA (a : Int) : checksum_Text.f 8 a tA = some (hashT a tA) := hash_ok a tA (by decide) 8 (by decide)
theorem hashB (a : Int) : checksum_Text.f 8 a tB = some (hashT a tB) := hash_ok a tB (by decide) 8 (by decide)
theorem hashC (a : Int) : checksum_Text.f 8 a tC = some (hashT a tC) := hash_ok a tC (by decide) 8 (by decide)
theorem neAB : tA ≠ tB := by decide
theorem neAC : tA ≠ tC := by decide
theorem neBC : tB ≠ tC := by decide
theorem key_ne {a b : Int} {s t : ByteArray} (h : s ≠ t) : (⟨a, s⟩ : S52) ≠ ⟨b, t⟩ := fun e => h (congrArg S52.f1 e)
theorem len3 : (foldk (hashT 5) [tA, tB, tA]).length = 2 := by
  have h0 := inc_foldk (hashT 5) []
  have h1 := inc_foldk (hashT 5) [tA]
  have h2 := inc_foldk (hashT 5) [tA, tB]
  show (ins ⟨hashT 5 tA, tA⟩ (foldk (hashT 5) [tA, tB])).length = 2
  rw [mem_length h2, if_pos (by show _ ∈ ins ⟨hashT 5 tB, tB⟩ (ins ⟨hashT 5 tA, tA⟩ []); rw [mem_ins, mem_ins]; simp)]
  show (ins ⟨hashT 5 tB, tB⟩ (foldk (hashT 5) [tA])).length = 2
  rw [mem_length h1, if_neg (by show ¬ _ ∈ ins ⟨hashT 5 tA, tA⟩ []; rw [mem_ins]; simp [key_ne neAB.symm])]
  rfl
theorem len4 : (ins ⟨hashT 5 tC, tC⟩ (foldk (hashT 5) [tA, tB, tA])).length = 3 := by
  rw [mem_length (inc_foldk _ _), len3, if_neg]
  show ¬ _ ∈ ins ⟨hashT 5 tA, tA⟩ (ins ⟨hashT 5 tB, tB⟩ (ins ⟨hashT 5 tA, tA⟩ []))
  rw [mem_ins, mem_ins, mem_ins]
  simp [key_ne neAC.symm, key_ne neBC.symm]

/-- Keys of a sketch: a row of its own beside it. -/
theorem Keys_sk (Kn : Nat) (sd : Int) (l : List S52) (A : Option Addr) (n c : Nat) (m : Bool) (p : Nat) (hK : Kn ≤ 1024) {N : Nat} {w : World} {L : List Res} (HS : St N w (Blk p #[.int .i64 Kn, .int .i64 sd, .slice A n c, .bool m] 59 :: Row k52 52 (.slice A n c) (l.take Kn) :: L)) :
    Calls Try.prog 36 #[.pointer (some ⟨p, 0, none⟩)] w fun e w' => ∃ v, e = .returned v ∧ St N w' (Row k52 52 v (l.take Kn) :: Blk p #[.int .i64 Kn, .int .i64 sd, .slice A n c, .bool m] 59 :: Row k52 52 (.slice A n c) (l.take Kn) :: L) ∧ Below N w w' := by
  obtain ⟨hn, hc, hC⟩ := HS.swap.rowC
  subst hn
  refine bottomk_Keys.ok _ _ A c (l.take Kn) m p HS.blk (by rw [List.length_take]; omega) ?_ hC HS
  rintro rfl
  rcases St.open_row flatK HS.swap with ⟨e1, h1⟩ | ⟨g, cap, cur, e1, _⟩
  · simp at e1; exact ⟨h1, e1.2⟩
  · cases e1
theorem known_ok {N : Nat} {w : World} {L : List Res} (HS0 : St N w L) :
    Calls Try.prog 13 #[] w fun e w' => e = .returned (.bool true) ∧ St N w' L ∧ Below N w w' := by
  have HS := Aside0.mk HS0
  have HB := Aside0.mk (Below.refl N w)
  clear HS0
  have ok3 : ∀ t ∈ [tA, tB, tA], bottomk_check.f 8 t = some 0 ∧ checksum_Text.f 8 5 t = some (hashT 5 t) := by
    intro t ht
    simp only [List.mem_cons, List.not_mem_nil, or_false] at ht
    rcases ht with rfl | rfl | rfl
    · exact ⟨chkA, hashA 5⟩
    · exact ⟨chkB, hashB 5⟩
    · exact ⟨chkA, hashA 5⟩
  have d3 : decide (2 < (foldk (hashT 5) [tA, tB, tA]).length) = false := by rw [len3]; rfl
  have l3 : ((foldk (hashT 5) [tA, tB, tA]).take 2).length = 2 := by rw [List.length_take, len3]; rfl
  have d4 : decide (2 < (ins ⟨hashT 5 tC, tC⟩ (foldk (hashT 5) [tA, tB, tA])).length) = true := by rw [len4]; rfl
  have l4 : ((ins ⟨hashT 5 tC, tC⟩ (foldk (hashT 5) [tA, tB, tA])).take 2).length = 2 := by rw [List.length_take, len4]; rfl
  replace ok3 := Aside0.mk ok3
  replace d3 := Aside0.mk d3
  replace l3 := Aside0.mk l3
  replace d4 := Aside0.mk d4
  replace l4 := Aside0.mk l4
  go_enter Try.func13, Try.ntmps13
  go_wp2_with (first | ((with_reducible refine gate_dst (N := 5) rfl ?_); refine S_lit Kd.string 9 ?hg (Nt := 5) ?hd (xs := [tA, tB, tA]) (inner := [.string tA, .string tB, .string tA]) ?hr ?hp HS.out (by simp) ?_; (case hd => rfl); (case hg => rfl); (case hr => first | (go_simp; done) | (go_simp; rfl)); (case hp => exact Reps.one (show Kd.M Kd.string _ _ _ tA [.string tA] from rfl) (Reps.one (show Kd.M Kd.string _ _ _ tB [.string tB] from rfl) (Reps.one (show Kd.M Kd.string _ _ _ tA [.string tA] from rfl) (Reps.none _ _)))); intro v0 w1 hs hb; have n0_ := Aside0.mk (hs); have n1_ := Aside0.mk (below_step' HB.out HS.out.size hb); clear HS HB; have HS := n0_; have HB := n1_; clear n0_ n1_; (try simp only [List.eraseIdx_cons_succ, List.eraseIdx_cons_zero] at HS); clear hs hb) | ((with_reducible refine gate_callee (f := 25) rfl ?_); refine goesL_ (some 6) rfl rfl Try.func25 (by kernel_rfl) rfl #[.int .i64 ((2 : Nat) : Int), .int .i64 5, v0] rfl (by (try simp only [List.map_toArray, List.map_cons, List.map_nil]); first | done | rfl | (simp only [List.length_drop, List.length_take]; rfl)) ?_; (with_reducible refine (bottomk_Of.ok 8 8 (hashT 5) 2 (by omega) (by omega) 5 (by omega) (by omega) [tA, tB, tA] (by simp) ok3.out v0 HS.out).mono ?_); rintro e w2 ⟨p, rfl, hs, hb⟩; refine ⟨_, rfl, ?_⟩; have n0_ := Aside0.mk (hs); have n1_ := Aside0.mk (HB.out.trans hb); clear HS HB; have HS := n0_; have HB := n1_; clear n0_ n1_; (try simp only [List.eraseIdx_cons_succ, List.eraseIdx_cons_zero] at HS); clear hs hb; obtain ⟨v1, hv1⟩ := Sk_open HS.out; rw [d3.out] at hv1; obtain ⟨A1, c1, e1, hcc1, hC1⟩ := hv1.swap.reads; rw [l3.out] at e1; subst e1; clear HS; have HS := Aside0.mk hv1; clear hv1) | (go_at_call 19; refine (bottomk_Exact.ok _ _ _ _ p _ HS.out.blk).mono ?_; rintro e w' ⟨rfl, rfl⟩; have n0_ := Aside0.mk (HS.out); have n1_ := Aside0.mk (HB.out); clear HS HB; have HS := n0_; have HB := n1_; clear n0_ n1_; (try simp only [List.eraseIdx_cons_succ, List.eraseIdx_cons_zero] at HS)) | (go_at_call 16; refine (bottomk_Distinct.exact _ _ _ _ _ p _ HS.out.blk).mono ?_; rintro e w' ⟨rfl, rfl⟩; have n0_ := Aside0.mk (HS.out); have n1_ := Aside0.mk (HB.out); clear HS HB; have HS := n0_; have HB := n1_; clear n0_ n1_; (try simp only [List.eraseIdx_cons_succ, List.eraseIdx_cons_zero] at HS)) | ((with_reducible refine gate_callee (f := 23) rfl ?_); refine goesL_ (some 26) rfl rfl Try.func23 (by kernel_rfl) rfl #[.pointer (some ⟨p, 0, none⟩), .string tC] rfl (by (try simp only [List.map_toArray, List.map_cons, List.map_nil]); first | done | rfl | (simp only [List.length_drop, List.length_take]; rfl)) ?_; (with_reducible refine (bottomk_Add.ok 8 8 tC chkC (hashT 5 tC) 5 (hashC 5) 2 (by omega) (foldk (hashT 5) [tA, tB, tA]) (inc_foldk _ _) p (Sk_shut (by rw [d3.out]; exact HS.out))).mono ?_); rintro e w4 ⟨rfl, hs, hb⟩; refine ⟨_, rfl, ?_⟩; have n0_ := Aside0.mk (hs); have n1_ := Aside0.mk (HB.out.trans hb); clear HS HB; have HS := n0_; have HB := n1_; clear n0_ n1_; (try simp only [List.eraseIdx_cons_succ, List.eraseIdx_cons_zero] at HS); clear hs hb; obtain ⟨v2, hv2⟩ := Sk_open HS.out; rw [d4.out] at hv2; obtain ⟨A2, c2, e2, hcc2, hC2⟩ := hv2.swap.reads; rw [l4.out] at e2; subst e2; clear HS; have HS := Aside0.mk hv2; clear hv2) | (go_at_call 19; refine (bottomk_Exact.ok _ _ _ _ p _ HS.out.blk).mono ?_; rintro e w' ⟨rfl, rfl⟩; have n0_ := Aside0.mk (HS.out); have n1_ := Aside0.mk (HB.out); clear HS HB; have HS := n0_; have HB := n1_; clear n0_ n1_; (try simp only [List.eraseIdx_cons_succ, List.eraseIdx_cons_zero] at HS)) | (go_at_call 18; refine (bottomk_Least.ok _ _ A2 2 c2 (by omega) _ p _ HS.out.blk).mono ?_; rintro e w' ⟨rfl, rfl⟩; have n0_ := Aside0.mk (HS.out); have n1_ := Aside0.mk (HB.out); clear HS HB; have HS := n0_; have HB := n1_; clear n0_ n1_; (try simp only [List.eraseIdx_cons_succ, List.eraseIdx_cons_zero] at HS)) | (go_at_call 36; refine (Keys_sk 2 5 (ins ⟨hashT 5 tC, tC⟩ (foldk (hashT 5) [tA, tB, tA])) A2 2 c2 true p (by omega) HS.out).mono ?_; rintro e w7 ⟨v9, rfl, hs, hb⟩; have n0_ := Aside0.mk (hs); have n1_ := Aside0.mk (HB.out.trans hb); clear HS HB; have HS := n0_; have HB := n1_; clear n0_ n1_; (try simp only [List.eraseIdx_cons_succ, List.eraseIdx_cons_zero] at HS); clear hs hb; obtain ⟨A9, c9, e9, _, _⟩ := HS.out.reads; rw [l4.out] at e9; subst e9))
  go_ret
  exact ⟨rfl, HS.out.drop.drop.drop.drop, HB.out⟩

end Go.Proofs.Ytddhpkobingmhaa.PB
end

/-! # Keys -/
section
namespace Go.Proofs.Ytddhpkobingmhaa.PB
open Go.RowKit Go.Proofs.YtddhpkobingmhaaW.PrintWords Go.Proofs.YtddhpkobingmhaaW.PrintLast Go.Proofs.YtddhpkobingmhaaW.PrintMore
set_option linter.unusedVariables false
set_option maxRecDepth 100000

def keyT (x : Int) : ByteArray := (⟨#[107]⟩ : ByteArray) ++ strOfNums ([(97 + (Int.tmod x 26)) % 256, (97 + ((Int.tdiv x 26) % 256)) % 256] : List Int)
theorem keyT_all : ∀ n : Fin 256, (keyT (n.val : Int)).size = 3 ∧ chk (keyT (n.val : Int)) = 0 ∧ (strOfNums ([(97 + (Int.tmod (n.val : Int) 26)) % 256, (97 + ((Int.tdiv (n.val : Int) 26) % 256)) % 256] : List Int)).size = 2 := by decide +kernel
theorem keyT_ok (x : Int) (h0 : 0 ≤ x) (h1 : x ≤ 255) : (keyT x).size = 3 ∧ chk (keyT x) = 0 ∧ (strOfNums ([(97 + (Int.tmod x 26)) % 256, (97 + ((Int.tdiv x 26) % 256)) % 256] : List Int)).size = 2 := by
  have := keyT_all ⟨x.toNat, by omega⟩
  have e : ((x.toNat : Nat) : Int) = x := by omega
  simpa only [e] using this
theorem keys_l0 (dl : List Int) (hd : ∀ x ∈ dl, 0 ≤ x ∧ x ≤ 255) : ∀ (m : Nat) (acc : List ByteArray) (i : Nat), i + m = min dl.length 40 → acc = (dl.take i).map keyT →
    sleuthlaw23_keys.l0 (m + 1) dl acc (i : Int) = some ((dl.take 40).map keyT)
  | 0, acc, i, hi, ha => by
    have hr : acc = (dl.take 40).map keyT := by
      rw [ha]; congr 1
      by_cases h : dl.length ≤ 40
      · rw [List.take_of_length_le (by omega), List.take_of_length_le (by omega)]
      · rw [show i = 40 by omega]
    rw [sleuthlaw23_keys.l0]
    by_cases h : (i : Int) < (dl.length : Int)
    · rw [if_pos h, if_neg (by omega), hr]
    · rw [if_neg h, hr]
  | m + 1, acc, i, hi, ha => by
    have hlt : i < dl.length := by omega
    have hx : rd dl (i : Int) = dl[i] := by simp [rd, hlt]
    have hk := keyT_ok dl[i] (hd _ (List.getElem_mem hlt)).1 (hd _ (List.getElem_mem hlt)).2
    have hl : acc.length ≤ 40 := by rw [ha, List.length_map, List.length_take]; omega
    rw [sleuthlaw23_keys.l0, if_pos (by omega), if_pos (by omega), if_pos (by omega), Option.bind_some, hx, if_pos (by rw [hk.2.2]; omega), if_pos (by omega)]
    have e : wrap64 ((i : Int) + 1) = ((i + 1 : Nat) : Int) := by rw [wrap64_small] <;> omega
    rw [e]
    refine keys_l0 dl hd m _ (i + 1) (by omega) ?_
    rw [ha, List.take_add_one, List.map_append, List.getElem?_eq_getElem hlt]
    rfl
/-- The texts that keys makes. -/
def ksOf (dl : List Int) : List ByteArray := (dl.take 40).map keyT
theorem keys_f (dl : List Int) (hd : ∀ x ∈ dl, 0 ≤ x ∧ x ≤ 255) : sleuthlaw23_keys.f (min dl.length 40 + 1) dl = some (ksOf dl) :=
  keys_l0 dl hd (min dl.length 40) [] 0 (by omega) rfl
theorem ksOf_len (dl : List Int) : (ksOf dl).length ≤ 40 := by unfold ksOf; rw [List.length_map, List.length_take]; omega
theorem ksOf_mem (dl : List Int) (hd : ∀ x ∈ dl, 0 ≤ x ∧ x ≤ 255) (t : ByteArray) (ht : t ∈ ksOf dl) : t.size = 3 ∧ chk t = 0 := by
  obtain ⟨x, hx, rfl⟩ := List.mem_map.mp ht
  have := hd x (List.mem_of_mem_take hx)
  exact ⟨(keyT_ok x this.1 this.2).1, (keyT_ok x this.1 this.2).2.1⟩
theorem ksOf_ok (bb : Int) (dl : List Int) (hd : ∀ x ∈ dl, 0 ≤ x ∧ x ≤ 255) : ∀ t ∈ ksOf dl, bottomk_check.f 5 t = some 0 ∧ checksum_Text.f 5 bb t = some (hashT bb t) := by
  intro t ht
  obtain ⟨h3, h0⟩ := ksOf_mem dl hd t ht
  exact ⟨h0 ▸ (chk_ok t (by omega) 5 (by omega)).1, hash_ok bb t (by omega) 5 (by omega)⟩
theorem byte_wf {x : Int} (h : (Lit.int .u8 x).wf = true) : 0 ≤ x ∧ x ≤ 255 := by
  simp [Lit.wf, IntKind.min, IntKind.max, IntKind.signed, IntKind.bits] at h
  omega
end Go.Proofs.Ytddhpkobingmhaa.PB
end
