/- BottomkOverlaps, walked. -/
import Derived.Test.YtddhpkobingmhaaJ10
import Derived.Test.YtddhpkobingmhaaJ7
import Derived.Test.YtddhpkobingmhaaJ5

namespace Go.Proofs.Ytddhpkobingmhaa.PB
open Go.RowKit Go.Proofs.YtddhpkobingmhaaW.PrintWords Go.Proofs.YtddhpkobingmhaaW.PrintLast Go.Proofs.YtddhpkobingmhaaW.PrintMore Go.Proofs.Ytddhpkobingmhaa.Sep
set_option linter.unusedVariables false
set_option linter.unusedSimpArgs false
set_option maxHeartbeats 16000000
set_option maxRecDepth 100000

theorem share {T G : Prop} (main : Aside0 T → G) (key : T) : G := main ⟨key⟩

theorem kept_to (Kn : Nat) (sd : Int) (A : Option Addr) (n c : Nat) (hn : n ≤ c) (hb : n ≤ 1000000) (k : Nat) (hk : min Kn n = k) (w : World) :
    Calls Try.prog 14 #[.agg #[.int .i64 Kn, .int .i64 sd, .slice A n c]] w fun e w' => e = .returned (.slice A k c) ∧ Below w.heap.size w w' := by
  have := kept_ok Kn sd A n c hn hb w
  rwa [hk] at this
theorem lt_min {i k K n : Nat} (h : i < k) (hk : min K n = k) : (i : Int) < (n : Int) := by omega
theorem inc_lt {k n : Nat} (h : k < n) (hn : n ≤ 1000) : wrap64 ((k : Int) + 1) = (k : Int) + 1 := wrap64_small _ (by omega) (by omega)
theorem cast_inc (k : Nat) : Value.int .i64 ((k : Int) + 1) = Value.int .i64 ((k + 1 : Nat) : Int) := by rw [Int.natCast_add]; rfl
theorem cnt_next (W l m : List S52) (K i k3 : Nat) (hk : min K W.length = k3) (hi : i < k3) (n : Nat) (hn : cnt (W.take K) (l.take K) (m.take K) i = n) (b1 b2 : Bool) (h1 : decide (rd_T52 W (i : Int) ∈ l.take K) = b1) (h2 : decide (rd_T52 W (i : Int) ∈ m.take K) = b2) : cnt (W.take K) (l.take K) (m.take K) (i + 1) = if (b1 && b2) = true then n + 1 else n := by
  subst hn h1 h2
  rw [cnt, rd_take W K i (by omega)]
  by_cases a : rd_T52 W (i : Int) ∈ l.take K <;> by_cases b : rd_T52 W (i : Int) ∈ m.take K <;> simp [a, b]
/-- Whether x is one of the first k keys of a row. -/
def hasN (l : List S52) (x : S52) : Nat → Bool
  | 0 => false
  | k + 1 => hasN l x k || decide (rd_T52 l (k : Int) = x)
theorem hasN_iff (l : List S52) (x : S52) : ∀ k, hasN l x k = true ↔ ∃ j, j < k ∧ x = rd_T52 l (j : Int)
  | 0 => ⟨fun h => absurd h (by simp [hasN]), fun ⟨j, h, _⟩ => absurd h (Nat.not_lt_zero j)⟩
  | k + 1 => by
    rw [hasN, Bool.or_eq_true, hasN_iff l x k, decide_eq_true_iff]
    constructor
    · rintro (⟨j, h, e⟩ | e)
      · exact ⟨j, by omega, e⟩
      · exact ⟨k, by omega, e.symm⟩
    · rintro ⟨j, h, e⟩
      by_cases hjk : j = k
      · exact .inr (hjk ▸ e.symm)
      · exact .inl ⟨j, by omega, e⟩
theorem hasN_take (l : List S52) (K : Nat) (x : S52) (k : Nat) (hk : min K l.length = k) : hasN l x k = decide (x ∈ l.take K) := by
  have h : hasN l x k = true ↔ x ∈ l.take K := by
    rw [hasN_iff, mem_rd]
    constructor
    · rintro ⟨j, h, e⟩
      exact ⟨j, by rw [List.length_take]; omega, by rw [rd_take l K j (by omega)]; exact e⟩
    · rintro ⟨j, h, e⟩
      rw [List.length_take] at h
      exact ⟨j, by omega, by rw [rd_take l K j (by omega)] at e; exact e⟩
  by_cases hx : x ∈ l.take K
  · rw [decide_eq_true hx, h.mpr hx]
  · rw [decide_eq_false hx]; exact Bool.eq_false_iff.mpr (fun g => hx (h.mp g))
theorem ite_ne (x y : S52) (h : ¬ y = x) {α : Type} (A B : α) : (if y.f0 = x.f0 then (if y.f1.toList = x.f1.toList then A else B) else B) = B := by
  by_cases h1 : y.f0 = x.f0
  · by_cases h2 : y.f1.toList = x.f1.toList
    · exact absurd (by obtain ⟨a, s⟩ := x; obtain ⟨b, t⟩ := y; simp only at h1 h2; rw [h1, bytes_ext _ _ h2]) h
    · rw [if_pos h1, if_neg h2]
  · rw [if_neg h1]

theorem union_to (p q Kn : Nat) (sd : Int) (hK1 : 1 ≤ Kn) (hK : Kn ≤ 1000) (l m W : List S52) (hi1 : Inc l) (hi2 : Inc m) (hi3 : Inc W) (hm0 : ∀ x, x ∈ W ↔ x ∈ l ∨ x ∈ m) (hin0 : Hin W) (D : Int) (hD : dst Kn W = D) {N : Nat} {w : World} {L : List Res} (HS0 : St N w (Sk p Kn sd l :: Sk q Kn sd m :: L)) :
    Calls Try.prog 34 #[.pointer (some ⟨p, 0, none⟩), .pointer (some ⟨q, 0, none⟩)] w fun e w' => e = .returned (.tuple #[.int .i64 D, .int .i64 0]) ∧ St N w' (Sk p Kn sd l :: Sk q Kn sd m :: L) ∧ Below N w w' := by
  subst hD
  exact Union_sk p q Kn sd hK1 hK l m W hi1 hi2 hi3 hm0 hin0 HS0
theorem overlap_to (p q Kn : Nat) (sd : Int) (hK : Kn ≤ 1000) (l m W : List S52) (hi1 : Inc l) (hi2 : Inc m) (hi3 : Inc W) (hm0 : ∀ x, x ∈ W ↔ x ∈ l ∨ x ∈ m) (O : Int) (hO : ovl (W.take Kn) (l.take Kn) (m.take Kn) = O) {N : Nat} {w : World} {L : List Res} (HS0 : St N w (Sk p Kn sd l :: Sk q Kn sd m :: L)) :
    Calls Try.prog 35 #[.pointer (some ⟨p, 0, none⟩), .pointer (some ⟨q, 0, none⟩)] w fun e w' => e = .returned (.tuple #[.int .i64 O, .int .i64 0]) ∧ St N w' (Sk p Kn sd l :: Sk q Kn sd m :: L) ∧ Below N w w' := by
  subst hO
  exact Overlap_sk p q Kn sd hK l m W hi1 hi2 hi3 hm0 HS0
theorem overlap_self_to (p Kn : Nat) (sd : Int) (hK : Kn ≤ 1000) (l : List S52) (hi1 : Inc l) (O : Int) (hO : ovl (l.take Kn) (l.take Kn) (l.take Kn) = O) {N : Nat} {w : World} {L : List Res} (HS0 : St N w (Sk p Kn sd l :: L)) :
    Calls Try.prog 35 #[.pointer (some ⟨p, 0, none⟩), .pointer (some ⟨p, 0, none⟩)] w fun e w' => e = .returned (.tuple #[.int .i64 O, .int .i64 0]) ∧ St N w' (Sk p Kn sd l :: L) ∧ Below N w w' := by
  subst hO
  exact Overlap_self p Kn sd hK l hi1 HS0
theorem cnt_swap (w l m : List S52) : ∀ i, cnt w l m i = cnt w m l i
  | 0 => rfl
  | i + 1 => by rw [cnt, cnt, cnt_swap w l m i]; simp only [and_comm]
theorem ovl_swap (w l m : List S52) : ovl w l m = ovl w m l := by unfold ovl; rw [cnt_swap]
theorem share_zero {W : List S52} (l m : List S52) {K i : Nat} (hk : min K W.length = i) (hz : i = 0) : ovl (W.take K) l m = 0 := by
  unfold ovl; rw [if_pos (by rw [List.length_take]; omega)]
theorem share_some {W : List S52} (l m : List S52) {K i : Nat} (hk : min K W.length = i) (hz : ¬ i = 0) : ovl (W.take K) l m = ((cnt (W.take K) l m i : Nat) : Int) * 1000000 / (i : Int) := by
  unfold ovl; rw [if_neg (by rw [List.length_take]; omega), List.length_take, hk]
theorem self_zero {l : List S52} {K : Nat} (h : l.length = 0) : ovl (l.take K) (l.take K) (l.take K) = 0 := by rw [ovl_self, if_pos (by rw [List.length_take]; omega)]
theorem self_some {l : List S52} {K : Nat} (hK : 1 ≤ K) (h : ¬ l.length = 0) : ovl (l.take K) (l.take K) (l.take K) = 1000000 := by rw [ovl_self, if_neg (by rw [List.length_take]; omega)]
theorem le2000 {n i : Nat} (h : n ≤ i) (k : i ≤ 1000) : n ≤ 2000 := by omega
theorem gt0_false {i : Nat} (h : i = 0) : decide ((0 : Int) < (i : Int)) = false := by subst h; rfl
theorem gt0_true {i : Nat} (h : ¬ i = 0) : decide ((0 : Int) < (i : Int)) = true := decide_eq_true (by omega)
theorem gtF {i : Nat} (h : i = 0) : ((0 : Int) < (i : Int)) = False ∧ (0 < i) = False ∧ decide ((i : Int) > 0) = false ∧ ((i : Int) > 0) = False := by subst h; exact ⟨by simp, by simp, rfl, by simp⟩
theorem gtT {i : Nat} (h : ¬ i = 0) : ((0 : Int) < (i : Int)) = True ∧ (0 < i) = True ∧ decide ((i : Int) > 0) = true ∧ ((i : Int) > 0) = True := ⟨eq_true (by omega), eq_true (by omega), decide_eq_true (by omega), eq_true (by omega)⟩
theorem is0_true {i : Nat} (h : i = 0) : ((i : Int) == 0) = true := by subst h; rfl
theorem is0_false {i : Nat} (h : ¬ i = 0) : ((i : Int) == 0) = false := by rw [beq_eq_false_iff_ne]; omega
theorem not0 {i : Nat} (h : ¬ i = 0) : ¬ (i : Int) = 0 := by omega

def ovs.T5 : Bool × List (List Nat × List Nat) := (true, [([], []), ([0], [0]), ([], []), ([2], [2]), ([], []), ([4], [4]), ([], []), ([6, 5], [6]), ([5, 7, 7], [5, 7]), ([1, 3, 8, 8], [1, 3, 8]), ([], []), ([10, 9, 9, 0, 1, 2, 3, 4, 5, 6, 7, 8, 9, 10], [9, 10])])
def ovs.B5 : List Nat := [0, 1, 0, 4, 0, 16, 0, 112, 240, 511, 0, 2047]
theorem ovs.tab5 : rtab .any (opsOf Try.f9 5) = ovs.T5 := by kernel_rfl
theorem ovs.bits5 : waitsOk ovs.T5.2 ovs.B5 = true := by kernel_rfl
def ovs.T14 : Bool × List (List Nat × List Nat) := (true, [([], []), ([0], [0]), ([1], [1]), ([2, 1, 1], [1, 2]), ([1], [1]), ([3, 4, 1], [1, 3, 4]), ([5, 1], [1, 5]), ([1], [1]), ([1], [1]), ([7, 8, 1], [1, 7, 8]), ([9, 1], [1, 9]), ([6, 10, 1], [1, 6, 10]), ([1, 11], [1, 11]), ([12, 3, 0, 1, 2, 3, 4, 5, 6, 7, 8, 9, 10, 11, 12], [0, 12])])
def ovs.B14 : List Nat := [0, 1, 3, 7, 3, 31, 63, 3, 3, 387, 899, 2047, 4095, 8191]
theorem ovs.tab14 : rtab .any (opsOf Try.f9 14) = ovs.T14 := by kernel_rfl
theorem ovs.bits14 : waitsOk ovs.T14.2 ovs.B14 = true := by kernel_rfl
def ovs.T18 : Bool × List (List Nat × List Nat) := (true, [([], []), ([0], [0]), ([1], [1]), ([2, 1, 1], [1, 2]), ([1], [1]), ([3, 4, 1], [1, 3, 4]), ([5, 1], [1, 5]), ([1], [1]), ([1], [1]), ([7, 8, 1], [1, 7, 8]), ([9, 1], [1, 9]), ([6, 10, 1], [1, 6, 10]), ([1, 11], [1, 11]), ([12, 3, 0, 1, 2, 3, 4, 5, 6, 7, 8, 9, 10, 11, 12], [0, 12])])
def ovs.B18 : List Nat := [0, 1, 3, 7, 3, 31, 63, 3, 3, 387, 899, 2047, 4095, 8191]
theorem ovs.tab18 : rtab .any (opsOf Try.f9 18) = ovs.T18 := by kernel_rfl
theorem ovs.bits18 : waitsOk ovs.T18.2 ovs.B18 = true := by kernel_rfl
theorem overlaps_walk (a bb : Int) (ha0 : 0 ≤ a) (ha1 : a ≤ 255) (hb0 : 0 ≤ bb) (hb1 : bb ≤ 255) (Aa Ab : Option Addr) (ca cb : Nat) (dl em : List Int) (hca0 : dl.length ≤ ca) (hcb0 : em.length ≤ cb) (Kn : Nat) (hKn0 : 1 + a % 12 = (Kn : Int)) (k kb kc k2 : Nat) (hs : ByteArray → Int) (ts us : List ByteArray) (hk0 : sleuthlaw23_keys.f k dl = some ts) (hkb0 : sleuthlaw23_keys.f kb em = some us) (hts0 : ts.length ≤ 1000) (hus0 : us.length ≤ 1000)
    (hok : ∀ t ∈ ts, bottomk_check.f kc t = some 0 ∧ checksum_Text.f k2 bb t = some (hs t)) (hou : ∀ t ∈ us, bottomk_check.f kc t = some 0 ∧ checksum_Text.f k2 bb t = some (hs t)) (w : World) (hin0 : Hin (foldk hs (ts ++ us))) (HC0 : Kd.C (Kd.int .u8) w Aa dl.length dl) (HCb0 : Kd.C (Kd.int .u8) w Ab em.length em) :
    Calls Try.prog 9 #[.agg #[.int .u8 a, .int .u8 bb], .slice Aa dl.length ca, .slice Ab em.length cb] w fun e w' => e = .returned (.bool true) ∧ Below w.heap.size w w' := by
  have HS := Aside0.mk (St.none_ (N := w.heap.size) (w := w) (Nat.le_refl _))
  have HB := Aside0.mk (Below.refl w.heap.size w)
  have HC := Aside0.mk HC0
  have HCb := Aside0.mk HCb0
  have HOK := Aside0.mk hok
  have HOU := Aside0.mk hou
  have HOW : Aside0 (∀ t ∈ ts ++ us, checksum_Text.f k2 bb t = some (hs t)) := ⟨fun t ht => (List.mem_append.mp ht).elim (fun h => (hok t h).2) (fun h => (hou t h).2)⟩
  have hk := Aside0.mk hk0
  have hkb := Aside0.mk hkb0
  have hca := Aside0.mk hca0
  have hcb := Aside0.mk hcb0
  have hts := Aside0.mk hts0
  have hus := Aside0.mk hus0
  have hlw : Aside0 ((ts ++ us).length ≤ 100000) := ⟨by rw [List.length_append]; omega⟩
  have hKn := Aside0.mk hKn0
  have hK1 : Aside0 (1 ≤ Kn) := ⟨by omega⟩
  have hK4 : Kn ≤ 1024 := by omega
  have hK5 : Kn ≤ 1000 := by omega
  have hbb := And.intro hb0 hb1
  have hi1 := inc_foldk hs ts
  have hi2 := inc_foldk hs us
  have hi3 := inc_foldk hs (ts ++ us)
  have hm1 := Aside0.mk (fun x => mem_both hs ts us x)
  have hm2 : Aside0 (∀ x, x ∈ foldk hs (ts ++ us) ↔ x ∈ foldk hs us ∨ x ∈ foldk hs ts) := ⟨fun x => (mem_both hs ts us x).trans Or.comm⟩
  have hz1 : (foldk hs ts).length ≤ 100000 := by have := lenk hs ts ts.length (by omega); rwa [List.take_length] at this
  have hz2 : (foldk hs us).length ≤ 100000 := by have := lenk hs us us.length (by omega); rwa [List.take_length] at this
  have hz3 : (foldk hs (ts ++ us)).length ≤ 100000 := by have := lenk hs (ts ++ us) (ts ++ us).length (by rw [List.length_append]; omega); rwa [List.take_length] at this
  clear HC0 HCb0 hok hou hk0 hkb0 hca0 hcb0 hts0 hus0 hKn0
  go_enter Try.func9, Try.ntmps9
  go_upto_region 5 with (first | ((with_reducible refine gate_dst (N := 3) rfl ?_); refine box_event ?hg (N := 3) ?hd (cs := #[.int .u8 a, .int .u8 bb]) (t := 23) ?hr ?_; (case hd => rfl); (case hg => rfl); (case hr => first | (go_simp; done) | (go_simp; rfl)); intro q hg w1 hbox hb; have n0_ := Aside0.mk (HS.out.box hg hbox hb); have n1_ := Aside0.mk (below_step' HB.out HS.out.size hb); clear HS HB; have HS := n0_; have HB := n1_; clear n0_ n1_; (try simp only [List.eraseIdx_cons_succ, List.eraseIdx_cons_zero] at HS); clear hb hbox hg; have hc0_0 := ((HS.out.pick 0 rfl).cell 0).trans (show _ = some (.int .u8 a) from rfl); have hc0_1 := ((HS.out.pick 0 rfl).cell 1).trans (show _ = some (.int .u8 bb) from rfl)) | ((with_reducible refine gate_callee (f := 12) rfl ?_); refine goesL_ (some 31) rfl rfl Try.func12 (by kernel_rfl) rfl #[.agg #[.int .u8 a, .int .u8 bb], .slice Aa dl.length ca] rfl (by (try simp only [List.map_toArray, List.map_cons, List.map_nil]); first | done | rfl | (simp only [List.length_drop, List.length_take]; rfl)) ?_; (with_reducible refine (made_ok a bb ha0 ha1 hb0 hb1 Aa ca dl hca.out Kn hKn.out k kc k2 hs ts hk.out hts.out HOK.out HC.out HB.out HS.out).mono ?_); rintro e w2 ⟨p, v, rfl, hs1, hb⟩; clear hc0_0 hc0_1; refine ⟨_, rfl, ?_⟩; have n0_ := Aside0.mk (hs1); have n1_ := Aside0.mk (hb); clear HS HB; have HS := n0_; have HB := n1_; clear n0_ n1_; (try simp only [List.eraseIdx_cons_succ, List.eraseIdx_cons_zero] at HS); clear hs1 hb; obtain ⟨A1, n1, c1, e_⟩ : ∃ (A : Option Addr) (n c : Nat), v = .slice A n c := (by obtain ⟨A, c, e, _, _⟩ := (HS.out.pick 0 rfl).reads; exact ⟨A, _, c, e⟩); subst e_) | ((with_reducible refine gate_dst (N := 8) rfl ?_); refine box_event ?hg (N := 8) ?hd (cs := #[.int .i64 0, .int .i64 0, .slice none 0 0]) (t := 28) ?hr ?_; (case hd => rfl); (case hg => rfl); (case hr => first | (go_simp; done) | (go_simp; rfl)); intro s hg w3 hbox hb; have n0_ := Aside0.mk (HS.out.box hg hbox hb); have n1_ := Aside0.mk (below_step' HB.out HS.out.size hb); clear HS HB; have HS := n0_; have HB := n1_; clear n0_ n1_; (try simp only [List.eraseIdx_cons_succ, List.eraseIdx_cons_zero] at HS); clear hb hbox hg; have hc0_0 := ((HS.out.pick 0 rfl).cell 0).trans (show _ = some (.int .i64 0) from rfl); have hc0_1 := ((HS.out.pick 0 rfl).cell 1).trans (show _ = some (.int .i64 0) from rfl); have hc0_2 := ((HS.out.pick 0 rfl).cell 2).trans (show _ = some (.slice none 0 0) from rfl); have hf0_0 := (HS.out.pick 0 rfl).frozen 0; have hf0_1 := (HS.out.pick 0 rfl).frozen 1; have hf0_2 := (HS.out.pick 0 rfl).frozen 2) | ((with_reducible refine gate_store (t := 28) (p := 8) rfl ?_); refine store_event (t := 28) (p := 8) (v := .tmp 33) (w1 := ?_) rfl rfl rfl ?_ ?_; rotate_left; (focus (first | (go_simp; done) | (go_simp; rfl))); intro w4 hw; have n0_ := Aside0.mk (HS.out.set3 hw); have n1_ := Aside0.mk (HS.out.below_set3 HB.out hw); clear HS HB; have HS := n0_; have HB := n1_; clear n0_ n1_; (try simp only [List.eraseIdx_cons_succ, List.eraseIdx_cons_zero] at HS); clear hw; clear hc0_0 hc0_1 hc0_2 hf0_0 hf0_1 hf0_2; have hc3_0 := ((HS.out.pick 3 rfl).cell 0).trans (show _ = some (.int .u8 a) from rfl); have hc3_1 := ((HS.out.pick 3 rfl).cell 1).trans (show _ = some (.int .u8 bb) from rfl)) | ((with_reducible refine gate_callee (f := 12) rfl ?_); refine goesL_ (some 37) rfl rfl Try.func12 (by kernel_rfl) rfl #[.agg #[.int .u8 a, .int .u8 bb], .slice Ab em.length cb] rfl (by (try simp only [List.map_toArray, List.map_cons, List.map_nil]); first | done | rfl | (simp only [List.length_drop, List.length_take]; rfl)) ?_; (with_reducible refine (made_ok a bb ha0 ha1 hb0 hb1 Ab cb em hcb.out Kn hKn.out kb kc k2 hs us hkb.out hus.out HOU.out HCb.out HB.out HS.out).mono ?_); rintro e w5 ⟨p2, v_, rfl, hs1, hb⟩; clear hc3_0 hc3_1; refine ⟨_, rfl, ?_⟩; have n0_ := Aside0.mk (hs1); have n1_ := Aside0.mk (hb); clear HS HB; have HS := n0_; have HB := n1_; clear n0_ n1_; (try simp only [List.eraseIdx_cons_succ, List.eraseIdx_cons_zero] at HS); clear hs1 hb; obtain ⟨A2, n2, c2, e_⟩ : ∃ (A : Option Addr) (n c : Nat), v_ = .slice A n c := (by obtain ⟨A, c, e, _, _⟩ := (HS.out.pick 0 rfl).reads; exact ⟨A, _, c, e⟩); subst e_) | ((with_reducible refine gate_dst (N := 10) rfl ?_); refine box_event ?hg (N := 10) ?hd (cs := #[.int .i64 0, .int .i64 0, .slice none 0 0]) (t := 28) ?hr ?_; (case hd => rfl); (case hg => rfl); (case hr => first | (go_simp; done) | (go_simp; rfl)); intro s2 hg w6 hbox hb; have n0_ := Aside0.mk (HS.out.box hg hbox hb); have n1_ := Aside0.mk (below_step' HB.out HS.out.size hb); clear HS HB; have HS := n0_; have HB := n1_; clear n0_ n1_; (try simp only [List.eraseIdx_cons_succ, List.eraseIdx_cons_zero] at HS); clear hb hbox hg; have hc0_0 := ((HS.out.pick 0 rfl).cell 0).trans (show _ = some (.int .i64 0) from rfl); have hc0_1 := ((HS.out.pick 0 rfl).cell 1).trans (show _ = some (.int .i64 0) from rfl); have hc0_2 := ((HS.out.pick 0 rfl).cell 2).trans (show _ = some (.slice none 0 0) from rfl); have hf0_0 := (HS.out.pick 0 rfl).frozen 0; have hf0_1 := (HS.out.pick 0 rfl).frozen 1; have hf0_2 := (HS.out.pick 0 rfl).frozen 2) | ((with_reducible refine gate_store (t := 28) (p := 10) rfl ?_); refine store_event (t := 28) (p := 10) (v := .tmp 39) (w1 := ?_) rfl rfl rfl ?_ ?_; rotate_left; (focus (first | (go_simp; done) | (go_simp; rfl))); intro w7 hw; have n0_ := Aside0.mk (HS.out.set3 hw); have n1_ := Aside0.mk (HS.out.below_set3 HB.out hw); clear HS HB; have HS := n0_; have HB := n1_; clear n0_ n1_; (try simp only [List.eraseIdx_cons_succ, List.eraseIdx_cons_zero] at HS); clear hw; clear hc0_0 hc0_1 hc0_2 hf0_0 hf0_1 hf0_2) | ((with_reducible refine gate_callee (f := 13) rfl ?_); refine goesL_ (some 40) rfl rfl Try.func13 (by kernel_rfl) rfl #[] rfl (by (try simp only [List.map_toArray, List.map_cons, List.map_nil]); first | done | rfl | (simp only [List.length_drop, List.length_take]; rfl)) ?_; (with_reducible refine (known_ok HS.out).mono ?_); rintro e w8 ⟨rfl, hs1, hb⟩; refine ⟨_, rfl, ?_⟩; have n0_ := Aside0.mk (hs1); have n1_ := Aside0.mk (HB.out.trans hb); clear HS HB; have HS := n0_; have HB := n1_; clear n0_ n1_; (try simp only [List.eraseIdx_cons_succ, List.eraseIdx_cons_zero] at HS); clear hs1 hb))
  have HSo := HS
  have HBo := HB
  clear HS HB
  apply share
  case main =>
    intro key
    have HS := HSo
    have HB := HBo
    have n0_ := Aside0.mk (HS.out.drew); have n1_ := Aside0.mk (HB.out.drew); clear HS HB; have HS := n0_; have HB := n1_; clear n0_ n1_
    refine start_ (n := 12) (S := fun w' => w'.cell? ⟨s, 0, none⟩ = some (.int .i64 Kn) ∧ w'.cell? ⟨s, 1, none⟩ = some (.int .i64 bb)) (ds := [11]) (tfs true [0, 12]).toArray (by kernel_rfl) rfl rfl ⟨((HS.out.pick 3 rfl).cell 0).trans rfl, ((HS.out.pick 3 rfl).cell 1).trans rfl⟩ (fun hHeld => ?_); refine with_tabW ovs.tab5 ovs.bits5 (fun HT_ HW_ => ?_)
    generalize w8.drew = w9 at HS HB hHeld ⊢
    refine pU 0 50 (tfs true [1, 11]).toArray rfl rfl HT_ ?_
    refine pU 2 52 (tfs true [1, 1, 1, 9]).toArray rfl rfl HT_ ?_
    refine pU 4 54 (tfs true [1, 1, 1, 1, 1, 7]).toArray rfl rfl HT_ ?_
    refine pU 6 56 (tfs true [1, 1, 1, 1, 1, 1, 1, 5]).toArray rfl rfl HT_ ?_
    refine tK 1 51 (tfs true [3, 1, 1, 1, 1, 5]).toArray rfl rfl HT_ HW_ hHeld ?_ (by rintro w' ⟨s0, s1⟩; go_simp; with_reducible rfl)
    refine tK 3 53 (tfs true [5, 1, 1, 5]).toArray rfl rfl HT_ HW_ hHeld ?_ (by rintro w' ⟨s0, s1⟩; go_simp; with_reducible rfl)
    refine two_ (i := 5) (j := 10) (Ni := some 55) (Nj := some 11) (tfs true [7, 5]).toArray (tfs true [5, 1, 1, 3, 1, 1]).toArray rfl rfl rfl rfl (two_of HT_.out (by kernel_rfl)) (by decide) (by decide) (fun K hK => ?_) (fun K hK => ?_)
    ·
      refine goes_ Try.func22 (by kernel_rfl) rfl #[.slice Aa dl.length ca] (by rfl) rfl rfl (by (try simp only [List.map_toArray, List.map_cons, List.map_nil]); first | done | rfl | (simp only [List.length_drop, List.length_take]; rfl)) ?_
      with_reducible refine (sleuthlaw23_keys.calls k Aa ca dl ts _ (Kd.C_below HC.out HB.out) hca.out hk.out).mono ?_
      rintro e w21 ⟨vT, rfl, ho, hb⟩
      refine ⟨_, rfl, ?_⟩
      have n0_ := Aside0.mk (((((((((HS.out.made ho hb).pick 7 rfl).pick 7 rfl).pick 7 rfl).pick 7 rfl).pick 7 rfl).pick 7 rfl).pick 7 rfl)); have n1_ := Aside0.mk (below_step' HB.out HS.out.size hb); clear HS HB; have HS := n0_; have HB := n1_; clear n0_ n1_; (try simp only [List.eraseIdx_cons_succ, List.eraseIdx_cons_zero] at HS)
      clear ho hb; obtain ⟨AT, cT, e_⟩ : ∃ (A : Option Addr) (c : Nat), vT = .slice A ts.length c := (by obtain ⟨A, c, e, _, _⟩ := (HS.out.pick 7 rfl).reads; exact ⟨A, c, e⟩); subst e_
      refine hK.out _ _ ⟨((HS.out.pick 3 rfl).cell 0).trans rfl, ((HS.out.pick 3 rfl).cell 1).trans rfl⟩ (fun hHeld => ?_)
      clear hK K
      refine norm_ (a' := ?_) ?_ ?_
      rotate_left
      · show Act.put _ (some 55) _ = _
        simp only [Act.put, List.setIfInBounds_toArray, List.set_cons_zero, List.set_cons_succ, i64_w, i32_w]
        rfl
      refine two_ (i := 7) (j := 10) (Ni := some 57) (Nj := some 11) (tfs true [8, 4]).toArray (tfs true [7, 3, 1, 1]).toArray rfl rfl rfl rfl (two_of HT_.out (by kernel_rfl)) (by decide) (by decide) (fun K hK => ?_) (fun K hK => ?_)
      ·
        refine goes_ Try.func22 (by kernel_rfl) rfl #[.slice Ab em.length cb] (by rfl) rfl rfl (by (try simp only [List.map_toArray, List.map_cons, List.map_nil]); first | done | rfl | (simp only [List.length_drop, List.length_take]; rfl)) ?_
        with_reducible refine (sleuthlaw23_keys.calls kb Ab cb em us _ (Kd.C_below HCb.out HB.out) hcb.out hkb.out).mono ?_
        rintro e w22 ⟨vU, rfl, ho, hb⟩
        refine ⟨_, rfl, ?_⟩
        have n0_ := Aside0.mk ((((((((((HS.out.made ho hb).pick 8 rfl).pick 8 rfl).pick 8 rfl).pick 8 rfl).pick 8 rfl).pick 8 rfl).pick 8 rfl).pick 8 rfl)); have n1_ := Aside0.mk (below_step' HB.out HS.out.size hb); clear HS HB; have HS := n0_; have HB := n1_; clear n0_ n1_; (try simp only [List.eraseIdx_cons_succ, List.eraseIdx_cons_zero] at HS)
        clear ho hb; obtain ⟨AU, cU, e_⟩ : ∃ (A : Option Addr) (c : Nat), vU = .slice A us.length c := (by obtain ⟨A, c, e, _, _⟩ := (HS.out.pick 8 rfl).reads; exact ⟨A, c, e⟩); subst e_
        refine hK.out _ _ ⟨((HS.out.pick 3 rfl).cell 0).trans rfl, ((HS.out.pick 3 rfl).cell 1).trans rfl⟩ (fun hHeld => ?_)
        clear hK K
        refine norm_ (a' := ?_) ?_ ?_
        rotate_left
        · show Act.put _ (some 57) _ = _
          simp only [Act.put, List.setIfInBounds_toArray, List.set_cons_zero, List.set_cons_succ, i64_w, i32_w]
          rfl
        refine two_ (i := 8) (j := 10) (Ni := some 58) (Nj := some 11) (tfs true [9, 3]).toArray (tfs true [8, 2, 1, 1]).toArray rfl rfl rfl rfl (two_of HT_.out (by kernel_rfl)) (by decide) (by decide) (fun K hK => ?_) (fun K hK => ?_)
        ·
          refine S_append_rows_step Kd.string (by rfl) (.tmp 55) (.tmp 57) 39 9 (.string ⟨#[]⟩) 16 rfl Try.underlying39 info9 rfl (by decide) (by omega) (.slice AT ts.length cT) ts us AU us.length cU rfl rfl (fun _ _ h => h) (HS.out.pick 7 rfl) (HS.out.pick 8 rfl).rowC.2.2 HB.out (by have := hts.out; have := hus.out; omega) ?_
          intro vX w23 hs9 hb
          have n0_ := Aside0.mk (((((((((hs9.pick 8 rfl).pick 8 rfl).pick 8 rfl).pick 8 rfl).pick 8 rfl).pick 8 rfl).pick 8 rfl).pick 8 rfl)); have n1_ := Aside0.mk (hb); clear HS HB; have HS := n0_; have HB := n1_; clear n0_ n1_; (try simp only [List.eraseIdx_cons_succ, List.eraseIdx_cons_zero] at HS)
          clear hs9 hb
          obtain ⟨AX, cX, e_⟩ : ∃ (A : Option Addr) (c : Nat), vX = .slice A (ts ++ us).length c := (by obtain ⟨A, c, e, _, _⟩ := (HS.out.pick 8 rfl).reads; exact ⟨A, c, e⟩); subst e_
          refine hK.out _ _ ⟨((HS.out.pick 3 rfl).cell 0).trans rfl, ((HS.out.pick 3 rfl).cell 1).trans rfl⟩ (fun hHeld => ?_)
          clear hK K
          refine norm_ (a' := ?_) ?_ ?_
          rotate_left
          · show Act.put _ (some 58) _ = _
            simp only [Act.put, List.setIfInBounds_toArray, List.set_cons_zero, List.set_cons_succ, i64_w, i32_w]
            rfl
          refine two_ (i := 9) (j := 10) (Ni := some 59) (Nj := some 11) (tfs true [10, 2]).toArray (tfs true [9, 1, 1, 1]).toArray rfl rfl rfl rfl (two_of HT_.out (by kernel_rfl)) (by decide) (by decide) (fun K hK => ?_) (fun K hK => ?_)
          ·
            refine goes_ Try.func24 (by kernel_rfl) rfl #[.int .i64 Kn, .int .i64 bb, .slice AX (ts ++ us).length cX] (by rfl) rfl rfl (by (try simp only [List.map_toArray, List.map_cons, List.map_nil]); first | done | rfl | (simp only [List.length_drop, List.length_take]; rfl)) ?_
            with_reducible refine (ofl_ok Kn bb k2 hs (ts ++ us) (ts ++ us).length (Nat.le_refl _) hlw.out HOW.out AX cX (HS.out.pick 8 rfl)).mono ?_
            rintro e w24 ⟨v3, rfl, hs1, hb⟩; rw [List.take_length] at hs1
            refine ⟨_, rfl, ?_⟩
            have n0_ := Aside0.mk (((((((((((hs1.pick 0 rfl).pick 1 rfl).pick 9 rfl).pick 9 rfl).pick 9 rfl).pick 9 rfl).pick 9 rfl).pick 9 rfl).pick 9 rfl).pick 9 rfl)); have n1_ := Aside0.mk (HB.out.trans hb); clear HS HB; have HS := n0_; have HB := n1_; clear n0_ n1_; (try simp only [List.eraseIdx_cons_succ, List.eraseIdx_cons_zero] at HS)
            clear hs1 hb; obtain ⟨A3, n3, c3, e_⟩ : ∃ (A : Option Addr) (n c : Nat), v3 = .slice A n c := (by obtain ⟨A, c, e, _, _⟩ := (HS.out.pick 9 rfl).reads; exact ⟨A, _, c, e⟩); subst e_
            refine hK.out _ _ ⟨((HS.out.pick 3 rfl).cell 0).trans rfl, ((HS.out.pick 3 rfl).cell 1).trans rfl⟩ (fun hHeld => ?_)
            clear hK K
            refine norm_ (a' := ?_) ?_ ?_
            rotate_left
            · show Act.put _ (some 59) _ = _
              simp only [Act.put, List.setIfInBounds_toArray, List.set_cons_zero, List.set_cons_succ, i64_w, i32_w]
              rfl
            refine one_ (i := 10) (N := some 11) (tfs true [11, 1]).toArray rfl rfl (one_of HT_.out (by kernel_rfl)) (by decide) (fun K hK => ?_)
            refine box_step (by rfl) (Nt := 11) rfl (cs := #[.int .i64 0, .int .i64 0, .slice none 0 0]) (t := 28) ?hrw25 ?_
            (case hrw25 => first | (go_simp; done) | (go_simp; rfl))
            intro s3 hg w25 hbox hb
            have n0_ := Aside0.mk ((((((((((((HS.out.box hg hbox hb).pick 10 rfl).pick 10 rfl).pick 10 rfl).pick 10 rfl).pick 10 rfl).pick 10 rfl).pick 10 rfl).pick 10 rfl).pick 10 rfl).pick 10 rfl)); have n1_ := Aside0.mk (below_step' HB.out HS.out.size hb); clear HS HB; have HS := n0_; have HB := n1_; clear n0_ n1_; (try simp only [List.eraseIdx_cons_succ, List.eraseIdx_cons_zero] at HS)
            clear hb hbox hg
            refine hK.out _ _ ⟨((HS.out.pick 3 rfl).cell 0).trans rfl, ((HS.out.pick 3 rfl).cell 1).trans rfl⟩ (fun hHeld => ?_)
            clear hK K
            refine norm_ (a' := ?_) ?_ ?_
            rotate_left
            · show Act.put _ (some 11) _ = _
              simp only [Act.put, List.setIfInBounds_toArray, List.set_cons_zero, List.set_cons_succ, i64_w, i32_w]
              rfl
            refine last_ (i := 11) (N := none) (tfs true [12]).toArray rfl rfl (one_of HT_.out (by kernel_rfl)) (by decide) (fun K hK => ?_)
            have q0 := ((HS.out.pick 10 rfl).cell 0).trans (show _ = some (.int .i64 0) from rfl); have f0 := (HS.out.pick 10 rfl).frozen 0; have q1 := ((HS.out.pick 10 rfl).cell 1).trans (show _ = some (.int .i64 0) from rfl); have f1 := (HS.out.pick 10 rfl).frozen 1; have q2 := ((HS.out.pick 10 rfl).cell 2).trans (show _ = some (.slice none 0 0) from rfl); have f2 := (HS.out.pick 10 rfl).frozen 2
            refine skip_ (w1 := ?_) (by rfl) rfl ?_ ?_
            rotate_left
            · go_simp
              rfl
            clear q0 q1 q2 f0 f1 f2
            have n0_ := Aside0.mk ((((HS.out.pick 10 rfl).set 0 (.int .i64 Kn) #[.int .i64 Kn, .int .i64 0, .slice none 0 0] rfl).set 1 (.int .i64 bb) #[.int .i64 Kn, .int .i64 bb, .slice none 0 0] rfl).set 2 (.slice A3 n3 c3) #[.int .i64 Kn, .int .i64 bb, (.slice A3 n3 c3)] rfl); have n1_ := Aside0.mk ((((HS.out.pick 10 rfl).set 0 (.int .i64 Kn) #[.int .i64 Kn, .int .i64 0, .slice none 0 0] rfl).set 1 (.int .i64 bb) #[.int .i64 Kn, .int .i64 bb, .slice none 0 0] rfl).below_set (i := 2) (u := (.slice A3 n3 c3)) (((HS.out.pick 10 rfl).set 0 (.int .i64 Kn) #[.int .i64 Kn, .int .i64 0, .slice none 0 0] rfl).below_set (i := 1) (u := .int .i64 bb) ((HS.out.pick 10 rfl).below_set (i := 0) (u := .int .i64 Kn) HB.out))); clear HS HB; have HS := n0_; have HB := n1_; clear n0_ n1_; (try simp only [List.eraseIdx_cons_succ, List.eraseIdx_cons_zero] at HS)
            refine hK.out _ _ ?_
            clear hK K
            refine done_ (done_of HT_.out (by kernel_rfl)) ?_
            clear HT_ HW_
            try clear hHeld
            generalize (World.setCell _ _ _) = w40 at HS HB ⊢
            have n0_ := Aside0.mk ((((((((((((HS.out.pick 9 rfl).pick 9 rfl).pick 9 rfl).pick 4 rfl).pick 7 rfl).pick 6 rfl).pick 7 rfl).pick 8 rfl).pick 9 rfl).pick 10 rfl).pick 10 rfl)); have n1_ := Aside0.mk (HB.out); clear HS HB; have HS := n0_; have HB := n1_; clear n0_ n1_; (try simp only [List.eraseIdx_cons_succ, List.eraseIdx_cons_zero] at HS)
            revert HB
            revert HS
            revert w40
            revert s3
            revert A3
            revert n3
            revert c3
            revert AX
            revert cX
            revert AU
            revert cU
            revert AT
            revert cT
            exact key.out
          ·
            refine box_step (by rfl) (Nt := 11) rfl (cs := #[.int .i64 0, .int .i64 0, .slice none 0 0]) (t := 28) ?hrw26 ?_
            (case hrw26 => first | (go_simp; done) | (go_simp; rfl))
            intro s3 hg w26 hbox hb
            have n0_ := Aside0.mk (((((((((((HS.out.box hg hbox hb).pick 9 rfl).pick 9 rfl).pick 9 rfl).pick 9 rfl).pick 9 rfl).pick 9 rfl).pick 9 rfl).pick 9 rfl).pick 9 rfl)); have n1_ := Aside0.mk (below_step' HB.out HS.out.size hb); clear HS HB; have HS := n0_; have HB := n1_; clear n0_ n1_; (try simp only [List.eraseIdx_cons_succ, List.eraseIdx_cons_zero] at HS)
            clear hb hbox hg
            refine hK.out _ _ ⟨((HS.out.pick 3 rfl).cell 0).trans rfl, ((HS.out.pick 3 rfl).cell 1).trans rfl⟩ (fun hHeld => ?_)
            clear hK K
            refine norm_ (a' := ?_) ?_ ?_
            rotate_left
            · show Act.put _ (some 11) _ = _
              simp only [Act.put, List.setIfInBounds_toArray, List.set_cons_zero, List.set_cons_succ, i64_w, i32_w]
              rfl
            refine one_ (i := 9) (N := some 59) (tfs true [11, 1]).toArray rfl rfl (one_of HT_.out (by kernel_rfl)) (by decide) (fun K hK => ?_)
            refine goes_ Try.func24 (by kernel_rfl) rfl #[.int .i64 Kn, .int .i64 bb, .slice AX (ts ++ us).length cX] (by rfl) rfl rfl (by (try simp only [List.map_toArray, List.map_cons, List.map_nil]); first | done | rfl | (simp only [List.length_drop, List.length_take]; rfl)) ?_
            with_reducible refine (ofl_ok Kn bb k2 hs (ts ++ us) (ts ++ us).length (Nat.le_refl _) hlw.out HOW.out AX cX (HS.out.pick 8 rfl)).mono ?_
            rintro e w27 ⟨v3, rfl, hs1, hb⟩; rw [List.take_length] at hs1
            refine ⟨_, rfl, ?_⟩
            have n0_ := Aside0.mk ((((((((((((hs1.pick 0 rfl).pick 10 rfl).pick 2 rfl).pick 10 rfl).pick 10 rfl).pick 10 rfl).pick 10 rfl).pick 10 rfl).pick 10 rfl).pick 10 rfl).pick 10 rfl)); have n1_ := Aside0.mk (HB.out.trans hb); clear HS HB; have HS := n0_; have HB := n1_; clear n0_ n1_; (try simp only [List.eraseIdx_cons_succ, List.eraseIdx_cons_zero] at HS)
            clear hs1 hb; obtain ⟨A3, n3, c3, e_⟩ : ∃ (A : Option Addr) (n c : Nat), v3 = .slice A n c := (by obtain ⟨A, c, e, _, _⟩ := (HS.out.pick 10 rfl).reads; exact ⟨A, _, c, e⟩); subst e_
            refine hK.out _ _ ⟨((HS.out.pick 3 rfl).cell 0).trans rfl, ((HS.out.pick 3 rfl).cell 1).trans rfl⟩ (fun hHeld => ?_)
            clear hK K
            refine norm_ (a' := ?_) ?_ ?_
            rotate_left
            · show Act.put _ (some 59) _ = _
              simp only [Act.put, List.setIfInBounds_toArray, List.set_cons_zero, List.set_cons_succ, i64_w, i32_w]
              rfl
            refine last_ (i := 11) (N := none) (tfs true [12]).toArray rfl rfl (one_of HT_.out (by kernel_rfl)) (by decide) (fun K hK => ?_)
            have q0 := ((HS.out.pick 9 rfl).cell 0).trans (show _ = some (.int .i64 0) from rfl); have f0 := (HS.out.pick 9 rfl).frozen 0; have q1 := ((HS.out.pick 9 rfl).cell 1).trans (show _ = some (.int .i64 0) from rfl); have f1 := (HS.out.pick 9 rfl).frozen 1; have q2 := ((HS.out.pick 9 rfl).cell 2).trans (show _ = some (.slice none 0 0) from rfl); have f2 := (HS.out.pick 9 rfl).frozen 2
            refine skip_ (w1 := ?_) (by rfl) rfl ?_ ?_
            rotate_left
            · go_simp
              rfl
            clear q0 q1 q2 f0 f1 f2
            have n0_ := Aside0.mk ((((HS.out.pick 9 rfl).set 0 (.int .i64 Kn) #[.int .i64 Kn, .int .i64 0, .slice none 0 0] rfl).set 1 (.int .i64 bb) #[.int .i64 Kn, .int .i64 bb, .slice none 0 0] rfl).set 2 (.slice A3 n3 c3) #[.int .i64 Kn, .int .i64 bb, (.slice A3 n3 c3)] rfl); have n1_ := Aside0.mk ((((HS.out.pick 9 rfl).set 0 (.int .i64 Kn) #[.int .i64 Kn, .int .i64 0, .slice none 0 0] rfl).set 1 (.int .i64 bb) #[.int .i64 Kn, .int .i64 bb, .slice none 0 0] rfl).below_set (i := 2) (u := (.slice A3 n3 c3)) (((HS.out.pick 9 rfl).set 0 (.int .i64 Kn) #[.int .i64 Kn, .int .i64 0, .slice none 0 0] rfl).below_set (i := 1) (u := .int .i64 bb) ((HS.out.pick 9 rfl).below_set (i := 0) (u := .int .i64 Kn) HB.out))); clear HS HB; have HS := n0_; have HB := n1_; clear n0_ n1_; (try simp only [List.eraseIdx_cons_succ, List.eraseIdx_cons_zero] at HS)
            refine hK.out _ _ ?_
            clear hK K
            refine done_ (done_of HT_.out (by kernel_rfl)) ?_
            clear HT_ HW_
            try clear hHeld
            generalize (World.setCell _ _ _) = w40 at HS HB ⊢
            have n0_ := Aside0.mk ((((((((((((HS.out.pick 9 rfl).pick 9 rfl).pick 9 rfl).pick 4 rfl).pick 7 rfl).pick 6 rfl).pick 7 rfl).pick 8 rfl).pick 9 rfl).pick 10 rfl).pick 10 rfl)); have n1_ := Aside0.mk (HB.out); clear HS HB; have HS := n0_; have HB := n1_; clear n0_ n1_; (try simp only [List.eraseIdx_cons_succ, List.eraseIdx_cons_zero] at HS)
            revert HB
            revert HS
            revert w40
            revert s3
            revert A3
            revert n3
            revert c3
            revert AX
            revert cX
            revert AU
            revert cU
            revert AT
            revert cT
            exact key.out
        ·
          refine box_step (by rfl) (Nt := 11) rfl (cs := #[.int .i64 0, .int .i64 0, .slice none 0 0]) (t := 28) ?hrw28 ?_
          (case hrw28 => first | (go_simp; done) | (go_simp; rfl))
          intro s3 hg w28 hbox hb
          have n0_ := Aside0.mk (((((((((((HS.out.box hg hbox hb).pick 9 rfl).pick 9 rfl).pick 9 rfl).pick 9 rfl).pick 9 rfl).pick 9 rfl).pick 9 rfl).pick 9 rfl).pick 9 rfl)); have n1_ := Aside0.mk (below_step' HB.out HS.out.size hb); clear HS HB; have HS := n0_; have HB := n1_; clear n0_ n1_; (try simp only [List.eraseIdx_cons_succ, List.eraseIdx_cons_zero] at HS)
          clear hb hbox hg
          refine hK.out _ _ ⟨((HS.out.pick 3 rfl).cell 0).trans rfl, ((HS.out.pick 3 rfl).cell 1).trans rfl⟩ (fun hHeld => ?_)
          clear hK K
          refine norm_ (a' := ?_) ?_ ?_
          rotate_left
          · show Act.put _ (some 11) _ = _
            simp only [Act.put, List.setIfInBounds_toArray, List.set_cons_zero, List.set_cons_succ, i64_w, i32_w]
            rfl
          refine one_ (i := 8) (N := some 58) (tfs true [9, 1, 1, 1]).toArray rfl rfl (one_of HT_.out (by kernel_rfl)) (by decide) (fun K hK => ?_)
          refine S_append_rows_step Kd.string (by rfl) (.tmp 55) (.tmp 57) 39 9 (.string ⟨#[]⟩) 16 rfl Try.underlying39 info9 rfl (by decide) (by omega) (.slice AT ts.length cT) ts us AU us.length cU rfl rfl (fun _ _ h => h) (HS.out.pick 7 rfl) (HS.out.pick 8 rfl).rowC.2.2 HB.out (by have := hts.out; have := hus.out; omega) ?_
          intro vX w29 hs9 hb
          have n0_ := Aside0.mk ((((((((((hs9.pick 9 rfl).pick 9 rfl).pick 9 rfl).pick 9 rfl).pick 9 rfl).pick 9 rfl).pick 9 rfl).pick 9 rfl).pick 9 rfl)); have n1_ := Aside0.mk (hb); clear HS HB; have HS := n0_; have HB := n1_; clear n0_ n1_; (try simp only [List.eraseIdx_cons_succ, List.eraseIdx_cons_zero] at HS)
          clear hs9 hb
          obtain ⟨AX, cX, e_⟩ : ∃ (A : Option Addr) (c : Nat), vX = .slice A (ts ++ us).length c := (by obtain ⟨A, c, e, _, _⟩ := (HS.out.pick 9 rfl).reads; exact ⟨A, c, e⟩); subst e_
          refine hK.out _ _ ⟨((HS.out.pick 3 rfl).cell 0).trans rfl, ((HS.out.pick 3 rfl).cell 1).trans rfl⟩ (fun hHeld => ?_)
          clear hK K
          refine norm_ (a' := ?_) ?_ ?_
          rotate_left
          · show Act.put _ (some 58) _ = _
            simp only [Act.put, List.setIfInBounds_toArray, List.set_cons_zero, List.set_cons_succ, i64_w, i32_w]
            rfl
          refine one_ (i := 9) (N := some 59) (tfs true [11, 1]).toArray rfl rfl (one_of HT_.out (by kernel_rfl)) (by decide) (fun K hK => ?_)
          refine goes_ Try.func24 (by kernel_rfl) rfl #[.int .i64 Kn, .int .i64 bb, .slice AX (ts ++ us).length cX] (by rfl) rfl rfl (by (try simp only [List.map_toArray, List.map_cons, List.map_nil]); first | done | rfl | (simp only [List.length_drop, List.length_take]; rfl)) ?_
          with_reducible refine (ofl_ok Kn bb k2 hs (ts ++ us) (ts ++ us).length (Nat.le_refl _) hlw.out HOW.out AX cX (HS.out.pick 9 rfl)).mono ?_
          rintro e w30 ⟨v3, rfl, hs1, hb⟩; rw [List.take_length] at hs1
          refine ⟨_, rfl, ?_⟩
          have n0_ := Aside0.mk ((((((((((((hs1.pick 0 rfl).pick 1 rfl).pick 10 rfl).pick 10 rfl).pick 10 rfl).pick 10 rfl).pick 10 rfl).pick 10 rfl).pick 10 rfl).pick 10 rfl).pick 10 rfl)); have n1_ := Aside0.mk (HB.out.trans hb); clear HS HB; have HS := n0_; have HB := n1_; clear n0_ n1_; (try simp only [List.eraseIdx_cons_succ, List.eraseIdx_cons_zero] at HS)
          clear hs1 hb; obtain ⟨A3, n3, c3, e_⟩ : ∃ (A : Option Addr) (n c : Nat), v3 = .slice A n c := (by obtain ⟨A, c, e, _, _⟩ := (HS.out.pick 10 rfl).reads; exact ⟨A, _, c, e⟩); subst e_
          refine hK.out _ _ ⟨((HS.out.pick 3 rfl).cell 0).trans rfl, ((HS.out.pick 3 rfl).cell 1).trans rfl⟩ (fun hHeld => ?_)
          clear hK K
          refine norm_ (a' := ?_) ?_ ?_
          rotate_left
          · show Act.put _ (some 59) _ = _
            simp only [Act.put, List.setIfInBounds_toArray, List.set_cons_zero, List.set_cons_succ, i64_w, i32_w]
            rfl
          refine last_ (i := 11) (N := none) (tfs true [12]).toArray rfl rfl (one_of HT_.out (by kernel_rfl)) (by decide) (fun K hK => ?_)
          have q0 := ((HS.out.pick 8 rfl).cell 0).trans (show _ = some (.int .i64 0) from rfl); have f0 := (HS.out.pick 8 rfl).frozen 0; have q1 := ((HS.out.pick 8 rfl).cell 1).trans (show _ = some (.int .i64 0) from rfl); have f1 := (HS.out.pick 8 rfl).frozen 1; have q2 := ((HS.out.pick 8 rfl).cell 2).trans (show _ = some (.slice none 0 0) from rfl); have f2 := (HS.out.pick 8 rfl).frozen 2
          refine skip_ (w1 := ?_) (by rfl) rfl ?_ ?_
          rotate_left
          · go_simp
            rfl
          clear q0 q1 q2 f0 f1 f2
          have n0_ := Aside0.mk ((((HS.out.pick 8 rfl).set 0 (.int .i64 Kn) #[.int .i64 Kn, .int .i64 0, .slice none 0 0] rfl).set 1 (.int .i64 bb) #[.int .i64 Kn, .int .i64 bb, .slice none 0 0] rfl).set 2 (.slice A3 n3 c3) #[.int .i64 Kn, .int .i64 bb, (.slice A3 n3 c3)] rfl); have n1_ := Aside0.mk ((((HS.out.pick 8 rfl).set 0 (.int .i64 Kn) #[.int .i64 Kn, .int .i64 0, .slice none 0 0] rfl).set 1 (.int .i64 bb) #[.int .i64 Kn, .int .i64 bb, .slice none 0 0] rfl).below_set (i := 2) (u := (.slice A3 n3 c3)) (((HS.out.pick 8 rfl).set 0 (.int .i64 Kn) #[.int .i64 Kn, .int .i64 0, .slice none 0 0] rfl).below_set (i := 1) (u := .int .i64 bb) ((HS.out.pick 8 rfl).below_set (i := 0) (u := .int .i64 Kn) HB.out))); clear HS HB; have HS := n0_; have HB := n1_; clear n0_ n1_; (try simp only [List.eraseIdx_cons_succ, List.eraseIdx_cons_zero] at HS)
          refine hK.out _ _ ?_
          clear hK K
          refine done_ (done_of HT_.out (by kernel_rfl)) ?_
          clear HT_ HW_
          try clear hHeld
          generalize (World.setCell _ _ _) = w40 at HS HB ⊢
          have n0_ := Aside0.mk ((((((((((((HS.out.pick 9 rfl).pick 9 rfl).pick 9 rfl).pick 4 rfl).pick 7 rfl).pick 6 rfl).pick 7 rfl).pick 8 rfl).pick 9 rfl).pick 10 rfl).pick 10 rfl)); have n1_ := Aside0.mk (HB.out); clear HS HB; have HS := n0_; have HB := n1_; clear n0_ n1_; (try simp only [List.eraseIdx_cons_succ, List.eraseIdx_cons_zero] at HS)
          revert HB
          revert HS
          revert w40
          revert s3
          revert A3
          revert n3
          revert c3
          revert AX
          revert cX
          revert AU
          revert cU
          revert AT
          revert cT
          exact key.out
      ·
        refine box_step (by rfl) (Nt := 11) rfl (cs := #[.int .i64 0, .int .i64 0, .slice none 0 0]) (t := 28) ?hrw31 ?_
        (case hrw31 => first | (go_simp; done) | (go_simp; rfl))
        intro s3 hg w31 hbox hb
        have n0_ := Aside0.mk ((((((((((HS.out.box hg hbox hb).pick 8 rfl).pick 8 rfl).pick 8 rfl).pick 8 rfl).pick 8 rfl).pick 8 rfl).pick 8 rfl).pick 8 rfl)); have n1_ := Aside0.mk (below_step' HB.out HS.out.size hb); clear HS HB; have HS := n0_; have HB := n1_; clear n0_ n1_; (try simp only [List.eraseIdx_cons_succ, List.eraseIdx_cons_zero] at HS)
        clear hb hbox hg
        refine hK.out _ _ ⟨((HS.out.pick 3 rfl).cell 0).trans rfl, ((HS.out.pick 3 rfl).cell 1).trans rfl⟩ (fun hHeld => ?_)
        clear hK K
        refine norm_ (a' := ?_) ?_ ?_
        rotate_left
        · show Act.put _ (some 11) _ = _
          simp only [Act.put, List.setIfInBounds_toArray, List.set_cons_zero, List.set_cons_succ, i64_w, i32_w]
          rfl
        refine one_ (i := 7) (N := some 57) (tfs true [8, 2, 1, 1]).toArray rfl rfl (one_of HT_.out (by kernel_rfl)) (by decide) (fun K hK => ?_)
        refine goes_ Try.func22 (by kernel_rfl) rfl #[.slice Ab em.length cb] (by rfl) rfl rfl (by (try simp only [List.map_toArray, List.map_cons, List.map_nil]); first | done | rfl | (simp only [List.length_drop, List.length_take]; rfl)) ?_
        with_reducible refine (sleuthlaw23_keys.calls kb Ab cb em us _ (Kd.C_below HCb.out HB.out) hcb.out hkb.out).mono ?_
        rintro e w32 ⟨vU, rfl, ho, hb⟩
        refine ⟨_, rfl, ?_⟩
        have n0_ := Aside0.mk (((((((((((HS.out.made ho hb).pick 9 rfl).pick 9 rfl).pick 9 rfl).pick 9 rfl).pick 9 rfl).pick 9 rfl).pick 9 rfl).pick 9 rfl).pick 9 rfl)); have n1_ := Aside0.mk (below_step' HB.out HS.out.size hb); clear HS HB; have HS := n0_; have HB := n1_; clear n0_ n1_; (try simp only [List.eraseIdx_cons_succ, List.eraseIdx_cons_zero] at HS)
        clear ho hb; obtain ⟨AU, cU, e_⟩ : ∃ (A : Option Addr) (c : Nat), vU = .slice A us.length c := (by obtain ⟨A, c, e, _, _⟩ := (HS.out.pick 9 rfl).reads; exact ⟨A, c, e⟩); subst e_
        refine hK.out _ _ ⟨((HS.out.pick 3 rfl).cell 0).trans rfl, ((HS.out.pick 3 rfl).cell 1).trans rfl⟩ (fun hHeld => ?_)
        clear hK K
        refine norm_ (a' := ?_) ?_ ?_
        rotate_left
        · show Act.put _ (some 57) _ = _
          simp only [Act.put, List.setIfInBounds_toArray, List.set_cons_zero, List.set_cons_succ, i64_w, i32_w]
          rfl
        refine one_ (i := 8) (N := some 58) (tfs true [9, 1, 1, 1]).toArray rfl rfl (one_of HT_.out (by kernel_rfl)) (by decide) (fun K hK => ?_)
        refine S_append_rows_step Kd.string (by rfl) (.tmp 55) (.tmp 57) 39 9 (.string ⟨#[]⟩) 16 rfl Try.underlying39 info9 rfl (by decide) (by omega) (.slice AT ts.length cT) ts us AU us.length cU rfl rfl (fun _ _ h => h) (HS.out.pick 7 rfl) (HS.out.pick 9 rfl).rowC.2.2 HB.out (by have := hts.out; have := hus.out; omega) ?_
        intro vX w33 hs9 hb
        have n0_ := Aside0.mk ((((((((((hs9.pick 9 rfl).pick 9 rfl).pick 9 rfl).pick 9 rfl).pick 9 rfl).pick 9 rfl).pick 9 rfl).pick 9 rfl).pick 9 rfl)); have n1_ := Aside0.mk (hb); clear HS HB; have HS := n0_; have HB := n1_; clear n0_ n1_; (try simp only [List.eraseIdx_cons_succ, List.eraseIdx_cons_zero] at HS)
        clear hs9 hb
        obtain ⟨AX, cX, e_⟩ : ∃ (A : Option Addr) (c : Nat), vX = .slice A (ts ++ us).length c := (by obtain ⟨A, c, e, _, _⟩ := (HS.out.pick 9 rfl).reads; exact ⟨A, c, e⟩); subst e_
        refine hK.out _ _ ⟨((HS.out.pick 3 rfl).cell 0).trans rfl, ((HS.out.pick 3 rfl).cell 1).trans rfl⟩ (fun hHeld => ?_)
        clear hK K
        refine norm_ (a' := ?_) ?_ ?_
        rotate_left
        · show Act.put _ (some 58) _ = _
          simp only [Act.put, List.setIfInBounds_toArray, List.set_cons_zero, List.set_cons_succ, i64_w, i32_w]
          rfl
        refine one_ (i := 9) (N := some 59) (tfs true [11, 1]).toArray rfl rfl (one_of HT_.out (by kernel_rfl)) (by decide) (fun K hK => ?_)
        refine goes_ Try.func24 (by kernel_rfl) rfl #[.int .i64 Kn, .int .i64 bb, .slice AX (ts ++ us).length cX] (by rfl) rfl rfl (by (try simp only [List.map_toArray, List.map_cons, List.map_nil]); first | done | rfl | (simp only [List.length_drop, List.length_take]; rfl)) ?_
        with_reducible refine (ofl_ok Kn bb k2 hs (ts ++ us) (ts ++ us).length (Nat.le_refl _) hlw.out HOW.out AX cX (HS.out.pick 9 rfl)).mono ?_
        rintro e w34 ⟨v3, rfl, hs1, hb⟩; rw [List.take_length] at hs1
        refine ⟨_, rfl, ?_⟩
        have n0_ := Aside0.mk ((((((((((((hs1.pick 0 rfl).pick 1 rfl).pick 10 rfl).pick 10 rfl).pick 10 rfl).pick 10 rfl).pick 10 rfl).pick 10 rfl).pick 10 rfl).pick 10 rfl).pick 10 rfl)); have n1_ := Aside0.mk (HB.out.trans hb); clear HS HB; have HS := n0_; have HB := n1_; clear n0_ n1_; (try simp only [List.eraseIdx_cons_succ, List.eraseIdx_cons_zero] at HS)
        clear hs1 hb; obtain ⟨A3, n3, c3, e_⟩ : ∃ (A : Option Addr) (n c : Nat), v3 = .slice A n c := (by obtain ⟨A, c, e, _, _⟩ := (HS.out.pick 10 rfl).reads; exact ⟨A, _, c, e⟩); subst e_
        refine hK.out _ _ ⟨((HS.out.pick 3 rfl).cell 0).trans rfl, ((HS.out.pick 3 rfl).cell 1).trans rfl⟩ (fun hHeld => ?_)
        clear hK K
        refine norm_ (a' := ?_) ?_ ?_
        rotate_left
        · show Act.put _ (some 59) _ = _
          simp only [Act.put, List.setIfInBounds_toArray, List.set_cons_zero, List.set_cons_succ, i64_w, i32_w]
          rfl
        refine last_ (i := 11) (N := none) (tfs true [12]).toArray rfl rfl (one_of HT_.out (by kernel_rfl)) (by decide) (fun K hK => ?_)
        have q0 := ((HS.out.pick 7 rfl).cell 0).trans (show _ = some (.int .i64 0) from rfl); have f0 := (HS.out.pick 7 rfl).frozen 0; have q1 := ((HS.out.pick 7 rfl).cell 1).trans (show _ = some (.int .i64 0) from rfl); have f1 := (HS.out.pick 7 rfl).frozen 1; have q2 := ((HS.out.pick 7 rfl).cell 2).trans (show _ = some (.slice none 0 0) from rfl); have f2 := (HS.out.pick 7 rfl).frozen 2
        refine skip_ (w1 := ?_) (by rfl) rfl ?_ ?_
        rotate_left
        · go_simp
          rfl
        clear q0 q1 q2 f0 f1 f2
        have n0_ := Aside0.mk ((((HS.out.pick 7 rfl).set 0 (.int .i64 Kn) #[.int .i64 Kn, .int .i64 0, .slice none 0 0] rfl).set 1 (.int .i64 bb) #[.int .i64 Kn, .int .i64 bb, .slice none 0 0] rfl).set 2 (.slice A3 n3 c3) #[.int .i64 Kn, .int .i64 bb, (.slice A3 n3 c3)] rfl); have n1_ := Aside0.mk ((((HS.out.pick 7 rfl).set 0 (.int .i64 Kn) #[.int .i64 Kn, .int .i64 0, .slice none 0 0] rfl).set 1 (.int .i64 bb) #[.int .i64 Kn, .int .i64 bb, .slice none 0 0] rfl).below_set (i := 2) (u := (.slice A3 n3 c3)) (((HS.out.pick 7 rfl).set 0 (.int .i64 Kn) #[.int .i64 Kn, .int .i64 0, .slice none 0 0] rfl).below_set (i := 1) (u := .int .i64 bb) ((HS.out.pick 7 rfl).below_set (i := 0) (u := .int .i64 Kn) HB.out))); clear HS HB; have HS := n0_; have HB := n1_; clear n0_ n1_; (try simp only [List.eraseIdx_cons_succ, List.eraseIdx_cons_zero] at HS)
        refine hK.out _ _ ?_
        clear hK K
        refine done_ (done_of HT_.out (by kernel_rfl)) ?_
        clear HT_ HW_
        try clear hHeld
        generalize (World.setCell _ _ _) = w40 at HS HB ⊢
        have n0_ := Aside0.mk ((((((((((((HS.out.pick 9 rfl).pick 9 rfl).pick 9 rfl).pick 4 rfl).pick 7 rfl).pick 6 rfl).pick 7 rfl).pick 8 rfl).pick 9 rfl).pick 10 rfl).pick 10 rfl)); have n1_ := Aside0.mk (HB.out); clear HS HB; have HS := n0_; have HB := n1_; clear n0_ n1_; (try simp only [List.eraseIdx_cons_succ, List.eraseIdx_cons_zero] at HS)
        revert HB
        revert HS
        revert w40
        revert s3
        revert A3
        revert n3
        revert c3
        revert AX
        revert cX
        revert AU
        revert cU
        revert AT
        revert cT
        exact key.out
    ·
      refine box_step (by rfl) (Nt := 11) rfl (cs := #[.int .i64 0, .int .i64 0, .slice none 0 0]) (t := 28) ?hrw35 ?_
      (case hrw35 => first | (go_simp; done) | (go_simp; rfl))
      intro s3 hg w35 hbox hb
      have n0_ := Aside0.mk (((((((((HS.out.box hg hbox hb).pick 7 rfl).pick 7 rfl).pick 7 rfl).pick 7 rfl).pick 7 rfl).pick 7 rfl).pick 7 rfl)); have n1_ := Aside0.mk (below_step' HB.out HS.out.size hb); clear HS HB; have HS := n0_; have HB := n1_; clear n0_ n1_; (try simp only [List.eraseIdx_cons_succ, List.eraseIdx_cons_zero] at HS)
      clear hb hbox hg
      refine hK.out _ _ ⟨((HS.out.pick 3 rfl).cell 0).trans rfl, ((HS.out.pick 3 rfl).cell 1).trans rfl⟩ (fun hHeld => ?_)
      clear hK K
      refine norm_ (a' := ?_) ?_ ?_
      rotate_left
      · show Act.put _ (some 11) _ = _
        simp only [Act.put, List.setIfInBounds_toArray, List.set_cons_zero, List.set_cons_succ, i64_w, i32_w]
        rfl
      refine one_ (i := 5) (N := some 55) (tfs true [7, 3, 1, 1]).toArray rfl rfl (one_of HT_.out (by kernel_rfl)) (by decide) (fun K hK => ?_)
      refine goes_ Try.func22 (by kernel_rfl) rfl #[.slice Aa dl.length ca] (by rfl) rfl rfl (by (try simp only [List.map_toArray, List.map_cons, List.map_nil]); first | done | rfl | (simp only [List.length_drop, List.length_take]; rfl)) ?_
      with_reducible refine (sleuthlaw23_keys.calls k Aa ca dl ts _ (Kd.C_below HC.out HB.out) hca.out hk.out).mono ?_
      rintro e w36 ⟨vT, rfl, ho, hb⟩
      refine ⟨_, rfl, ?_⟩
      have n0_ := Aside0.mk ((((((((((HS.out.made ho hb).pick 8 rfl).pick 8 rfl).pick 8 rfl).pick 8 rfl).pick 8 rfl).pick 8 rfl).pick 8 rfl).pick 8 rfl)); have n1_ := Aside0.mk (below_step' HB.out HS.out.size hb); clear HS HB; have HS := n0_; have HB := n1_; clear n0_ n1_; (try simp only [List.eraseIdx_cons_succ, List.eraseIdx_cons_zero] at HS)
      clear ho hb; obtain ⟨AT, cT, e_⟩ : ∃ (A : Option Addr) (c : Nat), vT = .slice A ts.length c := (by obtain ⟨A, c, e, _, _⟩ := (HS.out.pick 8 rfl).reads; exact ⟨A, c, e⟩); subst e_
      refine hK.out _ _ ⟨((HS.out.pick 3 rfl).cell 0).trans rfl, ((HS.out.pick 3 rfl).cell 1).trans rfl⟩ (fun hHeld => ?_)
      clear hK K
      refine norm_ (a' := ?_) ?_ ?_
      rotate_left
      · show Act.put _ (some 55) _ = _
        simp only [Act.put, List.setIfInBounds_toArray, List.set_cons_zero, List.set_cons_succ, i64_w, i32_w]
        rfl
      refine one_ (i := 7) (N := some 57) (tfs true [8, 2, 1, 1]).toArray rfl rfl (one_of HT_.out (by kernel_rfl)) (by decide) (fun K hK => ?_)
      refine goes_ Try.func22 (by kernel_rfl) rfl #[.slice Ab em.length cb] (by rfl) rfl rfl (by (try simp only [List.map_toArray, List.map_cons, List.map_nil]); first | done | rfl | (simp only [List.length_drop, List.length_take]; rfl)) ?_
      with_reducible refine (sleuthlaw23_keys.calls kb Ab cb em us _ (Kd.C_below HCb.out HB.out) hcb.out hkb.out).mono ?_
      rintro e w37 ⟨vU, rfl, ho, hb⟩
      refine ⟨_, rfl, ?_⟩
      have n0_ := Aside0.mk (((((((((((HS.out.made ho hb).pick 9 rfl).pick 9 rfl).pick 9 rfl).pick 9 rfl).pick 9 rfl).pick 9 rfl).pick 9 rfl).pick 9 rfl).pick 9 rfl)); have n1_ := Aside0.mk (below_step' HB.out HS.out.size hb); clear HS HB; have HS := n0_; have HB := n1_; clear n0_ n1_; (try simp only [List.eraseIdx_cons_succ, List.eraseIdx_cons_zero] at HS)
      clear ho hb; obtain ⟨AU, cU, e_⟩ : ∃ (A : Option Addr) (c : Nat), vU = .slice A us.length c := (by obtain ⟨A, c, e, _, _⟩ := (HS.out.pick 9 rfl).reads; exact ⟨A, c, e⟩); subst e_
      refine hK.out _ _ ⟨((HS.out.pick 3 rfl).cell 0).trans rfl, ((HS.out.pick 3 rfl).cell 1).trans rfl⟩ (fun hHeld => ?_)
      clear hK K
      refine norm_ (a' := ?_) ?_ ?_
      rotate_left
      · show Act.put _ (some 57) _ = _
        simp only [Act.put, List.setIfInBounds_toArray, List.set_cons_zero, List.set_cons_succ, i64_w, i32_w]
        rfl
      refine one_ (i := 8) (N := some 58) (tfs true [9, 1, 1, 1]).toArray rfl rfl (one_of HT_.out (by kernel_rfl)) (by decide) (fun K hK => ?_)
      refine S_append_rows_step Kd.string (by rfl) (.tmp 55) (.tmp 57) 39 9 (.string ⟨#[]⟩) 16 rfl Try.underlying39 info9 rfl (by decide) (by omega) (.slice AT ts.length cT) ts us AU us.length cU rfl rfl (fun _ _ h => h) (HS.out.pick 8 rfl) (HS.out.pick 9 rfl).rowC.2.2 HB.out (by have := hts.out; have := hus.out; omega) ?_
      intro vX w38 hs9 hb
      have n0_ := Aside0.mk ((((((((((hs9.pick 9 rfl).pick 9 rfl).pick 9 rfl).pick 9 rfl).pick 9 rfl).pick 9 rfl).pick 9 rfl).pick 9 rfl).pick 9 rfl)); have n1_ := Aside0.mk (hb); clear HS HB; have HS := n0_; have HB := n1_; clear n0_ n1_; (try simp only [List.eraseIdx_cons_succ, List.eraseIdx_cons_zero] at HS)
      clear hs9 hb
      obtain ⟨AX, cX, e_⟩ : ∃ (A : Option Addr) (c : Nat), vX = .slice A (ts ++ us).length c := (by obtain ⟨A, c, e, _, _⟩ := (HS.out.pick 9 rfl).reads; exact ⟨A, c, e⟩); subst e_
      refine hK.out _ _ ⟨((HS.out.pick 3 rfl).cell 0).trans rfl, ((HS.out.pick 3 rfl).cell 1).trans rfl⟩ (fun hHeld => ?_)
      clear hK K
      refine norm_ (a' := ?_) ?_ ?_
      rotate_left
      · show Act.put _ (some 58) _ = _
        simp only [Act.put, List.setIfInBounds_toArray, List.set_cons_zero, List.set_cons_succ, i64_w, i32_w]
        rfl
      refine one_ (i := 9) (N := some 59) (tfs true [11, 1]).toArray rfl rfl (one_of HT_.out (by kernel_rfl)) (by decide) (fun K hK => ?_)
      refine goes_ Try.func24 (by kernel_rfl) rfl #[.int .i64 Kn, .int .i64 bb, .slice AX (ts ++ us).length cX] (by rfl) rfl rfl (by (try simp only [List.map_toArray, List.map_cons, List.map_nil]); first | done | rfl | (simp only [List.length_drop, List.length_take]; rfl)) ?_
      with_reducible refine (ofl_ok Kn bb k2 hs (ts ++ us) (ts ++ us).length (Nat.le_refl _) hlw.out HOW.out AX cX (HS.out.pick 9 rfl)).mono ?_
      rintro e w39 ⟨v3, rfl, hs1, hb⟩; rw [List.take_length] at hs1
      refine ⟨_, rfl, ?_⟩
      have n0_ := Aside0.mk ((((((((((((hs1.pick 0 rfl).pick 1 rfl).pick 10 rfl).pick 10 rfl).pick 10 rfl).pick 10 rfl).pick 10 rfl).pick 10 rfl).pick 10 rfl).pick 10 rfl).pick 10 rfl)); have n1_ := Aside0.mk (HB.out.trans hb); clear HS HB; have HS := n0_; have HB := n1_; clear n0_ n1_; (try simp only [List.eraseIdx_cons_succ, List.eraseIdx_cons_zero] at HS)
      clear hs1 hb; obtain ⟨A3, n3, c3, e_⟩ : ∃ (A : Option Addr) (n c : Nat), v3 = .slice A n c := (by obtain ⟨A, c, e, _, _⟩ := (HS.out.pick 10 rfl).reads; exact ⟨A, _, c, e⟩); subst e_
      refine hK.out _ _ ⟨((HS.out.pick 3 rfl).cell 0).trans rfl, ((HS.out.pick 3 rfl).cell 1).trans rfl⟩ (fun hHeld => ?_)
      clear hK K
      refine norm_ (a' := ?_) ?_ ?_
      rotate_left
      · show Act.put _ (some 59) _ = _
        simp only [Act.put, List.setIfInBounds_toArray, List.set_cons_zero, List.set_cons_succ, i64_w, i32_w]
        rfl
      refine last_ (i := 11) (N := none) (tfs true [12]).toArray rfl rfl (one_of HT_.out (by kernel_rfl)) (by decide) (fun K hK => ?_)
      have q0 := ((HS.out.pick 7 rfl).cell 0).trans (show _ = some (.int .i64 0) from rfl); have f0 := (HS.out.pick 7 rfl).frozen 0; have q1 := ((HS.out.pick 7 rfl).cell 1).trans (show _ = some (.int .i64 0) from rfl); have f1 := (HS.out.pick 7 rfl).frozen 1; have q2 := ((HS.out.pick 7 rfl).cell 2).trans (show _ = some (.slice none 0 0) from rfl); have f2 := (HS.out.pick 7 rfl).frozen 2
      refine skip_ (w1 := ?_) (by rfl) rfl ?_ ?_
      rotate_left
      · go_simp
        rfl
      clear q0 q1 q2 f0 f1 f2
      have n0_ := Aside0.mk ((((HS.out.pick 7 rfl).set 0 (.int .i64 Kn) #[.int .i64 Kn, .int .i64 0, .slice none 0 0] rfl).set 1 (.int .i64 bb) #[.int .i64 Kn, .int .i64 bb, .slice none 0 0] rfl).set 2 (.slice A3 n3 c3) #[.int .i64 Kn, .int .i64 bb, (.slice A3 n3 c3)] rfl); have n1_ := Aside0.mk ((((HS.out.pick 7 rfl).set 0 (.int .i64 Kn) #[.int .i64 Kn, .int .i64 0, .slice none 0 0] rfl).set 1 (.int .i64 bb) #[.int .i64 Kn, .int .i64 bb, .slice none 0 0] rfl).below_set (i := 2) (u := (.slice A3 n3 c3)) (((HS.out.pick 7 rfl).set 0 (.int .i64 Kn) #[.int .i64 Kn, .int .i64 0, .slice none 0 0] rfl).below_set (i := 1) (u := .int .i64 bb) ((HS.out.pick 7 rfl).below_set (i := 0) (u := .int .i64 Kn) HB.out))); clear HS HB; have HS := n0_; have HB := n1_; clear n0_ n1_; (try simp only [List.eraseIdx_cons_succ, List.eraseIdx_cons_zero] at HS)
      refine hK.out _ _ ?_
      clear hK K
      refine done_ (done_of HT_.out (by kernel_rfl)) ?_
      clear HT_ HW_
      try clear hHeld
      generalize (World.setCell _ _ _) = w40 at HS HB ⊢
      have n0_ := Aside0.mk ((((((((((((HS.out.pick 9 rfl).pick 9 rfl).pick 9 rfl).pick 4 rfl).pick 7 rfl).pick 6 rfl).pick 7 rfl).pick 8 rfl).pick 9 rfl).pick 10 rfl).pick 10 rfl)); have n1_ := Aside0.mk (HB.out); clear HS HB; have HS := n0_; have HB := n1_; clear n0_ n1_; (try simp only [List.eraseIdx_cons_succ, List.eraseIdx_cons_zero] at HS)
      revert HB
      revert HS
      revert w40
      revert s3
      revert A3
      revert n3
      revert c3
      revert AX
      revert cX
      revert AU
      revert cU
      revert AT
      revert cT
      exact key.out
  case key =>
    intro cT AT cU AU cX AX c3 n3 A3 s3 w40 HS HB
    have hn3 := (HS.out.pick 1 rfl).rowC.1
    subst hn3
    have hn1 := (HS.out.pick 3 rfl).rowC.1
    subst hn1
    have hn2 := (HS.out.pick 5 rfl).rowC.1
    subst hn2
    have r3 := Aside0.mk (HS.out.pick 1 rfl).rowC.2.1
    have r1 := Aside0.mk (HS.out.pick 3 rfl).rowC.2.1
    have r2 := Aside0.mk (HS.out.pick 5 rfl).rowC.2.1
    have y1 := Aside0.mk (Nat.le_trans hz1 (show 100000 ≤ 1000000 by decide))
    have y2 := Aside0.mk (Nat.le_trans hz2 (show 100000 ≤ 1000000 by decide))
    have y3 := Aside0.mk (Nat.le_trans hz3 (show 100000 ≤ 1000000 by decide))
    clear HSo HBo
    obtain ⟨k1, hk1⟩ : ∃ k, min Kn (foldk hs ts).length = k := ⟨_, rfl⟩
    obtain ⟨k2_, hk2⟩ : ∃ k, min Kn (foldk hs us).length = k := ⟨_, rfl⟩
    obtain ⟨k3, hk3⟩ : ∃ k, min Kn (foldk hs (ts ++ us)).length = k := ⟨_, rfl⟩
    have hq1 : Aside0 (k1 ≤ 1000) := ⟨by omega⟩
    have hq2 : Aside0 (k2_ ≤ 1000) := ⟨by omega⟩
    have hq3 : Aside0 (k3 ≤ 1000) := ⟨by omega⟩
    replace hk1 := Aside0.mk hk1
    replace hk2 := Aside0.mk hk2
    replace hk3 := Aside0.mk hk3
    have hc0_0 := ((HS.out.pick 0 rfl).cell 0).trans (show _ = some (.int .i64 Kn) from rfl); have hc0_1 := ((HS.out.pick 0 rfl).cell 1).trans (show _ = some (.int .i64 bb) from rfl); have hc0_2 := ((HS.out.pick 0 rfl).cell 2).trans (show _ = some (.slice A3 (foldk hs (ts ++ us)).length c3) from rfl)
    go_wp2_with (first | ((with_reducible refine gate_callee (f := 14) rfl ?_); refine goesL_ (some 61) rfl rfl Try.func14 (by kernel_rfl) rfl #[.agg #[.int .i64 Kn, .int .i64 bb, .slice A3 (foldk hs (ts ++ us)).length c3]] rfl (by (try simp only [List.map_toArray, List.map_cons, List.map_nil]); first | done | rfl | (simp only [List.length_drop, List.length_take]; rfl)) ?_; (with_reducible refine (kept_to Kn bb A3 (foldk hs (ts ++ us)).length c3 r3.out y3.out k3 hk3.out _).mono ?_); rintro e w41 ⟨rfl, hb⟩; clear hc0_0 hc0_1 hc0_2; refine ⟨_, rfl, ?_⟩; have n0_ := Aside0.mk (HS.out.step hb); have n1_ := Aside0.mk (below_step' HB.out HS.out.size hb); clear HS HB; have HS := n0_; have HB := n1_; clear n0_ n1_; (try simp only [List.eraseIdx_cons_succ, List.eraseIdx_cons_zero] at HS); clear hb))
    go_loopw [13, 14] (fun v13 v14 wc => ∃ i : Nat, i ≤ k3 ∧ v13 = .int .i64 ((cnt ((foldk hs (ts ++ us)).take Kn) ((foldk hs ts).take Kn) ((foldk hs us).take Kn) i : Nat) : Int) ∧ v14 = .int .i64 i ∧ Aside0 (St w.heap.size wc (Blk s3 #[.int .i64 Kn, .int .i64 bb, .slice A3 (foldk hs (ts ++ us)).length c3] 28 :: Row k52 52 (.slice A3 (foldk hs (ts ++ us)).length c3) (foldk hs (ts ++ us)) :: Sk p Kn bb (foldk hs ts) :: Row k52 52 (.slice A1 (foldk hs ts).length c1) (foldk hs ts) :: Sk p2 Kn bb (foldk hs us) :: Row k52 52 (.slice A2 (foldk hs us).length c2) (foldk hs us) :: Blk s #[.int .i64 Kn, .int .i64 bb, .slice A1 (foldk hs ts).length c1] 28 :: Blk s2 #[.int .i64 Kn, .int .i64 bb, .slice A2 (foldk hs us).length c2] 28 :: Blk q #[.int .u8 a, .int .u8 bb] 23 :: Row Kd.string 9 (.slice AU us.length cU) us :: Row Kd.string 9 (.slice AX (ts ++ us).length cX) (ts ++ us) :: [])) ∧ Aside0 (Below w.heap.size w wc)) (fun _ v14 _ => (k3 - intOf v14).toNat)
    case atStart => exact ⟨0, Nat.zero_le _, rfl, rfl, HS, HB⟩
    case round =>
      clear HS HB
      obtain ⟨i, hi, rfl, rfl, HS, HB⟩ := hrel
      generalize hcn : cnt ((foldk hs (ts ++ us)).take Kn) ((foldk hs ts).take Kn) ((foldk hs us).take Kn) i = n
      replace hcn := Aside0.mk hcn
      by_cases hlt2 : i < k3
      · have i1 : (0 : Int) ≤ (i : Int) := by omega
        have i2 : (i : Int) < (k3 : Int) := by omega
        have i3 : decide ((i : Int) < (k3 : Int)) = true := decide_eq_true i2
        have i4 : wrap64 ((i : Int) + 1) = (i : Int) + 1 := inc_lt hlt2 hq3.out
        have i5 : wrap64 ((n : Int) + 1) = (n : Int) + 1 := inc_lt (Nat.lt_of_le_of_lt (hcn.out ▸ cnt_le _ _ _ i) hlt2) hq3.out
        have hi4 := Aside0.mk hlt2
        obtain ⟨ad3, e3, _⟩ := at_T52 (HS.out.pick 1 rfl).rowC.2.2 (i : Int) i1 (by have := hk3.out; omega)
        subst e3
        clear hlt2 hi
        go_wp2
        go_loopw [15, 17] (fun vp vk wc => ∃ k : Nat, k ≤ k1 ∧ vk = .int .i64 k ∧ vp = .bool (hasN (foldk hs ts) (rd_T52 (foldk hs (ts ++ us)) (i : Int)) k) ∧ Aside0 (St w.heap.size wc (Blk s3 #[.int .i64 Kn, .int .i64 bb, .slice (some ad3) (foldk hs (ts ++ us)).length c3] 28 :: Row k52 52 (.slice (some ad3) (foldk hs (ts ++ us)).length c3) (foldk hs (ts ++ us)) :: Sk p Kn bb (foldk hs ts) :: Row k52 52 (.slice A1 (foldk hs ts).length c1) (foldk hs ts) :: Sk p2 Kn bb (foldk hs us) :: Row k52 52 (.slice A2 (foldk hs us).length c2) (foldk hs us) :: Blk s #[.int .i64 Kn, .int .i64 bb, .slice A1 (foldk hs ts).length c1] 28 :: Blk s2 #[.int .i64 Kn, .int .i64 bb, .slice A2 (foldk hs us).length c2] 28 :: Blk q #[.int .u8 a, .int .u8 bb] 23 :: Row Kd.string 9 (.slice AU us.length cU) us :: Row Kd.string 9 (.slice AX (ts ++ us).length cX) (ts ++ us) :: [])) ∧ Aside0 (Below w.heap.size w wc)) (fun _ vk _ => (k1 - intOf vk).toNat)
        case atStart => exact ⟨0, Nat.zero_le _, rfl, rfl, HS, HB⟩
        case round =>
          clear HS HB
          obtain ⟨k, hkk, rfl, rfl, HS, HB⟩ := hrel
          generalize hpv : hasN (foldk hs ts) (rd_T52 (foldk hs (ts ++ us)) (i : Int)) k = pv_p
          replace hpv := Aside0.mk hpv
          have hc6_0 := ((HS.out.pick 6 rfl).cell 0).trans (show _ = some (.int .i64 Kn) from rfl); have hc6_1 := ((HS.out.pick 6 rfl).cell 1).trans (show _ = some (.int .i64 bb) from rfl); have hc6_2 := ((HS.out.pick 6 rfl).cell 2).trans (show _ = some (.slice A1 (foldk hs ts).length c1) from rfl)
          by_cases hlt3 : k < k1
          · have p3 : decide ((k : Int) < (k1 : Int)) = true := decide_eq_true (Int.ofNat_lt.mpr hlt3)
            have p1 : (0 : Int) ≤ (k : Int) := Int.natCast_nonneg _
            have p2 : (k : Int) < (k1 : Int) := Int.ofNat_lt.mpr hlt3
            have p4 : wrap64 ((k : Int) + 1) = (k : Int) + 1 := inc_lt hlt3 hq1.out
            have hlt4 := Aside0.mk hlt3
            clear hkk
            go_upto_region 14 with (first | ((with_reducible refine gate_callee (f := 14) rfl ?_); refine goesL_ (some 70) rfl rfl Try.func14 (by kernel_rfl) rfl #[.agg #[.int .i64 Kn, .int .i64 bb, .slice A1 (foldk hs ts).length c1]] rfl (by (try simp only [List.map_toArray, List.map_cons, List.map_nil]); first | done | rfl | (simp only [List.length_drop, List.length_take]; rfl)) ?_; (with_reducible refine (kept_to Kn bb A1 (foldk hs ts).length c1 r1.out y1.out k1 hk1.out _).mono ?_); rintro e w61 ⟨rfl, hb⟩; clear hc6_0 hc6_1 hc6_2; refine ⟨_, rfl, ?_⟩; have n0_ := Aside0.mk (HS.out.step hb); have n1_ := Aside0.mk (below_step' HB.out HS.out.size hb); clear HS HB; have HS := n0_; have HB := n1_; clear n0_ n1_; (try simp only [List.eraseIdx_cons_succ, List.eraseIdx_cons_zero] at HS); clear hb))
            cases pv_p
            · obtain ⟨ad1, e1, _⟩ := at_T52 (HS.out.pick 3 rfl).rowC.2.2 (k : Int) p1 (lt_min hlt4.out hk1.out)
              subst e1
              obtain ⟨ad_, e_, hx0, hx1⟩ := at_T52 (HS.out.pick 1 rfl).rowC.2.2 (i : Int) (Int.natCast_nonneg _) (lt_min hi4.out hk3.out)
              cases e_
              rw [Int.toNat_natCast] at hx0 hx1
              replace hx0 := Aside0.mk hx0
              replace hx1 := Aside0.mk hx1
              obtain ⟨ad_, e_, hy0, hy1⟩ := at_T52 (HS.out.pick 3 rfl).rowC.2.2 (k : Int) (Int.natCast_nonneg _) (lt_min hlt4.out hk1.out)
              cases e_
              rw [Int.toNat_natCast] at hy0 hy1
              replace hy0 := Aside0.mk hy0
              replace hy1 := Aside0.mk hy1
              by_cases hyx : rd_T52 (foldk hs ts) (k : Int) = rd_T52 (foldk hs (ts ++ us)) (i : Int)
              · have e5 : ((rd_T52 (foldk hs ts) (k : Int)).f0 = (rd_T52 (foldk hs (ts ++ us)) (i : Int)).f0) = True := eq_true (by rw [hyx])
                have e6 : ((rd_T52 (foldk hs ts) (k : Int)).f1.toList = (rd_T52 (foldk hs (ts ++ us)) (i : Int)).f1.toList) = True := eq_true (by rw [hyx])
                have hyx' := Aside0.mk hyx
                clear hyx hlt3
                have n2_ := Aside0.mk (show w61.drew.cell? _ = _ from hx0.out); clear hx0; have hx0 := n2_; clear n2_
                have n2_ := Aside0.mk (show w61.drew.cell? _ = _ from hx1.out); clear hx1; have hx1 := n2_; clear n2_
                have n2_ := Aside0.mk (show w61.drew.cell? _ = _ from hy0.out); clear hy0; have hy0 := n2_; clear n2_
                have n2_ := Aside0.mk (show w61.drew.cell? _ = _ from hy1.out); clear hy1; have hy1 := n2_; clear n2_
                have n0_ := Aside0.mk (HS.out.drew); have n1_ := Aside0.mk (HB.out.drew); clear HS HB; have HS := n0_; have HB := n1_; clear n0_ n1_
                refine start_ (n := 14) (S := fun w' => w'.cell? ⟨s, 0, none⟩ = some (.int .i64 Kn) ∧ w'.cell? ⟨s, 1, none⟩ = some (.int .i64 bb) ∧ w'.cell? ⟨s, 2, none⟩ = some (.slice (some ad1) (foldk hs ts).length c1) ∧ w'.cell? (ad1.add (k * 2)) = some (.int .i64 (rd_T52 (foldk hs ts) (k : Int)).f0) ∧ w'.cell? ⟨(ad1.add (k * 2)).block, (ad1.add (k * 2)).off + 1, none⟩ = some (.string (rd_T52 (foldk hs ts) (k : Int)).f1) ∧ w'.cell? (ad3.add (i * 2)) = some (.int .i64 (rd_T52 (foldk hs (ts ++ us)) (i : Int)).f0) ∧ w'.cell? ⟨(ad3.add (i * 2)).block, (ad3.add (i * 2)).off + 1, none⟩ = some (.string (rd_T52 (foldk hs (ts ++ us)) (i : Int)).f1)) (ds := []) (tfs true [0, 14]).toArray (by kernel_rfl) rfl rfl ⟨((HS.out.pick 6 rfl).cell 0).trans rfl, ((HS.out.pick 6 rfl).cell 1).trans rfl, ((HS.out.pick 6 rfl).cell 2).trans rfl, hy0.out, hy1.out, hx0.out, hx1.out⟩ (fun hHeld => ?_); refine with_tabW ovs.tab14 ovs.bits14 (fun HT_ HW_ => ?_)
                generalize w61.drew = w62 at HS HB hx0 hx1 hy0 hy1 hHeld ⊢
                refine pU 0 75 (tfs true [1, 13]).toArray rfl rfl HT_ ?_
                refine pU 1 76 (tfs true [2, 12]).toArray rfl rfl HT_ ?_
                refine pU 4 79 (tfs true [2, 2, 1, 9]).toArray rfl rfl HT_ ?_
                refine pU 7 82 (tfs true [2, 2, 1, 2, 1, 6]).toArray rfl rfl HT_ ?_
                refine pU 8 83 (tfs true [2, 2, 1, 2, 2, 5]).toArray rfl rfl HT_ ?_
                refine pU 9 84 (tfs true [2, 2, 1, 2, 3, 4]).toArray rfl rfl HT_ ?_
                refine tK 2 77 (tfs true [3, 1, 1, 2, 3, 4]).toArray rfl rfl HT_ HW_ hHeld ?_ (by rintro w' ⟨s0, s1, s2, s3, s4, s5, s6⟩; go_simp; with_reducible rfl)
                refine tK 10 85 (tfs true [3, 1, 1, 2, 4, 3]).toArray rfl rfl HT_ HW_ hHeld ?_ (by rintro w' ⟨s0, s1, s2, s3, s4, s5, s6⟩; go_simp; with_reducible rfl)
                refine one_ (i := 3) (N := some 78) (tfs true [5, 2, 4, 3]).toArray rfl rfl (one_of HT_.out (by kernel_rfl)) (by decide) (fun K hK => ?_)
                refine goes_ Try.func14 (by kernel_rfl) rfl #[.agg #[.int .i64 Kn, .int .i64 bb, .slice (some ad1) (foldk hs ts).length c1]] (by rfl) rfl rfl (by (try simp only [List.map_toArray, List.map_cons, List.map_nil]); first | done | rfl | (simp only [List.length_drop, List.length_take]; rfl)) ?_
                with_reducible refine (kept_to Kn bb (some ad1) (foldk hs ts).length c1 r1.out y1.out k1 hk1.out _).mono ?_
                rintro e w63 ⟨rfl, hb⟩
                refine ⟨_, rfl, ?_⟩
                have n0_ := Aside0.mk (HS.out.step hb); have n1_ := Aside0.mk (below_step' HB.out HS.out.size hb); clear HS HB; have HS := n0_; have HB := n1_; clear n0_ n1_; (try simp only [List.eraseIdx_cons_succ, List.eraseIdx_cons_zero] at HS)
                clear hb hx0 hx1 hy0 hy1; obtain ⟨ad_, e_, hx0, hx1⟩ := at_T52 (HS.out.pick 1 rfl).rowC.2.2 (i : Int) (Int.natCast_nonneg _) (lt_min hi4.out hk3.out); cases e_; rw [Int.toNat_natCast] at hx0 hx1; replace hx0 := Aside0.mk hx0; replace hx1 := Aside0.mk hx1; obtain ⟨ad_, e_, hy0, hy1⟩ := at_T52 (HS.out.pick 3 rfl).rowC.2.2 (k : Int) (Int.natCast_nonneg _) (lt_min hlt4.out hk1.out); cases e_; rw [Int.toNat_natCast] at hy0 hy1; replace hy0 := Aside0.mk hy0; replace hy1 := Aside0.mk hy1
                refine hK.out _ _ ⟨((HS.out.pick 6 rfl).cell 0).trans rfl, ((HS.out.pick 6 rfl).cell 1).trans rfl, ((HS.out.pick 6 rfl).cell 2).trans rfl, hy0.out, hy1.out, hx0.out, hx1.out⟩ (fun hHeld => ?_)
                clear hK K
                refine norm_ (a' := ?_) ?_ ?_
                rotate_left
                · show Act.put _ (some 78) _ = _
                  simp only [Act.put, List.setIfInBounds_toArray, List.set_cons_zero, List.set_cons_succ, i64_w, i32_w]
                  rfl
                refine pU 5 80 (tfs true [6, 1, 4, 3]).toArray rfl rfl HT_ ?_
                refine tK 6 81 (tfs true [11, 3]).toArray rfl rfl HT_ HW_ hHeld ?_ (by rintro w' ⟨s0, s1, s2, s3, s4, s5, s6⟩; go_simp; with_reducible rfl)
                refine pU 11 86 (tfs true [12, 2]).toArray rfl rfl HT_ ?_
                refine pU 12 87 (tfs true [13, 1]).toArray rfl rfl HT_ ?_
                refine pU 13 15 (tfs true [14]).toArray rfl rfl HT_ ?_
                refine done_ (done_of HT_.out (by kernel_rfl)) ?_
                clear HT_ HW_
                try clear hHeld
                clear hx0 hx1 hy0 hy1
                go_wp2
                go_roundw
                case rel =>
                  refine ⟨k + 1, hlt4.out, by first | exact cast_inc k | (rw [p4]; exact cast_inc k), ?_, HS, HB⟩
                  rw [hasN, hpv.out, decide_eq_true hyx'.out, Bool.false_or]
                case measure =>
                  (try rw [p4])
                  exact meas_i k k1 hlt4.out
              · have e7 : ∀ {α : Type} (A B : α), (if (rd_T52 (foldk hs ts) (k : Int)).f0 = (rd_T52 (foldk hs (ts ++ us)) (i : Int)).f0 then (if (rd_T52 (foldk hs ts) (k : Int)).f1.toList = (rd_T52 (foldk hs (ts ++ us)) (i : Int)).f1.toList then A else B) else B) = B := fun A B => ite_ne _ _ hyx A B
                have hyx' := Aside0.mk hyx
                clear hyx hlt3
                have n2_ := Aside0.mk (show w61.drew.cell? _ = _ from hx0.out); clear hx0; have hx0 := n2_; clear n2_
                have n2_ := Aside0.mk (show w61.drew.cell? _ = _ from hx1.out); clear hx1; have hx1 := n2_; clear n2_
                have n2_ := Aside0.mk (show w61.drew.cell? _ = _ from hy0.out); clear hy0; have hy0 := n2_; clear n2_
                have n2_ := Aside0.mk (show w61.drew.cell? _ = _ from hy1.out); clear hy1; have hy1 := n2_; clear n2_
                have n0_ := Aside0.mk (HS.out.drew); have n1_ := Aside0.mk (HB.out.drew); clear HS HB; have HS := n0_; have HB := n1_; clear n0_ n1_
                refine start_ (n := 14) (S := fun w' => w'.cell? ⟨s, 0, none⟩ = some (.int .i64 Kn) ∧ w'.cell? ⟨s, 1, none⟩ = some (.int .i64 bb) ∧ w'.cell? ⟨s, 2, none⟩ = some (.slice (some ad1) (foldk hs ts).length c1) ∧ w'.cell? (ad1.add (k * 2)) = some (.int .i64 (rd_T52 (foldk hs ts) (k : Int)).f0) ∧ w'.cell? ⟨(ad1.add (k * 2)).block, (ad1.add (k * 2)).off + 1, none⟩ = some (.string (rd_T52 (foldk hs ts) (k : Int)).f1) ∧ w'.cell? (ad3.add (i * 2)) = some (.int .i64 (rd_T52 (foldk hs (ts ++ us)) (i : Int)).f0) ∧ w'.cell? ⟨(ad3.add (i * 2)).block, (ad3.add (i * 2)).off + 1, none⟩ = some (.string (rd_T52 (foldk hs (ts ++ us)) (i : Int)).f1)) (ds := []) (tfs true [0, 14]).toArray (by kernel_rfl) rfl rfl ⟨((HS.out.pick 6 rfl).cell 0).trans rfl, ((HS.out.pick 6 rfl).cell 1).trans rfl, ((HS.out.pick 6 rfl).cell 2).trans rfl, hy0.out, hy1.out, hx0.out, hx1.out⟩ (fun hHeld => ?_); refine with_tabW ovs.tab14 ovs.bits14 (fun HT_ HW_ => ?_)
                generalize w61.drew = w62 at HS HB hx0 hx1 hy0 hy1 hHeld ⊢
                refine pU 0 75 (tfs true [1, 13]).toArray rfl rfl HT_ ?_
                refine pU 1 76 (tfs true [2, 12]).toArray rfl rfl HT_ ?_
                refine pU 4 79 (tfs true [2, 2, 1, 9]).toArray rfl rfl HT_ ?_
                refine pU 7 82 (tfs true [2, 2, 1, 2, 1, 6]).toArray rfl rfl HT_ ?_
                refine pU 8 83 (tfs true [2, 2, 1, 2, 2, 5]).toArray rfl rfl HT_ ?_
                refine pU 9 84 (tfs true [2, 2, 1, 2, 3, 4]).toArray rfl rfl HT_ ?_
                refine tK 2 77 (tfs true [3, 1, 1, 2, 3, 4]).toArray rfl rfl HT_ HW_ hHeld ?_ (by rintro w' ⟨s0, s1, s2, s3, s4, s5, s6⟩; go_simp; with_reducible rfl)
                refine tK 10 85 (tfs true [3, 1, 1, 2, 4, 3]).toArray rfl rfl HT_ HW_ hHeld ?_ (by rintro w' ⟨s0, s1, s2, s3, s4, s5, s6⟩; go_simp; with_reducible rfl)
                refine one_ (i := 3) (N := some 78) (tfs true [5, 2, 4, 3]).toArray rfl rfl (one_of HT_.out (by kernel_rfl)) (by decide) (fun K hK => ?_)
                refine goes_ Try.func14 (by kernel_rfl) rfl #[.agg #[.int .i64 Kn, .int .i64 bb, .slice (some ad1) (foldk hs ts).length c1]] (by rfl) rfl rfl (by (try simp only [List.map_toArray, List.map_cons, List.map_nil]); first | done | rfl | (simp only [List.length_drop, List.length_take]; rfl)) ?_
                with_reducible refine (kept_to Kn bb (some ad1) (foldk hs ts).length c1 r1.out y1.out k1 hk1.out _).mono ?_
                rintro e w63 ⟨rfl, hb⟩
                refine ⟨_, rfl, ?_⟩
                have n0_ := Aside0.mk (HS.out.step hb); have n1_ := Aside0.mk (below_step' HB.out HS.out.size hb); clear HS HB; have HS := n0_; have HB := n1_; clear n0_ n1_; (try simp only [List.eraseIdx_cons_succ, List.eraseIdx_cons_zero] at HS)
                clear hb hx0 hx1 hy0 hy1; obtain ⟨ad_, e_, hx0, hx1⟩ := at_T52 (HS.out.pick 1 rfl).rowC.2.2 (i : Int) (Int.natCast_nonneg _) (lt_min hi4.out hk3.out); cases e_; rw [Int.toNat_natCast] at hx0 hx1; replace hx0 := Aside0.mk hx0; replace hx1 := Aside0.mk hx1; obtain ⟨ad_, e_, hy0, hy1⟩ := at_T52 (HS.out.pick 3 rfl).rowC.2.2 (k : Int) (Int.natCast_nonneg _) (lt_min hlt4.out hk1.out); cases e_; rw [Int.toNat_natCast] at hy0 hy1; replace hy0 := Aside0.mk hy0; replace hy1 := Aside0.mk hy1
                refine hK.out _ _ ⟨((HS.out.pick 6 rfl).cell 0).trans rfl, ((HS.out.pick 6 rfl).cell 1).trans rfl, ((HS.out.pick 6 rfl).cell 2).trans rfl, hy0.out, hy1.out, hx0.out, hx1.out⟩ (fun hHeld => ?_)
                clear hK K
                refine norm_ (a' := ?_) ?_ ?_
                rotate_left
                · show Act.put _ (some 78) _ = _
                  simp only [Act.put, List.setIfInBounds_toArray, List.set_cons_zero, List.set_cons_succ, i64_w, i32_w]
                  rfl
                refine pU 5 80 (tfs true [6, 1, 4, 3]).toArray rfl rfl HT_ ?_
                refine tK 6 81 (tfs true [11, 3]).toArray rfl rfl HT_ HW_ hHeld ?_ (by rintro w' ⟨s0, s1, s2, s3, s4, s5, s6⟩; go_simp; with_reducible rfl)
                refine pU 11 86 (tfs true [12, 2]).toArray rfl rfl HT_ ?_
                refine pU 12 87 (tfs true [13, 1]).toArray rfl rfl HT_ ?_
                refine pU 13 15 (tfs true [14]).toArray rfl rfl HT_ ?_
                refine done_ (done_of HT_.out (by kernel_rfl)) ?_
                clear HT_ HW_
                try clear hHeld
                clear hx0 hx1 hy0 hy1
                go_wp2
                go_roundw
                case rel =>
                  refine ⟨k + 1, hlt4.out, by first | exact cast_inc k | (rw [p4]; exact cast_inc k), ?_, HS, HB⟩
                  rw [hasN, hpv.out, decide_eq_false hyx'.out, Bool.or_self]
                case measure =>
                  (try rw [p4])
                  exact meas_i k k1 hlt4.out
            · clear hlt3
              have n0_ := Aside0.mk (HS.out.drew); have n1_ := Aside0.mk (HB.out.drew); clear HS HB; have HS := n0_; have HB := n1_; clear n0_ n1_
              refine start_ (n := 14) (S := fun w' => True) (ds := []) (tfs true [0, 14]).toArray (by kernel_rfl) rfl rfl trivial (fun hHeld => ?_); refine with_tabW ovs.tab14 ovs.bits14 (fun HT_ HW_ => ?_)
              generalize w61.drew = w62 at HS HB hHeld ⊢
              refine pU 0 75 (tfs true [1, 13]).toArray rfl rfl HT_ ?_
              refine pU 1 76 (tfs true [2, 12]).toArray rfl rfl HT_ ?_
              refine pO 2 (some 77) (tfs true [3, 11]).toArray rfl rfl HT_ ?_
              refine pO 3 (some 78) (tfs true [4, 10]).toArray rfl rfl HT_ ?_
              refine pO 4 (some 79) (tfs true [5, 9]).toArray rfl rfl HT_ ?_
              refine pO 5 (some 80) (tfs true [6, 8]).toArray rfl rfl HT_ ?_
              refine pO 6 (some 81) (tfs true [7, 7]).toArray rfl rfl HT_ ?_
              refine pO 7 (some 82) (tfs true [8, 6]).toArray rfl rfl HT_ ?_
              refine pO 8 (some 83) (tfs true [9, 5]).toArray rfl rfl HT_ ?_
              refine pO 9 (some 84) (tfs true [10, 4]).toArray rfl rfl HT_ ?_
              refine pO 10 (some 85) (tfs true [11, 3]).toArray rfl rfl HT_ ?_
              refine pO 11 (some 86) (tfs true [12, 2]).toArray rfl rfl HT_ ?_
              refine pU 12 87 (tfs true [13, 1]).toArray rfl rfl HT_ ?_
              refine pU 13 15 (tfs true [14]).toArray rfl rfl HT_ ?_
              refine done_ (done_of HT_.out (by kernel_rfl)) ?_
              clear HT_ HW_
              try clear hHeld
              go_wp2
              go_roundw
              case rel =>
                refine ⟨k + 1, hlt4.out, by first | exact cast_inc k | (rw [p4]; exact cast_inc k), ?_, HS, HB⟩
                rw [hasN, hpv.out, Bool.true_or]
              case measure =>
                (try rw [p4])
                exact meas_i k k1 hlt4.out
          · obtain rfl : k = k1 := Nat.le_antisymm hkk (Nat.le_of_not_lt hlt3)
            have p3 : decide ((k : Int) < (k : Int)) = false := decide_eq_false (Int.lt_irrefl _)
            clear hkk hlt3
            have hpv_p := Aside0.mk ((hasN_take (foldk hs ts) Kn (rd_T52 (foldk hs (ts ++ us)) (i : Int)) k hk1.out).symm.trans hpv.out)
            clear hpv
            go_wp2_with (first | ((with_reducible refine gate_callee (f := 14) rfl ?_); refine goesL_ (some 70) rfl rfl Try.func14 (by kernel_rfl) rfl #[.agg #[.int .i64 Kn, .int .i64 bb, .slice A1 (foldk hs ts).length c1]] rfl (by (try simp only [List.map_toArray, List.map_cons, List.map_nil]); first | done | rfl | (simp only [List.length_drop, List.length_take]; rfl)) ?_; (with_reducible refine (kept_to Kn bb A1 (foldk hs ts).length c1 r1.out y1.out k hk1.out _).mono ?_); rintro e w71 ⟨rfl, hb⟩; clear hc6_0 hc6_1 hc6_2 p3; refine ⟨_, rfl, ?_⟩; have n0_ := Aside0.mk (HS.out.step hb); have n1_ := Aside0.mk (below_step' HB.out HS.out.size hb); clear HS HB; have HS := n0_; have HB := n1_; clear n0_ n1_; (try simp only [List.eraseIdx_cons_succ, List.eraseIdx_cons_zero] at HS); clear hb))
            go_loopw [16, 18] (fun vp vk wc => ∃ k : Nat, k ≤ k2_ ∧ vk = .int .i64 k ∧ vp = .bool (hasN (foldk hs us) (rd_T52 (foldk hs (ts ++ us)) (i : Int)) k) ∧ Aside0 (St w.heap.size wc (Blk s3 #[.int .i64 Kn, .int .i64 bb, .slice (some ad3) (foldk hs (ts ++ us)).length c3] 28 :: Row k52 52 (.slice (some ad3) (foldk hs (ts ++ us)).length c3) (foldk hs (ts ++ us)) :: Sk p Kn bb (foldk hs ts) :: Row k52 52 (.slice A1 (foldk hs ts).length c1) (foldk hs ts) :: Sk p2 Kn bb (foldk hs us) :: Row k52 52 (.slice A2 (foldk hs us).length c2) (foldk hs us) :: Blk s #[.int .i64 Kn, .int .i64 bb, .slice A1 (foldk hs ts).length c1] 28 :: Blk s2 #[.int .i64 Kn, .int .i64 bb, .slice A2 (foldk hs us).length c2] 28 :: Blk q #[.int .u8 a, .int .u8 bb] 23 :: Row Kd.string 9 (.slice AU us.length cU) us :: Row Kd.string 9 (.slice AX (ts ++ us).length cX) (ts ++ us) :: [])) ∧ Aside0 (Below w.heap.size w wc)) (fun _ vk _ => (k2_ - intOf vk).toNat)
            case atStart => exact ⟨0, Nat.zero_le _, rfl, rfl, HS, HB⟩
            case round =>
              clear HS HB
              obtain ⟨k, hkk, rfl, rfl, HS, HB⟩ := hrel
              generalize hpv : hasN (foldk hs us) (rd_T52 (foldk hs (ts ++ us)) (i : Int)) k = pv_q
              replace hpv := Aside0.mk hpv
              have hc7_0 := ((HS.out.pick 7 rfl).cell 0).trans (show _ = some (.int .i64 Kn) from rfl); have hc7_1 := ((HS.out.pick 7 rfl).cell 1).trans (show _ = some (.int .i64 bb) from rfl); have hc7_2 := ((HS.out.pick 7 rfl).cell 2).trans (show _ = some (.slice A2 (foldk hs us).length c2) from rfl)
              by_cases hlt3 : k < k2_
              · have p3 : decide ((k : Int) < (k2_ : Int)) = true := decide_eq_true (Int.ofNat_lt.mpr hlt3)
                have p1 : (0 : Int) ≤ (k : Int) := Int.natCast_nonneg _
                have p2 : (k : Int) < (k2_ : Int) := Int.ofNat_lt.mpr hlt3
                have p4 : wrap64 ((k : Int) + 1) = (k : Int) + 1 := inc_lt hlt3 hq2.out
                have hlt4 := Aside0.mk hlt3
                clear hkk
                go_upto_region 18 with (first | ((with_reducible refine gate_callee (f := 14) rfl ?_); refine goesL_ (some 90) rfl rfl Try.func14 (by kernel_rfl) rfl #[.agg #[.int .i64 Kn, .int .i64 bb, .slice A2 (foldk hs us).length c2]] rfl (by (try simp only [List.map_toArray, List.map_cons, List.map_nil]); first | done | rfl | (simp only [List.length_drop, List.length_take]; rfl)) ?_; (with_reducible refine (kept_to Kn bb A2 (foldk hs us).length c2 r2.out y2.out k2_ hk2.out _).mono ?_); rintro e w61 ⟨rfl, hb⟩; clear hc7_0 hc7_1 hc7_2; refine ⟨_, rfl, ?_⟩; have n0_ := Aside0.mk (HS.out.step hb); have n1_ := Aside0.mk (below_step' HB.out HS.out.size hb); clear HS HB; have HS := n0_; have HB := n1_; clear n0_ n1_; (try simp only [List.eraseIdx_cons_succ, List.eraseIdx_cons_zero] at HS); clear hb))
                cases pv_q
                · obtain ⟨ad1, e1, _⟩ := at_T52 (HS.out.pick 5 rfl).rowC.2.2 (k : Int) p1 (lt_min hlt4.out hk2.out)
                  subst e1
                  obtain ⟨ad_, e_, hx0, hx1⟩ := at_T52 (HS.out.pick 1 rfl).rowC.2.2 (i : Int) (Int.natCast_nonneg _) (lt_min hi4.out hk3.out)
                  cases e_
                  rw [Int.toNat_natCast] at hx0 hx1
                  replace hx0 := Aside0.mk hx0
                  replace hx1 := Aside0.mk hx1
                  obtain ⟨ad_, e_, hy0, hy1⟩ := at_T52 (HS.out.pick 5 rfl).rowC.2.2 (k : Int) (Int.natCast_nonneg _) (lt_min hlt4.out hk2.out)
                  cases e_
                  rw [Int.toNat_natCast] at hy0 hy1
                  replace hy0 := Aside0.mk hy0
                  replace hy1 := Aside0.mk hy1
                  by_cases hyx : rd_T52 (foldk hs us) (k : Int) = rd_T52 (foldk hs (ts ++ us)) (i : Int)
                  · have e5 : ((rd_T52 (foldk hs us) (k : Int)).f0 = (rd_T52 (foldk hs (ts ++ us)) (i : Int)).f0) = True := eq_true (by rw [hyx])
                    have e6 : ((rd_T52 (foldk hs us) (k : Int)).f1.toList = (rd_T52 (foldk hs (ts ++ us)) (i : Int)).f1.toList) = True := eq_true (by rw [hyx])
                    have hyx' := Aside0.mk hyx
                    clear hyx hlt3
                    have n2_ := Aside0.mk (show w61.drew.cell? _ = _ from hx0.out); clear hx0; have hx0 := n2_; clear n2_
                    have n2_ := Aside0.mk (show w61.drew.cell? _ = _ from hx1.out); clear hx1; have hx1 := n2_; clear n2_
                    have n2_ := Aside0.mk (show w61.drew.cell? _ = _ from hy0.out); clear hy0; have hy0 := n2_; clear n2_
                    have n2_ := Aside0.mk (show w61.drew.cell? _ = _ from hy1.out); clear hy1; have hy1 := n2_; clear n2_
                    have n0_ := Aside0.mk (HS.out.drew); have n1_ := Aside0.mk (HB.out.drew); clear HS HB; have HS := n0_; have HB := n1_; clear n0_ n1_
                    refine start_ (n := 14) (S := fun w' => w'.cell? ⟨s2, 0, none⟩ = some (.int .i64 Kn) ∧ w'.cell? ⟨s2, 1, none⟩ = some (.int .i64 bb) ∧ w'.cell? ⟨s2, 2, none⟩ = some (.slice (some ad1) (foldk hs us).length c2) ∧ w'.cell? (ad1.add (k * 2)) = some (.int .i64 (rd_T52 (foldk hs us) (k : Int)).f0) ∧ w'.cell? ⟨(ad1.add (k * 2)).block, (ad1.add (k * 2)).off + 1, none⟩ = some (.string (rd_T52 (foldk hs us) (k : Int)).f1) ∧ w'.cell? (ad3.add (i * 2)) = some (.int .i64 (rd_T52 (foldk hs (ts ++ us)) (i : Int)).f0) ∧ w'.cell? ⟨(ad3.add (i * 2)).block, (ad3.add (i * 2)).off + 1, none⟩ = some (.string (rd_T52 (foldk hs (ts ++ us)) (i : Int)).f1)) (ds := []) (tfs true [0, 14]).toArray (by kernel_rfl) rfl rfl ⟨((HS.out.pick 7 rfl).cell 0).trans rfl, ((HS.out.pick 7 rfl).cell 1).trans rfl, ((HS.out.pick 7 rfl).cell 2).trans rfl, hy0.out, hy1.out, hx0.out, hx1.out⟩ (fun hHeld => ?_); refine with_tabW ovs.tab18 ovs.bits18 (fun HT_ HW_ => ?_)
                    generalize w61.drew = w62 at HS HB hx0 hx1 hy0 hy1 hHeld ⊢
                    refine pU 0 95 (tfs true [1, 13]).toArray rfl rfl HT_ ?_
                    refine pU 1 96 (tfs true [2, 12]).toArray rfl rfl HT_ ?_
                    refine pU 4 99 (tfs true [2, 2, 1, 9]).toArray rfl rfl HT_ ?_
                    refine pU 7 102 (tfs true [2, 2, 1, 2, 1, 6]).toArray rfl rfl HT_ ?_
                    refine pU 8 103 (tfs true [2, 2, 1, 2, 2, 5]).toArray rfl rfl HT_ ?_
                    refine pU 9 104 (tfs true [2, 2, 1, 2, 3, 4]).toArray rfl rfl HT_ ?_
                    refine tK 2 97 (tfs true [3, 1, 1, 2, 3, 4]).toArray rfl rfl HT_ HW_ hHeld ?_ (by rintro w' ⟨s0, s1, s2, s3, s4, s5, s6⟩; go_simp; with_reducible rfl)
                    refine tK 10 105 (tfs true [3, 1, 1, 2, 4, 3]).toArray rfl rfl HT_ HW_ hHeld ?_ (by rintro w' ⟨s0, s1, s2, s3, s4, s5, s6⟩; go_simp; with_reducible rfl)
                    refine one_ (i := 3) (N := some 98) (tfs true [5, 2, 4, 3]).toArray rfl rfl (one_of HT_.out (by kernel_rfl)) (by decide) (fun K hK => ?_)
                    refine goes_ Try.func14 (by kernel_rfl) rfl #[.agg #[.int .i64 Kn, .int .i64 bb, .slice (some ad1) (foldk hs us).length c2]] (by rfl) rfl rfl (by (try simp only [List.map_toArray, List.map_cons, List.map_nil]); first | done | rfl | (simp only [List.length_drop, List.length_take]; rfl)) ?_
                    with_reducible refine (kept_to Kn bb (some ad1) (foldk hs us).length c2 r2.out y2.out k2_ hk2.out _).mono ?_
                    rintro e w63 ⟨rfl, hb⟩
                    refine ⟨_, rfl, ?_⟩
                    have n0_ := Aside0.mk (HS.out.step hb); have n1_ := Aside0.mk (below_step' HB.out HS.out.size hb); clear HS HB; have HS := n0_; have HB := n1_; clear n0_ n1_; (try simp only [List.eraseIdx_cons_succ, List.eraseIdx_cons_zero] at HS)
                    clear hb hx0 hx1 hy0 hy1; obtain ⟨ad_, e_, hx0, hx1⟩ := at_T52 (HS.out.pick 1 rfl).rowC.2.2 (i : Int) (Int.natCast_nonneg _) (lt_min hi4.out hk3.out); cases e_; rw [Int.toNat_natCast] at hx0 hx1; replace hx0 := Aside0.mk hx0; replace hx1 := Aside0.mk hx1; obtain ⟨ad_, e_, hy0, hy1⟩ := at_T52 (HS.out.pick 5 rfl).rowC.2.2 (k : Int) (Int.natCast_nonneg _) (lt_min hlt4.out hk2.out); cases e_; rw [Int.toNat_natCast] at hy0 hy1; replace hy0 := Aside0.mk hy0; replace hy1 := Aside0.mk hy1
                    refine hK.out _ _ ⟨((HS.out.pick 7 rfl).cell 0).trans rfl, ((HS.out.pick 7 rfl).cell 1).trans rfl, ((HS.out.pick 7 rfl).cell 2).trans rfl, hy0.out, hy1.out, hx0.out, hx1.out⟩ (fun hHeld => ?_)
                    clear hK K
                    refine norm_ (a' := ?_) ?_ ?_
                    rotate_left
                    · show Act.put _ (some 98) _ = _
                      simp only [Act.put, List.setIfInBounds_toArray, List.set_cons_zero, List.set_cons_succ, i64_w, i32_w]
                      rfl
                    refine pU 5 100 (tfs true [6, 1, 4, 3]).toArray rfl rfl HT_ ?_
                    refine tK 6 101 (tfs true [11, 3]).toArray rfl rfl HT_ HW_ hHeld ?_ (by rintro w' ⟨s0, s1, s2, s3, s4, s5, s6⟩; go_simp; with_reducible rfl)
                    refine pU 11 106 (tfs true [12, 2]).toArray rfl rfl HT_ ?_
                    refine pU 12 107 (tfs true [13, 1]).toArray rfl rfl HT_ ?_
                    refine pU 13 16 (tfs true [14]).toArray rfl rfl HT_ ?_
                    refine done_ (done_of HT_.out (by kernel_rfl)) ?_
                    clear HT_ HW_
                    try clear hHeld
                    clear hx0 hx1 hy0 hy1
                    go_wp2
                    go_roundw
                    case rel =>
                      refine ⟨k + 1, hlt4.out, by first | exact cast_inc k | (rw [p4]; exact cast_inc k), ?_, HS, HB⟩
                      rw [hasN, hpv.out, decide_eq_true hyx'.out, Bool.false_or]
                    case measure =>
                      (try rw [p4])
                      exact meas_i k k2_ hlt4.out
                  · have e7 : ∀ {α : Type} (A B : α), (if (rd_T52 (foldk hs us) (k : Int)).f0 = (rd_T52 (foldk hs (ts ++ us)) (i : Int)).f0 then (if (rd_T52 (foldk hs us) (k : Int)).f1.toList = (rd_T52 (foldk hs (ts ++ us)) (i : Int)).f1.toList then A else B) else B) = B := fun A B => ite_ne _ _ hyx A B
                    have hyx' := Aside0.mk hyx
                    clear hyx hlt3
                    have n2_ := Aside0.mk (show w61.drew.cell? _ = _ from hx0.out); clear hx0; have hx0 := n2_; clear n2_
                    have n2_ := Aside0.mk (show w61.drew.cell? _ = _ from hx1.out); clear hx1; have hx1 := n2_; clear n2_
                    have n2_ := Aside0.mk (show w61.drew.cell? _ = _ from hy0.out); clear hy0; have hy0 := n2_; clear n2_
                    have n2_ := Aside0.mk (show w61.drew.cell? _ = _ from hy1.out); clear hy1; have hy1 := n2_; clear n2_
                    have n0_ := Aside0.mk (HS.out.drew); have n1_ := Aside0.mk (HB.out.drew); clear HS HB; have HS := n0_; have HB := n1_; clear n0_ n1_
                    refine start_ (n := 14) (S := fun w' => w'.cell? ⟨s2, 0, none⟩ = some (.int .i64 Kn) ∧ w'.cell? ⟨s2, 1, none⟩ = some (.int .i64 bb) ∧ w'.cell? ⟨s2, 2, none⟩ = some (.slice (some ad1) (foldk hs us).length c2) ∧ w'.cell? (ad1.add (k * 2)) = some (.int .i64 (rd_T52 (foldk hs us) (k : Int)).f0) ∧ w'.cell? ⟨(ad1.add (k * 2)).block, (ad1.add (k * 2)).off + 1, none⟩ = some (.string (rd_T52 (foldk hs us) (k : Int)).f1) ∧ w'.cell? (ad3.add (i * 2)) = some (.int .i64 (rd_T52 (foldk hs (ts ++ us)) (i : Int)).f0) ∧ w'.cell? ⟨(ad3.add (i * 2)).block, (ad3.add (i * 2)).off + 1, none⟩ = some (.string (rd_T52 (foldk hs (ts ++ us)) (i : Int)).f1)) (ds := []) (tfs true [0, 14]).toArray (by kernel_rfl) rfl rfl ⟨((HS.out.pick 7 rfl).cell 0).trans rfl, ((HS.out.pick 7 rfl).cell 1).trans rfl, ((HS.out.pick 7 rfl).cell 2).trans rfl, hy0.out, hy1.out, hx0.out, hx1.out⟩ (fun hHeld => ?_); refine with_tabW ovs.tab18 ovs.bits18 (fun HT_ HW_ => ?_)
                    generalize w61.drew = w62 at HS HB hx0 hx1 hy0 hy1 hHeld ⊢
                    refine pU 0 95 (tfs true [1, 13]).toArray rfl rfl HT_ ?_
                    refine pU 1 96 (tfs true [2, 12]).toArray rfl rfl HT_ ?_
                    refine pU 4 99 (tfs true [2, 2, 1, 9]).toArray rfl rfl HT_ ?_
                    refine pU 7 102 (tfs true [2, 2, 1, 2, 1, 6]).toArray rfl rfl HT_ ?_
                    refine pU 8 103 (tfs true [2, 2, 1, 2, 2, 5]).toArray rfl rfl HT_ ?_
                    refine pU 9 104 (tfs true [2, 2, 1, 2, 3, 4]).toArray rfl rfl HT_ ?_
                    refine tK 2 97 (tfs true [3, 1, 1, 2, 3, 4]).toArray rfl rfl HT_ HW_ hHeld ?_ (by rintro w' ⟨s0, s1, s2, s3, s4, s5, s6⟩; go_simp; with_reducible rfl)
                    refine tK 10 105 (tfs true [3, 1, 1, 2, 4, 3]).toArray rfl rfl HT_ HW_ hHeld ?_ (by rintro w' ⟨s0, s1, s2, s3, s4, s5, s6⟩; go_simp; with_reducible rfl)
                    refine one_ (i := 3) (N := some 98) (tfs true [5, 2, 4, 3]).toArray rfl rfl (one_of HT_.out (by kernel_rfl)) (by decide) (fun K hK => ?_)
                    refine goes_ Try.func14 (by kernel_rfl) rfl #[.agg #[.int .i64 Kn, .int .i64 bb, .slice (some ad1) (foldk hs us).length c2]] (by rfl) rfl rfl (by (try simp only [List.map_toArray, List.map_cons, List.map_nil]); first | done | rfl | (simp only [List.length_drop, List.length_take]; rfl)) ?_
                    with_reducible refine (kept_to Kn bb (some ad1) (foldk hs us).length c2 r2.out y2.out k2_ hk2.out _).mono ?_
                    rintro e w63 ⟨rfl, hb⟩
                    refine ⟨_, rfl, ?_⟩
                    have n0_ := Aside0.mk (HS.out.step hb); have n1_ := Aside0.mk (below_step' HB.out HS.out.size hb); clear HS HB; have HS := n0_; have HB := n1_; clear n0_ n1_; (try simp only [List.eraseIdx_cons_succ, List.eraseIdx_cons_zero] at HS)
                    clear hb hx0 hx1 hy0 hy1; obtain ⟨ad_, e_, hx0, hx1⟩ := at_T52 (HS.out.pick 1 rfl).rowC.2.2 (i : Int) (Int.natCast_nonneg _) (lt_min hi4.out hk3.out); cases e_; rw [Int.toNat_natCast] at hx0 hx1; replace hx0 := Aside0.mk hx0; replace hx1 := Aside0.mk hx1; obtain ⟨ad_, e_, hy0, hy1⟩ := at_T52 (HS.out.pick 5 rfl).rowC.2.2 (k : Int) (Int.natCast_nonneg _) (lt_min hlt4.out hk2.out); cases e_; rw [Int.toNat_natCast] at hy0 hy1; replace hy0 := Aside0.mk hy0; replace hy1 := Aside0.mk hy1
                    refine hK.out _ _ ⟨((HS.out.pick 7 rfl).cell 0).trans rfl, ((HS.out.pick 7 rfl).cell 1).trans rfl, ((HS.out.pick 7 rfl).cell 2).trans rfl, hy0.out, hy1.out, hx0.out, hx1.out⟩ (fun hHeld => ?_)
                    clear hK K
                    refine norm_ (a' := ?_) ?_ ?_
                    rotate_left
                    · show Act.put _ (some 98) _ = _
                      simp only [Act.put, List.setIfInBounds_toArray, List.set_cons_zero, List.set_cons_succ, i64_w, i32_w]
                      rfl
                    refine pU 5 100 (tfs true [6, 1, 4, 3]).toArray rfl rfl HT_ ?_
                    refine tK 6 101 (tfs true [11, 3]).toArray rfl rfl HT_ HW_ hHeld ?_ (by rintro w' ⟨s0, s1, s2, s3, s4, s5, s6⟩; go_simp; with_reducible rfl)
                    refine pU 11 106 (tfs true [12, 2]).toArray rfl rfl HT_ ?_
                    refine pU 12 107 (tfs true [13, 1]).toArray rfl rfl HT_ ?_
                    refine pU 13 16 (tfs true [14]).toArray rfl rfl HT_ ?_
                    refine done_ (done_of HT_.out (by kernel_rfl)) ?_
                    clear HT_ HW_
                    try clear hHeld
                    clear hx0 hx1 hy0 hy1
                    go_wp2
                    go_roundw
                    case rel =>
                      refine ⟨k + 1, hlt4.out, by first | exact cast_inc k | (rw [p4]; exact cast_inc k), ?_, HS, HB⟩
                      rw [hasN, hpv.out, decide_eq_false hyx'.out, Bool.or_self]
                    case measure =>
                      (try rw [p4])
                      exact meas_i k k2_ hlt4.out
                · clear hlt3
                  have n0_ := Aside0.mk (HS.out.drew); have n1_ := Aside0.mk (HB.out.drew); clear HS HB; have HS := n0_; have HB := n1_; clear n0_ n1_
                  refine start_ (n := 14) (S := fun w' => True) (ds := []) (tfs true [0, 14]).toArray (by kernel_rfl) rfl rfl trivial (fun hHeld => ?_); refine with_tabW ovs.tab18 ovs.bits18 (fun HT_ HW_ => ?_)
                  generalize w61.drew = w62 at HS HB hHeld ⊢
                  refine pU 0 95 (tfs true [1, 13]).toArray rfl rfl HT_ ?_
                  refine pU 1 96 (tfs true [2, 12]).toArray rfl rfl HT_ ?_
                  refine pO 2 (some 97) (tfs true [3, 11]).toArray rfl rfl HT_ ?_
                  refine pO 3 (some 98) (tfs true [4, 10]).toArray rfl rfl HT_ ?_
                  refine pO 4 (some 99) (tfs true [5, 9]).toArray rfl rfl HT_ ?_
                  refine pO 5 (some 100) (tfs true [6, 8]).toArray rfl rfl HT_ ?_
                  refine pO 6 (some 101) (tfs true [7, 7]).toArray rfl rfl HT_ ?_
                  refine pO 7 (some 102) (tfs true [8, 6]).toArray rfl rfl HT_ ?_
                  refine pO 8 (some 103) (tfs true [9, 5]).toArray rfl rfl HT_ ?_
                  refine pO 9 (some 104) (tfs true [10, 4]).toArray rfl rfl HT_ ?_
                  refine pO 10 (some 105) (tfs true [11, 3]).toArray rfl rfl HT_ ?_
                  refine pO 11 (some 106) (tfs true [12, 2]).toArray rfl rfl HT_ ?_
                  refine pU 12 107 (tfs true [13, 1]).toArray rfl rfl HT_ ?_
                  refine pU 13 16 (tfs true [14]).toArray rfl rfl HT_ ?_
                  refine done_ (done_of HT_.out (by kernel_rfl)) ?_
                  clear HT_ HW_
                  try clear hHeld
                  go_wp2
                  go_roundw
                  case rel =>
                    refine ⟨k + 1, hlt4.out, by first | exact cast_inc k | (rw [p4]; exact cast_inc k), ?_, HS, HB⟩
                    rw [hasN, hpv.out, Bool.true_or]
                  case measure =>
                    (try rw [p4])
                    exact meas_i k k2_ hlt4.out
              · obtain rfl : k = k2_ := Nat.le_antisymm hkk (Nat.le_of_not_lt hlt3)
                have p3 : decide ((k : Int) < (k : Int)) = false := decide_eq_false (Int.lt_irrefl _)
                clear hkk hlt3
                have hpv_q := Aside0.mk ((hasN_take (foldk hs us) Kn (rd_T52 (foldk hs (ts ++ us)) (i : Int)) k hk2.out).symm.trans hpv.out)
                clear hpv
                cases pv_p <;> cases pv_q <;> go_wp2_with (first | ((with_reducible refine gate_callee (f := 14) rfl ?_); refine goesL_ (some 90) rfl rfl Try.func14 (by kernel_rfl) rfl #[.agg #[.int .i64 Kn, .int .i64 bb, .slice A2 (foldk hs us).length c2]] rfl (by (try simp only [List.map_toArray, List.map_cons, List.map_nil]); first | done | rfl | (simp only [List.length_drop, List.length_take]; rfl)) ?_; (with_reducible refine (kept_to Kn bb A2 (foldk hs us).length c2 r2.out y2.out k hk2.out _).mono ?_); rintro e w71 ⟨rfl, hb⟩; clear hc7_0 hc7_1 hc7_2 p3; refine ⟨_, rfl, ?_⟩; have n0_ := Aside0.mk (HS.out.step hb); have n1_ := Aside0.mk (below_step' HB.out HS.out.size hb); clear HS HB; have HS := n0_; have HB := n1_; clear n0_ n1_; (try simp only [List.eraseIdx_cons_succ, List.eraseIdx_cons_zero] at HS); clear hb))
                all_goals
                  go_roundw
                  case rel =>
                    refine ⟨i + 1, hi4.out, ?_, by first | exact cast_inc i | (rw [i4]; exact cast_inc i), HS, HB⟩
                    rw [cnt_next _ _ _ Kn i k3 hk3.out hi4.out n hcn.out _ _ hpv_p.out hpv_q.out]
                    first
                      | rfl
                      | (rw [if_pos (show (true && true) = true from rfl), i5]; done)
                      | (rw [if_pos (show (true && true) = true from rfl), i5]; exact cast_inc n)
                      | (rw [if_pos (show (true && true) = true from rfl)]; exact cast_inc n)
                      | (rw [if_neg (by decide)])
                  case measure =>
                    (try rw [i4])
                    exact meas_i i k3 hi4.out
    

      · obtain rfl : i = k3 := Nat.le_antisymm hi (Nat.le_of_not_lt hlt2)
        have p3 : decide ((i : Int) < (i : Int)) = false := decide_eq_false (Int.lt_irrefl _)
        clear hi hlt2
        obtain ⟨D, hD⟩ : ∃ D, dst Kn (foldk hs (ts ++ us)) = D := ⟨_, rfl⟩
        obtain ⟨O, hO⟩ : ∃ O, ovl ((foldk hs (ts ++ us)).take Kn) ((foldk hs ts).take Kn) ((foldk hs us).take Kn) = O := ⟨_, rfl⟩
        obtain ⟨Z, hZ⟩ : ∃ Z, ovl ((foldk hs ts).take Kn) ((foldk hs ts).take Kn) ((foldk hs ts).take Kn) = Z := ⟨_, rfl⟩
        have hO2 := Aside0.mk ((ovl_swap ((foldk hs (ts ++ us)).take Kn) ((foldk hs us).take Kn) ((foldk hs ts).take Kn)).trans hO)
        have bD : (D != D) = false := bne_self_eq_false D
        have bO : (O != O) = false := bne_self_eq_false O
        replace hD := Aside0.mk hD
        replace hO := Aside0.mk hO
        replace hZ := Aside0.mk hZ
        have hn1 := Aside0.mk (le2000 (hcn.out ▸ cnt_le ((foldk hs (ts ++ us)).take Kn) ((foldk hs ts).take Kn) ((foldk hs us).take Kn) i) hq3.out)
        have n0_ := Aside0.mk (((HS.out.pick 4 rfl).pick 3 rfl)); have n1_ := Aside0.mk (HB.out); clear HS HB; have HS := n0_; have HB := n1_; clear n0_ n1_; (try simp only [List.eraseIdx_cons_succ, List.eraseIdx_cons_zero] at HS)
        by_cases hz : i = 0
        · have q1 := gt0_false hz
          obtain ⟨q3, q4, q5, q6⟩ := gtF hz
          obtain rfl : O = 0 := hO.out.symm.trans (share_zero _ _ hk3.out hz)
          replace hz := Aside0.mk hz
          go_upto_region 30 with (first | ((with_reducible refine gate_callee (f := 34) rfl ?_); refine goesL_ (some 125) rfl rfl Try.func34 (by kernel_rfl) rfl #[.pointer (some ⟨p, 0, none⟩), .pointer (some ⟨p2, 0, none⟩)] rfl (by (try simp only [List.map_toArray, List.map_cons, List.map_nil]); first | done | rfl | (simp only [List.length_drop, List.length_take]; rfl)) ?_; (with_reducible refine (union_to p p2 Kn bb hK1.out hK5 _ _ _ hi1 hi2 hi3 hm1.out hin0 D hD.out HS.out).mono ?_); rintro e w81 ⟨rfl, hs1, hb⟩; refine ⟨_, rfl, ?_⟩; have n0_ := Aside0.mk (hs1); have n1_ := Aside0.mk (HB.out.trans hb); clear HS HB; have HS := n0_; have HB := n1_; clear n0_ n1_; (try simp only [List.eraseIdx_cons_succ, List.eraseIdx_cons_zero] at HS); clear hs1 hb) | ((with_reducible refine gate_callee (f := 35) rfl ?_); refine goesL_ (some 131) rfl rfl Try.func35 (by kernel_rfl) rfl #[.pointer (some ⟨p, 0, none⟩), .pointer (some ⟨p2, 0, none⟩)] rfl (by (try simp only [List.map_toArray, List.map_cons, List.map_nil]); first | done | rfl | (simp only [List.length_drop, List.length_take]; rfl)) ?_; (with_reducible refine (overlap_to p p2 Kn bb hK5 _ _ _ hi1 hi2 hi3 hm1.out _ hO.out HS.out).mono ?_); rintro e w82 ⟨rfl, hs1, hb⟩; refine ⟨_, rfl, ?_⟩; have n0_ := Aside0.mk (hs1); have n1_ := Aside0.mk (HB.out.trans hb); clear HS HB; have HS := n0_; have HB := n1_; clear n0_ n1_; (try simp only [List.eraseIdx_cons_succ, List.eraseIdx_cons_zero] at HS); clear hs1 hb) | ((with_reducible refine gate_callee (f := 35) rfl ?_); refine goesL_ (some 137) rfl rfl Try.func35 (by kernel_rfl) rfl #[.pointer (some ⟨p2, 0, none⟩), .pointer (some ⟨p, 0, none⟩)] rfl (by (try simp only [List.map_toArray, List.map_cons, List.map_nil]); first | done | rfl | (simp only [List.length_drop, List.length_take]; rfl)) ?_; (with_reducible refine (overlap_to p2 p Kn bb hK5 _ _ _ hi2 hi1 hi3 hm2.out _ hO2.out HS.out.swap).mono ?_); rintro e w83 ⟨rfl, hs1, hb⟩; refine ⟨_, rfl, ?_⟩; have n0_ := Aside0.mk (hs1.swap); have n1_ := Aside0.mk (HB.out.trans hb); clear HS HB; have HS := n0_; have HB := n1_; clear n0_ n1_; (try simp only [List.eraseIdx_cons_succ, List.eraseIdx_cons_zero] at HS); clear hs1 hb) | ((with_reducible refine gate_callee (f := 35) rfl ?_); refine goesL_ (some 143) rfl rfl Try.func35 (by kernel_rfl) rfl #[.pointer (some ⟨p, 0, none⟩), .pointer (some ⟨p, 0, none⟩)] rfl (by (try simp only [List.map_toArray, List.map_cons, List.map_nil]); first | done | rfl | (simp only [List.length_drop, List.length_take]; rfl)) ?_; (with_reducible refine (overlap_self_to p Kn bb hK5 _ hi1 _ hZ.out HS.out).mono ?_); rintro e w84 ⟨rfl, hs1, hb⟩; refine ⟨_, rfl, ?_⟩; have n0_ := Aside0.mk (hs1); have n1_ := Aside0.mk (HB.out.trans hb); clear HS HB; have HS := n0_; have HB := n1_; clear n0_ n1_; (try simp only [List.eraseIdx_cons_succ, List.eraseIdx_cons_zero] at HS); clear hs1 hb; have hc2_0 := ((HS.out.pick 2 rfl).cell 0).trans (show _ = some (.int .i64 Kn) from rfl); have hc2_1 := ((HS.out.pick 2 rfl).cell 1).trans (show _ = some (.int .i64 bb) from rfl); have hc2_2 := ((HS.out.pick 2 rfl).cell 2).trans (show _ = some (.slice A3 (foldk hs (ts ++ us)).length c3) from rfl)) | (go_at_call 17; (with_reducible refine (distinct_to Kn hK1.out hK4 bb _ y3.out hin0 D hD.out _ (HS.out.pick 3 rfl)).mono ?_); rintro e w85 ⟨rfl, hs1, hb⟩; have n0_ := Aside0.mk (hs1); have n1_ := Aside0.mk (HB.out.trans hb); clear HS HB; have HS := n0_; have HB := n1_; clear n0_ n1_; (try simp only [List.eraseIdx_cons_succ, List.eraseIdx_cons_zero] at HS); clear hs1 hb hc2_0 hc2_1 hc2_2; have hc6_2 := ((HS.out.pick 6 rfl).cell 2).trans (show _ = some (.slice A1 (foldk hs ts).length c1) from rfl)))
          by_cases hl0 : (foldk hs ts).length = 0
          · have e1 := is0_true hl0
            obtain rfl : Z = 0 := hZ.out.symm.trans (self_zero hl0)
            replace hl0 := Aside0.mk hl0
            go_wp2
            go_ret
            exact ⟨rfl, HB.out⟩
          · have e1 := is0_false hl0
            have e2 := gt0_true hl0
            obtain ⟨e3, e4, e5, e6⟩ := gtT hl0
            obtain rfl : Z = 1000000 := hZ.out.symm.trans (self_some hK1.out hl0)
            replace hl0 := Aside0.mk hl0
            go_wp2
            go_ret
            exact ⟨rfl, HB.out⟩
        · have q1 := gt0_true hz
          obtain ⟨q3, q4, q5, q6⟩ := gtT hz
          have t1 := mul_small n hn1.out
          have t2 : wrap64 (Int.tdiv ((n : Int) * 1000000) (i : Int)) = O := by
            rw [tdiv_ovl n i hn1.out (Nat.pos_of_ne_zero hz), ← hcn.out, ← hO.out]
            exact (share_some _ _ hk3.out hz).symm
          have t3 := not0 hz
          replace hz := Aside0.mk hz
          go_upto_region 30 with (first | ((with_reducible refine gate_callee (f := 34) rfl ?_); refine goesL_ (some 125) rfl rfl Try.func34 (by kernel_rfl) rfl #[.pointer (some ⟨p, 0, none⟩), .pointer (some ⟨p2, 0, none⟩)] rfl (by (try simp only [List.map_toArray, List.map_cons, List.map_nil]); first | done | rfl | (simp only [List.length_drop, List.length_take]; rfl)) ?_; (with_reducible refine (union_to p p2 Kn bb hK1.out hK5 _ _ _ hi1 hi2 hi3 hm1.out hin0 D hD.out HS.out).mono ?_); rintro e w81 ⟨rfl, hs1, hb⟩; refine ⟨_, rfl, ?_⟩; have n0_ := Aside0.mk (hs1); have n1_ := Aside0.mk (HB.out.trans hb); clear HS HB; have HS := n0_; have HB := n1_; clear n0_ n1_; (try simp only [List.eraseIdx_cons_succ, List.eraseIdx_cons_zero] at HS); clear hs1 hb) | ((with_reducible refine gate_callee (f := 35) rfl ?_); refine goesL_ (some 131) rfl rfl Try.func35 (by kernel_rfl) rfl #[.pointer (some ⟨p, 0, none⟩), .pointer (some ⟨p2, 0, none⟩)] rfl (by (try simp only [List.map_toArray, List.map_cons, List.map_nil]); first | done | rfl | (simp only [List.length_drop, List.length_take]; rfl)) ?_; (with_reducible refine (overlap_to p p2 Kn bb hK5 _ _ _ hi1 hi2 hi3 hm1.out _ hO.out HS.out).mono ?_); rintro e w82 ⟨rfl, hs1, hb⟩; refine ⟨_, rfl, ?_⟩; have n0_ := Aside0.mk (hs1); have n1_ := Aside0.mk (HB.out.trans hb); clear HS HB; have HS := n0_; have HB := n1_; clear n0_ n1_; (try simp only [List.eraseIdx_cons_succ, List.eraseIdx_cons_zero] at HS); clear hs1 hb) | ((with_reducible refine gate_callee (f := 35) rfl ?_); refine goesL_ (some 137) rfl rfl Try.func35 (by kernel_rfl) rfl #[.pointer (some ⟨p2, 0, none⟩), .pointer (some ⟨p, 0, none⟩)] rfl (by (try simp only [List.map_toArray, List.map_cons, List.map_nil]); first | done | rfl | (simp only [List.length_drop, List.length_take]; rfl)) ?_; (with_reducible refine (overlap_to p2 p Kn bb hK5 _ _ _ hi2 hi1 hi3 hm2.out _ hO2.out HS.out.swap).mono ?_); rintro e w83 ⟨rfl, hs1, hb⟩; refine ⟨_, rfl, ?_⟩; have n0_ := Aside0.mk (hs1.swap); have n1_ := Aside0.mk (HB.out.trans hb); clear HS HB; have HS := n0_; have HB := n1_; clear n0_ n1_; (try simp only [List.eraseIdx_cons_succ, List.eraseIdx_cons_zero] at HS); clear hs1 hb) | ((with_reducible refine gate_callee (f := 35) rfl ?_); refine goesL_ (some 143) rfl rfl Try.func35 (by kernel_rfl) rfl #[.pointer (some ⟨p, 0, none⟩), .pointer (some ⟨p, 0, none⟩)] rfl (by (try simp only [List.map_toArray, List.map_cons, List.map_nil]); first | done | rfl | (simp only [List.length_drop, List.length_take]; rfl)) ?_; (with_reducible refine (overlap_self_to p Kn bb hK5 _ hi1 _ hZ.out HS.out).mono ?_); rintro e w84 ⟨rfl, hs1, hb⟩; refine ⟨_, rfl, ?_⟩; have n0_ := Aside0.mk (hs1); have n1_ := Aside0.mk (HB.out.trans hb); clear HS HB; have HS := n0_; have HB := n1_; clear n0_ n1_; (try simp only [List.eraseIdx_cons_succ, List.eraseIdx_cons_zero] at HS); clear hs1 hb; have hc2_0 := ((HS.out.pick 2 rfl).cell 0).trans (show _ = some (.int .i64 Kn) from rfl); have hc2_1 := ((HS.out.pick 2 rfl).cell 1).trans (show _ = some (.int .i64 bb) from rfl); have hc2_2 := ((HS.out.pick 2 rfl).cell 2).trans (show _ = some (.slice A3 (foldk hs (ts ++ us)).length c3) from rfl)) | (go_at_call 17; (with_reducible refine (distinct_to Kn hK1.out hK4 bb _ y3.out hin0 D hD.out _ (HS.out.pick 3 rfl)).mono ?_); rintro e w85 ⟨rfl, hs1, hb⟩; have n0_ := Aside0.mk (hs1); have n1_ := Aside0.mk (HB.out.trans hb); clear HS HB; have HS := n0_; have HB := n1_; clear n0_ n1_; (try simp only [List.eraseIdx_cons_succ, List.eraseIdx_cons_zero] at HS); clear hs1 hb hc2_0 hc2_1 hc2_2; have hc6_2 := ((HS.out.pick 6 rfl).cell 2).trans (show _ = some (.slice A1 (foldk hs ts).length c1) from rfl)))
          by_cases hl0 : (foldk hs ts).length = 0
          · have e1 := is0_true hl0
            obtain rfl : Z = 0 := hZ.out.symm.trans (self_zero hl0)
            replace hl0 := Aside0.mk hl0
            go_wp2
            go_ret
            exact ⟨rfl, HB.out⟩
          · have e1 := is0_false hl0
            have e2 := gt0_true hl0
            obtain ⟨e3, e4, e5, e6⟩ := gtT hl0
            obtain rfl : Z = 1000000 := hZ.out.symm.trans (self_some hK1.out hl0)
            replace hl0 := Aside0.mk hl0
            go_wp2
            go_ret
            exact ⟨rfl, HB.out⟩


end Go.Proofs.Ytddhpkobingmhaa.PB
