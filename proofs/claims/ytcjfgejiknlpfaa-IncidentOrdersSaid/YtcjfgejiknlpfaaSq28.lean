/- The law IncidentOrders walked. -/
import Derived.Test.YtcjfgejiknlpfaaSq27
namespace Go.Proofs.Ytcjfgejiknlpfaa.PI
open Go.RowKit Go.Proofs.YtcjfgejiknlpfaaW.PrintWords Go.Proofs.YtcjfgejiknlpfaaW.PrintLast Go.Proofs.YtcjfgejiknlpfaaW.PrintMore Go.Proofs.Ytcjfgejiknlpfaa.Sep
set_option linter.unusedVariables false
set_option linter.unusedSimpArgs false
set_option maxHeartbeats 8000000
set_option maxRecDepth 100000

def ord.T1 : Bool × List (List Nat × List Nat) := (true, [([], []), ([0], [0]), ([], []), ([2, 1], [2]), ([], []), ([4, 3], [4]), ([], []), ([], []), ([], []), ([6, 1, 5, 0, 1, 6, 7, 8], [1, 6]), ([7, 3, 9, 0, 1, 2, 3, 6, 7, 8, 9], [3, 7]), ([8, 5, 10, 0, 1, 2, 3, 4, 5, 6, 7, 8, 9, 10], [5, 8])])
def ord.B1 : List Nat := [0, 1, 0, 7, 0, 31, 0, 0, 0, 511, 1023, 2047]
theorem ord.tab1 : rtab .any (opsOf Try.f3 1) = ord.T1 := by kernel_rfl
theorem ord.bits1 : waitsOk ord.T1.2 ord.B1 = true := by kernel_rfl
def ord.T2 : Bool × List (List Nat × List Nat) := (true, [([], []), ([], []), ([0, 1], [0, 1]), ([], []), ([], []), ([3, 4, 2], [3, 4]), ([2, 5, 0, 1, 2], [2]), ([5, 6, 0, 1, 2, 3, 4, 5, 6], [5])])
def ord.B2 : List Nat := [0, 0, 3, 0, 0, 31, 63, 127]
theorem ord.tab2 : rtab .any (opsOf Try.f3 2) = ord.T2 := by kernel_rfl
theorem ord.bits2 : waitsOk ord.T2.2 ord.B2 = true := by kernel_rfl
theorem cells3 {N : Nat} {w : World} {L : List Res} {gA gB gC : Nat} {a b c : S23} (h : St N w (Blk gC #[.int .u8 c.f0, .int .u8 c.f1, .int .u8 c.f2, .int .u8 c.f3, .int .u8 c.f4, .int .u8 c.f5, .int .u8 c.f6, .int .u8 c.f7] 23 :: Blk gB #[.int .u8 b.f0, .int .u8 b.f1, .int .u8 b.f2, .int .u8 b.f3, .int .u8 b.f4, .int .u8 b.f5, .int .u8 b.f6, .int .u8 b.f7] 23 :: Blk gA #[.int .u8 a.f0, .int .u8 a.f1, .int .u8 a.f2, .int .u8 a.f3, .int .u8 a.f4, .int .u8 a.f5, .int .u8 a.f6, .int .u8 a.f7] 23 :: L)) : w.cell? ⟨gA, 0, none⟩ = some (.int .u8 a.f0) ∧ w.cell? ⟨gA, 1, none⟩ = some (.int .u8 a.f1) ∧ w.cell? ⟨gA, 2, none⟩ = some (.int .u8 a.f2) ∧ w.cell? ⟨gA, 3, none⟩ = some (.int .u8 a.f3) ∧ w.cell? ⟨gA, 4, none⟩ = some (.int .u8 a.f4) ∧ w.cell? ⟨gA, 5, none⟩ = some (.int .u8 a.f5) ∧ w.cell? ⟨gA, 6, none⟩ = some (.int .u8 a.f6) ∧ w.cell? ⟨gA, 7, none⟩ = some (.int .u8 a.f7) ∧ w.cell? ⟨gB, 0, none⟩ = some (.int .u8 b.f0) ∧ w.cell? ⟨gB, 1, none⟩ = some (.int .u8 b.f1) ∧ w.cell? ⟨gB, 2, none⟩ = some (.int .u8 b.f2) ∧ w.cell? ⟨gB, 3, none⟩ = some (.int .u8 b.f3) ∧ w.cell? ⟨gB, 4, none⟩ = some (.int .u8 b.f4) ∧ w.cell? ⟨gB, 5, none⟩ = some (.int .u8 b.f5) ∧ w.cell? ⟨gB, 6, none⟩ = some (.int .u8 b.f6) ∧ w.cell? ⟨gB, 7, none⟩ = some (.int .u8 b.f7) ∧ w.cell? ⟨gC, 0, none⟩ = some (.int .u8 c.f0) ∧ w.cell? ⟨gC, 1, none⟩ = some (.int .u8 c.f1) ∧ w.cell? ⟨gC, 2, none⟩ = some (.int .u8 c.f2) ∧ w.cell? ⟨gC, 3, none⟩ = some (.int .u8 c.f3) ∧ w.cell? ⟨gC, 4, none⟩ = some (.int .u8 c.f4) ∧ w.cell? ⟨gC, 5, none⟩ = some (.int .u8 c.f5) ∧ w.cell? ⟨gC, 6, none⟩ = some (.int .u8 c.f6) ∧ w.cell? ⟨gC, 7, none⟩ = some (.int .u8 c.f7) :=
  ⟨((h.pick 2 rfl).cell 0).trans rfl, ((h.pick 2 rfl).cell 1).trans rfl, ((h.pick 2 rfl).cell 2).trans rfl, ((h.pick 2 rfl).cell 3).trans rfl, ((h.pick 2 rfl).cell 4).trans rfl, ((h.pick 2 rfl).cell 5).trans rfl, ((h.pick 2 rfl).cell 6).trans rfl, ((h.pick 2 rfl).cell 7).trans rfl, ((h.pick 1 rfl).cell 0).trans rfl, ((h.pick 1 rfl).cell 1).trans rfl, ((h.pick 1 rfl).cell 2).trans rfl, ((h.pick 1 rfl).cell 3).trans rfl, ((h.pick 1 rfl).cell 4).trans rfl, ((h.pick 1 rfl).cell 5).trans rfl, ((h.pick 1 rfl).cell 6).trans rfl, ((h.pick 1 rfl).cell 7).trans rfl, ((h.pick 0 rfl).cell 0).trans rfl, ((h.pick 0 rfl).cell 1).trans rfl, ((h.pick 0 rfl).cell 2).trans rfl, ((h.pick 0 rfl).cell 3).trans rfl, ((h.pick 0 rfl).cell 4).trans rfl, ((h.pick 0 rfl).cell 5).trans rfl, ((h.pick 0 rfl).cell 6).trans rfl, ((h.pick 0 rfl).cell 7).trans rfl⟩

theorem blk9 {N : Nat} {w : World} {L : List Res} {g : Nat} {x : S27} (h : St N w (Blk g #[.string x.f0.f0, .int .i64 x.f0.f1, .int .i64 x.f1, .int .i64 x.f2, .string x.f3.f0, .int .i64 x.f3.f1, .string x.f4, .int .i64 x.f5, .string x.f6] 27 :: L)) : w.cell? ⟨g, 0, none⟩ = some (.string x.f0.f0) ∧ w.cell? ⟨g, 1, none⟩ = some (.int .i64 x.f0.f1) ∧ w.cell? ⟨g, 2, none⟩ = some (.int .i64 x.f1) ∧ w.cell? ⟨g, 3, none⟩ = some (.int .i64 x.f2) ∧ w.cell? ⟨g, 4, none⟩ = some (.string x.f3.f0) ∧ w.cell? ⟨g, 5, none⟩ = some (.int .i64 x.f3.f1) ∧ w.cell? ⟨g, 6, none⟩ = some (.string x.f4) ∧ w.cell? ⟨g, 7, none⟩ = some (.int .i64 x.f5) ∧ w.cell? ⟨g, 8, none⟩ = some (.string x.f6) :=
  ⟨(h.cell 0).trans rfl, (h.cell 1).trans rfl, (h.cell 2).trans rfl, (h.cell 3).trans rfl, (h.cell 4).trans rfl, (h.cell 5).trans rfl, (h.cell 6).trans rfl, (h.cell 7).trans rfl, (h.cell 8).trans rfl⟩

theorem nrm_ {P : Program} {ops : Array Oper} {Q : Exit → Act → World → Prop} {md : Region.Mode} {S : World → Prop} {ds : List Nat} {fuel : Nat} {l : Array Bool} {a a' : Act} {w : World} {N : Nat} {v : Value} (h : wpAnyLast P md ops Q S ds fuel l a' w) (ha : a.put (some N) v = a' := by simp only [p_put, p_arr, p_zero, p_succ, i64_w, i32_w]; rfl) : wpAnyLast P md ops Q S ds fuel l (a.put (some N) v) w := ha ▸ h
theorem share {T G : Prop} (k : T) (h : Aside0 T → G) : G := h ⟨k⟩
theorem eqE (d : Nat) (w : World) (x y : S27) : (Op.equalIn (d + 3) 27 (.agg #[.string x.f0.f0, .int .i64 x.f0.f1, .int .i64 x.f1, .int .i64 x.f2, .string x.f3.f0, .int .i64 x.f3.f1, .string x.f4, .int .i64 x.f5, .string x.f6]) (.agg #[.string y.f0.f0, .int .i64 y.f0.f1, .int .i64 y.f1, .int .i64 y.f2, .string y.f3.f0, .int .i64 y.f3.f1, .string y.f4, .int .i64 y.f5, .string y.f6])).run Try.prog w = .ok (decide (x = y)) w := by
  rw [eqA27, ← Bool.not_not (decide (x = y)), ← neAll]
  simp only [Bool.not_or, Bool.not_not]
attribute [local go_sem high] eqE
theorem counting_n {N : Nat} {w : World} {L : List Res} (A : Option Addr) (n c : Nat) (zs : List S27) (hn : zs.length = n) (hm : n ≤ 100000) (HS0 : St N w (Row k27 27 (.slice A n c) zs :: L)) :
    Calls Try.prog 17 #[.slice A n c] w fun e w' => ∃ v, e = .returned v ∧ St N w' (Row k27 27 v (orderE zs) :: Row k27 27 (.slice A n c) zs :: L) ∧ Below N w w' := by
  subst hn
  exact counting_ok A c zs hm HS0
theorem icmp_abs (a b : Int) : -1 ≤ icmp a b ∧ icmp a b ≤ 1 := by unfold icmp; split <;> (try split) <;> omega
theorem bcmp_abs (a b : ByteArray) : -1 ≤ bcmp a b ∧ bcmp a b ≤ 1 := by unfold bcmp; split <;> (try split) <;> omega
theorem thn_abs {a b : Int} (ha : -1 ≤ a ∧ a ≤ 1) (hb : -1 ≤ b ∧ b ≤ 1) : -1 ≤ thn a b ∧ thn a b ≤ 1 := by unfold thn; split <;> assumption
theorem ecmp_abs (x y : S27) : -1 ≤ ecmp x y ∧ ecmp x y ≤ 1 := thn_abs (icmp_abs _ _) (thn_abs (thn_abs (bcmp_abs _ _) (icmp_abs _ _)) (thn_abs (icmp_abs _ _) (thn_abs (thn_abs (bcmp_abs _ _) (icmp_abs _ _)) (thn_abs (bcmp_abs _ _) (thn_abs (icmp_abs _ _) (bcmp_abs _ _))))))
theorem ecmp_trans {x y z : S27} (h1 : ecmp x y ≤ 0) (h2 : ecmp y z ≤ 0) : ecmp x z ≤ 0 := by
  by_cases e1 : ecmp x y = 0
  · rw [(ecmp_zero_iff x y).mp e1]; exact h2
  · by_cases e2 : ecmp y z = 0
    · rw [← (ecmp_zero_iff y z).mp e2]; exact h1
    · have h3 : Bf x z := bf_trans (show ecmp x y < 0 by omega) (show ecmp y z < 0 by omega)
      unfold Bf at h3; omega
theorem orders_walk (a b c : S23) (hua0 : U8s a) (hub0 : U8s b) (huc0 : U8s c) (w : World) :
    Calls Try.prog 3 #[.agg #[.int .u8 a.f0, .int .u8 a.f1, .int .u8 a.f2, .int .u8 a.f3, .int .u8 a.f4, .int .u8 a.f5, .int .u8 a.f6, .int .u8 a.f7], .agg #[.int .u8 b.f0, .int .u8 b.f1, .int .u8 b.f2, .int .u8 b.f3, .int .u8 b.f4, .int .u8 b.f5, .int .u8 b.f6, .int .u8 b.f7], .agg #[.int .u8 c.f0, .int .u8 c.f1, .int .u8 c.f2, .int .u8 c.f3, .int .u8 c.f4, .int .u8 c.f5, .int .u8 c.f6, .int .u8 c.f7]] w fun r w' => r = .returned (.bool true) ∧ Below w.heap.size w w' := by
  have HS := Aside0.mk (St.none_ (N := w.heap.size) (w := w) (Nat.le_refl _))
  have HB := Aside0.mk (Below.refl w.heap.size w)
  have hua := Aside0.mk hua0
  have hub := Aside0.mk hub0
  have huc := Aside0.mk huc0
  clear hua0 hub0 huc0
  obtain ⟨x, hea⟩ : ∃ x, decE a = x := ⟨_, rfl⟩
  obtain ⟨y, heb⟩ : ∃ y, decE b = y := ⟨_, rfl⟩
  obtain ⟨z, hec⟩ : ∃ z, decE c = z := ⟨_, rfl⟩
  replace hea := Aside0.mk hea
  replace heb := Aside0.mk heb
  replace hec := Aside0.mk hec
  have hn_ := ecmp_abs x y
  have htr : Aside0 (ecmp x y ≤ 0 → ecmp y z ≤ 0 → ecmp x z ≤ 0) := ⟨ecmp_trans⟩
  have hneg := cm_ev.neg x y
  have hz := ecmp_zero_iff x y
  obtain ⟨n, hn⟩ : ∃ n, ecmp x y = n := ⟨_, rfl⟩
  obtain ⟨m, hm⟩ : ∃ m, ecmp y z = m := ⟨_, rfl⟩
  obtain ⟨p, hp⟩ : ∃ p, ecmp x z = p := ⟨_, rfl⟩
  rw [hn] at hn_ htr hneg hz
  rw [hm, hp] at htr
  obtain ⟨n2, hn2⟩ : ∃ n2, ecmp y x = n2 := ⟨_, rfl⟩
  rw [hn2] at hneg
  have q1 : IntKind.i64.wrap (0 - n) = n2 := by rw [IntKind.wrap_i64]; omega
  have q1b : IntKind.i64.wrap (-n) = n2 := by rw [IntKind.wrap_i64]; omega
  have q2 : (n == 0) = decide (x = y) := by rw [Bool.eq_iff_iff]; simp [hz]
  have q2b : decide (n = 0) = decide (x = y) := decide_eq_decide.mpr hz
  have hol := Aside0.mk (order_len [x, y, z, x])
  replace hol : Aside0 ((orderE [x, y, z, x]).length ≤ 4) := hol
  replace hn := Aside0.mk hn
  replace hm := Aside0.mk hm
  replace hp := Aside0.mk hp
  replace hn2 := Aside0.mk hn2
  replace q1 := Aside0.mk q1
  replace q1b := Aside0.mk q1b
  replace q2 := Aside0.mk q2
  replace q2b := Aside0.mk q2b
  clear hn_ hneg hz
  go_enter Try.func3, Try.ntmps3
  go_upto_region 1 with (first | ((with_reducible refine gate_dst (N := 3) rfl ?_); refine box_event ?hg (N := 3) ?hd (cs := #[.int .u8 a.f0, .int .u8 a.f1, .int .u8 a.f2, .int .u8 a.f3, .int .u8 a.f4, .int .u8 a.f5, .int .u8 a.f6, .int .u8 a.f7]) (t := 23) ?hr ?_; (case hd => rfl); (case hg => rfl); (case hr => first | (go_simp; done) | (go_simp; rfl)); intro gA hg wA hbox hb; have n0_ := Aside0.mk (HS.out.box hg hbox hb); have n1_ := Aside0.mk (below_step' HB.out HS.out.size hb); clear HS HB; have HS := n0_; have HB := n1_; clear n0_ n1_; (try simp only [List.eraseIdx_cons_succ, List.eraseIdx_cons_zero] at HS); clear hb hbox hg) | ((with_reducible refine gate_dst (N := 4) rfl ?_); refine box_event ?hg (N := 4) ?hd (cs := #[.int .u8 b.f0, .int .u8 b.f1, .int .u8 b.f2, .int .u8 b.f3, .int .u8 b.f4, .int .u8 b.f5, .int .u8 b.f6, .int .u8 b.f7]) (t := 23) ?hr ?_; (case hd => rfl); (case hg => rfl); (case hr => first | (go_simp; done) | (go_simp; rfl)); intro gB hg wB hbox hb; have n0_ := Aside0.mk (HS.out.box hg hbox hb); have n1_ := Aside0.mk (below_step' HB.out HS.out.size hb); clear HS HB; have HS := n0_; have HB := n1_; clear n0_ n1_; (try simp only [List.eraseIdx_cons_succ, List.eraseIdx_cons_zero] at HS); clear hb hbox hg) | ((with_reducible refine gate_dst (N := 5) rfl ?_); refine box_event ?hg (N := 5) ?hd (cs := #[.int .u8 c.f0, .int .u8 c.f1, .int .u8 c.f2, .int .u8 c.f3, .int .u8 c.f4, .int .u8 c.f5, .int .u8 c.f6, .int .u8 c.f7]) (t := 23) ?hr ?_; (case hd => rfl); (case hg => rfl); (case hr => first | (go_simp; done) | (go_simp; rfl)); intro gC hg wC hbox hb; have n0_ := Aside0.mk (HS.out.box hg hbox hb); have n1_ := Aside0.mk (below_step' HB.out HS.out.size hb); clear HS HB; have HS := n0_; have HB := n1_; clear n0_ n1_; (try simp only [List.eraseIdx_cons_succ, List.eraseIdx_cons_zero] at HS); clear hb hbox hg))
  go_cut [7, 8, 9] (fun v7 v8 v9 wc => ∃ g7 g8 g9, v7 = .pointer (some ⟨g7, 0, none⟩) ∧ v8 = .pointer (some ⟨g8, 0, none⟩) ∧ v9 = .pointer (some ⟨g9, 0, none⟩) ∧ Aside0 (St w.heap.size wc (Blk g7 #[.string x.f0.f0, .int .i64 x.f0.f1, .int .i64 x.f1, .int .i64 x.f2, .string x.f3.f0, .int .i64 x.f3.f1, .string x.f4, .int .i64 x.f5, .string x.f6] 27 :: Blk g8 #[.string y.f0.f0, .int .i64 y.f0.f1, .int .i64 y.f1, .int .i64 y.f2, .string y.f3.f0, .int .i64 y.f3.f1, .string y.f4, .int .i64 y.f5, .string y.f6] 27 :: Blk g9 #[.string z.f0.f0, .int .i64 z.f0.f1, .int .i64 z.f1, .int .i64 z.f2, .string z.f3.f0, .int .i64 z.f3.f1, .string z.f4, .int .i64 z.f5, .string z.f6] 27 :: [])) ∧ Aside0 (Below w.heap.size w wc))
  case first =>
    have n0_ := Aside0.mk (HS.out.drew); have n1_ := Aside0.mk (HB.out.drew); clear HS HB; have HS := n0_; have HB := n1_; clear n0_ n1_
    refine start_ (n := 12) (S := fun w' => w'.cell? ⟨gA, 0, none⟩ = some (.int .u8 a.f0) ∧ w'.cell? ⟨gA, 1, none⟩ = some (.int .u8 a.f1) ∧ w'.cell? ⟨gA, 2, none⟩ = some (.int .u8 a.f2) ∧ w'.cell? ⟨gA, 3, none⟩ = some (.int .u8 a.f3) ∧ w'.cell? ⟨gA, 4, none⟩ = some (.int .u8 a.f4) ∧ w'.cell? ⟨gA, 5, none⟩ = some (.int .u8 a.f5) ∧ w'.cell? ⟨gA, 6, none⟩ = some (.int .u8 a.f6) ∧ w'.cell? ⟨gA, 7, none⟩ = some (.int .u8 a.f7) ∧ w'.cell? ⟨gB, 0, none⟩ = some (.int .u8 b.f0) ∧ w'.cell? ⟨gB, 1, none⟩ = some (.int .u8 b.f1) ∧ w'.cell? ⟨gB, 2, none⟩ = some (.int .u8 b.f2) ∧ w'.cell? ⟨gB, 3, none⟩ = some (.int .u8 b.f3) ∧ w'.cell? ⟨gB, 4, none⟩ = some (.int .u8 b.f4) ∧ w'.cell? ⟨gB, 5, none⟩ = some (.int .u8 b.f5) ∧ w'.cell? ⟨gB, 6, none⟩ = some (.int .u8 b.f6) ∧ w'.cell? ⟨gB, 7, none⟩ = some (.int .u8 b.f7) ∧ w'.cell? ⟨gC, 0, none⟩ = some (.int .u8 c.f0) ∧ w'.cell? ⟨gC, 1, none⟩ = some (.int .u8 c.f1) ∧ w'.cell? ⟨gC, 2, none⟩ = some (.int .u8 c.f2) ∧ w'.cell? ⟨gC, 3, none⟩ = some (.int .u8 c.f3) ∧ w'.cell? ⟨gC, 4, none⟩ = some (.int .u8 c.f4) ∧ w'.cell? ⟨gC, 5, none⟩ = some (.int .u8 c.f5) ∧ w'.cell? ⟨gC, 6, none⟩ = some (.int .u8 c.f6) ∧ w'.cell? ⟨gC, 7, none⟩ = some (.int .u8 c.f7)) (ds := [9, 10, 11]) (tfs true [0, 12]).toArray (by kernel_rfl) rfl rfl (cells3 HS.out) (fun hHeld => ?_); refine with_tabW ord.tab1 ord.bits1 (fun HT_ HW_ => ?_)
    generalize wC.drew = w1 at HS HB hHeld ⊢
    refine tK 0 13 (tfs true [1, 11]).toArray rfl rfl HT_ HW_ hHeld ?_ (by rintro w' ⟨s0, s1, s2, s3, s4, s5, s6, s7, s8, s9, s10, s11, s12, s13, s14, s15, s16, s17, s18, s19, s20, s21, s22, s23⟩; go_simp; with_reducible rfl)
    refine tK 2 15 (tfs true [1, 1, 1, 9]).toArray rfl rfl HT_ HW_ hHeld ?_ (by rintro w' ⟨s0, s1, s2, s3, s4, s5, s6, s7, s8, s9, s10, s11, s12, s13, s14, s15, s16, s17, s18, s19, s20, s21, s22, s23⟩; go_simp; with_reducible rfl)
    refine tK 4 17 (tfs true [1, 1, 1, 1, 1, 7]).toArray rfl rfl HT_ HW_ hHeld ?_ (by rintro w' ⟨s0, s1, s2, s3, s4, s5, s6, s7, s8, s9, s10, s11, s12, s13, s14, s15, s16, s17, s18, s19, s20, s21, s22, s23⟩; go_simp; with_reducible rfl)
    revert hHeld
    revert HB
    revert HS
    revert w1
    apply share
    case' h => intro k31_
    apply share
    case' h => intro k30_
    apply share
    case' h => intro k29_
    apply share
    case' h => intro k28_
    apply share
    case' h => intro k27_
    apply share
    case' h => intro k26_
    apply share
    case' h => intro k25_
    apply share
    case' h => intro k24_
    apply share
    case' h => intro k23_
    apply share
    case' h => intro k22_
    apply share
    case' h => intro k21_
    apply share
    case' h => intro k20_
    apply share
    case' h => intro k19_
    apply share
    case' h => intro k18_
    apply share
    case' h => intro k17_
    apply share
    case' h => intro k16_
    apply share
    case' h => intro k15_
    apply share
    case' h => intro k14_
    apply share
    case' h => intro k13_
    apply share
    case' h => intro k12_
    apply share
    case' h => intro k11_
    apply share
    case' h => intro k10_
    apply share
    case' h => intro k9_
    apply share
    case' h => intro k8_
    apply share
    case' h => intro k7_
    apply share
    case' h => intro k6_
    apply share
    case' h => intro k5_
    apply share
    case' h => intro k4_
    apply share
    case' h => intro k3_
    apply share
    case' h => intro k2_
    apply share
    case' h => intro k1_
    intro w1 HS HB hHeld
    refine four_ (i := 1) (j := 6) (k := 7) (m := 8) (Ni := some 14) (Nj := some 7) (Nk := some 8) (Nm := some 9) (tfs true [3, 1, 1, 7]).toArray (tfs true [1, 1, 1, 1, 1, 1, 1, 5]).toArray (tfs true [1, 1, 1, 1, 1, 2, 1, 4]).toArray (tfs true [1, 1, 1, 1, 1, 3, 1, 3]).toArray rfl rfl rfl rfl rfl rfl rfl rfl (four_of HT_.out (by kernel_rfl)) (by decide) (by decide) (by decide) (by decide) (fun K hK => ?_) (fun K hK => ?_) (fun K hK => ?_) (fun K hK => ?_)
    · refine goes_ Try.func11 (by kernel_rfl) rfl #[.agg #[.int .u8 a.f0, .int .u8 a.f1, .int .u8 a.f2, .int .u8 a.f3, .int .u8 a.f4, .int .u8 a.f5, .int .u8 a.f6, .int .u8 a.f7]] (by rfl) rfl rfl (by (try simp only [List.map_toArray, List.map_cons, List.map_nil]); first | done | rfl | (simp only [List.length_drop, List.length_take]; rfl)) ?_
      with_reducible refine (Event_ok a hua.out _).mono ?_
      rintro r_ w1 ⟨rfl, hb⟩; rw [hea.out]
      refine ⟨_, rfl, ?_⟩
      have n0_ := Aside0.mk (HS.out.step hb); have n1_ := Aside0.mk (below_step' HB.out HS.out.size hb); clear HS HB; have HS := n0_; have HB := n1_; clear n0_ n1_; (try simp only [List.eraseIdx_cons_succ, List.eraseIdx_cons_zero] at HS)
      clear hb
      refine hK.out _ _ (cells3 HS.out) (fun hHeld => ?_)
      clear hK K
      refine nrm_ ?_
      revert hHeld
      revert HB
      revert HS
      revert w1
      exact k1_.out
    · refine Sep.box_step (by rfl) (Nt := 7) rfl (cs := #[.string ⟨#[]⟩, .int .i64 0, .int .i64 0, .int .i64 0, .string ⟨#[]⟩, .int .i64 0, .string ⟨#[]⟩, .int .i64 0, .string ⟨#[]⟩]) (t := 27) (by first | (go_simp; done) | (go_simp; rfl)) ?_
      intro g7 hg w1 hbox hb
      have n0_ := Aside0.mk (((((HS.out.box hg hbox hb).pick 3 rfl).pick 3 rfl).pick 3 rfl)); have n1_ := Aside0.mk (below_step' HB.out HS.out.size hb); clear HS HB; have HS := n0_; have HB := n1_; clear n0_ n1_; (try simp only [List.eraseIdx_cons_succ, List.eraseIdx_cons_zero] at HS)
      clear hb hbox hg
      refine hK.out _ _ (cells3 HS.out) (fun hHeld => ?_)
      clear hK K
      refine nrm_ ?_
      revert hHeld
      revert HB
      revert HS
      revert g7
      revert w1
      exact k2_.out
    · refine Sep.box_step (by rfl) (Nt := 8) rfl (cs := #[.string ⟨#[]⟩, .int .i64 0, .int .i64 0, .int .i64 0, .string ⟨#[]⟩, .int .i64 0, .string ⟨#[]⟩, .int .i64 0, .string ⟨#[]⟩]) (t := 27) (by first | (go_simp; done) | (go_simp; rfl)) ?_
      intro g8 hg w1 hbox hb
      have n0_ := Aside0.mk (((((HS.out.box hg hbox hb).pick 3 rfl).pick 3 rfl).pick 3 rfl)); have n1_ := Aside0.mk (below_step' HB.out HS.out.size hb); clear HS HB; have HS := n0_; have HB := n1_; clear n0_ n1_; (try simp only [List.eraseIdx_cons_succ, List.eraseIdx_cons_zero] at HS)
      clear hb hbox hg
      refine hK.out _ _ (cells3 HS.out) (fun hHeld => ?_)
      clear hK K
      refine nrm_ ?_
      revert hHeld
      revert HB
      revert HS
      revert g8
      revert w1
      exact k3_.out
    · refine Sep.box_step (by rfl) (Nt := 9) rfl (cs := #[.string ⟨#[]⟩, .int .i64 0, .int .i64 0, .int .i64 0, .string ⟨#[]⟩, .int .i64 0, .string ⟨#[]⟩, .int .i64 0, .string ⟨#[]⟩]) (t := 27) (by first | (go_simp; done) | (go_simp; rfl)) ?_
      intro g9 hg w1 hbox hb
      have n0_ := Aside0.mk (((((HS.out.box hg hbox hb).pick 3 rfl).pick 3 rfl).pick 3 rfl)); have n1_ := Aside0.mk (below_step' HB.out HS.out.size hb); clear HS HB; have HS := n0_; have HB := n1_; clear n0_ n1_; (try simp only [List.eraseIdx_cons_succ, List.eraseIdx_cons_zero] at HS)
      clear hb hbox hg
      refine hK.out _ _ (cells3 HS.out) (fun hHeld => ?_)
      clear hK K
      refine nrm_ ?_
      revert hHeld
      revert HB
      revert HS
      revert g9
      revert w1
      exact k4_.out
    · intro w1  HS HB hHeld
      refine four_ (i := 3) (j := 6) (k := 7) (m := 8) (Ni := some 16) (Nj := some 7) (Nk := some 8) (Nm := some 9) (tfs true [5, 7]).toArray (tfs true [3, 1, 1, 1, 1, 5]).toArray (tfs true [3, 1, 1, 2, 1, 4]).toArray (tfs true [3, 1, 1, 3, 1, 3]).toArray rfl rfl rfl rfl rfl rfl rfl rfl (four_of HT_.out (by kernel_rfl)) (by decide) (by decide) (by decide) (by decide) (fun K hK => ?_) (fun K hK => ?_) (fun K hK => ?_) (fun K hK => ?_)
      · refine goes_ Try.func11 (by kernel_rfl) rfl #[.agg #[.int .u8 b.f0, .int .u8 b.f1, .int .u8 b.f2, .int .u8 b.f3, .int .u8 b.f4, .int .u8 b.f5, .int .u8 b.f6, .int .u8 b.f7]] (by rfl) rfl rfl (by (try simp only [List.map_toArray, List.map_cons, List.map_nil]); first | done | rfl | (simp only [List.length_drop, List.length_take]; rfl)) ?_
        with_reducible refine (Event_ok b hub.out _).mono ?_
        rintro r_ w1 ⟨rfl, hb⟩; rw [heb.out]
        refine ⟨_, rfl, ?_⟩
        have n0_ := Aside0.mk (HS.out.step hb); have n1_ := Aside0.mk (below_step' HB.out HS.out.size hb); clear HS HB; have HS := n0_; have HB := n1_; clear n0_ n1_; (try simp only [List.eraseIdx_cons_succ, List.eraseIdx_cons_zero] at HS)
        clear hb
        refine hK.out _ _ (cells3 HS.out) (fun hHeld => ?_)
        clear hK K
        refine nrm_ ?_
        revert hHeld
        revert HB
        revert HS
        revert w1
        exact k5_.out
      · refine Sep.box_step (by rfl) (Nt := 7) rfl (cs := #[.string ⟨#[]⟩, .int .i64 0, .int .i64 0, .int .i64 0, .string ⟨#[]⟩, .int .i64 0, .string ⟨#[]⟩, .int .i64 0, .string ⟨#[]⟩]) (t := 27) (by first | (go_simp; done) | (go_simp; rfl)) ?_
        intro g7 hg w1 hbox hb
        have n0_ := Aside0.mk (((((HS.out.box hg hbox hb).pick 3 rfl).pick 3 rfl).pick 3 rfl)); have n1_ := Aside0.mk (below_step' HB.out HS.out.size hb); clear HS HB; have HS := n0_; have HB := n1_; clear n0_ n1_; (try simp only [List.eraseIdx_cons_succ, List.eraseIdx_cons_zero] at HS)
        clear hb hbox hg
        refine hK.out _ _ (cells3 HS.out) (fun hHeld => ?_)
        clear hK K
        refine nrm_ ?_
        revert hHeld
        revert HB
        revert HS
        revert g7
        revert w1
        exact k6_.out
      · refine Sep.box_step (by rfl) (Nt := 8) rfl (cs := #[.string ⟨#[]⟩, .int .i64 0, .int .i64 0, .int .i64 0, .string ⟨#[]⟩, .int .i64 0, .string ⟨#[]⟩, .int .i64 0, .string ⟨#[]⟩]) (t := 27) (by first | (go_simp; done) | (go_simp; rfl)) ?_
        intro g8 hg w1 hbox hb
        have n0_ := Aside0.mk (((((HS.out.box hg hbox hb).pick 3 rfl).pick 3 rfl).pick 3 rfl)); have n1_ := Aside0.mk (below_step' HB.out HS.out.size hb); clear HS HB; have HS := n0_; have HB := n1_; clear n0_ n1_; (try simp only [List.eraseIdx_cons_succ, List.eraseIdx_cons_zero] at HS)
        clear hb hbox hg
        refine hK.out _ _ (cells3 HS.out) (fun hHeld => ?_)
        clear hK K
        refine nrm_ ?_
        revert hHeld
        revert HB
        revert HS
        revert g8
        revert w1
        exact k7_.out
      · refine Sep.box_step (by rfl) (Nt := 9) rfl (cs := #[.string ⟨#[]⟩, .int .i64 0, .int .i64 0, .int .i64 0, .string ⟨#[]⟩, .int .i64 0, .string ⟨#[]⟩, .int .i64 0, .string ⟨#[]⟩]) (t := 27) (by first | (go_simp; done) | (go_simp; rfl)) ?_
        intro g9 hg w1 hbox hb
        have n0_ := Aside0.mk (((((HS.out.box hg hbox hb).pick 3 rfl).pick 3 rfl).pick 3 rfl)); have n1_ := Aside0.mk (below_step' HB.out HS.out.size hb); clear HS HB; have HS := n0_; have HB := n1_; clear n0_ n1_; (try simp only [List.eraseIdx_cons_succ, List.eraseIdx_cons_zero] at HS)
        clear hb hbox hg
        refine hK.out _ _ (cells3 HS.out) (fun hHeld => ?_)
        clear hK K
        refine nrm_ ?_
        revert hHeld
        revert HB
        revert HS
        revert g9
        revert w1
        exact k8_.out
    · intro w1 g7 HS HB hHeld
      refine three_ (i := 1) (j := 7) (k := 8) (Ni := some 14) (Nj := some 8) (Nk := some 9) (tfs true [3, 1, 1, 1, 1, 5]).toArray (tfs true [1, 1, 1, 1, 1, 1, 2, 4]).toArray (tfs true [1, 1, 1, 1, 1, 1, 1, 1, 1, 3]).toArray rfl rfl rfl rfl rfl rfl (three_of HT_.out (by kernel_rfl)) (by decide) (by decide) (by decide) (fun K hK => ?_) (fun K hK => ?_) (fun K hK => ?_)
      · refine goes_ Try.func11 (by kernel_rfl) rfl #[.agg #[.int .u8 a.f0, .int .u8 a.f1, .int .u8 a.f2, .int .u8 a.f3, .int .u8 a.f4, .int .u8 a.f5, .int .u8 a.f6, .int .u8 a.f7]] (by rfl) rfl rfl (by (try simp only [List.map_toArray, List.map_cons, List.map_nil]); first | done | rfl | (simp only [List.length_drop, List.length_take]; rfl)) ?_
        with_reducible refine (Event_ok a hua.out _).mono ?_
        rintro r_ w1 ⟨rfl, hb⟩; rw [hea.out]
        refine ⟨_, rfl, ?_⟩
        have n0_ := Aside0.mk (HS.out.step hb); have n1_ := Aside0.mk (below_step' HB.out HS.out.size hb); clear HS HB; have HS := n0_; have HB := n1_; clear n0_ n1_; (try simp only [List.eraseIdx_cons_succ, List.eraseIdx_cons_zero] at HS)
        clear hb
        refine hK.out _ _ (cells3 HS.out) (fun hHeld => ?_)
        clear hK K
        refine nrm_ ?_
        revert hHeld
        revert HB
        revert HS
        revert g7
        revert w1
        exact k6_.out
      · refine Sep.box_step (by rfl) (Nt := 8) rfl (cs := #[.string ⟨#[]⟩, .int .i64 0, .int .i64 0, .int .i64 0, .string ⟨#[]⟩, .int .i64 0, .string ⟨#[]⟩, .int .i64 0, .string ⟨#[]⟩]) (t := 27) (by first | (go_simp; done) | (go_simp; rfl)) ?_
        intro g8 hg w1 hbox hb
        have n0_ := Aside0.mk ((((((HS.out.box hg hbox hb).pick 4 rfl).pick 4 rfl).pick 4 rfl).pick 4 rfl)); have n1_ := Aside0.mk (below_step' HB.out HS.out.size hb); clear HS HB; have HS := n0_; have HB := n1_; clear n0_ n1_; (try simp only [List.eraseIdx_cons_succ, List.eraseIdx_cons_zero] at HS)
        clear hb hbox hg
        refine hK.out _ _ (cells3 HS.out) (fun hHeld => ?_)
        clear hK K
        refine nrm_ ?_
        revert hHeld
        revert HB
        revert HS
        revert g8
        revert g7
        revert w1
        exact k9_.out
      · refine Sep.box_step (by rfl) (Nt := 9) rfl (cs := #[.string ⟨#[]⟩, .int .i64 0, .int .i64 0, .int .i64 0, .string ⟨#[]⟩, .int .i64 0, .string ⟨#[]⟩, .int .i64 0, .string ⟨#[]⟩]) (t := 27) (by first | (go_simp; done) | (go_simp; rfl)) ?_
        intro g9 hg w1 hbox hb
        have n0_ := Aside0.mk ((((((HS.out.box hg hbox hb).pick 4 rfl).pick 4 rfl).pick 4 rfl).pick 4 rfl)); have n1_ := Aside0.mk (below_step' HB.out HS.out.size hb); clear HS HB; have HS := n0_; have HB := n1_; clear n0_ n1_; (try simp only [List.eraseIdx_cons_succ, List.eraseIdx_cons_zero] at HS)
        clear hb hbox hg
        refine hK.out _ _ (cells3 HS.out) (fun hHeld => ?_)
        clear hK K
        refine nrm_ ?_
        revert hHeld
        revert HB
        revert HS
        revert g9
        revert g7
        revert w1
        exact k10_.out
    · intro w1 g8 HS HB hHeld
      refine three_ (i := 1) (j := 6) (k := 8) (Ni := some 14) (Nj := some 7) (Nk := some 9) (tfs true [3, 1, 1, 2, 1, 4]).toArray (tfs true [1, 1, 1, 1, 1, 1, 2, 4]).toArray (tfs true [1, 1, 1, 1, 1, 2, 2, 3]).toArray rfl rfl rfl rfl rfl rfl (three_of HT_.out (by kernel_rfl)) (by decide) (by decide) (by decide) (fun K hK => ?_) (fun K hK => ?_) (fun K hK => ?_)
      · refine goes_ Try.func11 (by kernel_rfl) rfl #[.agg #[.int .u8 a.f0, .int .u8 a.f1, .int .u8 a.f2, .int .u8 a.f3, .int .u8 a.f4, .int .u8 a.f5, .int .u8 a.f6, .int .u8 a.f7]] (by rfl) rfl rfl (by (try simp only [List.map_toArray, List.map_cons, List.map_nil]); first | done | rfl | (simp only [List.length_drop, List.length_take]; rfl)) ?_
        with_reducible refine (Event_ok a hua.out _).mono ?_
        rintro r_ w1 ⟨rfl, hb⟩; rw [hea.out]
        refine ⟨_, rfl, ?_⟩
        have n0_ := Aside0.mk (HS.out.step hb); have n1_ := Aside0.mk (below_step' HB.out HS.out.size hb); clear HS HB; have HS := n0_; have HB := n1_; clear n0_ n1_; (try simp only [List.eraseIdx_cons_succ, List.eraseIdx_cons_zero] at HS)
        clear hb
        refine hK.out _ _ (cells3 HS.out) (fun hHeld => ?_)
        clear hK K
        refine nrm_ ?_
        revert hHeld
        revert HB
        revert HS
        revert g8
        revert w1
        exact k7_.out
      · refine Sep.box_step (by rfl) (Nt := 7) rfl (cs := #[.string ⟨#[]⟩, .int .i64 0, .int .i64 0, .int .i64 0, .string ⟨#[]⟩, .int .i64 0, .string ⟨#[]⟩, .int .i64 0, .string ⟨#[]⟩]) (t := 27) (by first | (go_simp; done) | (go_simp; rfl)) ?_
        intro g7 hg w1 hbox hb
        have n0_ := Aside0.mk ((((((HS.out.box hg hbox hb).pick 4 rfl).pick 4 rfl).pick 4 rfl).pick 4 rfl)); have n1_ := Aside0.mk (below_step' HB.out HS.out.size hb); clear HS HB; have HS := n0_; have HB := n1_; clear n0_ n1_; (try simp only [List.eraseIdx_cons_succ, List.eraseIdx_cons_zero] at HS)
        clear hb hbox hg
        refine hK.out _ _ (cells3 HS.out) (fun hHeld => ?_)
        clear hK K
        refine nrm_ ?_
        have n0_ := Aside0.mk ((((((HS.out.pick 3 rfl).pick 4 rfl).pick 4 rfl).pick 4 rfl).pick 4 rfl)); have n1_ := Aside0.mk (HB.out); clear HS HB; have HS := n0_; have HB := n1_; clear n0_ n1_; (try simp only [List.eraseIdx_cons_succ, List.eraseIdx_cons_zero] at HS)
        revert hHeld
        revert HB
        revert HS
        revert g8
        revert g7
        revert w1
        exact k9_.out
      · refine Sep.box_step (by rfl) (Nt := 9) rfl (cs := #[.string ⟨#[]⟩, .int .i64 0, .int .i64 0, .int .i64 0, .string ⟨#[]⟩, .int .i64 0, .string ⟨#[]⟩, .int .i64 0, .string ⟨#[]⟩]) (t := 27) (by first | (go_simp; done) | (go_simp; rfl)) ?_
        intro g9 hg w1 hbox hb
        have n0_ := Aside0.mk ((((((HS.out.box hg hbox hb).pick 4 rfl).pick 4 rfl).pick 4 rfl).pick 4 rfl)); have n1_ := Aside0.mk (below_step' HB.out HS.out.size hb); clear HS HB; have HS := n0_; have HB := n1_; clear n0_ n1_; (try simp only [List.eraseIdx_cons_succ, List.eraseIdx_cons_zero] at HS)
        clear hb hbox hg
        refine hK.out _ _ (cells3 HS.out) (fun hHeld => ?_)
        clear hK K
        refine nrm_ ?_
        revert hHeld
        revert HB
        revert HS
        revert g9
        revert g8
        revert w1
        exact k11_.out
    · intro w1 g9 HS HB hHeld
      refine three_ (i := 1) (j := 6) (k := 7) (Ni := some 14) (Nj := some 7) (Nk := some 8) (tfs true [3, 1, 1, 3, 1, 3]).toArray (tfs true [1, 1, 1, 1, 1, 1, 1, 1, 1, 3]).toArray (tfs true [1, 1, 1, 1, 1, 2, 2, 3]).toArray rfl rfl rfl rfl rfl rfl (three_of HT_.out (by kernel_rfl)) (by decide) (by decide) (by decide) (fun K hK => ?_) (fun K hK => ?_) (fun K hK => ?_)
      · refine goes_ Try.func11 (by kernel_rfl) rfl #[.agg #[.int .u8 a.f0, .int .u8 a.f1, .int .u8 a.f2, .int .u8 a.f3, .int .u8 a.f4, .int .u8 a.f5, .int .u8 a.f6, .int .u8 a.f7]] (by rfl) rfl rfl (by (try simp only [List.map_toArray, List.map_cons, List.map_nil]); first | done | rfl | (simp only [List.length_drop, List.length_take]; rfl)) ?_
        with_reducible refine (Event_ok a hua.out _).mono ?_
        rintro r_ w1 ⟨rfl, hb⟩; rw [hea.out]
        refine ⟨_, rfl, ?_⟩
        have n0_ := Aside0.mk (HS.out.step hb); have n1_ := Aside0.mk (below_step' HB.out HS.out.size hb); clear HS HB; have HS := n0_; have HB := n1_; clear n0_ n1_; (try simp only [List.eraseIdx_cons_succ, List.eraseIdx_cons_zero] at HS)
        clear hb
        refine hK.out _ _ (cells3 HS.out) (fun hHeld => ?_)
        clear hK K
        refine nrm_ ?_
        revert hHeld
        revert HB
        revert HS
        revert g9
        revert w1
        exact k8_.out
      · refine Sep.box_step (by rfl) (Nt := 7) rfl (cs := #[.string ⟨#[]⟩, .int .i64 0, .int .i64 0, .int .i64 0, .string ⟨#[]⟩, .int .i64 0, .string ⟨#[]⟩, .int .i64 0, .string ⟨#[]⟩]) (t := 27) (by first | (go_simp; done) | (go_simp; rfl)) ?_
        intro g7 hg w1 hbox hb
        have n0_ := Aside0.mk ((((((HS.out.box hg hbox hb).pick 4 rfl).pick 4 rfl).pick 4 rfl).pick 4 rfl)); have n1_ := Aside0.mk (below_step' HB.out HS.out.size hb); clear HS HB; have HS := n0_; have HB := n1_; clear n0_ n1_; (try simp only [List.eraseIdx_cons_succ, List.eraseIdx_cons_zero] at HS)
        clear hb hbox hg
        refine hK.out _ _ (cells3 HS.out) (fun hHeld => ?_)
        clear hK K
        refine nrm_ ?_
        have n0_ := Aside0.mk ((((((HS.out.pick 3 rfl).pick 4 rfl).pick 4 rfl).pick 4 rfl).pick 4 rfl)); have n1_ := Aside0.mk (HB.out); clear HS HB; have HS := n0_; have HB := n1_; clear n0_ n1_; (try simp only [List.eraseIdx_cons_succ, List.eraseIdx_cons_zero] at HS)
        revert hHeld
        revert HB
        revert HS
        revert g9
        revert g7
        revert w1
        exact k10_.out
      · refine Sep.box_step (by rfl) (Nt := 8) rfl (cs := #[.string ⟨#[]⟩, .int .i64 0, .int .i64 0, .int .i64 0, .string ⟨#[]⟩, .int .i64 0, .string ⟨#[]⟩, .int .i64 0, .string ⟨#[]⟩]) (t := 27) (by first | (go_simp; done) | (go_simp; rfl)) ?_
        intro g8 hg w1 hbox hb
        have n0_ := Aside0.mk ((((((HS.out.box hg hbox hb).pick 4 rfl).pick 4 rfl).pick 4 rfl).pick 4 rfl)); have n1_ := Aside0.mk (below_step' HB.out HS.out.size hb); clear HS HB; have HS := n0_; have HB := n1_; clear n0_ n1_; (try simp only [List.eraseIdx_cons_succ, List.eraseIdx_cons_zero] at HS)
        clear hb hbox hg
        refine hK.out _ _ (cells3 HS.out) (fun hHeld => ?_)
        clear hK K
        refine nrm_ ?_
        have n0_ := Aside0.mk ((((((HS.out.pick 3 rfl).pick 4 rfl).pick 4 rfl).pick 4 rfl).pick 4 rfl)); have n1_ := Aside0.mk (HB.out); clear HS HB; have HS := n0_; have HB := n1_; clear n0_ n1_; (try simp only [List.eraseIdx_cons_succ, List.eraseIdx_cons_zero] at HS)
        revert hHeld
        revert HB
        revert HS
        revert g9
        revert g8
        revert w1
        exact k11_.out
    · intro w1  HS HB hHeld
      refine four_ (i := 5) (j := 6) (k := 7) (m := 8) (Ni := some 18) (Nj := some 7) (Nk := some 8) (Nm := some 9) (tfs true [6, 6]).toArray (tfs true [5, 1, 1, 5]).toArray (tfs true [5, 2, 1, 4]).toArray (tfs true [5, 3, 1, 3]).toArray rfl rfl rfl rfl rfl rfl rfl rfl (four_of HT_.out (by kernel_rfl)) (by decide) (by decide) (by decide) (by decide) (fun K hK => ?_) (fun K hK => ?_) (fun K hK => ?_) (fun K hK => ?_)
      · refine goes_ Try.func11 (by kernel_rfl) rfl #[.agg #[.int .u8 c.f0, .int .u8 c.f1, .int .u8 c.f2, .int .u8 c.f3, .int .u8 c.f4, .int .u8 c.f5, .int .u8 c.f6, .int .u8 c.f7]] (by rfl) rfl rfl (by (try simp only [List.map_toArray, List.map_cons, List.map_nil]); first | done | rfl | (simp only [List.length_drop, List.length_take]; rfl)) ?_
        with_reducible refine (Event_ok c huc.out _).mono ?_
        rintro r_ w1 ⟨rfl, hb⟩; rw [hec.out]
        refine ⟨_, rfl, ?_⟩
        have n0_ := Aside0.mk (HS.out.step hb); have n1_ := Aside0.mk (below_step' HB.out HS.out.size hb); clear HS HB; have HS := n0_; have HB := n1_; clear n0_ n1_; (try simp only [List.eraseIdx_cons_succ, List.eraseIdx_cons_zero] at HS)
        clear hb
        refine hK.out _ _ (cells3 HS.out) (fun hHeld => ?_)
        clear hK K
        refine nrm_ ?_
        revert hHeld
        revert HB
        revert HS
        revert w1
        exact k12_.out
      · refine Sep.box_step (by rfl) (Nt := 7) rfl (cs := #[.string ⟨#[]⟩, .int .i64 0, .int .i64 0, .int .i64 0, .string ⟨#[]⟩, .int .i64 0, .string ⟨#[]⟩, .int .i64 0, .string ⟨#[]⟩]) (t := 27) (by first | (go_simp; done) | (go_simp; rfl)) ?_
        intro g7 hg w1 hbox hb
        have n0_ := Aside0.mk (((((HS.out.box hg hbox hb).pick 3 rfl).pick 3 rfl).pick 3 rfl)); have n1_ := Aside0.mk (below_step' HB.out HS.out.size hb); clear HS HB; have HS := n0_; have HB := n1_; clear n0_ n1_; (try simp only [List.eraseIdx_cons_succ, List.eraseIdx_cons_zero] at HS)
        clear hb hbox hg
        refine hK.out _ _ (cells3 HS.out) (fun hHeld => ?_)
        clear hK K
        refine nrm_ ?_
        revert hHeld
        revert HB
        revert HS
        revert g7
        revert w1
        exact k13_.out
      · refine Sep.box_step (by rfl) (Nt := 8) rfl (cs := #[.string ⟨#[]⟩, .int .i64 0, .int .i64 0, .int .i64 0, .string ⟨#[]⟩, .int .i64 0, .string ⟨#[]⟩, .int .i64 0, .string ⟨#[]⟩]) (t := 27) (by first | (go_simp; done) | (go_simp; rfl)) ?_
        intro g8 hg w1 hbox hb
        have n0_ := Aside0.mk (((((HS.out.box hg hbox hb).pick 3 rfl).pick 3 rfl).pick 3 rfl)); have n1_ := Aside0.mk (below_step' HB.out HS.out.size hb); clear HS HB; have HS := n0_; have HB := n1_; clear n0_ n1_; (try simp only [List.eraseIdx_cons_succ, List.eraseIdx_cons_zero] at HS)
        clear hb hbox hg
        refine hK.out _ _ (cells3 HS.out) (fun hHeld => ?_)
        clear hK K
        refine nrm_ ?_
        revert hHeld
        revert HB
        revert HS
        revert g8
        revert w1
        exact k14_.out
      · refine Sep.box_step (by rfl) (Nt := 9) rfl (cs := #[.string ⟨#[]⟩, .int .i64 0, .int .i64 0, .int .i64 0, .string ⟨#[]⟩, .int .i64 0, .string ⟨#[]⟩, .int .i64 0, .string ⟨#[]⟩]) (t := 27) (by first | (go_simp; done) | (go_simp; rfl)) ?_
        intro g9 hg w1 hbox hb
        have n0_ := Aside0.mk (((((HS.out.box hg hbox hb).pick 3 rfl).pick 3 rfl).pick 3 rfl)); have n1_ := Aside0.mk (below_step' HB.out HS.out.size hb); clear HS HB; have HS := n0_; have HB := n1_; clear n0_ n1_; (try simp only [List.eraseIdx_cons_succ, List.eraseIdx_cons_zero] at HS)
        clear hb hbox hg
        refine hK.out _ _ (cells3 HS.out) (fun hHeld => ?_)
        clear hK K
        refine nrm_ ?_
        revert hHeld
        revert HB
        revert HS
        revert g9
        revert w1
        exact k15_.out
    · intro w1 g7 HS HB hHeld
      refine three_ (i := 3) (j := 7) (k := 8) (Ni := some 16) (Nj := some 8) (Nk := some 9) (tfs true [5, 1, 1, 5]).toArray (tfs true [3, 1, 1, 1, 2, 4]).toArray (tfs true [3, 1, 1, 1, 1, 1, 1, 3]).toArray rfl rfl rfl rfl rfl rfl (three_of HT_.out (by kernel_rfl)) (by decide) (by decide) (by decide) (fun K hK => ?_) (fun K hK => ?_) (fun K hK => ?_)
      · refine goes_ Try.func11 (by kernel_rfl) rfl #[.agg #[.int .u8 b.f0, .int .u8 b.f1, .int .u8 b.f2, .int .u8 b.f3, .int .u8 b.f4, .int .u8 b.f5, .int .u8 b.f6, .int .u8 b.f7]] (by rfl) rfl rfl (by (try simp only [List.map_toArray, List.map_cons, List.map_nil]); first | done | rfl | (simp only [List.length_drop, List.length_take]; rfl)) ?_
        with_reducible refine (Event_ok b hub.out _).mono ?_
        rintro r_ w1 ⟨rfl, hb⟩; rw [heb.out]
        refine ⟨_, rfl, ?_⟩
        have n0_ := Aside0.mk (HS.out.step hb); have n1_ := Aside0.mk (below_step' HB.out HS.out.size hb); clear HS HB; have HS := n0_; have HB := n1_; clear n0_ n1_; (try simp only [List.eraseIdx_cons_succ, List.eraseIdx_cons_zero] at HS)
        clear hb
        refine hK.out _ _ (cells3 HS.out) (fun hHeld => ?_)
        clear hK K
        refine nrm_ ?_
        revert hHeld
        revert HB
        revert HS
        revert g7
        revert w1
        exact k13_.out
      · refine Sep.box_step (by rfl) (Nt := 8) rfl (cs := #[.string ⟨#[]⟩, .int .i64 0, .int .i64 0, .int .i64 0, .string ⟨#[]⟩, .int .i64 0, .string ⟨#[]⟩, .int .i64 0, .string ⟨#[]⟩]) (t := 27) (by first | (go_simp; done) | (go_simp; rfl)) ?_
        intro g8 hg w1 hbox hb
        have n0_ := Aside0.mk ((((((HS.out.box hg hbox hb).pick 4 rfl).pick 4 rfl).pick 4 rfl).pick 4 rfl)); have n1_ := Aside0.mk (below_step' HB.out HS.out.size hb); clear HS HB; have HS := n0_; have HB := n1_; clear n0_ n1_; (try simp only [List.eraseIdx_cons_succ, List.eraseIdx_cons_zero] at HS)
        clear hb hbox hg
        refine hK.out _ _ (cells3 HS.out) (fun hHeld => ?_)
        clear hK K
        refine nrm_ ?_
        revert hHeld
        revert HB
        revert HS
        revert g8
        revert g7
        revert w1
        exact k16_.out
      · refine Sep.box_step (by rfl) (Nt := 9) rfl (cs := #[.string ⟨#[]⟩, .int .i64 0, .int .i64 0, .int .i64 0, .string ⟨#[]⟩, .int .i64 0, .string ⟨#[]⟩, .int .i64 0, .string ⟨#[]⟩]) (t := 27) (by first | (go_simp; done) | (go_simp; rfl)) ?_
        intro g9 hg w1 hbox hb
        have n0_ := Aside0.mk ((((((HS.out.box hg hbox hb).pick 4 rfl).pick 4 rfl).pick 4 rfl).pick 4 rfl)); have n1_ := Aside0.mk (below_step' HB.out HS.out.size hb); clear HS HB; have HS := n0_; have HB := n1_; clear n0_ n1_; (try simp only [List.eraseIdx_cons_succ, List.eraseIdx_cons_zero] at HS)
        clear hb hbox hg
        refine hK.out _ _ (cells3 HS.out) (fun hHeld => ?_)
        clear hK K
        refine nrm_ ?_
        revert hHeld
        revert HB
        revert HS
        revert g9
        revert g7
        revert w1
        exact k17_.out
    · intro w1 g8 HS HB hHeld
      refine three_ (i := 3) (j := 6) (k := 8) (Ni := some 16) (Nj := some 7) (Nk := some 9) (tfs true [5, 2, 1, 4]).toArray (tfs true [3, 1, 1, 1, 2, 4]).toArray (tfs true [3, 1, 1, 2, 2, 3]).toArray rfl rfl rfl rfl rfl rfl (three_of HT_.out (by kernel_rfl)) (by decide) (by decide) (by decide) (fun K hK => ?_) (fun K hK => ?_) (fun K hK => ?_)
      · refine goes_ Try.func11 (by kernel_rfl) rfl #[.agg #[.int .u8 b.f0, .int .u8 b.f1, .int .u8 b.f2, .int .u8 b.f3, .int .u8 b.f4, .int .u8 b.f5, .int .u8 b.f6, .int .u8 b.f7]] (by rfl) rfl rfl (by (try simp only [List.map_toArray, List.map_cons, List.map_nil]); first | done | rfl | (simp only [List.length_drop, List.length_take]; rfl)) ?_
        with_reducible refine (Event_ok b hub.out _).mono ?_
        rintro r_ w1 ⟨rfl, hb⟩; rw [heb.out]
        refine ⟨_, rfl, ?_⟩
        have n0_ := Aside0.mk (HS.out.step hb); have n1_ := Aside0.mk (below_step' HB.out HS.out.size hb); clear HS HB; have HS := n0_; have HB := n1_; clear n0_ n1_; (try simp only [List.eraseIdx_cons_succ, List.eraseIdx_cons_zero] at HS)
        clear hb
        refine hK.out _ _ (cells3 HS.out) (fun hHeld => ?_)
        clear hK K
        refine nrm_ ?_
        revert hHeld
        revert HB
        revert HS
        revert g8
        revert w1
        exact k14_.out
      · refine Sep.box_step (by rfl) (Nt := 7) rfl (cs := #[.string ⟨#[]⟩, .int .i64 0, .int .i64 0, .int .i64 0, .string ⟨#[]⟩, .int .i64 0, .string ⟨#[]⟩, .int .i64 0, .string ⟨#[]⟩]) (t := 27) (by first | (go_simp; done) | (go_simp; rfl)) ?_
        intro g7 hg w1 hbox hb
        have n0_ := Aside0.mk ((((((HS.out.box hg hbox hb).pick 4 rfl).pick 4 rfl).pick 4 rfl).pick 4 rfl)); have n1_ := Aside0.mk (below_step' HB.out HS.out.size hb); clear HS HB; have HS := n0_; have HB := n1_; clear n0_ n1_; (try simp only [List.eraseIdx_cons_succ, List.eraseIdx_cons_zero] at HS)
        clear hb hbox hg
        refine hK.out _ _ (cells3 HS.out) (fun hHeld => ?_)
        clear hK K
        refine nrm_ ?_
        have n0_ := Aside0.mk ((((((HS.out.pick 3 rfl).pick 4 rfl).pick 4 rfl).pick 4 rfl).pick 4 rfl)); have n1_ := Aside0.mk (HB.out); clear HS HB; have HS := n0_; have HB := n1_; clear n0_ n1_; (try simp only [List.eraseIdx_cons_succ, List.eraseIdx_cons_zero] at HS)
        revert hHeld
        revert HB
        revert HS
        revert g8
        revert g7
        revert w1
        exact k16_.out
      · refine Sep.box_step (by rfl) (Nt := 9) rfl (cs := #[.string ⟨#[]⟩, .int .i64 0, .int .i64 0, .int .i64 0, .string ⟨#[]⟩, .int .i64 0, .string ⟨#[]⟩, .int .i64 0, .string ⟨#[]⟩]) (t := 27) (by first | (go_simp; done) | (go_simp; rfl)) ?_
        intro g9 hg w1 hbox hb
        have n0_ := Aside0.mk ((((((HS.out.box hg hbox hb).pick 4 rfl).pick 4 rfl).pick 4 rfl).pick 4 rfl)); have n1_ := Aside0.mk (below_step' HB.out HS.out.size hb); clear HS HB; have HS := n0_; have HB := n1_; clear n0_ n1_; (try simp only [List.eraseIdx_cons_succ, List.eraseIdx_cons_zero] at HS)
        clear hb hbox hg
        refine hK.out _ _ (cells3 HS.out) (fun hHeld => ?_)
        clear hK K
        refine nrm_ ?_
        revert hHeld
        revert HB
        revert HS
        revert g9
        revert g8
        revert w1
        exact k18_.out
    · intro w1 g9 HS HB hHeld
      refine three_ (i := 3) (j := 6) (k := 7) (Ni := some 16) (Nj := some 7) (Nk := some 8) (tfs true [5, 3, 1, 3]).toArray (tfs true [3, 1, 1, 1, 1, 1, 1, 3]).toArray (tfs true [3, 1, 1, 2, 2, 3]).toArray rfl rfl rfl rfl rfl rfl (three_of HT_.out (by kernel_rfl)) (by decide) (by decide) (by decide) (fun K hK => ?_) (fun K hK => ?_) (fun K hK => ?_)
      · refine goes_ Try.func11 (by kernel_rfl) rfl #[.agg #[.int .u8 b.f0, .int .u8 b.f1, .int .u8 b.f2, .int .u8 b.f3, .int .u8 b.f4, .int .u8 b.f5, .int .u8 b.f6, .int .u8 b.f7]] (by rfl) rfl rfl (by (try simp only [List.map_toArray, List.map_cons, List.map_nil]); first | done | rfl | (simp only [List.length_drop, List.length_take]; rfl)) ?_
        with_reducible refine (Event_ok b hub.out _).mono ?_
        rintro r_ w1 ⟨rfl, hb⟩; rw [heb.out]
        refine ⟨_, rfl, ?_⟩
        have n0_ := Aside0.mk (HS.out.step hb); have n1_ := Aside0.mk (below_step' HB.out HS.out.size hb); clear HS HB; have HS := n0_; have HB := n1_; clear n0_ n1_; (try simp only [List.eraseIdx_cons_succ, List.eraseIdx_cons_zero] at HS)
        clear hb
        refine hK.out _ _ (cells3 HS.out) (fun hHeld => ?_)
        clear hK K
        refine nrm_ ?_
        revert hHeld
        revert HB
        revert HS
        revert g9
        revert w1
        exact k15_.out
      · refine Sep.box_step (by rfl) (Nt := 7) rfl (cs := #[.string ⟨#[]⟩, .int .i64 0, .int .i64 0, .int .i64 0, .string ⟨#[]⟩, .int .i64 0, .string ⟨#[]⟩, .int .i64 0, .string ⟨#[]⟩]) (t := 27) (by first | (go_simp; done) | (go_simp; rfl)) ?_
        intro g7 hg w1 hbox hb
        have n0_ := Aside0.mk ((((((HS.out.box hg hbox hb).pick 4 rfl).pick 4 rfl).pick 4 rfl).pick 4 rfl)); have n1_ := Aside0.mk (below_step' HB.out HS.out.size hb); clear HS HB; have HS := n0_; have HB := n1_; clear n0_ n1_; (try simp only [List.eraseIdx_cons_succ, List.eraseIdx_cons_zero] at HS)
        clear hb hbox hg
        refine hK.out _ _ (cells3 HS.out) (fun hHeld => ?_)
        clear hK K
        refine nrm_ ?_
        have n0_ := Aside0.mk ((((((HS.out.pick 3 rfl).pick 4 rfl).pick 4 rfl).pick 4 rfl).pick 4 rfl)); have n1_ := Aside0.mk (HB.out); clear HS HB; have HS := n0_; have HB := n1_; clear n0_ n1_; (try simp only [List.eraseIdx_cons_succ, List.eraseIdx_cons_zero] at HS)
        revert hHeld
        revert HB
        revert HS
        revert g9
        revert g7
        revert w1
        exact k17_.out
      · refine Sep.box_step (by rfl) (Nt := 8) rfl (cs := #[.string ⟨#[]⟩, .int .i64 0, .int .i64 0, .int .i64 0, .string ⟨#[]⟩, .int .i64 0, .string ⟨#[]⟩, .int .i64 0, .string ⟨#[]⟩]) (t := 27) (by first | (go_simp; done) | (go_simp; rfl)) ?_
        intro g8 hg w1 hbox hb
        have n0_ := Aside0.mk ((((((HS.out.box hg hbox hb).pick 4 rfl).pick 4 rfl).pick 4 rfl).pick 4 rfl)); have n1_ := Aside0.mk (below_step' HB.out HS.out.size hb); clear HS HB; have HS := n0_; have HB := n1_; clear n0_ n1_; (try simp only [List.eraseIdx_cons_succ, List.eraseIdx_cons_zero] at HS)
        clear hb hbox hg
        refine hK.out _ _ (cells3 HS.out) (fun hHeld => ?_)
        clear hK K
        refine nrm_ ?_
        have n0_ := Aside0.mk ((((((HS.out.pick 3 rfl).pick 4 rfl).pick 4 rfl).pick 4 rfl).pick 4 rfl)); have n1_ := Aside0.mk (HB.out); clear HS HB; have HS := n0_; have HB := n1_; clear n0_ n1_; (try simp only [List.eraseIdx_cons_succ, List.eraseIdx_cons_zero] at HS)
        revert hHeld
        revert HB
        revert HS
        revert g9
        revert g8
        revert w1
        exact k18_.out
    · intro w1 g7 g8 HS HB hHeld
      refine two_ (i := 1) (j := 8) (Ni := some 14) (Nj := some 9) (tfs true [3, 1, 1, 1, 2, 4]).toArray (tfs true [1, 1, 1, 1, 1, 1, 3, 3]).toArray rfl rfl rfl rfl (two_of HT_.out (by kernel_rfl)) (by decide) (by decide) (fun K hK => ?_) (fun K hK => ?_)
      · refine goes_ Try.func11 (by kernel_rfl) rfl #[.agg #[.int .u8 a.f0, .int .u8 a.f1, .int .u8 a.f2, .int .u8 a.f3, .int .u8 a.f4, .int .u8 a.f5, .int .u8 a.f6, .int .u8 a.f7]] (by rfl) rfl rfl (by (try simp only [List.map_toArray, List.map_cons, List.map_nil]); first | done | rfl | (simp only [List.length_drop, List.length_take]; rfl)) ?_
        with_reducible refine (Event_ok a hua.out _).mono ?_
        rintro r_ w1 ⟨rfl, hb⟩; rw [hea.out]
        refine ⟨_, rfl, ?_⟩
        have n0_ := Aside0.mk (HS.out.step hb); have n1_ := Aside0.mk (below_step' HB.out HS.out.size hb); clear HS HB; have HS := n0_; have HB := n1_; clear n0_ n1_; (try simp only [List.eraseIdx_cons_succ, List.eraseIdx_cons_zero] at HS)
        clear hb
        refine hK.out _ _ (cells3 HS.out) (fun hHeld => ?_)
        clear hK K
        refine nrm_ ?_
        revert hHeld
        revert HB
        revert HS
        revert g8
        revert g7
        revert w1
        exact k16_.out
      · refine Sep.box_step (by rfl) (Nt := 9) rfl (cs := #[.string ⟨#[]⟩, .int .i64 0, .int .i64 0, .int .i64 0, .string ⟨#[]⟩, .int .i64 0, .string ⟨#[]⟩, .int .i64 0, .string ⟨#[]⟩]) (t := 27) (by first | (go_simp; done) | (go_simp; rfl)) ?_
        intro g9 hg w1 hbox hb
        have n0_ := Aside0.mk (((((((HS.out.box hg hbox hb).pick 5 rfl).pick 5 rfl).pick 5 rfl).pick 5 rfl).pick 5 rfl)); have n1_ := Aside0.mk (below_step' HB.out HS.out.size hb); clear HS HB; have HS := n0_; have HB := n1_; clear n0_ n1_; (try simp only [List.eraseIdx_cons_succ, List.eraseIdx_cons_zero] at HS)
        clear hb hbox hg
        refine hK.out _ _ (cells3 HS.out) (fun hHeld => ?_)
        clear hK K
        refine nrm_ ?_
        revert hHeld
        revert HB
        revert HS
        revert g9
        revert g8
        revert g7
        revert w1
        exact k19_.out
    · intro w1 g7 g9 HS HB hHeld
      refine two_ (i := 1) (j := 7) (Ni := some 14) (Nj := some 8) (tfs true [3, 1, 1, 1, 1, 1, 1, 3]).toArray (tfs true [1, 1, 1, 1, 1, 1, 3, 3]).toArray rfl rfl rfl rfl (two_of HT_.out (by kernel_rfl)) (by decide) (by decide) (fun K hK => ?_) (fun K hK => ?_)
      · refine goes_ Try.func11 (by kernel_rfl) rfl #[.agg #[.int .u8 a.f0, .int .u8 a.f1, .int .u8 a.f2, .int .u8 a.f3, .int .u8 a.f4, .int .u8 a.f5, .int .u8 a.f6, .int .u8 a.f7]] (by rfl) rfl rfl (by (try simp only [List.map_toArray, List.map_cons, List.map_nil]); first | done | rfl | (simp only [List.length_drop, List.length_take]; rfl)) ?_
        with_reducible refine (Event_ok a hua.out _).mono ?_
        rintro r_ w1 ⟨rfl, hb⟩; rw [hea.out]
        refine ⟨_, rfl, ?_⟩
        have n0_ := Aside0.mk (HS.out.step hb); have n1_ := Aside0.mk (below_step' HB.out HS.out.size hb); clear HS HB; have HS := n0_; have HB := n1_; clear n0_ n1_; (try simp only [List.eraseIdx_cons_succ, List.eraseIdx_cons_zero] at HS)
        clear hb
        refine hK.out _ _ (cells3 HS.out) (fun hHeld => ?_)
        clear hK K
        refine nrm_ ?_
        revert hHeld
        revert HB
        revert HS
        revert g9
        revert g7
        revert w1
        exact k17_.out
      · refine Sep.box_step (by rfl) (Nt := 8) rfl (cs := #[.string ⟨#[]⟩, .int .i64 0, .int .i64 0, .int .i64 0, .string ⟨#[]⟩, .int .i64 0, .string ⟨#[]⟩, .int .i64 0, .string ⟨#[]⟩]) (t := 27) (by first | (go_simp; done) | (go_simp; rfl)) ?_
        intro g8 hg w1 hbox hb
        have n0_ := Aside0.mk (((((((HS.out.box hg hbox hb).pick 5 rfl).pick 5 rfl).pick 5 rfl).pick 5 rfl).pick 5 rfl)); have n1_ := Aside0.mk (below_step' HB.out HS.out.size hb); clear HS HB; have HS := n0_; have HB := n1_; clear n0_ n1_; (try simp only [List.eraseIdx_cons_succ, List.eraseIdx_cons_zero] at HS)
        clear hb hbox hg
        refine hK.out _ _ (cells3 HS.out) (fun hHeld => ?_)
        clear hK K
        refine nrm_ ?_
        have n0_ := Aside0.mk (((((((HS.out.pick 4 rfl).pick 5 rfl).pick 5 rfl).pick 5 rfl).pick 5 rfl).pick 5 rfl)); have n1_ := Aside0.mk (HB.out); clear HS HB; have HS := n0_; have HB := n1_; clear n0_ n1_; (try simp only [List.eraseIdx_cons_succ, List.eraseIdx_cons_zero] at HS)
        revert hHeld
        revert HB
        revert HS
        revert g9
        revert g8
        revert g7
        revert w1
        exact k19_.out
    · intro w1 g8 g9 HS HB hHeld
      refine two_ (i := 1) (j := 6) (Ni := some 14) (Nj := some 7) (tfs true [3, 1, 1, 2, 2, 3]).toArray (tfs true [1, 1, 1, 1, 1, 1, 3, 3]).toArray rfl rfl rfl rfl (two_of HT_.out (by kernel_rfl)) (by decide) (by decide) (fun K hK => ?_) (fun K hK => ?_)
      · refine goes_ Try.func11 (by kernel_rfl) rfl #[.agg #[.int .u8 a.f0, .int .u8 a.f1, .int .u8 a.f2, .int .u8 a.f3, .int .u8 a.f4, .int .u8 a.f5, .int .u8 a.f6, .int .u8 a.f7]] (by rfl) rfl rfl (by (try simp only [List.map_toArray, List.map_cons, List.map_nil]); first | done | rfl | (simp only [List.length_drop, List.length_take]; rfl)) ?_
        with_reducible refine (Event_ok a hua.out _).mono ?_
        rintro r_ w1 ⟨rfl, hb⟩; rw [hea.out]
        refine ⟨_, rfl, ?_⟩
        have n0_ := Aside0.mk (HS.out.step hb); have n1_ := Aside0.mk (below_step' HB.out HS.out.size hb); clear HS HB; have HS := n0_; have HB := n1_; clear n0_ n1_; (try simp only [List.eraseIdx_cons_succ, List.eraseIdx_cons_zero] at HS)
        clear hb
        refine hK.out _ _ (cells3 HS.out) (fun hHeld => ?_)
        clear hK K
        refine nrm_ ?_
        revert hHeld
        revert HB
        revert HS
        revert g9
        revert g8
        revert w1
        exact k18_.out
      · refine Sep.box_step (by rfl) (Nt := 7) rfl (cs := #[.string ⟨#[]⟩, .int .i64 0, .int .i64 0, .int .i64 0, .string ⟨#[]⟩, .int .i64 0, .string ⟨#[]⟩, .int .i64 0, .string ⟨#[]⟩]) (t := 27) (by first | (go_simp; done) | (go_simp; rfl)) ?_
        intro g7 hg w1 hbox hb
        have n0_ := Aside0.mk (((((((HS.out.box hg hbox hb).pick 5 rfl).pick 5 rfl).pick 5 rfl).pick 5 rfl).pick 5 rfl)); have n1_ := Aside0.mk (below_step' HB.out HS.out.size hb); clear HS HB; have HS := n0_; have HB := n1_; clear n0_ n1_; (try simp only [List.eraseIdx_cons_succ, List.eraseIdx_cons_zero] at HS)
        clear hb hbox hg
        refine hK.out _ _ (cells3 HS.out) (fun hHeld => ?_)
        clear hK K
        refine nrm_ ?_
        have n0_ := Aside0.mk (((((((HS.out.pick 4 rfl).pick 4 rfl).pick 5 rfl).pick 5 rfl).pick 5 rfl).pick 5 rfl)); have n1_ := Aside0.mk (HB.out); clear HS HB; have HS := n0_; have HB := n1_; clear n0_ n1_; (try simp only [List.eraseIdx_cons_succ, List.eraseIdx_cons_zero] at HS)
        revert hHeld
        revert HB
        revert HS
        revert g9
        revert g8
        revert g7
        revert w1
        exact k19_.out
    · intro w1  HS HB hHeld
      refine three_ (i := 6) (j := 7) (k := 8) (Ni := some 7) (Nj := some 8) (Nk := some 9) (tfs true [7, 5]).toArray (tfs true [6, 1, 1, 4]).toArray (tfs true [6, 2, 1, 3]).toArray rfl rfl rfl rfl rfl rfl (three_of HT_.out (by kernel_rfl)) (by decide) (by decide) (by decide) (fun K hK => ?_) (fun K hK => ?_) (fun K hK => ?_)
      · refine Sep.box_step (by rfl) (Nt := 7) rfl (cs := #[.string ⟨#[]⟩, .int .i64 0, .int .i64 0, .int .i64 0, .string ⟨#[]⟩, .int .i64 0, .string ⟨#[]⟩, .int .i64 0, .string ⟨#[]⟩]) (t := 27) (by first | (go_simp; done) | (go_simp; rfl)) ?_
        intro g7 hg w1 hbox hb
        have n0_ := Aside0.mk (((((HS.out.box hg hbox hb).pick 3 rfl).pick 3 rfl).pick 3 rfl)); have n1_ := Aside0.mk (below_step' HB.out HS.out.size hb); clear HS HB; have HS := n0_; have HB := n1_; clear n0_ n1_; (try simp only [List.eraseIdx_cons_succ, List.eraseIdx_cons_zero] at HS)
        clear hb hbox hg
        refine hK.out _ _ (cells3 HS.out) (fun hHeld => ?_)
        clear hK K
        refine nrm_ ?_
        revert hHeld
        revert HB
        revert HS
        revert g7
        revert w1
        exact k20_.out
      · refine Sep.box_step (by rfl) (Nt := 8) rfl (cs := #[.string ⟨#[]⟩, .int .i64 0, .int .i64 0, .int .i64 0, .string ⟨#[]⟩, .int .i64 0, .string ⟨#[]⟩, .int .i64 0, .string ⟨#[]⟩]) (t := 27) (by first | (go_simp; done) | (go_simp; rfl)) ?_
        intro g8 hg w1 hbox hb
        have n0_ := Aside0.mk (((((HS.out.box hg hbox hb).pick 3 rfl).pick 3 rfl).pick 3 rfl)); have n1_ := Aside0.mk (below_step' HB.out HS.out.size hb); clear HS HB; have HS := n0_; have HB := n1_; clear n0_ n1_; (try simp only [List.eraseIdx_cons_succ, List.eraseIdx_cons_zero] at HS)
        clear hb hbox hg
        refine hK.out _ _ (cells3 HS.out) (fun hHeld => ?_)
        clear hK K
        refine nrm_ ?_
        revert hHeld
        revert HB
        revert HS
        revert g8
        revert w1
        exact k21_.out
      · refine Sep.box_step (by rfl) (Nt := 9) rfl (cs := #[.string ⟨#[]⟩, .int .i64 0, .int .i64 0, .int .i64 0, .string ⟨#[]⟩, .int .i64 0, .string ⟨#[]⟩, .int .i64 0, .string ⟨#[]⟩]) (t := 27) (by first | (go_simp; done) | (go_simp; rfl)) ?_
        intro g9 hg w1 hbox hb
        have n0_ := Aside0.mk (((((HS.out.box hg hbox hb).pick 3 rfl).pick 3 rfl).pick 3 rfl)); have n1_ := Aside0.mk (below_step' HB.out HS.out.size hb); clear HS HB; have HS := n0_; have HB := n1_; clear n0_ n1_; (try simp only [List.eraseIdx_cons_succ, List.eraseIdx_cons_zero] at HS)
        clear hb hbox hg
        refine hK.out _ _ (cells3 HS.out) (fun hHeld => ?_)
        clear hK K
        refine nrm_ ?_
        revert hHeld
        revert HB
        revert HS
        revert g9
        revert w1
        exact k22_.out
    · intro w1 g7 HS HB hHeld
      refine three_ (i := 5) (j := 7) (k := 8) (Ni := some 18) (Nj := some 8) (Nk := some 9) (tfs true [7, 5]).toArray (tfs true [5, 1, 2, 4]).toArray (tfs true [5, 1, 1, 1, 1, 3]).toArray rfl rfl rfl rfl rfl rfl (three_of HT_.out (by kernel_rfl)) (by decide) (by decide) (by decide) (fun K hK => ?_) (fun K hK => ?_) (fun K hK => ?_)
      · refine goes_ Try.func11 (by kernel_rfl) rfl #[.agg #[.int .u8 c.f0, .int .u8 c.f1, .int .u8 c.f2, .int .u8 c.f3, .int .u8 c.f4, .int .u8 c.f5, .int .u8 c.f6, .int .u8 c.f7]] (by rfl) rfl rfl (by (try simp only [List.map_toArray, List.map_cons, List.map_nil]); first | done | rfl | (simp only [List.length_drop, List.length_take]; rfl)) ?_
        with_reducible refine (Event_ok c huc.out _).mono ?_
        rintro r_ w1 ⟨rfl, hb⟩; rw [hec.out]
        refine ⟨_, rfl, ?_⟩
        have n0_ := Aside0.mk (HS.out.step hb); have n1_ := Aside0.mk (below_step' HB.out HS.out.size hb); clear HS HB; have HS := n0_; have HB := n1_; clear n0_ n1_; (try simp only [List.eraseIdx_cons_succ, List.eraseIdx_cons_zero] at HS)
        clear hb
        refine hK.out _ _ (cells3 HS.out) (fun hHeld => ?_)
        clear hK K
        refine nrm_ ?_
        revert hHeld
        revert HB
        revert HS
        revert g7
        revert w1
        exact k20_.out
      · refine Sep.box_step (by rfl) (Nt := 8) rfl (cs := #[.string ⟨#[]⟩, .int .i64 0, .int .i64 0, .int .i64 0, .string ⟨#[]⟩, .int .i64 0, .string ⟨#[]⟩, .int .i64 0, .string ⟨#[]⟩]) (t := 27) (by first | (go_simp; done) | (go_simp; rfl)) ?_
        intro g8 hg w1 hbox hb
        have n0_ := Aside0.mk ((((((HS.out.box hg hbox hb).pick 4 rfl).pick 4 rfl).pick 4 rfl).pick 4 rfl)); have n1_ := Aside0.mk (below_step' HB.out HS.out.size hb); clear HS HB; have HS := n0_; have HB := n1_; clear n0_ n1_; (try simp only [List.eraseIdx_cons_succ, List.eraseIdx_cons_zero] at HS)
        clear hb hbox hg
        refine hK.out _ _ (cells3 HS.out) (fun hHeld => ?_)
        clear hK K
        refine nrm_ ?_
        revert hHeld
        revert HB
        revert HS
        revert g8
        revert g7
        revert w1
        exact k23_.out
      · refine Sep.box_step (by rfl) (Nt := 9) rfl (cs := #[.string ⟨#[]⟩, .int .i64 0, .int .i64 0, .int .i64 0, .string ⟨#[]⟩, .int .i64 0, .string ⟨#[]⟩, .int .i64 0, .string ⟨#[]⟩]) (t := 27) (by first | (go_simp; done) | (go_simp; rfl)) ?_
        intro g9 hg w1 hbox hb
        have n0_ := Aside0.mk ((((((HS.out.box hg hbox hb).pick 4 rfl).pick 4 rfl).pick 4 rfl).pick 4 rfl)); have n1_ := Aside0.mk (below_step' HB.out HS.out.size hb); clear HS HB; have HS := n0_; have HB := n1_; clear n0_ n1_; (try simp only [List.eraseIdx_cons_succ, List.eraseIdx_cons_zero] at HS)
        clear hb hbox hg
        refine hK.out _ _ (cells3 HS.out) (fun hHeld => ?_)
        clear hK K
        refine nrm_ ?_
        revert hHeld
        revert HB
        revert HS
        revert g9
        revert g7
        revert w1
        exact k24_.out
    · intro w1 g8 HS HB hHeld
      refine three_ (i := 5) (j := 6) (k := 8) (Ni := some 18) (Nj := some 7) (Nk := some 9) (tfs true [6, 1, 1, 4]).toArray (tfs true [5, 1, 2, 4]).toArray (tfs true [5, 2, 2, 3]).toArray rfl rfl rfl rfl rfl rfl (three_of HT_.out (by kernel_rfl)) (by decide) (by decide) (by decide) (fun K hK => ?_) (fun K hK => ?_) (fun K hK => ?_)
      · refine goes_ Try.func11 (by kernel_rfl) rfl #[.agg #[.int .u8 c.f0, .int .u8 c.f1, .int .u8 c.f2, .int .u8 c.f3, .int .u8 c.f4, .int .u8 c.f5, .int .u8 c.f6, .int .u8 c.f7]] (by rfl) rfl rfl (by (try simp only [List.map_toArray, List.map_cons, List.map_nil]); first | done | rfl | (simp only [List.length_drop, List.length_take]; rfl)) ?_
        with_reducible refine (Event_ok c huc.out _).mono ?_
        rintro r_ w1 ⟨rfl, hb⟩; rw [hec.out]
        refine ⟨_, rfl, ?_⟩
        have n0_ := Aside0.mk (HS.out.step hb); have n1_ := Aside0.mk (below_step' HB.out HS.out.size hb); clear HS HB; have HS := n0_; have HB := n1_; clear n0_ n1_; (try simp only [List.eraseIdx_cons_succ, List.eraseIdx_cons_zero] at HS)
        clear hb
        refine hK.out _ _ (cells3 HS.out) (fun hHeld => ?_)
        clear hK K
        refine nrm_ ?_
        revert hHeld
        revert HB
        revert HS
        revert g8
        revert w1
        exact k21_.out
      · refine Sep.box_step (by rfl) (Nt := 7) rfl (cs := #[.string ⟨#[]⟩, .int .i64 0, .int .i64 0, .int .i64 0, .string ⟨#[]⟩, .int .i64 0, .string ⟨#[]⟩, .int .i64 0, .string ⟨#[]⟩]) (t := 27) (by first | (go_simp; done) | (go_simp; rfl)) ?_
        intro g7 hg w1 hbox hb
        have n0_ := Aside0.mk ((((((HS.out.box hg hbox hb).pick 4 rfl).pick 4 rfl).pick 4 rfl).pick 4 rfl)); have n1_ := Aside0.mk (below_step' HB.out HS.out.size hb); clear HS HB; have HS := n0_; have HB := n1_; clear n0_ n1_; (try simp only [List.eraseIdx_cons_succ, List.eraseIdx_cons_zero] at HS)
        clear hb hbox hg
        refine hK.out _ _ (cells3 HS.out) (fun hHeld => ?_)
        clear hK K
        refine nrm_ ?_
        have n0_ := Aside0.mk ((((((HS.out.pick 3 rfl).pick 4 rfl).pick 4 rfl).pick 4 rfl).pick 4 rfl)); have n1_ := Aside0.mk (HB.out); clear HS HB; have HS := n0_; have HB := n1_; clear n0_ n1_; (try simp only [List.eraseIdx_cons_succ, List.eraseIdx_cons_zero] at HS)
        revert hHeld
        revert HB
        revert HS
        revert g8
        revert g7
        revert w1
        exact k23_.out
      · refine Sep.box_step (by rfl) (Nt := 9) rfl (cs := #[.string ⟨#[]⟩, .int .i64 0, .int .i64 0, .int .i64 0, .string ⟨#[]⟩, .int .i64 0, .string ⟨#[]⟩, .int .i64 0, .string ⟨#[]⟩]) (t := 27) (by first | (go_simp; done) | (go_simp; rfl)) ?_
        intro g9 hg w1 hbox hb
        have n0_ := Aside0.mk ((((((HS.out.box hg hbox hb).pick 4 rfl).pick 4 rfl).pick 4 rfl).pick 4 rfl)); have n1_ := Aside0.mk (below_step' HB.out HS.out.size hb); clear HS HB; have HS := n0_; have HB := n1_; clear n0_ n1_; (try simp only [List.eraseIdx_cons_succ, List.eraseIdx_cons_zero] at HS)
        clear hb hbox hg
        refine hK.out _ _ (cells3 HS.out) (fun hHeld => ?_)
        clear hK K
        refine nrm_ ?_
        revert hHeld
        revert HB
        revert HS
        revert g9
        revert g8
        revert w1
        exact k25_.out
    · intro w1 g9 HS HB hHeld
      refine three_ (i := 5) (j := 6) (k := 7) (Ni := some 18) (Nj := some 7) (Nk := some 8) (tfs true [6, 2, 1, 3]).toArray (tfs true [5, 1, 1, 1, 1, 3]).toArray (tfs true [5, 2, 2, 3]).toArray rfl rfl rfl rfl rfl rfl (three_of HT_.out (by kernel_rfl)) (by decide) (by decide) (by decide) (fun K hK => ?_) (fun K hK => ?_) (fun K hK => ?_)
      · refine goes_ Try.func11 (by kernel_rfl) rfl #[.agg #[.int .u8 c.f0, .int .u8 c.f1, .int .u8 c.f2, .int .u8 c.f3, .int .u8 c.f4, .int .u8 c.f5, .int .u8 c.f6, .int .u8 c.f7]] (by rfl) rfl rfl (by (try simp only [List.map_toArray, List.map_cons, List.map_nil]); first | done | rfl | (simp only [List.length_drop, List.length_take]; rfl)) ?_
        with_reducible refine (Event_ok c huc.out _).mono ?_
        rintro r_ w1 ⟨rfl, hb⟩; rw [hec.out]
        refine ⟨_, rfl, ?_⟩
        have n0_ := Aside0.mk (HS.out.step hb); have n1_ := Aside0.mk (below_step' HB.out HS.out.size hb); clear HS HB; have HS := n0_; have HB := n1_; clear n0_ n1_; (try simp only [List.eraseIdx_cons_succ, List.eraseIdx_cons_zero] at HS)
        clear hb
        refine hK.out _ _ (cells3 HS.out) (fun hHeld => ?_)
        clear hK K
        refine nrm_ ?_
        revert hHeld
        revert HB
        revert HS
        revert g9
        revert w1
        exact k22_.out
      · refine Sep.box_step (by rfl) (Nt := 7) rfl (cs := #[.string ⟨#[]⟩, .int .i64 0, .int .i64 0, .int .i64 0, .string ⟨#[]⟩, .int .i64 0, .string ⟨#[]⟩, .int .i64 0, .string ⟨#[]⟩]) (t := 27) (by first | (go_simp; done) | (go_simp; rfl)) ?_
        intro g7 hg w1 hbox hb
        have n0_ := Aside0.mk ((((((HS.out.box hg hbox hb).pick 4 rfl).pick 4 rfl).pick 4 rfl).pick 4 rfl)); have n1_ := Aside0.mk (below_step' HB.out HS.out.size hb); clear HS HB; have HS := n0_; have HB := n1_; clear n0_ n1_; (try simp only [List.eraseIdx_cons_succ, List.eraseIdx_cons_zero] at HS)
        clear hb hbox hg
        refine hK.out _ _ (cells3 HS.out) (fun hHeld => ?_)
        clear hK K
        refine nrm_ ?_
        have n0_ := Aside0.mk ((((((HS.out.pick 3 rfl).pick 4 rfl).pick 4 rfl).pick 4 rfl).pick 4 rfl)); have n1_ := Aside0.mk (HB.out); clear HS HB; have HS := n0_; have HB := n1_; clear n0_ n1_; (try simp only [List.eraseIdx_cons_succ, List.eraseIdx_cons_zero] at HS)
        revert hHeld
        revert HB
        revert HS
        revert g9
        revert g7
        revert w1
        exact k24_.out
      · refine Sep.box_step (by rfl) (Nt := 8) rfl (cs := #[.string ⟨#[]⟩, .int .i64 0, .int .i64 0, .int .i64 0, .string ⟨#[]⟩, .int .i64 0, .string ⟨#[]⟩, .int .i64 0, .string ⟨#[]⟩]) (t := 27) (by first | (go_simp; done) | (go_simp; rfl)) ?_
        intro g8 hg w1 hbox hb
        have n0_ := Aside0.mk ((((((HS.out.box hg hbox hb).pick 4 rfl).pick 4 rfl).pick 4 rfl).pick 4 rfl)); have n1_ := Aside0.mk (below_step' HB.out HS.out.size hb); clear HS HB; have HS := n0_; have HB := n1_; clear n0_ n1_; (try simp only [List.eraseIdx_cons_succ, List.eraseIdx_cons_zero] at HS)
        clear hb hbox hg
        refine hK.out _ _ (cells3 HS.out) (fun hHeld => ?_)
        clear hK K
        refine nrm_ ?_
        have n0_ := Aside0.mk ((((((HS.out.pick 3 rfl).pick 4 rfl).pick 4 rfl).pick 4 rfl).pick 4 rfl)); have n1_ := Aside0.mk (HB.out); clear HS HB; have HS := n0_; have HB := n1_; clear n0_ n1_; (try simp only [List.eraseIdx_cons_succ, List.eraseIdx_cons_zero] at HS)
        revert hHeld
        revert HB
        revert HS
        revert g9
        revert g8
        revert w1
        exact k25_.out
    · intro w1 g7 g8 HS HB hHeld
      refine two_ (i := 3) (j := 8) (Ni := some 16) (Nj := some 9) (tfs true [5, 1, 2, 4]).toArray (tfs true [3, 1, 1, 1, 3, 3]).toArray rfl rfl rfl rfl (two_of HT_.out (by kernel_rfl)) (by decide) (by decide) (fun K hK => ?_) (fun K hK => ?_)
      · refine goes_ Try.func11 (by kernel_rfl) rfl #[.agg #[.int .u8 b.f0, .int .u8 b.f1, .int .u8 b.f2, .int .u8 b.f3, .int .u8 b.f4, .int .u8 b.f5, .int .u8 b.f6, .int .u8 b.f7]] (by rfl) rfl rfl (by (try simp only [List.map_toArray, List.map_cons, List.map_nil]); first | done | rfl | (simp only [List.length_drop, List.length_take]; rfl)) ?_
        with_reducible refine (Event_ok b hub.out _).mono ?_
        rintro r_ w1 ⟨rfl, hb⟩; rw [heb.out]
        refine ⟨_, rfl, ?_⟩
        have n0_ := Aside0.mk (HS.out.step hb); have n1_ := Aside0.mk (below_step' HB.out HS.out.size hb); clear HS HB; have HS := n0_; have HB := n1_; clear n0_ n1_; (try simp only [List.eraseIdx_cons_succ, List.eraseIdx_cons_zero] at HS)
        clear hb
        refine hK.out _ _ (cells3 HS.out) (fun hHeld => ?_)
        clear hK K
        refine nrm_ ?_
        revert hHeld
        revert HB
        revert HS
        revert g8
        revert g7
        revert w1
        exact k23_.out
      · refine Sep.box_step (by rfl) (Nt := 9) rfl (cs := #[.string ⟨#[]⟩, .int .i64 0, .int .i64 0, .int .i64 0, .string ⟨#[]⟩, .int .i64 0, .string ⟨#[]⟩, .int .i64 0, .string ⟨#[]⟩]) (t := 27) (by first | (go_simp; done) | (go_simp; rfl)) ?_
        intro g9 hg w1 hbox hb
        have n0_ := Aside0.mk (((((((HS.out.box hg hbox hb).pick 5 rfl).pick 5 rfl).pick 5 rfl).pick 5 rfl).pick 5 rfl)); have n1_ := Aside0.mk (below_step' HB.out HS.out.size hb); clear HS HB; have HS := n0_; have HB := n1_; clear n0_ n1_; (try simp only [List.eraseIdx_cons_succ, List.eraseIdx_cons_zero] at HS)
        clear hb hbox hg
        refine hK.out _ _ (cells3 HS.out) (fun hHeld => ?_)
        clear hK K
        refine nrm_ ?_
        revert hHeld
        revert HB
        revert HS
        revert g9
        revert g8
        revert g7
        revert w1
        exact k26_.out
    · intro w1 g7 g9 HS HB hHeld
      refine two_ (i := 3) (j := 7) (Ni := some 16) (Nj := some 8) (tfs true [5, 1, 1, 1, 1, 3]).toArray (tfs true [3, 1, 1, 1, 3, 3]).toArray rfl rfl rfl rfl (two_of HT_.out (by kernel_rfl)) (by decide) (by decide) (fun K hK => ?_) (fun K hK => ?_)
      · refine goes_ Try.func11 (by kernel_rfl) rfl #[.agg #[.int .u8 b.f0, .int .u8 b.f1, .int .u8 b.f2, .int .u8 b.f3, .int .u8 b.f4, .int .u8 b.f5, .int .u8 b.f6, .int .u8 b.f7]] (by rfl) rfl rfl (by (try simp only [List.map_toArray, List.map_cons, List.map_nil]); first | done | rfl | (simp only [List.length_drop, List.length_take]; rfl)) ?_
        with_reducible refine (Event_ok b hub.out _).mono ?_
        rintro r_ w1 ⟨rfl, hb⟩; rw [heb.out]
        refine ⟨_, rfl, ?_⟩
        have n0_ := Aside0.mk (HS.out.step hb); have n1_ := Aside0.mk (below_step' HB.out HS.out.size hb); clear HS HB; have HS := n0_; have HB := n1_; clear n0_ n1_; (try simp only [List.eraseIdx_cons_succ, List.eraseIdx_cons_zero] at HS)
        clear hb
        refine hK.out _ _ (cells3 HS.out) (fun hHeld => ?_)
        clear hK K
        refine nrm_ ?_
        revert hHeld
        revert HB
        revert HS
        revert g9
        revert g7
        revert w1
        exact k24_.out
      · refine Sep.box_step (by rfl) (Nt := 8) rfl (cs := #[.string ⟨#[]⟩, .int .i64 0, .int .i64 0, .int .i64 0, .string ⟨#[]⟩, .int .i64 0, .string ⟨#[]⟩, .int .i64 0, .string ⟨#[]⟩]) (t := 27) (by first | (go_simp; done) | (go_simp; rfl)) ?_
        intro g8 hg w1 hbox hb
        have n0_ := Aside0.mk (((((((HS.out.box hg hbox hb).pick 5 rfl).pick 5 rfl).pick 5 rfl).pick 5 rfl).pick 5 rfl)); have n1_ := Aside0.mk (below_step' HB.out HS.out.size hb); clear HS HB; have HS := n0_; have HB := n1_; clear n0_ n1_; (try simp only [List.eraseIdx_cons_succ, List.eraseIdx_cons_zero] at HS)
        clear hb hbox hg
        refine hK.out _ _ (cells3 HS.out) (fun hHeld => ?_)
        clear hK K
        refine nrm_ ?_
        have n0_ := Aside0.mk (((((((HS.out.pick 4 rfl).pick 5 rfl).pick 5 rfl).pick 5 rfl).pick 5 rfl).pick 5 rfl)); have n1_ := Aside0.mk (HB.out); clear HS HB; have HS := n0_; have HB := n1_; clear n0_ n1_; (try simp only [List.eraseIdx_cons_succ, List.eraseIdx_cons_zero] at HS)
        revert hHeld
        revert HB
        revert HS
        revert g9
        revert g8
        revert g7
        revert w1
        exact k26_.out
    · intro w1 g8 g9 HS HB hHeld
      refine two_ (i := 3) (j := 6) (Ni := some 16) (Nj := some 7) (tfs true [5, 2, 2, 3]).toArray (tfs true [3, 1, 1, 1, 3, 3]).toArray rfl rfl rfl rfl (two_of HT_.out (by kernel_rfl)) (by decide) (by decide) (fun K hK => ?_) (fun K hK => ?_)
      · refine goes_ Try.func11 (by kernel_rfl) rfl #[.agg #[.int .u8 b.f0, .int .u8 b.f1, .int .u8 b.f2, .int .u8 b.f3, .int .u8 b.f4, .int .u8 b.f5, .int .u8 b.f6, .int .u8 b.f7]] (by rfl) rfl rfl (by (try simp only [List.map_toArray, List.map_cons, List.map_nil]); first | done | rfl | (simp only [List.length_drop, List.length_take]; rfl)) ?_
        with_reducible refine (Event_ok b hub.out _).mono ?_
        rintro r_ w1 ⟨rfl, hb⟩; rw [heb.out]
        refine ⟨_, rfl, ?_⟩
        have n0_ := Aside0.mk (HS.out.step hb); have n1_ := Aside0.mk (below_step' HB.out HS.out.size hb); clear HS HB; have HS := n0_; have HB := n1_; clear n0_ n1_; (try simp only [List.eraseIdx_cons_succ, List.eraseIdx_cons_zero] at HS)
        clear hb
        refine hK.out _ _ (cells3 HS.out) (fun hHeld => ?_)
        clear hK K
        refine nrm_ ?_
        revert hHeld
        revert HB
        revert HS
        revert g9
        revert g8
        revert w1
        exact k25_.out
      · refine Sep.box_step (by rfl) (Nt := 7) rfl (cs := #[.string ⟨#[]⟩, .int .i64 0, .int .i64 0, .int .i64 0, .string ⟨#[]⟩, .int .i64 0, .string ⟨#[]⟩, .int .i64 0, .string ⟨#[]⟩]) (t := 27) (by first | (go_simp; done) | (go_simp; rfl)) ?_
        intro g7 hg w1 hbox hb
        have n0_ := Aside0.mk (((((((HS.out.box hg hbox hb).pick 5 rfl).pick 5 rfl).pick 5 rfl).pick 5 rfl).pick 5 rfl)); have n1_ := Aside0.mk (below_step' HB.out HS.out.size hb); clear HS HB; have HS := n0_; have HB := n1_; clear n0_ n1_; (try simp only [List.eraseIdx_cons_succ, List.eraseIdx_cons_zero] at HS)
        clear hb hbox hg
        refine hK.out _ _ (cells3 HS.out) (fun hHeld => ?_)
        clear hK K
        refine nrm_ ?_
        have n0_ := Aside0.mk (((((((HS.out.pick 4 rfl).pick 4 rfl).pick 5 rfl).pick 5 rfl).pick 5 rfl).pick 5 rfl)); have n1_ := Aside0.mk (HB.out); clear HS HB; have HS := n0_; have HB := n1_; clear n0_ n1_; (try simp only [List.eraseIdx_cons_succ, List.eraseIdx_cons_zero] at HS)
        revert hHeld
        revert HB
        revert HS
        revert g9
        revert g8
        revert g7
        revert w1
        exact k26_.out
    · intro w1 g7 g8 g9 HS HB hHeld
      refine one_ (i := 1) (N := some 14) (tfs true [3, 1, 1, 1, 3, 3]).toArray rfl rfl (one_of HT_.out (by kernel_rfl)) (by decide) (fun K hK => ?_)
      · refine goes_ Try.func11 (by kernel_rfl) rfl #[.agg #[.int .u8 a.f0, .int .u8 a.f1, .int .u8 a.f2, .int .u8 a.f3, .int .u8 a.f4, .int .u8 a.f5, .int .u8 a.f6, .int .u8 a.f7]] (by rfl) rfl rfl (by (try simp only [List.map_toArray, List.map_cons, List.map_nil]); first | done | rfl | (simp only [List.length_drop, List.length_take]; rfl)) ?_
        with_reducible refine (Event_ok a hua.out _).mono ?_
        rintro r_ w1 ⟨rfl, hb⟩; rw [hea.out]
        refine ⟨_, rfl, ?_⟩
        have n0_ := Aside0.mk (HS.out.step hb); have n1_ := Aside0.mk (below_step' HB.out HS.out.size hb); clear HS HB; have HS := n0_; have HB := n1_; clear n0_ n1_; (try simp only [List.eraseIdx_cons_succ, List.eraseIdx_cons_zero] at HS)
        clear hb
        refine hK.out _ _ (cells3 HS.out) (fun hHeld => ?_)
        clear hK K
        refine nrm_ ?_
        revert hHeld
        revert HB
        revert HS
        revert g9
        revert g8
        revert g7
        revert w1
        exact k26_.out
    · intro w1 g7 HS HB hHeld
      refine two_ (i := 7) (j := 8) (Ni := some 8) (Nj := some 9) (tfs true [8, 4]).toArray (tfs true [7, 1, 1, 3]).toArray rfl rfl rfl rfl (two_of HT_.out (by kernel_rfl)) (by decide) (by decide) (fun K hK => ?_) (fun K hK => ?_)
      · refine Sep.box_step (by rfl) (Nt := 8) rfl (cs := #[.string ⟨#[]⟩, .int .i64 0, .int .i64 0, .int .i64 0, .string ⟨#[]⟩, .int .i64 0, .string ⟨#[]⟩, .int .i64 0, .string ⟨#[]⟩]) (t := 27) (by first | (go_simp; done) | (go_simp; rfl)) ?_
        intro g8 hg w1 hbox hb
        have n0_ := Aside0.mk ((((((HS.out.box hg hbox hb).pick 4 rfl).pick 4 rfl).pick 4 rfl).pick 4 rfl)); have n1_ := Aside0.mk (below_step' HB.out HS.out.size hb); clear HS HB; have HS := n0_; have HB := n1_; clear n0_ n1_; (try simp only [List.eraseIdx_cons_succ, List.eraseIdx_cons_zero] at HS)
        clear hb hbox hg
        refine hK.out _ _ (cells3 HS.out) (fun hHeld => ?_)
        clear hK K
        refine nrm_ ?_
        revert hHeld
        revert HB
        revert HS
        revert g8
        revert g7
        revert w1
        exact k27_.out
      · refine Sep.box_step (by rfl) (Nt := 9) rfl (cs := #[.string ⟨#[]⟩, .int .i64 0, .int .i64 0, .int .i64 0, .string ⟨#[]⟩, .int .i64 0, .string ⟨#[]⟩, .int .i64 0, .string ⟨#[]⟩]) (t := 27) (by first | (go_simp; done) | (go_simp; rfl)) ?_
        intro g9 hg w1 hbox hb
        have n0_ := Aside0.mk ((((((HS.out.box hg hbox hb).pick 4 rfl).pick 4 rfl).pick 4 rfl).pick 4 rfl)); have n1_ := Aside0.mk (below_step' HB.out HS.out.size hb); clear HS HB; have HS := n0_; have HB := n1_; clear n0_ n1_; (try simp only [List.eraseIdx_cons_succ, List.eraseIdx_cons_zero] at HS)
        clear hb hbox hg
        refine hK.out _ _ (cells3 HS.out) (fun hHeld => ?_)
        clear hK K
        refine nrm_ ?_
        revert hHeld
        revert HB
        revert HS
        revert g9
        revert g7
        revert w1
        exact k28_.out
    · intro w1 g8 HS HB hHeld
      refine two_ (i := 6) (j := 8) (Ni := some 7) (Nj := some 9) (tfs true [8, 4]).toArray (tfs true [6, 1, 2, 3]).toArray rfl rfl rfl rfl (two_of HT_.out (by kernel_rfl)) (by decide) (by decide) (fun K hK => ?_) (fun K hK => ?_)
      · refine Sep.box_step (by rfl) (Nt := 7) rfl (cs := #[.string ⟨#[]⟩, .int .i64 0, .int .i64 0, .int .i64 0, .string ⟨#[]⟩, .int .i64 0, .string ⟨#[]⟩, .int .i64 0, .string ⟨#[]⟩]) (t := 27) (by first | (go_simp; done) | (go_simp; rfl)) ?_
        intro g7 hg w1 hbox hb
        have n0_ := Aside0.mk ((((((HS.out.box hg hbox hb).pick 4 rfl).pick 4 rfl).pick 4 rfl).pick 4 rfl)); have n1_ := Aside0.mk (below_step' HB.out HS.out.size hb); clear HS HB; have HS := n0_; have HB := n1_; clear n0_ n1_; (try simp only [List.eraseIdx_cons_succ, List.eraseIdx_cons_zero] at HS)
        clear hb hbox hg
        refine hK.out _ _ (cells3 HS.out) (fun hHeld => ?_)
        clear hK K
        refine nrm_ ?_
        have n0_ := Aside0.mk ((((((HS.out.pick 3 rfl).pick 4 rfl).pick 4 rfl).pick 4 rfl).pick 4 rfl)); have n1_ := Aside0.mk (HB.out); clear HS HB; have HS := n0_; have HB := n1_; clear n0_ n1_; (try simp only [List.eraseIdx_cons_succ, List.eraseIdx_cons_zero] at HS)
        revert hHeld
        revert HB
        revert HS
        revert g8
        revert g7
        revert w1
        exact k27_.out
      · refine Sep.box_step (by rfl) (Nt := 9) rfl (cs := #[.string ⟨#[]⟩, .int .i64 0, .int .i64 0, .int .i64 0, .string ⟨#[]⟩, .int .i64 0, .string ⟨#[]⟩, .int .i64 0, .string ⟨#[]⟩]) (t := 27) (by first | (go_simp; done) | (go_simp; rfl)) ?_
        intro g9 hg w1 hbox hb
        have n0_ := Aside0.mk ((((((HS.out.box hg hbox hb).pick 4 rfl).pick 4 rfl).pick 4 rfl).pick 4 rfl)); have n1_ := Aside0.mk (below_step' HB.out HS.out.size hb); clear HS HB; have HS := n0_; have HB := n1_; clear n0_ n1_; (try simp only [List.eraseIdx_cons_succ, List.eraseIdx_cons_zero] at HS)
        clear hb hbox hg
        refine hK.out _ _ (cells3 HS.out) (fun hHeld => ?_)
        clear hK K
        refine nrm_ ?_
        revert hHeld
        revert HB
        revert HS
        revert g9
        revert g8
        revert w1
        exact k29_.out
    · intro w1 g9 HS HB hHeld
      refine two_ (i := 6) (j := 7) (Ni := some 7) (Nj := some 8) (tfs true [7, 1, 1, 3]).toArray (tfs true [6, 1, 2, 3]).toArray rfl rfl rfl rfl (two_of HT_.out (by kernel_rfl)) (by decide) (by decide) (fun K hK => ?_) (fun K hK => ?_)
      · refine Sep.box_step (by rfl) (Nt := 7) rfl (cs := #[.string ⟨#[]⟩, .int .i64 0, .int .i64 0, .int .i64 0, .string ⟨#[]⟩, .int .i64 0, .string ⟨#[]⟩, .int .i64 0, .string ⟨#[]⟩]) (t := 27) (by first | (go_simp; done) | (go_simp; rfl)) ?_
        intro g7 hg w1 hbox hb
        have n0_ := Aside0.mk ((((((HS.out.box hg hbox hb).pick 4 rfl).pick 4 rfl).pick 4 rfl).pick 4 rfl)); have n1_ := Aside0.mk (below_step' HB.out HS.out.size hb); clear HS HB; have HS := n0_; have HB := n1_; clear n0_ n1_; (try simp only [List.eraseIdx_cons_succ, List.eraseIdx_cons_zero] at HS)
        clear hb hbox hg
        refine hK.out _ _ (cells3 HS.out) (fun hHeld => ?_)
        clear hK K
        refine nrm_ ?_
        have n0_ := Aside0.mk ((((((HS.out.pick 3 rfl).pick 4 rfl).pick 4 rfl).pick 4 rfl).pick 4 rfl)); have n1_ := Aside0.mk (HB.out); clear HS HB; have HS := n0_; have HB := n1_; clear n0_ n1_; (try simp only [List.eraseIdx_cons_succ, List.eraseIdx_cons_zero] at HS)
        revert hHeld
        revert HB
        revert HS
        revert g9
        revert g7
        revert w1
        exact k28_.out
      · refine Sep.box_step (by rfl) (Nt := 8) rfl (cs := #[.string ⟨#[]⟩, .int .i64 0, .int .i64 0, .int .i64 0, .string ⟨#[]⟩, .int .i64 0, .string ⟨#[]⟩, .int .i64 0, .string ⟨#[]⟩]) (t := 27) (by first | (go_simp; done) | (go_simp; rfl)) ?_
        intro g8 hg w1 hbox hb
        have n0_ := Aside0.mk ((((((HS.out.box hg hbox hb).pick 4 rfl).pick 4 rfl).pick 4 rfl).pick 4 rfl)); have n1_ := Aside0.mk (below_step' HB.out HS.out.size hb); clear HS HB; have HS := n0_; have HB := n1_; clear n0_ n1_; (try simp only [List.eraseIdx_cons_succ, List.eraseIdx_cons_zero] at HS)
        clear hb hbox hg
        refine hK.out _ _ (cells3 HS.out) (fun hHeld => ?_)
        clear hK K
        refine nrm_ ?_
        have n0_ := Aside0.mk ((((((HS.out.pick 3 rfl).pick 4 rfl).pick 4 rfl).pick 4 rfl).pick 4 rfl)); have n1_ := Aside0.mk (HB.out); clear HS HB; have HS := n0_; have HB := n1_; clear n0_ n1_; (try simp only [List.eraseIdx_cons_succ, List.eraseIdx_cons_zero] at HS)
        revert hHeld
        revert HB
        revert HS
        revert g9
        revert g8
        revert w1
        exact k29_.out
    · intro w1 g7 g8 HS HB hHeld
      refine two_ (i := 5) (j := 8) (Ni := some 18) (Nj := some 9) (tfs true [8, 4]).toArray (tfs true [5, 1, 3, 3]).toArray rfl rfl rfl rfl (two_of HT_.out (by kernel_rfl)) (by decide) (by decide) (fun K hK => ?_) (fun K hK => ?_)
      · refine goes_ Try.func11 (by kernel_rfl) rfl #[.agg #[.int .u8 c.f0, .int .u8 c.f1, .int .u8 c.f2, .int .u8 c.f3, .int .u8 c.f4, .int .u8 c.f5, .int .u8 c.f6, .int .u8 c.f7]] (by rfl) rfl rfl (by (try simp only [List.map_toArray, List.map_cons, List.map_nil]); first | done | rfl | (simp only [List.length_drop, List.length_take]; rfl)) ?_
        with_reducible refine (Event_ok c huc.out _).mono ?_
        rintro r_ w1 ⟨rfl, hb⟩; rw [hec.out]
        refine ⟨_, rfl, ?_⟩
        have n0_ := Aside0.mk (HS.out.step hb); have n1_ := Aside0.mk (below_step' HB.out HS.out.size hb); clear HS HB; have HS := n0_; have HB := n1_; clear n0_ n1_; (try simp only [List.eraseIdx_cons_succ, List.eraseIdx_cons_zero] at HS)
        clear hb
        refine hK.out _ _ (cells3 HS.out) (fun hHeld => ?_)
        clear hK K
        refine nrm_ ?_
        revert hHeld
        revert HB
        revert HS
        revert g8
        revert g7
        revert w1
        exact k27_.out
      · refine Sep.box_step (by rfl) (Nt := 9) rfl (cs := #[.string ⟨#[]⟩, .int .i64 0, .int .i64 0, .int .i64 0, .string ⟨#[]⟩, .int .i64 0, .string ⟨#[]⟩, .int .i64 0, .string ⟨#[]⟩]) (t := 27) (by first | (go_simp; done) | (go_simp; rfl)) ?_
        intro g9 hg w1 hbox hb
        have n0_ := Aside0.mk (((((((HS.out.box hg hbox hb).pick 5 rfl).pick 5 rfl).pick 5 rfl).pick 5 rfl).pick 5 rfl)); have n1_ := Aside0.mk (below_step' HB.out HS.out.size hb); clear HS HB; have HS := n0_; have HB := n1_; clear n0_ n1_; (try simp only [List.eraseIdx_cons_succ, List.eraseIdx_cons_zero] at HS)
        clear hb hbox hg
        refine hK.out _ _ (cells3 HS.out) (fun hHeld => ?_)
        clear hK K
        refine nrm_ ?_
        revert hHeld
        revert HB
        revert HS
        revert g9
        revert g8
        revert g7
        revert w1
        exact k30_.out
    · intro w1 g7 g9 HS HB hHeld
      refine two_ (i := 5) (j := 7) (Ni := some 18) (Nj := some 8) (tfs true [7, 1, 1, 3]).toArray (tfs true [5, 1, 3, 3]).toArray rfl rfl rfl rfl (two_of HT_.out (by kernel_rfl)) (by decide) (by decide) (fun K hK => ?_) (fun K hK => ?_)
      · refine goes_ Try.func11 (by kernel_rfl) rfl #[.agg #[.int .u8 c.f0, .int .u8 c.f1, .int .u8 c.f2, .int .u8 c.f3, .int .u8 c.f4, .int .u8 c.f5, .int .u8 c.f6, .int .u8 c.f7]] (by rfl) rfl rfl (by (try simp only [List.map_toArray, List.map_cons, List.map_nil]); first | done | rfl | (simp only [List.length_drop, List.length_take]; rfl)) ?_
        with_reducible refine (Event_ok c huc.out _).mono ?_
        rintro r_ w1 ⟨rfl, hb⟩; rw [hec.out]
        refine ⟨_, rfl, ?_⟩
        have n0_ := Aside0.mk (HS.out.step hb); have n1_ := Aside0.mk (below_step' HB.out HS.out.size hb); clear HS HB; have HS := n0_; have HB := n1_; clear n0_ n1_; (try simp only [List.eraseIdx_cons_succ, List.eraseIdx_cons_zero] at HS)
        clear hb
        refine hK.out _ _ (cells3 HS.out) (fun hHeld => ?_)
        clear hK K
        refine nrm_ ?_
        revert hHeld
        revert HB
        revert HS
        revert g9
        revert g7
        revert w1
        exact k28_.out
      · refine Sep.box_step (by rfl) (Nt := 8) rfl (cs := #[.string ⟨#[]⟩, .int .i64 0, .int .i64 0, .int .i64 0, .string ⟨#[]⟩, .int .i64 0, .string ⟨#[]⟩, .int .i64 0, .string ⟨#[]⟩]) (t := 27) (by first | (go_simp; done) | (go_simp; rfl)) ?_
        intro g8 hg w1 hbox hb
        have n0_ := Aside0.mk (((((((HS.out.box hg hbox hb).pick 5 rfl).pick 5 rfl).pick 5 rfl).pick 5 rfl).pick 5 rfl)); have n1_ := Aside0.mk (below_step' HB.out HS.out.size hb); clear HS HB; have HS := n0_; have HB := n1_; clear n0_ n1_; (try simp only [List.eraseIdx_cons_succ, List.eraseIdx_cons_zero] at HS)
        clear hb hbox hg
        refine hK.out _ _ (cells3 HS.out) (fun hHeld => ?_)
        clear hK K
        refine nrm_ ?_
        have n0_ := Aside0.mk (((((((HS.out.pick 4 rfl).pick 5 rfl).pick 5 rfl).pick 5 rfl).pick 5 rfl).pick 5 rfl)); have n1_ := Aside0.mk (HB.out); clear HS HB; have HS := n0_; have HB := n1_; clear n0_ n1_; (try simp only [List.eraseIdx_cons_succ, List.eraseIdx_cons_zero] at HS)
        revert hHeld
        revert HB
        revert HS
        revert g9
        revert g8
        revert g7
        revert w1
        exact k30_.out
    · intro w1 g8 g9 HS HB hHeld
      refine two_ (i := 5) (j := 6) (Ni := some 18) (Nj := some 7) (tfs true [6, 1, 2, 3]).toArray (tfs true [5, 1, 3, 3]).toArray rfl rfl rfl rfl (two_of HT_.out (by kernel_rfl)) (by decide) (by decide) (fun K hK => ?_) (fun K hK => ?_)
      · refine goes_ Try.func11 (by kernel_rfl) rfl #[.agg #[.int .u8 c.f0, .int .u8 c.f1, .int .u8 c.f2, .int .u8 c.f3, .int .u8 c.f4, .int .u8 c.f5, .int .u8 c.f6, .int .u8 c.f7]] (by rfl) rfl rfl (by (try simp only [List.map_toArray, List.map_cons, List.map_nil]); first | done | rfl | (simp only [List.length_drop, List.length_take]; rfl)) ?_
        with_reducible refine (Event_ok c huc.out _).mono ?_
        rintro r_ w1 ⟨rfl, hb⟩; rw [hec.out]
        refine ⟨_, rfl, ?_⟩
        have n0_ := Aside0.mk (HS.out.step hb); have n1_ := Aside0.mk (below_step' HB.out HS.out.size hb); clear HS HB; have HS := n0_; have HB := n1_; clear n0_ n1_; (try simp only [List.eraseIdx_cons_succ, List.eraseIdx_cons_zero] at HS)
        clear hb
        refine hK.out _ _ (cells3 HS.out) (fun hHeld => ?_)
        clear hK K
        refine nrm_ ?_
        revert hHeld
        revert HB
        revert HS
        revert g9
        revert g8
        revert w1
        exact k29_.out
      · refine Sep.box_step (by rfl) (Nt := 7) rfl (cs := #[.string ⟨#[]⟩, .int .i64 0, .int .i64 0, .int .i64 0, .string ⟨#[]⟩, .int .i64 0, .string ⟨#[]⟩, .int .i64 0, .string ⟨#[]⟩]) (t := 27) (by first | (go_simp; done) | (go_simp; rfl)) ?_
        intro g7 hg w1 hbox hb
        have n0_ := Aside0.mk (((((((HS.out.box hg hbox hb).pick 5 rfl).pick 5 rfl).pick 5 rfl).pick 5 rfl).pick 5 rfl)); have n1_ := Aside0.mk (below_step' HB.out HS.out.size hb); clear HS HB; have HS := n0_; have HB := n1_; clear n0_ n1_; (try simp only [List.eraseIdx_cons_succ, List.eraseIdx_cons_zero] at HS)
        clear hb hbox hg
        refine hK.out _ _ (cells3 HS.out) (fun hHeld => ?_)
        clear hK K
        refine nrm_ ?_
        have n0_ := Aside0.mk (((((((HS.out.pick 4 rfl).pick 4 rfl).pick 5 rfl).pick 5 rfl).pick 5 rfl).pick 5 rfl)); have n1_ := Aside0.mk (HB.out); clear HS HB; have HS := n0_; have HB := n1_; clear n0_ n1_; (try simp only [List.eraseIdx_cons_succ, List.eraseIdx_cons_zero] at HS)
        revert hHeld
        revert HB
        revert HS
        revert g9
        revert g8
        revert g7
        revert w1
        exact k30_.out
    · intro w1 g7 g8 g9 HS HB hHeld
      refine one_ (i := 3) (N := some 16) (tfs true [5, 1, 3, 3]).toArray rfl rfl (one_of HT_.out (by kernel_rfl)) (by decide) (fun K hK => ?_)
      · refine goes_ Try.func11 (by kernel_rfl) rfl #[.agg #[.int .u8 b.f0, .int .u8 b.f1, .int .u8 b.f2, .int .u8 b.f3, .int .u8 b.f4, .int .u8 b.f5, .int .u8 b.f6, .int .u8 b.f7]] (by rfl) rfl rfl (by (try simp only [List.map_toArray, List.map_cons, List.map_nil]); first | done | rfl | (simp only [List.length_drop, List.length_take]; rfl)) ?_
        with_reducible refine (Event_ok b hub.out _).mono ?_
        rintro r_ w1 ⟨rfl, hb⟩; rw [heb.out]
        refine ⟨_, rfl, ?_⟩
        have n0_ := Aside0.mk (HS.out.step hb); have n1_ := Aside0.mk (below_step' HB.out HS.out.size hb); clear HS HB; have HS := n0_; have HB := n1_; clear n0_ n1_; (try simp only [List.eraseIdx_cons_succ, List.eraseIdx_cons_zero] at HS)
        clear hb
        refine hK.out _ _ (cells3 HS.out) (fun hHeld => ?_)
        clear hK K
        refine nrm_ ?_
        revert hHeld
        revert HB
        revert HS
        revert g9
        revert g8
        revert g7
        revert w1
        exact k30_.out
    · intro w1 g7 g8 HS HB hHeld
      refine one_ (i := 8) (N := some 9) (tfs true [9, 3]).toArray rfl rfl (one_of HT_.out (by kernel_rfl)) (by decide) (fun K hK => ?_)
      · refine Sep.box_step (by rfl) (Nt := 9) rfl (cs := #[.string ⟨#[]⟩, .int .i64 0, .int .i64 0, .int .i64 0, .string ⟨#[]⟩, .int .i64 0, .string ⟨#[]⟩, .int .i64 0, .string ⟨#[]⟩]) (t := 27) (by first | (go_simp; done) | (go_simp; rfl)) ?_
        intro g9 hg w1 hbox hb
        have n0_ := Aside0.mk (((((((HS.out.box hg hbox hb).pick 5 rfl).pick 5 rfl).pick 5 rfl).pick 5 rfl).pick 5 rfl)); have n1_ := Aside0.mk (below_step' HB.out HS.out.size hb); clear HS HB; have HS := n0_; have HB := n1_; clear n0_ n1_; (try simp only [List.eraseIdx_cons_succ, List.eraseIdx_cons_zero] at HS)
        clear hb hbox hg
        refine hK.out _ _ (cells3 HS.out) (fun hHeld => ?_)
        clear hK K
        refine nrm_ ?_
        revert hHeld
        revert HB
        revert HS
        revert g9
        revert g8
        revert g7
        revert w1
        exact k31_.out
    · intro w1 g7 g9 HS HB hHeld
      refine one_ (i := 7) (N := some 8) (tfs true [9, 3]).toArray rfl rfl (one_of HT_.out (by kernel_rfl)) (by decide) (fun K hK => ?_)
      · refine Sep.box_step (by rfl) (Nt := 8) rfl (cs := #[.string ⟨#[]⟩, .int .i64 0, .int .i64 0, .int .i64 0, .string ⟨#[]⟩, .int .i64 0, .string ⟨#[]⟩, .int .i64 0, .string ⟨#[]⟩]) (t := 27) (by first | (go_simp; done) | (go_simp; rfl)) ?_
        intro g8 hg w1 hbox hb
        have n0_ := Aside0.mk (((((((HS.out.box hg hbox hb).pick 5 rfl).pick 5 rfl).pick 5 rfl).pick 5 rfl).pick 5 rfl)); have n1_ := Aside0.mk (below_step' HB.out HS.out.size hb); clear HS HB; have HS := n0_; have HB := n1_; clear n0_ n1_; (try simp only [List.eraseIdx_cons_succ, List.eraseIdx_cons_zero] at HS)
        clear hb hbox hg
        refine hK.out _ _ (cells3 HS.out) (fun hHeld => ?_)
        clear hK K
        refine nrm_ ?_
        have n0_ := Aside0.mk (((((((HS.out.pick 4 rfl).pick 5 rfl).pick 5 rfl).pick 5 rfl).pick 5 rfl).pick 5 rfl)); have n1_ := Aside0.mk (HB.out); clear HS HB; have HS := n0_; have HB := n1_; clear n0_ n1_; (try simp only [List.eraseIdx_cons_succ, List.eraseIdx_cons_zero] at HS)
        revert hHeld
        revert HB
        revert HS
        revert g9
        revert g8
        revert g7
        revert w1
        exact k31_.out
    · intro w1 g8 g9 HS HB hHeld
      refine one_ (i := 6) (N := some 7) (tfs true [9, 3]).toArray rfl rfl (one_of HT_.out (by kernel_rfl)) (by decide) (fun K hK => ?_)
      · refine Sep.box_step (by rfl) (Nt := 7) rfl (cs := #[.string ⟨#[]⟩, .int .i64 0, .int .i64 0, .int .i64 0, .string ⟨#[]⟩, .int .i64 0, .string ⟨#[]⟩, .int .i64 0, .string ⟨#[]⟩]) (t := 27) (by first | (go_simp; done) | (go_simp; rfl)) ?_
        intro g7 hg w1 hbox hb
        have n0_ := Aside0.mk (((((((HS.out.box hg hbox hb).pick 5 rfl).pick 5 rfl).pick 5 rfl).pick 5 rfl).pick 5 rfl)); have n1_ := Aside0.mk (below_step' HB.out HS.out.size hb); clear HS HB; have HS := n0_; have HB := n1_; clear n0_ n1_; (try simp only [List.eraseIdx_cons_succ, List.eraseIdx_cons_zero] at HS)
        clear hb hbox hg
        refine hK.out _ _ (cells3 HS.out) (fun hHeld => ?_)
        clear hK K
        refine nrm_ ?_
        have n0_ := Aside0.mk (((((((HS.out.pick 4 rfl).pick 4 rfl).pick 5 rfl).pick 5 rfl).pick 5 rfl).pick 5 rfl)); have n1_ := Aside0.mk (HB.out); clear HS HB; have HS := n0_; have HB := n1_; clear n0_ n1_; (try simp only [List.eraseIdx_cons_succ, List.eraseIdx_cons_zero] at HS)
        revert hHeld
        revert HB
        revert HS
        revert g9
        revert g8
        revert g7
        revert w1
        exact k31_.out
    · intro w1 g7 g8 g9 HS HB hHeld
      refine one_ (i := 5) (N := some 18) (tfs true [9, 3]).toArray rfl rfl (one_of HT_.out (by kernel_rfl)) (by decide) (fun K hK => ?_)
      · refine goes_ Try.func11 (by kernel_rfl) rfl #[.agg #[.int .u8 c.f0, .int .u8 c.f1, .int .u8 c.f2, .int .u8 c.f3, .int .u8 c.f4, .int .u8 c.f5, .int .u8 c.f6, .int .u8 c.f7]] (by rfl) rfl rfl (by (try simp only [List.map_toArray, List.map_cons, List.map_nil]); first | done | rfl | (simp only [List.length_drop, List.length_take]; rfl)) ?_
        with_reducible refine (Event_ok c huc.out _).mono ?_
        rintro r_ w1 ⟨rfl, hb⟩; rw [hec.out]
        refine ⟨_, rfl, ?_⟩
        have n0_ := Aside0.mk (HS.out.step hb); have n1_ := Aside0.mk (below_step' HB.out HS.out.size hb); clear HS HB; have HS := n0_; have HB := n1_; clear n0_ n1_; (try simp only [List.eraseIdx_cons_succ, List.eraseIdx_cons_zero] at HS)
        clear hb
        refine hK.out _ _ (cells3 HS.out) (fun hHeld => ?_)
        clear hK K
        refine nrm_ ?_
        revert hHeld
        revert HB
        revert HS
        revert g9
        revert g8
        revert g7
        revert w1
        exact k31_.out
    · intro w1 g7 g8 g9 HS HB hHeld
      refine last_ (i := 9) (N := none) (tfs true [10, 2]).toArray rfl rfl (one_of HT_.out (by kernel_rfl)) (by decide) (fun K hK => ?_)
      have qc0 := ((HS.out.pick 3 rfl).cell 0).trans (show _ = some (.string ⟨#[]⟩) from rfl); have qf0 := (HS.out.pick 3 rfl).frozen 0
      have qc1 := ((HS.out.pick 3 rfl).cell 1).trans (show _ = some (.int .i64 0) from rfl); have qf1 := (HS.out.pick 3 rfl).frozen 1
      have qc2 := ((HS.out.pick 3 rfl).cell 2).trans (show _ = some (.int .i64 0) from rfl); have qf2 := (HS.out.pick 3 rfl).frozen 2
      have qc3 := ((HS.out.pick 3 rfl).cell 3).trans (show _ = some (.int .i64 0) from rfl); have qf3 := (HS.out.pick 3 rfl).frozen 3
      have qc4 := ((HS.out.pick 3 rfl).cell 4).trans (show _ = some (.string ⟨#[]⟩) from rfl); have qf4 := (HS.out.pick 3 rfl).frozen 4
      have qc5 := ((HS.out.pick 3 rfl).cell 5).trans (show _ = some (.int .i64 0) from rfl); have qf5 := (HS.out.pick 3 rfl).frozen 5
      have qc6 := ((HS.out.pick 3 rfl).cell 6).trans (show _ = some (.string ⟨#[]⟩) from rfl); have qf6 := (HS.out.pick 3 rfl).frozen 6
      have qc7 := ((HS.out.pick 3 rfl).cell 7).trans (show _ = some (.int .i64 0) from rfl); have qf7 := (HS.out.pick 3 rfl).frozen 7
      have qc8 := ((HS.out.pick 3 rfl).cell 8).trans (show _ = some (.string ⟨#[]⟩) from rfl); have qf8 := (HS.out.pick 3 rfl).frozen 8
      refine skip_ (w1 := ?_) (by rfl) rfl ?_ ?_
      rotate_left
      · go_simp
        rfl
      clear qc0 qf0 qc1 qf1 qc2 qf2 qc3 qf3 qc4 qf4 qc5 qf5 qc6 qf6 qc7 qf7 qc8 qf8
      have s0 := (HS.out.pick 3 rfl).set 0 (.string x.f0.f0) #[.string x.f0.f0, .int .i64 0, .int .i64 0, .int .i64 0, .string ⟨#[]⟩, .int .i64 0, .string ⟨#[]⟩, .int .i64 0, .string ⟨#[]⟩] rfl
      have b0 := (HS.out.pick 3 rfl).below_set (i := 0) (u := .string x.f0.f0) HB.out
      have s1 := s0.set 1 (.int .i64 x.f0.f1) #[.string x.f0.f0, .int .i64 x.f0.f1, .int .i64 0, .int .i64 0, .string ⟨#[]⟩, .int .i64 0, .string ⟨#[]⟩, .int .i64 0, .string ⟨#[]⟩] rfl
      have b1 := s0.below_set (i := 1) (u := .int .i64 x.f0.f1) b0
      have s2 := s1.set 2 (.int .i64 x.f1) #[.string x.f0.f0, .int .i64 x.f0.f1, .int .i64 x.f1, .int .i64 0, .string ⟨#[]⟩, .int .i64 0, .string ⟨#[]⟩, .int .i64 0, .string ⟨#[]⟩] rfl
      have b2 := s1.below_set (i := 2) (u := .int .i64 x.f1) b1
      have s3 := s2.set 3 (.int .i64 x.f2) #[.string x.f0.f0, .int .i64 x.f0.f1, .int .i64 x.f1, .int .i64 x.f2, .string ⟨#[]⟩, .int .i64 0, .string ⟨#[]⟩, .int .i64 0, .string ⟨#[]⟩] rfl
      have b3 := s2.below_set (i := 3) (u := .int .i64 x.f2) b2
      have s4 := s3.set 4 (.string x.f3.f0) #[.string x.f0.f0, .int .i64 x.f0.f1, .int .i64 x.f1, .int .i64 x.f2, .string x.f3.f0, .int .i64 0, .string ⟨#[]⟩, .int .i64 0, .string ⟨#[]⟩] rfl
      have b4 := s3.below_set (i := 4) (u := .string x.f3.f0) b3
      have s5 := s4.set 5 (.int .i64 x.f3.f1) #[.string x.f0.f0, .int .i64 x.f0.f1, .int .i64 x.f1, .int .i64 x.f2, .string x.f3.f0, .int .i64 x.f3.f1, .string ⟨#[]⟩, .int .i64 0, .string ⟨#[]⟩] rfl
      have b5 := s4.below_set (i := 5) (u := .int .i64 x.f3.f1) b4
      have s6 := s5.set 6 (.string x.f4) #[.string x.f0.f0, .int .i64 x.f0.f1, .int .i64 x.f1, .int .i64 x.f2, .string x.f3.f0, .int .i64 x.f3.f1, .string x.f4, .int .i64 0, .string ⟨#[]⟩] rfl
      have b6 := s5.below_set (i := 6) (u := .string x.f4) b5
      have s7 := s6.set 7 (.int .i64 x.f5) #[.string x.f0.f0, .int .i64 x.f0.f1, .int .i64 x.f1, .int .i64 x.f2, .string x.f3.f0, .int .i64 x.f3.f1, .string x.f4, .int .i64 x.f5, .string ⟨#[]⟩] rfl
      have b7 := s6.below_set (i := 7) (u := .int .i64 x.f5) b6
      have s8 := s7.set 8 (.string x.f6) #[.string x.f0.f0, .int .i64 x.f0.f1, .int .i64 x.f1, .int .i64 x.f2, .string x.f3.f0, .int .i64 x.f3.f1, .string x.f4, .int .i64 x.f5, .string x.f6] rfl
      have b8 := s7.below_set (i := 8) (u := .string x.f6) b7
      have n0_ := Aside0.mk (((((((s8.pick 5 rfl).pick 5 rfl).pick 2 rfl).pick 5 rfl).pick 5 rfl).pick 5 rfl)); have n1_ := Aside0.mk (b8); clear HS HB; have HS := n0_; have HB := n1_; clear n0_ n1_; (try simp only [List.eraseIdx_cons_succ, List.eraseIdx_cons_zero] at HS)
      clear s0 b0 s1 b1 s2 b2 s3 b3 s4 b4 s5 b5 s6 b6 s7 b7 s8 b8
      generalize World.setCell _ _ _ = w1 at HS HB ⊢
      refine hK.out _ _ ?_
      clear hK K
      refine last_ (i := 10) (N := none) (tfs true [11, 1]).toArray rfl rfl (one_of HT_.out (by kernel_rfl)) (by decide) (fun K hK => ?_)
      have qc0 := ((HS.out.pick 4 rfl).cell 0).trans (show _ = some (.string ⟨#[]⟩) from rfl); have qf0 := (HS.out.pick 4 rfl).frozen 0
      have qc1 := ((HS.out.pick 4 rfl).cell 1).trans (show _ = some (.int .i64 0) from rfl); have qf1 := (HS.out.pick 4 rfl).frozen 1
      have qc2 := ((HS.out.pick 4 rfl).cell 2).trans (show _ = some (.int .i64 0) from rfl); have qf2 := (HS.out.pick 4 rfl).frozen 2
      have qc3 := ((HS.out.pick 4 rfl).cell 3).trans (show _ = some (.int .i64 0) from rfl); have qf3 := (HS.out.pick 4 rfl).frozen 3
      have qc4 := ((HS.out.pick 4 rfl).cell 4).trans (show _ = some (.string ⟨#[]⟩) from rfl); have qf4 := (HS.out.pick 4 rfl).frozen 4
      have qc5 := ((HS.out.pick 4 rfl).cell 5).trans (show _ = some (.int .i64 0) from rfl); have qf5 := (HS.out.pick 4 rfl).frozen 5
      have qc6 := ((HS.out.pick 4 rfl).cell 6).trans (show _ = some (.string ⟨#[]⟩) from rfl); have qf6 := (HS.out.pick 4 rfl).frozen 6
      have qc7 := ((HS.out.pick 4 rfl).cell 7).trans (show _ = some (.int .i64 0) from rfl); have qf7 := (HS.out.pick 4 rfl).frozen 7
      have qc8 := ((HS.out.pick 4 rfl).cell 8).trans (show _ = some (.string ⟨#[]⟩) from rfl); have qf8 := (HS.out.pick 4 rfl).frozen 8
      refine skip_ (w1 := ?_) (by rfl) rfl ?_ ?_
      rotate_left
      · go_simp
        rfl
      clear qc0 qf0 qc1 qf1 qc2 qf2 qc3 qf3 qc4 qf4 qc5 qf5 qc6 qf6 qc7 qf7 qc8 qf8
      have s0 := (HS.out.pick 4 rfl).set 0 (.string y.f0.f0) #[.string y.f0.f0, .int .i64 0, .int .i64 0, .int .i64 0, .string ⟨#[]⟩, .int .i64 0, .string ⟨#[]⟩, .int .i64 0, .string ⟨#[]⟩] rfl
      have b0 := (HS.out.pick 4 rfl).below_set (i := 0) (u := .string y.f0.f0) HB.out
      have s1 := s0.set 1 (.int .i64 y.f0.f1) #[.string y.f0.f0, .int .i64 y.f0.f1, .int .i64 0, .int .i64 0, .string ⟨#[]⟩, .int .i64 0, .string ⟨#[]⟩, .int .i64 0, .string ⟨#[]⟩] rfl
      have b1 := s0.below_set (i := 1) (u := .int .i64 y.f0.f1) b0
      have s2 := s1.set 2 (.int .i64 y.f1) #[.string y.f0.f0, .int .i64 y.f0.f1, .int .i64 y.f1, .int .i64 0, .string ⟨#[]⟩, .int .i64 0, .string ⟨#[]⟩, .int .i64 0, .string ⟨#[]⟩] rfl
      have b2 := s1.below_set (i := 2) (u := .int .i64 y.f1) b1
      have s3 := s2.set 3 (.int .i64 y.f2) #[.string y.f0.f0, .int .i64 y.f0.f1, .int .i64 y.f1, .int .i64 y.f2, .string ⟨#[]⟩, .int .i64 0, .string ⟨#[]⟩, .int .i64 0, .string ⟨#[]⟩] rfl
      have b3 := s2.below_set (i := 3) (u := .int .i64 y.f2) b2
      have s4 := s3.set 4 (.string y.f3.f0) #[.string y.f0.f0, .int .i64 y.f0.f1, .int .i64 y.f1, .int .i64 y.f2, .string y.f3.f0, .int .i64 0, .string ⟨#[]⟩, .int .i64 0, .string ⟨#[]⟩] rfl
      have b4 := s3.below_set (i := 4) (u := .string y.f3.f0) b3
      have s5 := s4.set 5 (.int .i64 y.f3.f1) #[.string y.f0.f0, .int .i64 y.f0.f1, .int .i64 y.f1, .int .i64 y.f2, .string y.f3.f0, .int .i64 y.f3.f1, .string ⟨#[]⟩, .int .i64 0, .string ⟨#[]⟩] rfl
      have b5 := s4.below_set (i := 5) (u := .int .i64 y.f3.f1) b4
      have s6 := s5.set 6 (.string y.f4) #[.string y.f0.f0, .int .i64 y.f0.f1, .int .i64 y.f1, .int .i64 y.f2, .string y.f3.f0, .int .i64 y.f3.f1, .string y.f4, .int .i64 0, .string ⟨#[]⟩] rfl
      have b6 := s5.below_set (i := 6) (u := .string y.f4) b5
      have s7 := s6.set 7 (.int .i64 y.f5) #[.string y.f0.f0, .int .i64 y.f0.f1, .int .i64 y.f1, .int .i64 y.f2, .string y.f3.f0, .int .i64 y.f3.f1, .string y.f4, .int .i64 y.f5, .string ⟨#[]⟩] rfl
      have b7 := s6.below_set (i := 7) (u := .int .i64 y.f5) b6
      have s8 := s7.set 8 (.string y.f6) #[.string y.f0.f0, .int .i64 y.f0.f1, .int .i64 y.f1, .int .i64 y.f2, .string y.f3.f0, .int .i64 y.f3.f1, .string y.f4, .int .i64 y.f5, .string y.f6] rfl
      have b8 := s7.below_set (i := 8) (u := .string y.f6) b7
      have n0_ := Aside0.mk (((((((s8.pick 5 rfl).pick 1 rfl).pick 5 rfl).pick 5 rfl).pick 5 rfl).pick 5 rfl)); have n1_ := Aside0.mk (b8); clear HS HB; have HS := n0_; have HB := n1_; clear n0_ n1_; (try simp only [List.eraseIdx_cons_succ, List.eraseIdx_cons_zero] at HS)
      clear s0 b0 s1 b1 s2 b2 s3 b3 s4 b4 s5 b5 s6 b6 s7 b7 s8 b8
      generalize World.setCell _ _ _ = w1 at HS HB ⊢
      refine hK.out _ _ ?_
      clear hK K
      refine last_ (i := 11) (N := none) (tfs true [12]).toArray rfl rfl (one_of HT_.out (by kernel_rfl)) (by decide) (fun K hK => ?_)
      have qc0 := ((HS.out.pick 5 rfl).cell 0).trans (show _ = some (.string ⟨#[]⟩) from rfl); have qf0 := (HS.out.pick 5 rfl).frozen 0
      have qc1 := ((HS.out.pick 5 rfl).cell 1).trans (show _ = some (.int .i64 0) from rfl); have qf1 := (HS.out.pick 5 rfl).frozen 1
      have qc2 := ((HS.out.pick 5 rfl).cell 2).trans (show _ = some (.int .i64 0) from rfl); have qf2 := (HS.out.pick 5 rfl).frozen 2
      have qc3 := ((HS.out.pick 5 rfl).cell 3).trans (show _ = some (.int .i64 0) from rfl); have qf3 := (HS.out.pick 5 rfl).frozen 3
      have qc4 := ((HS.out.pick 5 rfl).cell 4).trans (show _ = some (.string ⟨#[]⟩) from rfl); have qf4 := (HS.out.pick 5 rfl).frozen 4
      have qc5 := ((HS.out.pick 5 rfl).cell 5).trans (show _ = some (.int .i64 0) from rfl); have qf5 := (HS.out.pick 5 rfl).frozen 5
      have qc6 := ((HS.out.pick 5 rfl).cell 6).trans (show _ = some (.string ⟨#[]⟩) from rfl); have qf6 := (HS.out.pick 5 rfl).frozen 6
      have qc7 := ((HS.out.pick 5 rfl).cell 7).trans (show _ = some (.int .i64 0) from rfl); have qf7 := (HS.out.pick 5 rfl).frozen 7
      have qc8 := ((HS.out.pick 5 rfl).cell 8).trans (show _ = some (.string ⟨#[]⟩) from rfl); have qf8 := (HS.out.pick 5 rfl).frozen 8
      refine skip_ (w1 := ?_) (by rfl) rfl ?_ ?_
      rotate_left
      · go_simp
        rfl
      clear qc0 qf0 qc1 qf1 qc2 qf2 qc3 qf3 qc4 qf4 qc5 qf5 qc6 qf6 qc7 qf7 qc8 qf8
      have s0 := (HS.out.pick 5 rfl).set 0 (.string z.f0.f0) #[.string z.f0.f0, .int .i64 0, .int .i64 0, .int .i64 0, .string ⟨#[]⟩, .int .i64 0, .string ⟨#[]⟩, .int .i64 0, .string ⟨#[]⟩] rfl
      have b0 := (HS.out.pick 5 rfl).below_set (i := 0) (u := .string z.f0.f0) HB.out
      have s1 := s0.set 1 (.int .i64 z.f0.f1) #[.string z.f0.f0, .int .i64 z.f0.f1, .int .i64 0, .int .i64 0, .string ⟨#[]⟩, .int .i64 0, .string ⟨#[]⟩, .int .i64 0, .string ⟨#[]⟩] rfl
      have b1 := s0.below_set (i := 1) (u := .int .i64 z.f0.f1) b0
      have s2 := s1.set 2 (.int .i64 z.f1) #[.string z.f0.f0, .int .i64 z.f0.f1, .int .i64 z.f1, .int .i64 0, .string ⟨#[]⟩, .int .i64 0, .string ⟨#[]⟩, .int .i64 0, .string ⟨#[]⟩] rfl
      have b2 := s1.below_set (i := 2) (u := .int .i64 z.f1) b1
      have s3 := s2.set 3 (.int .i64 z.f2) #[.string z.f0.f0, .int .i64 z.f0.f1, .int .i64 z.f1, .int .i64 z.f2, .string ⟨#[]⟩, .int .i64 0, .string ⟨#[]⟩, .int .i64 0, .string ⟨#[]⟩] rfl
      have b3 := s2.below_set (i := 3) (u := .int .i64 z.f2) b2
      have s4 := s3.set 4 (.string z.f3.f0) #[.string z.f0.f0, .int .i64 z.f0.f1, .int .i64 z.f1, .int .i64 z.f2, .string z.f3.f0, .int .i64 0, .string ⟨#[]⟩, .int .i64 0, .string ⟨#[]⟩] rfl
      have b4 := s3.below_set (i := 4) (u := .string z.f3.f0) b3
      have s5 := s4.set 5 (.int .i64 z.f3.f1) #[.string z.f0.f0, .int .i64 z.f0.f1, .int .i64 z.f1, .int .i64 z.f2, .string z.f3.f0, .int .i64 z.f3.f1, .string ⟨#[]⟩, .int .i64 0, .string ⟨#[]⟩] rfl
      have b5 := s4.below_set (i := 5) (u := .int .i64 z.f3.f1) b4
      have s6 := s5.set 6 (.string z.f4) #[.string z.f0.f0, .int .i64 z.f0.f1, .int .i64 z.f1, .int .i64 z.f2, .string z.f3.f0, .int .i64 z.f3.f1, .string z.f4, .int .i64 0, .string ⟨#[]⟩] rfl
      have b6 := s5.below_set (i := 6) (u := .string z.f4) b5
      have s7 := s6.set 7 (.int .i64 z.f5) #[.string z.f0.f0, .int .i64 z.f0.f1, .int .i64 z.f1, .int .i64 z.f2, .string z.f3.f0, .int .i64 z.f3.f1, .string z.f4, .int .i64 z.f5, .string ⟨#[]⟩] rfl
      have b7 := s6.below_set (i := 7) (u := .int .i64 z.f5) b6
      have s8 := s7.set 8 (.string z.f6) #[.string z.f0.f0, .int .i64 z.f0.f1, .int .i64 z.f1, .int .i64 z.f2, .string z.f3.f0, .int .i64 z.f3.f1, .string z.f4, .int .i64 z.f5, .string z.f6] rfl
      have b8 := s7.below_set (i := 8) (u := .string z.f6) b7
      have n0_ := Aside0.mk (((((((s8.pick 0 rfl).pick 5 rfl).pick 5 rfl).pick 5 rfl).pick 5 rfl).pick 5 rfl)); have n1_ := Aside0.mk (b8); clear HS HB; have HS := n0_; have HB := n1_; clear n0_ n1_; (try simp only [List.eraseIdx_cons_succ, List.eraseIdx_cons_zero] at HS)
      clear s0 b0 s1 b1 s2 b2 s3 b3 s4 b4 s5 b5 s6 b6 s7 b7 s8 b8
      generalize World.setCell _ _ _ = w1 at HS HB ⊢
      refine hK.out _ _ ?_
      clear hK K
      refine done_ (done_of HT_.out (by kernel_rfl)) ?_
      clear HT_ HW_
      try clear hHeld
      go_wp2
      go_meet
      case rel => exact ⟨g7, g8, g9, rfl, rfl, rfl, ⟨HS.out.drop.drop.drop⟩, HB⟩
  case rest =>
    clear HS HB
    obtain ⟨g7, g8, g9, rfl, rfl, rfl, HS, HB⟩ := hcut
    go_upto_region 2 with (fail)
    have n0_ := Aside0.mk (HS.out.drew); have n1_ := Aside0.mk (HB.out.drew); clear HS HB; have HS := n0_; have HB := n1_; clear n0_ n1_
    refine start_ (n := 8) (S := fun w' => w'.cell? ⟨g7, 0, none⟩ = some (.string x.f0.f0) ∧ w'.cell? ⟨g7, 1, none⟩ = some (.int .i64 x.f0.f1) ∧ w'.cell? ⟨g7, 2, none⟩ = some (.int .i64 x.f1) ∧ w'.cell? ⟨g7, 3, none⟩ = some (.int .i64 x.f2) ∧ w'.cell? ⟨g7, 4, none⟩ = some (.string x.f3.f0) ∧ w'.cell? ⟨g7, 5, none⟩ = some (.int .i64 x.f3.f1) ∧ w'.cell? ⟨g7, 6, none⟩ = some (.string x.f4) ∧ w'.cell? ⟨g7, 7, none⟩ = some (.int .i64 x.f5) ∧ w'.cell? ⟨g7, 8, none⟩ = some (.string x.f6) ∧ w'.cell? ⟨g8, 0, none⟩ = some (.string y.f0.f0) ∧ w'.cell? ⟨g8, 1, none⟩ = some (.int .i64 y.f0.f1) ∧ w'.cell? ⟨g8, 2, none⟩ = some (.int .i64 y.f1) ∧ w'.cell? ⟨g8, 3, none⟩ = some (.int .i64 y.f2) ∧ w'.cell? ⟨g8, 4, none⟩ = some (.string y.f3.f0) ∧ w'.cell? ⟨g8, 5, none⟩ = some (.int .i64 y.f3.f1) ∧ w'.cell? ⟨g8, 6, none⟩ = some (.string y.f4) ∧ w'.cell? ⟨g8, 7, none⟩ = some (.int .i64 y.f5) ∧ w'.cell? ⟨g8, 8, none⟩ = some (.string y.f6) ∧ w'.cell? ⟨g9, 0, none⟩ = some (.string z.f0.f0) ∧ w'.cell? ⟨g9, 1, none⟩ = some (.int .i64 z.f0.f1) ∧ w'.cell? ⟨g9, 2, none⟩ = some (.int .i64 z.f1) ∧ w'.cell? ⟨g9, 3, none⟩ = some (.int .i64 z.f2) ∧ w'.cell? ⟨g9, 4, none⟩ = some (.string z.f3.f0) ∧ w'.cell? ⟨g9, 5, none⟩ = some (.int .i64 z.f3.f1) ∧ w'.cell? ⟨g9, 6, none⟩ = some (.string z.f4) ∧ w'.cell? ⟨g9, 7, none⟩ = some (.int .i64 z.f5) ∧ w'.cell? ⟨g9, 8, none⟩ = some (.string z.f6)) (ds := []) #[false, false, false, false, false, false, false, false] (by kernel_rfl) rfl rfl ⟨((HS.out.pick 0 rfl).cell 0).trans rfl, ((HS.out.pick 0 rfl).cell 1).trans rfl, ((HS.out.pick 0 rfl).cell 2).trans rfl, ((HS.out.pick 0 rfl).cell 3).trans rfl, ((HS.out.pick 0 rfl).cell 4).trans rfl, ((HS.out.pick 0 rfl).cell 5).trans rfl, ((HS.out.pick 0 rfl).cell 6).trans rfl, ((HS.out.pick 0 rfl).cell 7).trans rfl, ((HS.out.pick 0 rfl).cell 8).trans rfl, ((HS.out.pick 1 rfl).cell 0).trans rfl, ((HS.out.pick 1 rfl).cell 1).trans rfl, ((HS.out.pick 1 rfl).cell 2).trans rfl, ((HS.out.pick 1 rfl).cell 3).trans rfl, ((HS.out.pick 1 rfl).cell 4).trans rfl, ((HS.out.pick 1 rfl).cell 5).trans rfl, ((HS.out.pick 1 rfl).cell 6).trans rfl, ((HS.out.pick 1 rfl).cell 7).trans rfl, ((HS.out.pick 1 rfl).cell 8).trans rfl, ((HS.out.pick 2 rfl).cell 0).trans rfl, ((HS.out.pick 2 rfl).cell 1).trans rfl, ((HS.out.pick 2 rfl).cell 2).trans rfl, ((HS.out.pick 2 rfl).cell 3).trans rfl, ((HS.out.pick 2 rfl).cell 4).trans rfl, ((HS.out.pick 2 rfl).cell 5).trans rfl, ((HS.out.pick 2 rfl).cell 6).trans rfl, ((HS.out.pick 2 rfl).cell 7).trans rfl, ((HS.out.pick 2 rfl).cell 8).trans rfl⟩ (fun hHeld => ?_); refine with_tabW ord.tab2 ord.bits2 (fun HT_ HW_ => ?_)
    generalize wc.drew = w1 at HS HB hHeld ⊢
    refine tK 0 19 #[true, false, false, false, false, false, false, false] rfl rfl HT_ HW_ hHeld ?_ (by rintro w' ⟨s0, s1, s2, s3, s4, s5, s6, s7, s8, s9, s10, s11, s12, s13, s14, s15, s16, s17, s18, s19, s20, s21, s22, s23, s24, s25, s26⟩; go_simp; with_reducible rfl)
    refine tK 1 20 #[true, true, false, false, false, false, false, false] rfl rfl HT_ HW_ hHeld ?_ (by rintro w' ⟨s0, s1, s2, s3, s4, s5, s6, s7, s8, s9, s10, s11, s12, s13, s14, s15, s16, s17, s18, s19, s20, s21, s22, s23, s24, s25, s26⟩; go_simp; with_reducible rfl)
    refine tK 3 22 #[true, true, false, true, false, false, false, false] rfl rfl HT_ HW_ hHeld ?_ (by rintro w' ⟨s0, s1, s2, s3, s4, s5, s6, s7, s8, s9, s10, s11, s12, s13, s14, s15, s16, s17, s18, s19, s20, s21, s22, s23, s24, s25, s26⟩; go_simp; with_reducible rfl)
    refine tK 4 23 #[true, true, false, true, true, false, false, false] rfl rfl HT_ HW_ hHeld ?_ (by rintro w' ⟨s0, s1, s2, s3, s4, s5, s6, s7, s8, s9, s10, s11, s12, s13, s14, s15, s16, s17, s18, s19, s20, s21, s22, s23, s24, s25, s26⟩; go_simp; with_reducible rfl)
    refine one_ (i := 2) (N := some 21) #[true, true, true, true, true, false, false, false] rfl rfl (one_of HT_.out (by kernel_rfl)) (by decide) (fun K hK => ?_)
    refine goes_ Try.func12 (by kernel_rfl) rfl #[.agg #[.string x.f0.f0, .int .i64 x.f0.f1, .int .i64 x.f1, .int .i64 x.f2, .string x.f3.f0, .int .i64 x.f3.f1, .string x.f4, .int .i64 x.f5, .string x.f6], .agg #[.string y.f0.f0, .int .i64 y.f0.f1, .int .i64 y.f1, .int .i64 y.f2, .string y.f3.f0, .int .i64 y.f3.f1, .string y.f4, .int .i64 y.f5, .string y.f6]] (by rfl) rfl rfl (by (try simp only [List.map_toArray, List.map_cons, List.map_nil]); first | done | rfl | (simp only [List.length_drop, List.length_take]; rfl)) ?_
    with_reducible refine (compare_grown x y _).mono ?_
    rintro r_ w2 ⟨rfl, hg0⟩; have hb := gd_below hg0; rw [hn.out]
    refine ⟨_, rfl, ?_⟩
    have n0_ := Aside0.mk (HS.out.step hb); have n1_ := Aside0.mk (below_step' HB.out HS.out.size hb); clear HS HB; have HS := n0_; have HB := n1_; clear n0_ n1_; (try simp only [List.eraseIdx_cons_succ, List.eraseIdx_cons_zero] at HS)
    clear hb hg0
    refine hK.out _ _ ⟨((HS.out.pick 0 rfl).cell 0).trans rfl, ((HS.out.pick 0 rfl).cell 1).trans rfl, ((HS.out.pick 0 rfl).cell 2).trans rfl, ((HS.out.pick 0 rfl).cell 3).trans rfl, ((HS.out.pick 0 rfl).cell 4).trans rfl, ((HS.out.pick 0 rfl).cell 5).trans rfl, ((HS.out.pick 0 rfl).cell 6).trans rfl, ((HS.out.pick 0 rfl).cell 7).trans rfl, ((HS.out.pick 0 rfl).cell 8).trans rfl, ((HS.out.pick 1 rfl).cell 0).trans rfl, ((HS.out.pick 1 rfl).cell 1).trans rfl, ((HS.out.pick 1 rfl).cell 2).trans rfl, ((HS.out.pick 1 rfl).cell 3).trans rfl, ((HS.out.pick 1 rfl).cell 4).trans rfl, ((HS.out.pick 1 rfl).cell 5).trans rfl, ((HS.out.pick 1 rfl).cell 6).trans rfl, ((HS.out.pick 1 rfl).cell 7).trans rfl, ((HS.out.pick 1 rfl).cell 8).trans rfl, ((HS.out.pick 2 rfl).cell 0).trans rfl, ((HS.out.pick 2 rfl).cell 1).trans rfl, ((HS.out.pick 2 rfl).cell 2).trans rfl, ((HS.out.pick 2 rfl).cell 3).trans rfl, ((HS.out.pick 2 rfl).cell 4).trans rfl, ((HS.out.pick 2 rfl).cell 5).trans rfl, ((HS.out.pick 2 rfl).cell 6).trans rfl, ((HS.out.pick 2 rfl).cell 7).trans rfl, ((HS.out.pick 2 rfl).cell 8).trans rfl⟩ (fun hHeld => ?_)
    clear hK K
    refine norm_ (a' := ?_) ?_ ?_
    rotate_left
    · show Act.put _ (some 21) _ = _
      simp only [Act.put, List.setIfInBounds_toArray, List.set_cons_zero, List.set_cons_succ, i64_w, i32_w]
      rfl
    refine one_ (i := 5) (N := some 24) #[true, true, true, true, true, true, false, false] rfl rfl (one_of HT_.out (by kernel_rfl)) (by decide) (fun K hK => ?_)
    refine goes_ Try.func12 (by kernel_rfl) rfl #[.agg #[.string y.f0.f0, .int .i64 y.f0.f1, .int .i64 y.f1, .int .i64 y.f2, .string y.f3.f0, .int .i64 y.f3.f1, .string y.f4, .int .i64 y.f5, .string y.f6], .agg #[.string z.f0.f0, .int .i64 z.f0.f1, .int .i64 z.f1, .int .i64 z.f2, .string z.f3.f0, .int .i64 z.f3.f1, .string z.f4, .int .i64 z.f5, .string z.f6]] (by rfl) rfl rfl (by (try simp only [List.map_toArray, List.map_cons, List.map_nil]); first | done | rfl | (simp only [List.length_drop, List.length_take]; rfl)) ?_
    with_reducible refine (compare_grown y z _).mono ?_
    rintro r_ w3 ⟨rfl, hg0⟩; have hb := gd_below hg0; rw [hm.out]
    refine ⟨_, rfl, ?_⟩
    have n0_ := Aside0.mk (HS.out.step hb); have n1_ := Aside0.mk (below_step' HB.out HS.out.size hb); clear HS HB; have HS := n0_; have HB := n1_; clear n0_ n1_; (try simp only [List.eraseIdx_cons_succ, List.eraseIdx_cons_zero] at HS)
    clear hb hg0
    refine hK.out _ _ ⟨((HS.out.pick 0 rfl).cell 0).trans rfl, ((HS.out.pick 0 rfl).cell 1).trans rfl, ((HS.out.pick 0 rfl).cell 2).trans rfl, ((HS.out.pick 0 rfl).cell 3).trans rfl, ((HS.out.pick 0 rfl).cell 4).trans rfl, ((HS.out.pick 0 rfl).cell 5).trans rfl, ((HS.out.pick 0 rfl).cell 6).trans rfl, ((HS.out.pick 0 rfl).cell 7).trans rfl, ((HS.out.pick 0 rfl).cell 8).trans rfl, ((HS.out.pick 1 rfl).cell 0).trans rfl, ((HS.out.pick 1 rfl).cell 1).trans rfl, ((HS.out.pick 1 rfl).cell 2).trans rfl, ((HS.out.pick 1 rfl).cell 3).trans rfl, ((HS.out.pick 1 rfl).cell 4).trans rfl, ((HS.out.pick 1 rfl).cell 5).trans rfl, ((HS.out.pick 1 rfl).cell 6).trans rfl, ((HS.out.pick 1 rfl).cell 7).trans rfl, ((HS.out.pick 1 rfl).cell 8).trans rfl, ((HS.out.pick 2 rfl).cell 0).trans rfl, ((HS.out.pick 2 rfl).cell 1).trans rfl, ((HS.out.pick 2 rfl).cell 2).trans rfl, ((HS.out.pick 2 rfl).cell 3).trans rfl, ((HS.out.pick 2 rfl).cell 4).trans rfl, ((HS.out.pick 2 rfl).cell 5).trans rfl, ((HS.out.pick 2 rfl).cell 6).trans rfl, ((HS.out.pick 2 rfl).cell 7).trans rfl, ((HS.out.pick 2 rfl).cell 8).trans rfl⟩ (fun hHeld => ?_)
    clear hK K
    refine norm_ (a' := ?_) ?_ ?_
    rotate_left
    · show Act.put _ (some 24) _ = _
      simp only [Act.put, List.setIfInBounds_toArray, List.set_cons_zero, List.set_cons_succ, i64_w, i32_w]
      rfl
    refine pU 6 10 #[true, true, true, true, true, true, true, false] rfl rfl HT_ ?_
    refine pU 7 11 #[true, true, true, true, true, true, true, true] rfl rfl HT_ ?_
    refine done_ (done_of HT_.out (by kernel_rfl)) ?_
    clear HT_ HW_
    try clear hHeld
    obtain ⟨y70, y71, y72, y73, y74, y75, y76, y77, y78⟩ := blk9 (HS.out.pick 0 rfl)
    obtain ⟨y80, y81, y82, y83, y84, y85, y86, y87, y88⟩ := blk9 (HS.out.pick 1 rfl)
    obtain ⟨y90, y91, y92, y93, y94, y95, y96, y97, y98⟩ := blk9 (HS.out.pick 2 rfl)
    go_upto_region 4 with (first | ((with_reducible refine gate_dst (N := 29) rfl ?_); refine S_lit k27 27 ?hg29 (Nt := 29) ?hd29 (xs := [x, y, z, x]) (inner := [.string x.f0.f0, .int .i64 x.f0.f1, .int .i64 x.f1, .int .i64 x.f2, .string x.f3.f0, .int .i64 x.f3.f1, .string x.f4, .int .i64 x.f5, .string x.f6, .string y.f0.f0, .int .i64 y.f0.f1, .int .i64 y.f1, .int .i64 y.f2, .string y.f3.f0, .int .i64 y.f3.f1, .string y.f4, .int .i64 y.f5, .string y.f6, .string z.f0.f0, .int .i64 z.f0.f1, .int .i64 z.f1, .int .i64 z.f2, .string z.f3.f0, .int .i64 z.f3.f1, .string z.f4, .int .i64 z.f5, .string z.f6, .string x.f0.f0, .int .i64 x.f0.f1, .int .i64 x.f1, .int .i64 x.f2, .string x.f3.f0, .int .i64 x.f3.f1, .string x.f4, .int .i64 x.f5, .string x.f6]) ?hr29 ?hp29 HS.out (by simp) ?_; (case hd29 => rfl); (case hg29 => rfl); (case hr29 => first | (go_simp; done) | (go_simp; rfl)); (case hp29 => exact reps_encs flat27 (fun y => flat27.M _ _ _ y) [x, y, z, x]); intro v29 w4 hs hb; have n0_ := Aside0.mk (hs); have n1_ := Aside0.mk (below_step' HB.out HS.out.size hb); clear HS HB; have HS := n0_; have HB := n1_; clear n0_ n1_; (try simp only [List.eraseIdx_cons_succ, List.eraseIdx_cons_zero] at HS); clear hs hb; clear y70 y71 y72 y73 y74 y75 y76 y77 y78 y80 y81 y82 y83 y84 y85 y86 y87 y88 y90 y91 y92 y93 y94 y95 y96 y97 y98; obtain ⟨y70, y71, y72, y73, y74, y75, y76, y77, y78⟩ := blk9 (HS.out.pick 1 rfl); obtain ⟨y80, y81, y82, y83, y84, y85, y86, y87, y88⟩ := blk9 (HS.out.pick 2 rfl); obtain ⟨y90, y91, y92, y93, y94, y95, y96, y97, y98⟩ := blk9 (HS.out.pick 3 rfl)))
    obtain ⟨A29, c29, e29, _, _⟩ := (HS.out.pick 0 rfl).reads
    subst e29
    replace HS : Aside0 (St w.heap.size w4 (Row k27 27 (.slice A29 4 c29) [x, y, z, x] :: Blk g7 #[.string x.f0.f0, .int .i64 x.f0.f1, .int .i64 x.f1, .int .i64 x.f2, .string x.f3.f0, .int .i64 x.f3.f1, .string x.f4, .int .i64 x.f5, .string x.f6] 27 :: Blk g8 #[.string y.f0.f0, .int .i64 y.f0.f1, .int .i64 y.f1, .int .i64 y.f2, .string y.f3.f0, .int .i64 y.f3.f1, .string y.f4, .int .i64 y.f5, .string y.f6] 27 :: Blk g9 #[.string z.f0.f0, .int .i64 z.f0.f1, .int .i64 z.f1, .int .i64 z.f2, .string z.f3.f0, .int .i64 z.f3.f1, .string z.f4, .int .i64 z.f5, .string z.f6] 27 :: [])) := HS
    have q1 := q1.out
    have q1b := q1b.out
    have q2 := q2.out
    have q2b := q2b.out
    have nn : (n == n) = true := by simp
    have nm : (m == m) = true := by simp
    have nn2 : (n2 == n2) = true := by simp
    by_cases c1 : 0 < n
    · have p1 : decide (0 < n) = true := decide_eq_true c1
      go_wp2_with (first | (go_at_call 13; (with_reducible refine (known_ok _).mono ?_); rintro r_ w5 ⟨rfl, hb⟩; clear y70 y71 y72 y73 y74 y75 y76 y77 y78 y80 y81 y82 y83 y84 y85 y86 y87 y88 y90 y91 y92 y93 y94 y95 y96 y97 y98; have n0_ := Aside0.mk (HS.out.step hb); have n1_ := Aside0.mk (below_step' HB.out HS.out.size hb); clear HS HB; have HS := n0_; have HB := n1_; clear n0_ n1_; (try simp only [List.eraseIdx_cons_succ, List.eraseIdx_cons_zero] at HS); clear hb; obtain ⟨y70, y71, y72, y73, y74, y75, y76, y77, y78⟩ := blk9 (HS.out.pick 1 rfl); obtain ⟨y80, y81, y82, y83, y84, y85, y86, y87, y88⟩ := blk9 (HS.out.pick 2 rfl); obtain ⟨y90, y91, y92, y93, y94, y95, y96, y97, y98⟩ := blk9 (HS.out.pick 3 rfl)) | (go_at_call 14; (with_reducible refine (compareM_ok x y _).mono ?_); rintro r_ w6 ⟨rfl, hb⟩; rw [hn.out]; clear y70 y71 y72 y73 y74 y75 y76 y77 y78 y80 y81 y82 y83 y84 y85 y86 y87 y88 y90 y91 y92 y93 y94 y95 y96 y97 y98; have n0_ := Aside0.mk (HS.out.step hb); have n1_ := Aside0.mk (below_step' HB.out HS.out.size hb); clear HS HB; have HS := n0_; have HB := n1_; clear n0_ n1_; (try simp only [List.eraseIdx_cons_succ, List.eraseIdx_cons_zero] at HS); clear hb; obtain ⟨y70, y71, y72, y73, y74, y75, y76, y77, y78⟩ := blk9 (HS.out.pick 1 rfl); obtain ⟨y80, y81, y82, y83, y84, y85, y86, y87, y88⟩ := blk9 (HS.out.pick 2 rfl); obtain ⟨y90, y91, y92, y93, y94, y95, y96, y97, y98⟩ := blk9 (HS.out.pick 3 rfl)) | (go_at_call 14; (with_reducible refine (compareM_ok y z _).mono ?_); rintro r_ w7 ⟨rfl, hb⟩; rw [hm.out]; clear y70 y71 y72 y73 y74 y75 y76 y77 y78 y80 y81 y82 y83 y84 y85 y86 y87 y88 y90 y91 y92 y93 y94 y95 y96 y97 y98; have n0_ := Aside0.mk (HS.out.step hb); have n1_ := Aside0.mk (below_step' HB.out HS.out.size hb); clear HS HB; have HS := n0_; have HB := n1_; clear n0_ n1_; (try simp only [List.eraseIdx_cons_succ, List.eraseIdx_cons_zero] at HS); clear hb; obtain ⟨y70, y71, y72, y73, y74, y75, y76, y77, y78⟩ := blk9 (HS.out.pick 1 rfl); obtain ⟨y80, y81, y82, y83, y84, y85, y86, y87, y88⟩ := blk9 (HS.out.pick 2 rfl); obtain ⟨y90, y91, y92, y93, y94, y95, y96, y97, y98⟩ := blk9 (HS.out.pick 3 rfl)) | (go_at_call 12; (with_reducible refine (compare_grown y x _).mono ?_); rintro r_ w8 ⟨rfl, hg0⟩; have hb := gd_below hg0; clear hg0; rw [hn2.out]; clear y70 y71 y72 y73 y74 y75 y76 y77 y78 y80 y81 y82 y83 y84 y85 y86 y87 y88 y90 y91 y92 y93 y94 y95 y96 y97 y98; have n0_ := Aside0.mk (HS.out.step hb); have n1_ := Aside0.mk (below_step' HB.out HS.out.size hb); clear HS HB; have HS := n0_; have HB := n1_; clear n0_ n1_; (try simp only [List.eraseIdx_cons_succ, List.eraseIdx_cons_zero] at HS); clear hb; obtain ⟨y70, y71, y72, y73, y74, y75, y76, y77, y78⟩ := blk9 (HS.out.pick 1 rfl); obtain ⟨y80, y81, y82, y83, y84, y85, y86, y87, y88⟩ := blk9 (HS.out.pick 2 rfl); obtain ⟨y90, y91, y92, y93, y94, y95, y96, y97, y98⟩ := blk9 (HS.out.pick 3 rfl)) | (go_at_call 12; (with_reducible refine (compare_grown x z _).mono ?_); rintro r_ w9 ⟨rfl, hg0⟩; have hb := gd_below hg0; clear hg0; rw [hp.out]; clear y70 y71 y72 y73 y74 y75 y76 y77 y78 y80 y81 y82 y83 y84 y85 y86 y87 y88 y90 y91 y92 y93 y94 y95 y96 y97 y98; have n0_ := Aside0.mk (HS.out.step hb); have n1_ := Aside0.mk (below_step' HB.out HS.out.size hb); clear HS HB; have HS := n0_; have HB := n1_; clear n0_ n1_; (try simp only [List.eraseIdx_cons_succ, List.eraseIdx_cons_zero] at HS); clear hb; obtain ⟨y70, y71, y72, y73, y74, y75, y76, y77, y78⟩ := blk9 (HS.out.pick 1 rfl); obtain ⟨y80, y81, y82, y83, y84, y85, y86, y87, y88⟩ := blk9 (HS.out.pick 2 rfl); obtain ⟨y90, y91, y92, y93, y94, y95, y96, y97, y98⟩ := blk9 (HS.out.pick 3 rfl)) | (go_at_call 16; (with_reducible refine (Order_ok A29 4 c29 [x, y, z, x] rfl (by decide) (fun w' h _ => (h.pick 0 rfl).rowC.2.2) HS.out).mono ?_); rintro r_ w10 ⟨vo, rfl, hs, hb⟩; clear y70 y71 y72 y73 y74 y75 y76 y77 y78 y80 y81 y82 y83 y84 y85 y86 y87 y88 y90 y91 y92 y93 y94 y95 y96 y97 y98; have n0_ := Aside0.mk (hs); have n1_ := Aside0.mk (HB.out.trans hb); clear HS HB; have HS := n0_; have HB := n1_; clear n0_ n1_; (try simp only [List.eraseIdx_cons_succ, List.eraseIdx_cons_zero] at HS); clear hs hb; obtain ⟨Ao, co, eo, _, _⟩ := HS.out.reads; subst eo) | (go_at_call 17; (with_reducible refine (counting_n A29 4 c29 [x, y, z, x] rfl (by decide) HS.out.swap).mono ?_); rintro r_ w11 ⟨vc, rfl, hs, hb⟩; have n0_ := Aside0.mk (hs); have n1_ := Aside0.mk (HB.out.trans hb); clear HS HB; have HS := n0_; have HB := n1_; clear n0_ n1_; (try simp only [List.eraseIdx_cons_succ, List.eraseIdx_cons_zero] at HS); clear hs hb; obtain ⟨Ac, cc, ec, _, _⟩ := HS.out.reads; subst ec) | (go_at_call 15; (with_reducible refine (sameEv_ok Ao Ac co cc (orderE [x, y, z, x]) (orderE [x, y, z, x]) _ (by have := hol.out; omega) (HS.out.pick 2 rfl).rowC.2.2 (HS.out.pick 2 rfl).rowC.2.1 (HS.out.pick 0 rfl).rowC.2.2 (HS.out.pick 0 rfl).rowC.2.1 true (decide_eq_true rfl)).mono ?_); rintro r_ w12 ⟨rfl, hb0⟩; have hb := hb0.below; clear hb0; have n0_ := Aside0.mk (HS.out.step hb); have n1_ := Aside0.mk (below_step' HB.out HS.out.size hb); clear HS HB; have HS := n0_; have HB := n1_; clear n0_ n1_; (try simp only [List.eraseIdx_cons_succ, List.eraseIdx_cons_zero] at HS); clear hb))
      go_ret
      exact ⟨rfl, HB.out⟩
    · have p1 : decide (0 < n) = false := decide_eq_false c1
      by_cases c2 : 0 < m
      · have p2 : decide (0 < m) = true := decide_eq_true c2
        go_wp2_with (first | (go_at_call 13; (with_reducible refine (known_ok _).mono ?_); rintro r_ w5 ⟨rfl, hb⟩; clear y70 y71 y72 y73 y74 y75 y76 y77 y78 y80 y81 y82 y83 y84 y85 y86 y87 y88 y90 y91 y92 y93 y94 y95 y96 y97 y98; have n0_ := Aside0.mk (HS.out.step hb); have n1_ := Aside0.mk (below_step' HB.out HS.out.size hb); clear HS HB; have HS := n0_; have HB := n1_; clear n0_ n1_; (try simp only [List.eraseIdx_cons_succ, List.eraseIdx_cons_zero] at HS); clear hb; obtain ⟨y70, y71, y72, y73, y74, y75, y76, y77, y78⟩ := blk9 (HS.out.pick 1 rfl); obtain ⟨y80, y81, y82, y83, y84, y85, y86, y87, y88⟩ := blk9 (HS.out.pick 2 rfl); obtain ⟨y90, y91, y92, y93, y94, y95, y96, y97, y98⟩ := blk9 (HS.out.pick 3 rfl)) | (go_at_call 14; (with_reducible refine (compareM_ok x y _).mono ?_); rintro r_ w6 ⟨rfl, hb⟩; rw [hn.out]; clear y70 y71 y72 y73 y74 y75 y76 y77 y78 y80 y81 y82 y83 y84 y85 y86 y87 y88 y90 y91 y92 y93 y94 y95 y96 y97 y98; have n0_ := Aside0.mk (HS.out.step hb); have n1_ := Aside0.mk (below_step' HB.out HS.out.size hb); clear HS HB; have HS := n0_; have HB := n1_; clear n0_ n1_; (try simp only [List.eraseIdx_cons_succ, List.eraseIdx_cons_zero] at HS); clear hb; obtain ⟨y70, y71, y72, y73, y74, y75, y76, y77, y78⟩ := blk9 (HS.out.pick 1 rfl); obtain ⟨y80, y81, y82, y83, y84, y85, y86, y87, y88⟩ := blk9 (HS.out.pick 2 rfl); obtain ⟨y90, y91, y92, y93, y94, y95, y96, y97, y98⟩ := blk9 (HS.out.pick 3 rfl)) | (go_at_call 14; (with_reducible refine (compareM_ok y z _).mono ?_); rintro r_ w7 ⟨rfl, hb⟩; rw [hm.out]; clear y70 y71 y72 y73 y74 y75 y76 y77 y78 y80 y81 y82 y83 y84 y85 y86 y87 y88 y90 y91 y92 y93 y94 y95 y96 y97 y98; have n0_ := Aside0.mk (HS.out.step hb); have n1_ := Aside0.mk (below_step' HB.out HS.out.size hb); clear HS HB; have HS := n0_; have HB := n1_; clear n0_ n1_; (try simp only [List.eraseIdx_cons_succ, List.eraseIdx_cons_zero] at HS); clear hb; obtain ⟨y70, y71, y72, y73, y74, y75, y76, y77, y78⟩ := blk9 (HS.out.pick 1 rfl); obtain ⟨y80, y81, y82, y83, y84, y85, y86, y87, y88⟩ := blk9 (HS.out.pick 2 rfl); obtain ⟨y90, y91, y92, y93, y94, y95, y96, y97, y98⟩ := blk9 (HS.out.pick 3 rfl)) | (go_at_call 12; (with_reducible refine (compare_grown y x _).mono ?_); rintro r_ w8 ⟨rfl, hg0⟩; have hb := gd_below hg0; clear hg0; rw [hn2.out]; clear y70 y71 y72 y73 y74 y75 y76 y77 y78 y80 y81 y82 y83 y84 y85 y86 y87 y88 y90 y91 y92 y93 y94 y95 y96 y97 y98; have n0_ := Aside0.mk (HS.out.step hb); have n1_ := Aside0.mk (below_step' HB.out HS.out.size hb); clear HS HB; have HS := n0_; have HB := n1_; clear n0_ n1_; (try simp only [List.eraseIdx_cons_succ, List.eraseIdx_cons_zero] at HS); clear hb; obtain ⟨y70, y71, y72, y73, y74, y75, y76, y77, y78⟩ := blk9 (HS.out.pick 1 rfl); obtain ⟨y80, y81, y82, y83, y84, y85, y86, y87, y88⟩ := blk9 (HS.out.pick 2 rfl); obtain ⟨y90, y91, y92, y93, y94, y95, y96, y97, y98⟩ := blk9 (HS.out.pick 3 rfl)) | (go_at_call 12; (with_reducible refine (compare_grown x z _).mono ?_); rintro r_ w9 ⟨rfl, hg0⟩; have hb := gd_below hg0; clear hg0; rw [hp.out]; clear y70 y71 y72 y73 y74 y75 y76 y77 y78 y80 y81 y82 y83 y84 y85 y86 y87 y88 y90 y91 y92 y93 y94 y95 y96 y97 y98; have n0_ := Aside0.mk (HS.out.step hb); have n1_ := Aside0.mk (below_step' HB.out HS.out.size hb); clear HS HB; have HS := n0_; have HB := n1_; clear n0_ n1_; (try simp only [List.eraseIdx_cons_succ, List.eraseIdx_cons_zero] at HS); clear hb; obtain ⟨y70, y71, y72, y73, y74, y75, y76, y77, y78⟩ := blk9 (HS.out.pick 1 rfl); obtain ⟨y80, y81, y82, y83, y84, y85, y86, y87, y88⟩ := blk9 (HS.out.pick 2 rfl); obtain ⟨y90, y91, y92, y93, y94, y95, y96, y97, y98⟩ := blk9 (HS.out.pick 3 rfl)) | (go_at_call 16; (with_reducible refine (Order_ok A29 4 c29 [x, y, z, x] rfl (by decide) (fun w' h _ => (h.pick 0 rfl).rowC.2.2) HS.out).mono ?_); rintro r_ w10 ⟨vo, rfl, hs, hb⟩; clear y70 y71 y72 y73 y74 y75 y76 y77 y78 y80 y81 y82 y83 y84 y85 y86 y87 y88 y90 y91 y92 y93 y94 y95 y96 y97 y98; have n0_ := Aside0.mk (hs); have n1_ := Aside0.mk (HB.out.trans hb); clear HS HB; have HS := n0_; have HB := n1_; clear n0_ n1_; (try simp only [List.eraseIdx_cons_succ, List.eraseIdx_cons_zero] at HS); clear hs hb; obtain ⟨Ao, co, eo, _, _⟩ := HS.out.reads; subst eo) | (go_at_call 17; (with_reducible refine (counting_n A29 4 c29 [x, y, z, x] rfl (by decide) HS.out.swap).mono ?_); rintro r_ w11 ⟨vc, rfl, hs, hb⟩; have n0_ := Aside0.mk (hs); have n1_ := Aside0.mk (HB.out.trans hb); clear HS HB; have HS := n0_; have HB := n1_; clear n0_ n1_; (try simp only [List.eraseIdx_cons_succ, List.eraseIdx_cons_zero] at HS); clear hs hb; obtain ⟨Ac, cc, ec, _, _⟩ := HS.out.reads; subst ec) | (go_at_call 15; (with_reducible refine (sameEv_ok Ao Ac co cc (orderE [x, y, z, x]) (orderE [x, y, z, x]) _ (by have := hol.out; omega) (HS.out.pick 2 rfl).rowC.2.2 (HS.out.pick 2 rfl).rowC.2.1 (HS.out.pick 0 rfl).rowC.2.2 (HS.out.pick 0 rfl).rowC.2.1 true (decide_eq_true rfl)).mono ?_); rintro r_ w12 ⟨rfl, hb0⟩; have hb := hb0.below; clear hb0; have n0_ := Aside0.mk (HS.out.step hb); have n1_ := Aside0.mk (below_step' HB.out HS.out.size hb); clear HS HB; have HS := n0_; have HB := n1_; clear n0_ n1_; (try simp only [List.eraseIdx_cons_succ, List.eraseIdx_cons_zero] at HS); clear hb))
        go_ret
        exact ⟨rfl, HB.out⟩
      · have p2 : decide (0 < m) = false := decide_eq_false c2
        have p3 : decide (p ≤ 0) = true := decide_eq_true (by have := htr.out; omega)
        go_wp2_with (first | (go_at_call 13; (with_reducible refine (known_ok _).mono ?_); rintro r_ w5 ⟨rfl, hb⟩; clear y70 y71 y72 y73 y74 y75 y76 y77 y78 y80 y81 y82 y83 y84 y85 y86 y87 y88 y90 y91 y92 y93 y94 y95 y96 y97 y98; have n0_ := Aside0.mk (HS.out.step hb); have n1_ := Aside0.mk (below_step' HB.out HS.out.size hb); clear HS HB; have HS := n0_; have HB := n1_; clear n0_ n1_; (try simp only [List.eraseIdx_cons_succ, List.eraseIdx_cons_zero] at HS); clear hb; obtain ⟨y70, y71, y72, y73, y74, y75, y76, y77, y78⟩ := blk9 (HS.out.pick 1 rfl); obtain ⟨y80, y81, y82, y83, y84, y85, y86, y87, y88⟩ := blk9 (HS.out.pick 2 rfl); obtain ⟨y90, y91, y92, y93, y94, y95, y96, y97, y98⟩ := blk9 (HS.out.pick 3 rfl)) | (go_at_call 14; (with_reducible refine (compareM_ok x y _).mono ?_); rintro r_ w6 ⟨rfl, hb⟩; rw [hn.out]; clear y70 y71 y72 y73 y74 y75 y76 y77 y78 y80 y81 y82 y83 y84 y85 y86 y87 y88 y90 y91 y92 y93 y94 y95 y96 y97 y98; have n0_ := Aside0.mk (HS.out.step hb); have n1_ := Aside0.mk (below_step' HB.out HS.out.size hb); clear HS HB; have HS := n0_; have HB := n1_; clear n0_ n1_; (try simp only [List.eraseIdx_cons_succ, List.eraseIdx_cons_zero] at HS); clear hb; obtain ⟨y70, y71, y72, y73, y74, y75, y76, y77, y78⟩ := blk9 (HS.out.pick 1 rfl); obtain ⟨y80, y81, y82, y83, y84, y85, y86, y87, y88⟩ := blk9 (HS.out.pick 2 rfl); obtain ⟨y90, y91, y92, y93, y94, y95, y96, y97, y98⟩ := blk9 (HS.out.pick 3 rfl)) | (go_at_call 14; (with_reducible refine (compareM_ok y z _).mono ?_); rintro r_ w7 ⟨rfl, hb⟩; rw [hm.out]; clear y70 y71 y72 y73 y74 y75 y76 y77 y78 y80 y81 y82 y83 y84 y85 y86 y87 y88 y90 y91 y92 y93 y94 y95 y96 y97 y98; have n0_ := Aside0.mk (HS.out.step hb); have n1_ := Aside0.mk (below_step' HB.out HS.out.size hb); clear HS HB; have HS := n0_; have HB := n1_; clear n0_ n1_; (try simp only [List.eraseIdx_cons_succ, List.eraseIdx_cons_zero] at HS); clear hb; obtain ⟨y70, y71, y72, y73, y74, y75, y76, y77, y78⟩ := blk9 (HS.out.pick 1 rfl); obtain ⟨y80, y81, y82, y83, y84, y85, y86, y87, y88⟩ := blk9 (HS.out.pick 2 rfl); obtain ⟨y90, y91, y92, y93, y94, y95, y96, y97, y98⟩ := blk9 (HS.out.pick 3 rfl)) | (go_at_call 12; (with_reducible refine (compare_grown y x _).mono ?_); rintro r_ w8 ⟨rfl, hg0⟩; have hb := gd_below hg0; clear hg0; rw [hn2.out]; clear y70 y71 y72 y73 y74 y75 y76 y77 y78 y80 y81 y82 y83 y84 y85 y86 y87 y88 y90 y91 y92 y93 y94 y95 y96 y97 y98; have n0_ := Aside0.mk (HS.out.step hb); have n1_ := Aside0.mk (below_step' HB.out HS.out.size hb); clear HS HB; have HS := n0_; have HB := n1_; clear n0_ n1_; (try simp only [List.eraseIdx_cons_succ, List.eraseIdx_cons_zero] at HS); clear hb; obtain ⟨y70, y71, y72, y73, y74, y75, y76, y77, y78⟩ := blk9 (HS.out.pick 1 rfl); obtain ⟨y80, y81, y82, y83, y84, y85, y86, y87, y88⟩ := blk9 (HS.out.pick 2 rfl); obtain ⟨y90, y91, y92, y93, y94, y95, y96, y97, y98⟩ := blk9 (HS.out.pick 3 rfl)) | (go_at_call 12; (with_reducible refine (compare_grown x z _).mono ?_); rintro r_ w9 ⟨rfl, hg0⟩; have hb := gd_below hg0; clear hg0; rw [hp.out]; clear y70 y71 y72 y73 y74 y75 y76 y77 y78 y80 y81 y82 y83 y84 y85 y86 y87 y88 y90 y91 y92 y93 y94 y95 y96 y97 y98; have n0_ := Aside0.mk (HS.out.step hb); have n1_ := Aside0.mk (below_step' HB.out HS.out.size hb); clear HS HB; have HS := n0_; have HB := n1_; clear n0_ n1_; (try simp only [List.eraseIdx_cons_succ, List.eraseIdx_cons_zero] at HS); clear hb; obtain ⟨y70, y71, y72, y73, y74, y75, y76, y77, y78⟩ := blk9 (HS.out.pick 1 rfl); obtain ⟨y80, y81, y82, y83, y84, y85, y86, y87, y88⟩ := blk9 (HS.out.pick 2 rfl); obtain ⟨y90, y91, y92, y93, y94, y95, y96, y97, y98⟩ := blk9 (HS.out.pick 3 rfl)) | (go_at_call 16; (with_reducible refine (Order_ok A29 4 c29 [x, y, z, x] rfl (by decide) (fun w' h _ => (h.pick 0 rfl).rowC.2.2) HS.out).mono ?_); rintro r_ w10 ⟨vo, rfl, hs, hb⟩; clear y70 y71 y72 y73 y74 y75 y76 y77 y78 y80 y81 y82 y83 y84 y85 y86 y87 y88 y90 y91 y92 y93 y94 y95 y96 y97 y98; have n0_ := Aside0.mk (hs); have n1_ := Aside0.mk (HB.out.trans hb); clear HS HB; have HS := n0_; have HB := n1_; clear n0_ n1_; (try simp only [List.eraseIdx_cons_succ, List.eraseIdx_cons_zero] at HS); clear hs hb; obtain ⟨Ao, co, eo, _, _⟩ := HS.out.reads; subst eo) | (go_at_call 17; (with_reducible refine (counting_n A29 4 c29 [x, y, z, x] rfl (by decide) HS.out.swap).mono ?_); rintro r_ w11 ⟨vc, rfl, hs, hb⟩; have n0_ := Aside0.mk (hs); have n1_ := Aside0.mk (HB.out.trans hb); clear HS HB; have HS := n0_; have HB := n1_; clear n0_ n1_; (try simp only [List.eraseIdx_cons_succ, List.eraseIdx_cons_zero] at HS); clear hs hb; obtain ⟨Ac, cc, ec, _, _⟩ := HS.out.reads; subst ec) | (go_at_call 15; (with_reducible refine (sameEv_ok Ao Ac co cc (orderE [x, y, z, x]) (orderE [x, y, z, x]) _ (by have := hol.out; omega) (HS.out.pick 2 rfl).rowC.2.2 (HS.out.pick 2 rfl).rowC.2.1 (HS.out.pick 0 rfl).rowC.2.2 (HS.out.pick 0 rfl).rowC.2.1 true (decide_eq_true rfl)).mono ?_); rintro r_ w12 ⟨rfl, hb0⟩; have hb := hb0.below; clear hb0; have n0_ := Aside0.mk (HS.out.step hb); have n1_ := Aside0.mk (below_step' HB.out HS.out.size hb); clear HS HB; have HS := n0_; have HB := n1_; clear n0_ n1_; (try simp only [List.eraseIdx_cons_succ, List.eraseIdx_cons_zero] at HS); clear hb))
        go_ret
        exact ⟨rfl, HB.out⟩

end Go.Proofs.Ytcjfgejiknlpfaa.PI
