/- The model's compare is the order of two events. -/
import Derived.Test.YtcjfgejiknlpfaaGreatJ0
import Derived.Test.YtcjfgejiknlpfaaGreatJ1
import Derived.Test.YtcjfgejiknlpfaaGreatSq16
namespace Go.Proofs.YtcjfgejiknlpfaaGreat.PI
open Go.RowKit Go.Proofs.YtcjfgejiknlpfaaGreatW.PrintWords Go.Proofs.YtcjfgejiknlpfaaGreatW.PrintLast Go.Proofs.YtcjfgejiknlpfaaGreatW.PrintMore Go.Proofs.YtcjfgejiknlpfaaGreat.Sep
set_option linter.unusedVariables false
set_option linter.unusedSimpArgs false
set_option maxHeartbeats 8000000
set_option maxRecDepth 100000

def cmw.T1 : Bool × List (List Nat × List Nat) := (true, [([], []), ([0], [0]), ([], []), ([2], [2]), ([1, 3], [1, 3]), ([], []), ([5], [5]), ([6], [6]), ([], []), ([8], [8]), ([9], [9]), ([7, 10, 4], [7, 10]), ([], []), ([12], [12]), ([13], [13]), ([], []), ([15], [15]), ([16], [16]), ([14, 17, 11], [14, 17]), ([], []), ([19], [19]), ([], []), ([21], [21]), ([20, 22, 18], [20, 22]), ([], []), ([24], [24]), ([25], [25]), ([], []), ([27], [27]), ([28], [28]), ([26, 29, 23], [26, 29]), ([], []), ([31], [31]), ([32], [32]), ([], []), ([34], [34]), ([35], [35]), ([33, 36, 30], [33, 36]), ([], []), ([38], [38]), ([], []), ([40], [40]), ([39, 41, 37], [39, 41]), ([], []), ([43], [43]), ([], []), ([45], [45]), ([44, 46, 42], [44, 46]), ([], []), ([48], [48]), ([], []), ([50], [50]), ([49, 51, 47], [49, 51]), ([4, 11, 18, 23, 30, 37, 42, 47, 52], [4, 11, 18, 23, 30, 37, 42, 47, 52]), ([53, 52, 0, 1, 2, 3, 4, 5, 6, 7, 8, 9, 10, 11, 12, 13, 14, 15, 16, 17, 18, 19, 20, 21, 22, 23, 24, 25, 26, 27, 28, 29, 30, 31, 32, 33, 34, 35, 36, 37, 38, 39, 40, 41, 42, 43, 44, 45, 46, 47, 48, 49, 50, 51, 52, 53], [53])])
def cmw.B1 : List Nat := [0, 1, 0, 4, 15, 0, 32, 96, 0, 256, 768, 2047, 0, 4096, 12288, 0, 32768, 98304, 262143, 0, 524288, 0, 2097152, 8388607, 0, 16777216, 50331648, 0, 134217728, 402653184, 1073741823, 0, 2147483648, 6442450944, 0, 17179869184, 51539607552, 137438953471, 0, 274877906944, 0, 1099511627776, 4398046511103, 0, 8796093022208, 0, 35184372088832, 140737488355327, 0, 281474976710656, 0, 1125899906842624, 4503599627370495, 9007199254740991, 18014398509481983]
theorem cmw.tab1 : rtab .any (opsOf Tryz.f33 1) = cmw.T1 := by kernel_rfl
theorem cmw.bits1 : waitsOk cmw.T1.2 cmw.B1 = true := by kernel_rfl
theorem two18 {N : Nat} {w : World} {L : List Res} {gA gB : Nat} {x y : S50} (h : St N w (Blk gB #[.string y.f0.f0, .int .i64 y.f0.f1, .int .i64 y.f1, .int .i64 y.f2, .string y.f3.f0, .int .i64 y.f3.f1, .string y.f4, .int .i64 y.f5, .string y.f6] 50 :: Blk gA #[.string x.f0.f0, .int .i64 x.f0.f1, .int .i64 x.f1, .int .i64 x.f2, .string x.f3.f0, .int .i64 x.f3.f1, .string x.f4, .int .i64 x.f5, .string x.f6] 50 :: L)) : w.cell? ⟨gA, 0, none⟩ = some (.string x.f0.f0) ∧ w.cell? ⟨gA, 1, none⟩ = some (.int .i64 x.f0.f1) ∧ w.cell? ⟨gA, 2, none⟩ = some (.int .i64 x.f1) ∧ w.cell? ⟨gA, 3, none⟩ = some (.int .i64 x.f2) ∧ w.cell? ⟨gA, 4, none⟩ = some (.string x.f3.f0) ∧ w.cell? ⟨gA, 5, none⟩ = some (.int .i64 x.f3.f1) ∧ w.cell? ⟨gA, 6, none⟩ = some (.string x.f4) ∧ w.cell? ⟨gA, 7, none⟩ = some (.int .i64 x.f5) ∧ w.cell? ⟨gA, 8, none⟩ = some (.string x.f6) ∧ w.cell? ⟨gB, 0, none⟩ = some (.string y.f0.f0) ∧ w.cell? ⟨gB, 1, none⟩ = some (.int .i64 y.f0.f1) ∧ w.cell? ⟨gB, 2, none⟩ = some (.int .i64 y.f1) ∧ w.cell? ⟨gB, 3, none⟩ = some (.int .i64 y.f2) ∧ w.cell? ⟨gB, 4, none⟩ = some (.string y.f3.f0) ∧ w.cell? ⟨gB, 5, none⟩ = some (.int .i64 y.f3.f1) ∧ w.cell? ⟨gB, 6, none⟩ = some (.string y.f4) ∧ w.cell? ⟨gB, 7, none⟩ = some (.int .i64 y.f5) ∧ w.cell? ⟨gB, 8, none⟩ = some (.string y.f6) :=
  ⟨((h.pick 1 rfl).cell 0).trans rfl, ((h.pick 1 rfl).cell 1).trans rfl, ((h.pick 1 rfl).cell 2).trans rfl, ((h.pick 1 rfl).cell 3).trans rfl, ((h.pick 1 rfl).cell 4).trans rfl, ((h.pick 1 rfl).cell 5).trans rfl, ((h.pick 1 rfl).cell 6).trans rfl, ((h.pick 1 rfl).cell 7).trans rfl, ((h.pick 1 rfl).cell 8).trans rfl, ((h.pick 0 rfl).cell 0).trans rfl, ((h.pick 0 rfl).cell 1).trans rfl, ((h.pick 0 rfl).cell 2).trans rfl, ((h.pick 0 rfl).cell 3).trans rfl, ((h.pick 0 rfl).cell 4).trans rfl, ((h.pick 0 rfl).cell 5).trans rfl, ((h.pick 0 rfl).cell 6).trans rfl, ((h.pick 0 rfl).cell 7).trans rfl, ((h.pick 0 rfl).cell 8).trans rfl⟩

theorem fnz_none (l : List Int) (i : Nat) (h : ∀ m : Nat, m < i → l[m]? = some 0) : fnz l = fnz (l.drop i) := by
  induction i generalizing l with
  | zero => rfl
  | succ i ih =>
    cases l with
    | nil => have := h 0 (by omega); simp at this
    | cons a l =>
      have h0 := h 0 (by omega)
      simp at h0
      subst h0
      rw [List.drop_succ_cons, fnz, thn, if_pos rfl]
      exact ih l (fun m hm => by have := h (m + 1) (by omega); simpa using this)
theorem compareM_ok (x y : S50) (w : World) :
    Calls Tryz.prog 33 #[.agg #[.string x.f0.f0, .int .i64 x.f0.f1, .int .i64 x.f1, .int .i64 x.f2, .string x.f3.f0, .int .i64 x.f3.f1, .string x.f4, .int .i64 x.f5, .string x.f6], .agg #[.string y.f0.f0, .int .i64 y.f0.f1, .int .i64 y.f1, .int .i64 y.f2, .string y.f3.f0, .int .i64 y.f3.f1, .string y.f4, .int .i64 y.f5, .string y.f6]] w fun e w' => e = .returned (.int .i64 (ecmp x y)) ∧ Below w.heap.size w w' := by
  have HS := Aside0.mk (St.none_ (N := w.heap.size) (w := w) (Nat.le_refl _))
  have HB := Aside0.mk (Below.refl w.heap.size w)
  have hfin := nine_is x y
  go_enter Tryz.func33, Tryz.ntmps33
  go_upto_region 1 with (first | ((with_reducible refine gate_dst (N := 2) rfl ?_); refine box_event ?hg (N := 2) ?hd (cs := #[.string x.f0.f0, .int .i64 x.f0.f1, .int .i64 x.f1, .int .i64 x.f2, .string x.f3.f0, .int .i64 x.f3.f1, .string x.f4, .int .i64 x.f5, .string x.f6]) (t := 50) ?hr ?_; (case hd => rfl); (case hg => rfl); (case hr => first | (go_simp; done) | (go_simp; rfl)); intro gA hg w1 hbox hb; have n0_ := Aside0.mk (HS.out.box hg hbox hb); have n1_ := Aside0.mk (below_step' HB.out HS.out.size hb); clear HS HB; have HS := n0_; have HB := n1_; clear n0_ n1_; (try simp only [List.eraseIdx_cons_succ, List.eraseIdx_cons_zero] at HS); clear hb hbox hg) | ((with_reducible refine gate_dst (N := 3) rfl ?_); refine box_event ?hg (N := 3) ?hd (cs := #[.string y.f0.f0, .int .i64 y.f0.f1, .int .i64 y.f1, .int .i64 y.f2, .string y.f3.f0, .int .i64 y.f3.f1, .string y.f4, .int .i64 y.f5, .string y.f6]) (t := 50) ?hr ?_; (case hd => rfl); (case hg => rfl); (case hr => first | (go_simp; done) | (go_simp; rfl)); intro gB hg w2 hbox hb; have n0_ := Aside0.mk (HS.out.box hg hbox hb); have n1_ := Aside0.mk (below_step' HB.out HS.out.size hb); clear HS HB; have HS := n0_; have HB := n1_; clear n0_ n1_; (try simp only [List.eraseIdx_cons_succ, List.eraseIdx_cons_zero] at HS); clear hb hbox hg))
  replace hfin := Aside0.mk hfin
  have n0_ := Aside0.mk (HS.out.drew); have n1_ := Aside0.mk (HB.out.drew); clear HS HB; have HS := n0_; have HB := n1_; clear n0_ n1_
  refine start_ (n := 55) (S := fun w' => w'.cell? ⟨gA, 0, none⟩ = some (.string x.f0.f0) ∧ w'.cell? ⟨gA, 1, none⟩ = some (.int .i64 x.f0.f1) ∧ w'.cell? ⟨gA, 2, none⟩ = some (.int .i64 x.f1) ∧ w'.cell? ⟨gA, 3, none⟩ = some (.int .i64 x.f2) ∧ w'.cell? ⟨gA, 4, none⟩ = some (.string x.f3.f0) ∧ w'.cell? ⟨gA, 5, none⟩ = some (.int .i64 x.f3.f1) ∧ w'.cell? ⟨gA, 6, none⟩ = some (.string x.f4) ∧ w'.cell? ⟨gA, 7, none⟩ = some (.int .i64 x.f5) ∧ w'.cell? ⟨gA, 8, none⟩ = some (.string x.f6) ∧ w'.cell? ⟨gB, 0, none⟩ = some (.string y.f0.f0) ∧ w'.cell? ⟨gB, 1, none⟩ = some (.int .i64 y.f0.f1) ∧ w'.cell? ⟨gB, 2, none⟩ = some (.int .i64 y.f1) ∧ w'.cell? ⟨gB, 3, none⟩ = some (.int .i64 y.f2) ∧ w'.cell? ⟨gB, 4, none⟩ = some (.string y.f3.f0) ∧ w'.cell? ⟨gB, 5, none⟩ = some (.int .i64 y.f3.f1) ∧ w'.cell? ⟨gB, 6, none⟩ = some (.string y.f4) ∧ w'.cell? ⟨gB, 7, none⟩ = some (.int .i64 y.f5) ∧ w'.cell? ⟨gB, 8, none⟩ = some (.string y.f6)) (ds := []) (tfs true [0, 55]).toArray (by kernel_rfl) rfl rfl (two18 HS.out) (fun hHeld => ?_); refine with_tabW cmw.tab1 cmw.bits1 (fun HT_ HW_ => ?_)
  generalize w2.drew = w3 at HS HB hHeld ⊢
  refine pU 0 7 (tfs true [1, 54]).toArray rfl rfl HT_ ?_
  refine pU 2 9 (tfs true [1, 1, 1, 52]).toArray rfl rfl HT_ ?_
  refine pU 5 12 (tfs true [1, 1, 1, 2, 1, 49]).toArray rfl rfl HT_ ?_
  refine pU 6 13 (tfs true [1, 1, 1, 2, 2, 48]).toArray rfl rfl HT_ ?_
  refine pU 8 15 (tfs true [1, 1, 1, 2, 2, 1, 1, 46]).toArray rfl rfl HT_ ?_
  refine pU 9 16 (tfs true [1, 1, 1, 2, 2, 1, 2, 45]).toArray rfl rfl HT_ ?_
  refine pU 12 19 (tfs true [1, 1, 1, 2, 2, 1, 2, 2, 1, 42]).toArray rfl rfl HT_ ?_
  refine pU 13 20 (tfs true [1, 1, 1, 2, 2, 1, 2, 2, 2, 41]).toArray rfl rfl HT_ ?_
  refine pU 15 22 (tfs true [1, 1, 1, 2, 2, 1, 2, 2, 2, 1, 1, 39]).toArray rfl rfl HT_ ?_
  refine pU 16 23 (tfs true [1, 1, 1, 2, 2, 1, 2, 2, 2, 1, 2, 38]).toArray rfl rfl HT_ ?_
  refine pU 19 26 (tfs true [1, 1, 1, 2, 2, 1, 2, 2, 2, 1, 2, 2, 1, 35]).toArray rfl rfl HT_ ?_
  refine pU 21 28 (tfs true [1, 1, 1, 2, 2, 1, 2, 2, 2, 1, 2, 2, 1, 1, 1, 33]).toArray rfl rfl HT_ ?_
  refine pU 24 31 (tfs true [1, 1, 1, 2, 2, 1, 2, 2, 2, 1, 2, 2, 1, 1, 1, 2, 1, 30]).toArray rfl rfl HT_ ?_
  refine pU 25 32 (tfs true [1, 1, 1, 2, 2, 1, 2, 2, 2, 1, 2, 2, 1, 1, 1, 2, 2, 29]).toArray rfl rfl HT_ ?_
  refine pU 27 34 (tfs true [1, 1, 1, 2, 2, 1, 2, 2, 2, 1, 2, 2, 1, 1, 1, 2, 2, 1, 1, 27]).toArray rfl rfl HT_ ?_
  refine pU 28 35 (tfs true [1, 1, 1, 2, 2, 1, 2, 2, 2, 1, 2, 2, 1, 1, 1, 2, 2, 1, 2, 26]).toArray rfl rfl HT_ ?_
  refine pU 31 38 (tfs true [1, 1, 1, 2, 2, 1, 2, 2, 2, 1, 2, 2, 1, 1, 1, 2, 2, 1, 2, 2, 1, 23]).toArray rfl rfl HT_ ?_
  refine pU 32 39 (tfs true [1, 1, 1, 2, 2, 1, 2, 2, 2, 1, 2, 2, 1, 1, 1, 2, 2, 1, 2, 2, 2, 22]).toArray rfl rfl HT_ ?_
  refine pU 34 41 (tfs true [1, 1, 1, 2, 2, 1, 2, 2, 2, 1, 2, 2, 1, 1, 1, 2, 2, 1, 2, 2, 2, 1, 1, 20]).toArray rfl rfl HT_ ?_
  refine pU 35 42 (tfs true [1, 1, 1, 2, 2, 1, 2, 2, 2, 1, 2, 2, 1, 1, 1, 2, 2, 1, 2, 2, 2, 1, 2, 19]).toArray rfl rfl HT_ ?_
  refine pU 38 45 (tfs true [1, 1, 1, 2, 2, 1, 2, 2, 2, 1, 2, 2, 1, 1, 1, 2, 2, 1, 2, 2, 2, 1, 2, 2, 1, 16]).toArray rfl rfl HT_ ?_
  refine pU 40 47 (tfs true [1, 1, 1, 2, 2, 1, 2, 2, 2, 1, 2, 2, 1, 1, 1, 2, 2, 1, 2, 2, 2, 1, 2, 2, 1, 1, 1, 14]).toArray rfl rfl HT_ ?_
  refine pU 43 50 (tfs true [1, 1, 1, 2, 2, 1, 2, 2, 2, 1, 2, 2, 1, 1, 1, 2, 2, 1, 2, 2, 2, 1, 2, 2, 1, 1, 1, 2, 1, 11]).toArray rfl rfl HT_ ?_
  refine pU 45 52 (tfs true [1, 1, 1, 2, 2, 1, 2, 2, 2, 1, 2, 2, 1, 1, 1, 2, 2, 1, 2, 2, 2, 1, 2, 2, 1, 1, 1, 2, 1, 1, 1, 9]).toArray rfl rfl HT_ ?_
  refine pU 48 55 (tfs true [1, 1, 1, 2, 2, 1, 2, 2, 2, 1, 2, 2, 1, 1, 1, 2, 2, 1, 2, 2, 2, 1, 2, 2, 1, 1, 1, 2, 1, 1, 1, 2, 1, 6]).toArray rfl rfl HT_ ?_
  refine pU 50 57 (tfs true [1, 1, 1, 2, 2, 1, 2, 2, 2, 1, 2, 2, 1, 1, 1, 2, 2, 1, 2, 2, 2, 1, 2, 2, 1, 1, 1, 2, 1, 1, 1, 2, 1, 1, 1, 4]).toArray rfl rfl HT_ ?_
  refine tK 1 8 (tfs true [3, 2, 2, 1, 2, 2, 2, 1, 2, 2, 1, 1, 1, 2, 2, 1, 2, 2, 2, 1, 2, 2, 1, 1, 1, 2, 1, 1, 1, 2, 1, 1, 1, 4]).toArray rfl rfl HT_ HW_ hHeld ?_ (by rintro w' ⟨s0, s1, s2, s3, s4, s5, s6, s7, s8, s9, s10, s11, s12, s13, s14, s15, s16, s17⟩; go_simp; with_reducible rfl)
  refine tK 3 10 (tfs true [4, 1, 2, 1, 2, 2, 2, 1, 2, 2, 1, 1, 1, 2, 2, 1, 2, 2, 2, 1, 2, 2, 1, 1, 1, 2, 1, 1, 1, 2, 1, 1, 1, 4]).toArray rfl rfl HT_ HW_ hHeld ?_ (by rintro w' ⟨s0, s1, s2, s3, s4, s5, s6, s7, s8, s9, s10, s11, s12, s13, s14, s15, s16, s17⟩; go_simp; with_reducible rfl)
  refine tK 7 14 (tfs true [4, 1, 5, 2, 2, 1, 2, 2, 1, 1, 1, 2, 2, 1, 2, 2, 2, 1, 2, 2, 1, 1, 1, 2, 1, 1, 1, 2, 1, 1, 1, 4]).toArray rfl rfl HT_ HW_ hHeld ?_ (by rintro w' ⟨s0, s1, s2, s3, s4, s5, s6, s7, s8, s9, s10, s11, s12, s13, s14, s15, s16, s17⟩; go_simp; with_reducible rfl)
  refine tK 10 17 (tfs true [4, 1, 6, 1, 2, 1, 2, 2, 1, 1, 1, 2, 2, 1, 2, 2, 2, 1, 2, 2, 1, 1, 1, 2, 1, 1, 1, 2, 1, 1, 1, 4]).toArray rfl rfl HT_ HW_ hHeld ?_ (by rintro w' ⟨s0, s1, s2, s3, s4, s5, s6, s7, s8, s9, s10, s11, s12, s13, s14, s15, s16, s17⟩; go_simp; with_reducible rfl)
  refine tK 14 21 (tfs true [4, 1, 6, 1, 5, 2, 1, 1, 1, 2, 2, 1, 2, 2, 2, 1, 2, 2, 1, 1, 1, 2, 1, 1, 1, 2, 1, 1, 1, 4]).toArray rfl rfl HT_ HW_ hHeld ?_ (by rintro w' ⟨s0, s1, s2, s3, s4, s5, s6, s7, s8, s9, s10, s11, s12, s13, s14, s15, s16, s17⟩; go_simp; with_reducible rfl)
  refine tK 17 24 (tfs true [4, 1, 6, 1, 6, 1, 1, 1, 1, 2, 2, 1, 2, 2, 2, 1, 2, 2, 1, 1, 1, 2, 1, 1, 1, 2, 1, 1, 1, 4]).toArray rfl rfl HT_ HW_ hHeld ?_ (by rintro w' ⟨s0, s1, s2, s3, s4, s5, s6, s7, s8, s9, s10, s11, s12, s13, s14, s15, s16, s17⟩; go_simp; with_reducible rfl)
  refine tK 20 27 (tfs true [4, 1, 6, 1, 6, 1, 3, 2, 2, 1, 2, 2, 2, 1, 2, 2, 1, 1, 1, 2, 1, 1, 1, 2, 1, 1, 1, 4]).toArray rfl rfl HT_ HW_ hHeld ?_ (by rintro w' ⟨s0, s1, s2, s3, s4, s5, s6, s7, s8, s9, s10, s11, s12, s13, s14, s15, s16, s17⟩; go_simp; with_reducible rfl)
  refine tK 22 29 (tfs true [4, 1, 6, 1, 6, 1, 4, 1, 2, 1, 2, 2, 2, 1, 2, 2, 1, 1, 1, 2, 1, 1, 1, 2, 1, 1, 1, 4]).toArray rfl rfl HT_ HW_ hHeld ?_ (by rintro w' ⟨s0, s1, s2, s3, s4, s5, s6, s7, s8, s9, s10, s11, s12, s13, s14, s15, s16, s17⟩; go_simp; with_reducible rfl)
  refine tK 26 33 (tfs true [4, 1, 6, 1, 6, 1, 4, 1, 5, 2, 2, 1, 2, 2, 1, 1, 1, 2, 1, 1, 1, 2, 1, 1, 1, 4]).toArray rfl rfl HT_ HW_ hHeld ?_ (by rintro w' ⟨s0, s1, s2, s3, s4, s5, s6, s7, s8, s9, s10, s11, s12, s13, s14, s15, s16, s17⟩; go_simp; with_reducible rfl)
  refine tK 29 36 (tfs true [4, 1, 6, 1, 6, 1, 4, 1, 6, 1, 2, 1, 2, 2, 1, 1, 1, 2, 1, 1, 1, 2, 1, 1, 1, 4]).toArray rfl rfl HT_ HW_ hHeld ?_ (by rintro w' ⟨s0, s1, s2, s3, s4, s5, s6, s7, s8, s9, s10, s11, s12, s13, s14, s15, s16, s17⟩; go_simp; with_reducible rfl)
  refine tK 33 40 (tfs true [4, 1, 6, 1, 6, 1, 4, 1, 6, 1, 5, 2, 1, 1, 1, 2, 1, 1, 1, 2, 1, 1, 1, 4]).toArray rfl rfl HT_ HW_ hHeld ?_ (by rintro w' ⟨s0, s1, s2, s3, s4, s5, s6, s7, s8, s9, s10, s11, s12, s13, s14, s15, s16, s17⟩; go_simp; with_reducible rfl)
  refine tK 36 43 (tfs true [4, 1, 6, 1, 6, 1, 4, 1, 6, 1, 6, 1, 1, 1, 1, 2, 1, 1, 1, 2, 1, 1, 1, 4]).toArray rfl rfl HT_ HW_ hHeld ?_ (by rintro w' ⟨s0, s1, s2, s3, s4, s5, s6, s7, s8, s9, s10, s11, s12, s13, s14, s15, s16, s17⟩; go_simp; with_reducible rfl)
  refine tK 39 46 (tfs true [4, 1, 6, 1, 6, 1, 4, 1, 6, 1, 6, 1, 3, 2, 1, 1, 1, 2, 1, 1, 1, 4]).toArray rfl rfl HT_ HW_ hHeld ?_ (by rintro w' ⟨s0, s1, s2, s3, s4, s5, s6, s7, s8, s9, s10, s11, s12, s13, s14, s15, s16, s17⟩; go_simp; with_reducible rfl)
  refine tK 41 48 (tfs true [4, 1, 6, 1, 6, 1, 4, 1, 6, 1, 6, 1, 4, 1, 1, 1, 1, 2, 1, 1, 1, 4]).toArray rfl rfl HT_ HW_ hHeld ?_ (by rintro w' ⟨s0, s1, s2, s3, s4, s5, s6, s7, s8, s9, s10, s11, s12, s13, s14, s15, s16, s17⟩; go_simp; with_reducible rfl)
  refine tK 44 51 (tfs true [4, 1, 6, 1, 6, 1, 4, 1, 6, 1, 6, 1, 4, 1, 3, 2, 1, 1, 1, 4]).toArray rfl rfl HT_ HW_ hHeld ?_ (by rintro w' ⟨s0, s1, s2, s3, s4, s5, s6, s7, s8, s9, s10, s11, s12, s13, s14, s15, s16, s17⟩; go_simp; with_reducible rfl)
  refine tK 46 53 (tfs true [4, 1, 6, 1, 6, 1, 4, 1, 6, 1, 6, 1, 4, 1, 4, 1, 1, 1, 1, 4]).toArray rfl rfl HT_ HW_ hHeld ?_ (by rintro w' ⟨s0, s1, s2, s3, s4, s5, s6, s7, s8, s9, s10, s11, s12, s13, s14, s15, s16, s17⟩; go_simp; with_reducible rfl)
  refine tK 49 56 (tfs true [4, 1, 6, 1, 6, 1, 4, 1, 6, 1, 6, 1, 4, 1, 4, 1, 3, 4]).toArray rfl rfl HT_ HW_ hHeld ?_ (by rintro w' ⟨s0, s1, s2, s3, s4, s5, s6, s7, s8, s9, s10, s11, s12, s13, s14, s15, s16, s17⟩; go_simp; with_reducible rfl)
  refine tK 51 58 (tfs true [4, 1, 6, 1, 6, 1, 4, 1, 6, 1, 6, 1, 4, 1, 4, 1, 4, 3]).toArray rfl rfl HT_ HW_ hHeld ?_ (by rintro w' ⟨s0, s1, s2, s3, s4, s5, s6, s7, s8, s9, s10, s11, s12, s13, s14, s15, s16, s17⟩; go_simp; with_reducible rfl)
  refine one_ (i := 4) (N := some 11) (tfs true [11, 1, 6, 1, 4, 1, 6, 1, 6, 1, 4, 1, 4, 1, 4, 3]).toArray rfl rfl (one_of HT_.out (by kernel_rfl)) (by decide) (fun K hK => ?_)
  refine goes_ Tryz.func59 (by kernel_rfl) rfl #[.int .i64 x.f1, .int .i64 y.f1] (by rfl) rfl rfl (by (try simp only [List.map_toArray, List.map_cons, List.map_nil]); first | done | rfl | (simp only [List.length_drop, List.length_take]; rfl)) ?_
  with_reducible refine (sleuthlaw51_order.calls x.f1 y.f1 _ _ (ord_ok x.f1 y.f1)).mono ?_
  rintro r_ wa ⟨rfl, hb0⟩; have hb := hb0.below; clear hb0
  refine ⟨_, rfl, ?_⟩
  have n0_ := Aside0.mk (HS.out.step hb); have n1_ := Aside0.mk (below_step' HB.out HS.out.size hb); clear HS HB; have HS := n0_; have HB := n1_; clear n0_ n1_; (try simp only [List.eraseIdx_cons_succ, List.eraseIdx_cons_zero] at HS)
  clear hb
  refine hK.out _ _ (two18 HS.out) (fun hHeld => ?_)
  clear hK K
  refine norm_ (a' := ?_) ?_ ?_
  rotate_left
  · show Act.put _ (some 11) _ = _
    simp only [Act.put, List.setIfInBounds_toArray, List.set_cons_zero, List.set_cons_succ, i64_w, i32_w]
    rfl
  refine one_ (i := 11) (N := some 18) (tfs true [18, 1, 4, 1, 6, 1, 6, 1, 4, 1, 4, 1, 4, 3]).toArray rfl rfl (one_of HT_.out (by kernel_rfl)) (by decide) (fun K hK => ?_)
  refine goes_ Tryz.func60 (by kernel_rfl) rfl #[.string x.f0.f0, .string y.f0.f0] (by rfl) rfl rfl (by (try simp only [List.map_toArray, List.map_cons, List.map_nil]); first | done | rfl | (simp only [List.length_drop, List.length_take]; rfl)) ?_
  with_reducible refine (sleuthlaw51_word.calls x.f0.f0 y.f0.f0 _ _ (word_ok x.f0.f0 y.f0.f0)).mono ?_
  rintro r_ wa ⟨rfl, hb0⟩; have hb := hb0.below; clear hb0
  refine ⟨_, rfl, ?_⟩
  have n0_ := Aside0.mk (HS.out.step hb); have n1_ := Aside0.mk (below_step' HB.out HS.out.size hb); clear HS HB; have HS := n0_; have HB := n1_; clear n0_ n1_; (try simp only [List.eraseIdx_cons_succ, List.eraseIdx_cons_zero] at HS)
  clear hb
  refine hK.out _ _ (two18 HS.out) (fun hHeld => ?_)
  clear hK K
  refine norm_ (a' := ?_) ?_ ?_
  rotate_left
  · show Act.put _ (some 18) _ = _
    simp only [Act.put, List.setIfInBounds_toArray, List.set_cons_zero, List.set_cons_succ, i64_w, i32_w]
    rfl
  refine one_ (i := 18) (N := some 25) (tfs true [23, 1, 6, 1, 6, 1, 4, 1, 4, 1, 4, 3]).toArray rfl rfl (one_of HT_.out (by kernel_rfl)) (by decide) (fun K hK => ?_)
  refine goes_ Tryz.func59 (by kernel_rfl) rfl #[.int .i64 x.f0.f1, .int .i64 y.f0.f1] (by rfl) rfl rfl (by (try simp only [List.map_toArray, List.map_cons, List.map_nil]); first | done | rfl | (simp only [List.length_drop, List.length_take]; rfl)) ?_
  with_reducible refine (sleuthlaw51_order.calls x.f0.f1 y.f0.f1 _ _ (ord_ok x.f0.f1 y.f0.f1)).mono ?_
  rintro r_ wa ⟨rfl, hb0⟩; have hb := hb0.below; clear hb0
  refine ⟨_, rfl, ?_⟩
  have n0_ := Aside0.mk (HS.out.step hb); have n1_ := Aside0.mk (below_step' HB.out HS.out.size hb); clear HS HB; have HS := n0_; have HB := n1_; clear n0_ n1_; (try simp only [List.eraseIdx_cons_succ, List.eraseIdx_cons_zero] at HS)
  clear hb
  refine hK.out _ _ (two18 HS.out) (fun hHeld => ?_)
  clear hK K
  refine norm_ (a' := ?_) ?_ ?_
  rotate_left
  · show Act.put _ (some 25) _ = _
    simp only [Act.put, List.setIfInBounds_toArray, List.set_cons_zero, List.set_cons_succ, i64_w, i32_w]
    rfl
  refine one_ (i := 23) (N := some 30) (tfs true [30, 1, 6, 1, 4, 1, 4, 1, 4, 3]).toArray rfl rfl (one_of HT_.out (by kernel_rfl)) (by decide) (fun K hK => ?_)
  refine goes_ Tryz.func59 (by kernel_rfl) rfl #[.int .i64 x.f2, .int .i64 y.f2] (by rfl) rfl rfl (by (try simp only [List.map_toArray, List.map_cons, List.map_nil]); first | done | rfl | (simp only [List.length_drop, List.length_take]; rfl)) ?_
  with_reducible refine (sleuthlaw51_order.calls x.f2 y.f2 _ _ (ord_ok x.f2 y.f2)).mono ?_
  rintro r_ wa ⟨rfl, hb0⟩; have hb := hb0.below; clear hb0
  refine ⟨_, rfl, ?_⟩
  have n0_ := Aside0.mk (HS.out.step hb); have n1_ := Aside0.mk (below_step' HB.out HS.out.size hb); clear HS HB; have HS := n0_; have HB := n1_; clear n0_ n1_; (try simp only [List.eraseIdx_cons_succ, List.eraseIdx_cons_zero] at HS)
  clear hb
  refine hK.out _ _ (two18 HS.out) (fun hHeld => ?_)
  clear hK K
  refine norm_ (a' := ?_) ?_ ?_
  rotate_left
  · show Act.put _ (some 30) _ = _
    simp only [Act.put, List.setIfInBounds_toArray, List.set_cons_zero, List.set_cons_succ, i64_w, i32_w]
    rfl
  refine one_ (i := 30) (N := some 37) (tfs true [37, 1, 4, 1, 4, 1, 4, 3]).toArray rfl rfl (one_of HT_.out (by kernel_rfl)) (by decide) (fun K hK => ?_)
  refine goes_ Tryz.func60 (by kernel_rfl) rfl #[.string x.f3.f0, .string y.f3.f0] (by rfl) rfl rfl (by (try simp only [List.map_toArray, List.map_cons, List.map_nil]); first | done | rfl | (simp only [List.length_drop, List.length_take]; rfl)) ?_
  with_reducible refine (sleuthlaw51_word.calls x.f3.f0 y.f3.f0 _ _ (word_ok x.f3.f0 y.f3.f0)).mono ?_
  rintro r_ wa ⟨rfl, hb0⟩; have hb := hb0.below; clear hb0
  refine ⟨_, rfl, ?_⟩
  have n0_ := Aside0.mk (HS.out.step hb); have n1_ := Aside0.mk (below_step' HB.out HS.out.size hb); clear HS HB; have HS := n0_; have HB := n1_; clear n0_ n1_; (try simp only [List.eraseIdx_cons_succ, List.eraseIdx_cons_zero] at HS)
  clear hb
  refine hK.out _ _ (two18 HS.out) (fun hHeld => ?_)
  clear hK K
  refine norm_ (a' := ?_) ?_ ?_
  rotate_left
  · show Act.put _ (some 37) _ = _
    simp only [Act.put, List.setIfInBounds_toArray, List.set_cons_zero, List.set_cons_succ, i64_w, i32_w]
    rfl
  refine one_ (i := 37) (N := some 44) (tfs true [42, 1, 4, 1, 4, 3]).toArray rfl rfl (one_of HT_.out (by kernel_rfl)) (by decide) (fun K hK => ?_)
  refine goes_ Tryz.func59 (by kernel_rfl) rfl #[.int .i64 x.f3.f1, .int .i64 y.f3.f1] (by rfl) rfl rfl (by (try simp only [List.map_toArray, List.map_cons, List.map_nil]); first | done | rfl | (simp only [List.length_drop, List.length_take]; rfl)) ?_
  with_reducible refine (sleuthlaw51_order.calls x.f3.f1 y.f3.f1 _ _ (ord_ok x.f3.f1 y.f3.f1)).mono ?_
  rintro r_ wa ⟨rfl, hb0⟩; have hb := hb0.below; clear hb0
  refine ⟨_, rfl, ?_⟩
  have n0_ := Aside0.mk (HS.out.step hb); have n1_ := Aside0.mk (below_step' HB.out HS.out.size hb); clear HS HB; have HS := n0_; have HB := n1_; clear n0_ n1_; (try simp only [List.eraseIdx_cons_succ, List.eraseIdx_cons_zero] at HS)
  clear hb
  refine hK.out _ _ (two18 HS.out) (fun hHeld => ?_)
  clear hK K
  refine norm_ (a' := ?_) ?_ ?_
  rotate_left
  · show Act.put _ (some 44) _ = _
    simp only [Act.put, List.setIfInBounds_toArray, List.set_cons_zero, List.set_cons_succ, i64_w, i32_w]
    rfl
  refine one_ (i := 42) (N := some 49) (tfs true [47, 1, 4, 3]).toArray rfl rfl (one_of HT_.out (by kernel_rfl)) (by decide) (fun K hK => ?_)
  refine goes_ Tryz.func60 (by kernel_rfl) rfl #[.string x.f4, .string y.f4] (by rfl) rfl rfl (by (try simp only [List.map_toArray, List.map_cons, List.map_nil]); first | done | rfl | (simp only [List.length_drop, List.length_take]; rfl)) ?_
  with_reducible refine (sleuthlaw51_word.calls x.f4 y.f4 _ _ (word_ok x.f4 y.f4)).mono ?_
  rintro r_ wa ⟨rfl, hb0⟩; have hb := hb0.below; clear hb0
  refine ⟨_, rfl, ?_⟩
  have n0_ := Aside0.mk (HS.out.step hb); have n1_ := Aside0.mk (below_step' HB.out HS.out.size hb); clear HS HB; have HS := n0_; have HB := n1_; clear n0_ n1_; (try simp only [List.eraseIdx_cons_succ, List.eraseIdx_cons_zero] at HS)
  clear hb
  refine hK.out _ _ (two18 HS.out) (fun hHeld => ?_)
  clear hK K
  refine norm_ (a' := ?_) ?_ ?_
  rotate_left
  · show Act.put _ (some 49) _ = _
    simp only [Act.put, List.setIfInBounds_toArray, List.set_cons_zero, List.set_cons_succ, i64_w, i32_w]
    rfl
  refine one_ (i := 47) (N := some 54) (tfs true [52, 3]).toArray rfl rfl (one_of HT_.out (by kernel_rfl)) (by decide) (fun K hK => ?_)
  refine goes_ Tryz.func59 (by kernel_rfl) rfl #[.int .i64 x.f5, .int .i64 y.f5] (by rfl) rfl rfl (by (try simp only [List.map_toArray, List.map_cons, List.map_nil]); first | done | rfl | (simp only [List.length_drop, List.length_take]; rfl)) ?_
  with_reducible refine (sleuthlaw51_order.calls x.f5 y.f5 _ _ (ord_ok x.f5 y.f5)).mono ?_
  rintro r_ wa ⟨rfl, hb0⟩; have hb := hb0.below; clear hb0
  refine ⟨_, rfl, ?_⟩
  have n0_ := Aside0.mk (HS.out.step hb); have n1_ := Aside0.mk (below_step' HB.out HS.out.size hb); clear HS HB; have HS := n0_; have HB := n1_; clear n0_ n1_; (try simp only [List.eraseIdx_cons_succ, List.eraseIdx_cons_zero] at HS)
  clear hb
  refine hK.out _ _ (two18 HS.out) (fun hHeld => ?_)
  clear hK K
  refine norm_ (a' := ?_) ?_ ?_
  rotate_left
  · show Act.put _ (some 54) _ = _
    simp only [Act.put, List.setIfInBounds_toArray, List.set_cons_zero, List.set_cons_succ, i64_w, i32_w]
    rfl
  refine one_ (i := 52) (N := some 59) (tfs true [53, 2]).toArray rfl rfl (one_of HT_.out (by kernel_rfl)) (by decide) (fun K hK => ?_)
  refine goes_ Tryz.func60 (by kernel_rfl) rfl #[.string x.f6, .string y.f6] (by rfl) rfl rfl (by (try simp only [List.map_toArray, List.map_cons, List.map_nil]); first | done | rfl | (simp only [List.length_drop, List.length_take]; rfl)) ?_
  with_reducible refine (sleuthlaw51_word.calls x.f6 y.f6 _ _ (word_ok x.f6 y.f6)).mono ?_
  rintro r_ wa ⟨rfl, hb0⟩; have hb := hb0.below; clear hb0
  refine ⟨_, rfl, ?_⟩
  have n0_ := Aside0.mk (HS.out.step hb); have n1_ := Aside0.mk (below_step' HB.out HS.out.size hb); clear HS HB; have HS := n0_; have HB := n1_; clear n0_ n1_; (try simp only [List.eraseIdx_cons_succ, List.eraseIdx_cons_zero] at HS)
  clear hb
  refine hK.out _ _ (two18 HS.out) (fun hHeld => ?_)
  clear hK K
  refine norm_ (a' := ?_) ?_ ?_
  rotate_left
  · show Act.put _ (some 59) _ = _
    simp only [Act.put, List.setIfInBounds_toArray, List.set_cons_zero, List.set_cons_succ, i64_w, i32_w]
    rfl
  refine one_ (i := 53) (N := some 60) (tfs true [54, 1]).toArray rfl rfl (one_of HT_.out (by kernel_rfl)) (by decide) (fun K hK => ?_)
  refine S_lit_step (Kd.int .i64) 3 (by rfl) (Nt := 60) rfl (xs := [icmp x.f1 y.f1, bcmp x.f0.f0 y.f0.f0, icmp x.f0.f1 y.f0.f1, icmp x.f2 y.f2, bcmp x.f3.f0 y.f3.f0, icmp x.f3.f1 y.f3.f1, bcmp x.f4 y.f4, icmp x.f5 y.f5, bcmp x.f6 y.f6]) (inner := [.int .i64 (icmp x.f1 y.f1), .int .i64 (bcmp x.f0.f0 y.f0.f0), .int .i64 (icmp x.f0.f1 y.f0.f1), .int .i64 (icmp x.f2 y.f2), .int .i64 (bcmp x.f3.f0 y.f3.f0), .int .i64 (icmp x.f3.f1 y.f3.f1), .int .i64 (bcmp x.f4 y.f4), .int .i64 (icmp x.f5 y.f5), .int .i64 (bcmp x.f6 y.f6)]) ?hr ?hp HS.out (by simp) ?_
  (case hr => first | (go_simp; done) | (go_simp; rfl))
  (case hp => exact Reps.one (show Kd.M (Kd.int .i64) _ _ _ _ [.int .i64 _] from rfl) (Reps.one (show Kd.M (Kd.int .i64) _ _ _ _ [.int .i64 _] from rfl) (Reps.one (show Kd.M (Kd.int .i64) _ _ _ _ [.int .i64 _] from rfl) (Reps.one (show Kd.M (Kd.int .i64) _ _ _ _ [.int .i64 _] from rfl) (Reps.one (show Kd.M (Kd.int .i64) _ _ _ _ [.int .i64 _] from rfl) (Reps.one (show Kd.M (Kd.int .i64) _ _ _ _ [.int .i64 _] from rfl) (Reps.one (show Kd.M (Kd.int .i64) _ _ _ _ [.int .i64 _] from rfl) (Reps.one (show Kd.M (Kd.int .i64) _ _ _ _ [.int .i64 _] from rfl) (Reps.one (show Kd.M (Kd.int .i64) _ _ _ _ [.int .i64 _] from rfl) (Reps.none _ _))))))))))
  intro v60 wl hs hb
  have n0_ := Aside0.mk (hs); have n1_ := Aside0.mk (below_step' HB.out HS.out.size hb); clear HS HB; have HS := n0_; have HB := n1_; clear n0_ n1_; (try simp only [List.eraseIdx_cons_succ, List.eraseIdx_cons_zero] at HS)
  clear hs hb
  generalize hl_ : [icmp x.f1 y.f1, bcmp x.f0.f0 y.f0.f0, icmp x.f0.f1 y.f0.f1, icmp x.f2 y.f2, bcmp x.f3.f0 y.f3.f0, icmp x.f3.f1 y.f3.f1, bcmp x.f4 y.f4, icmp x.f5 y.f5, bcmp x.f6 y.f6] = l at HS hfin
  have hl9' := Aside0.mk (show l.length = 9 by rw [← hl_]; rfl)
  clear hl_
  obtain ⟨A5, c5, e5, _, _⟩ := (HS.out.pick 0 rfl).reads
  subst e5
  refine hK.out _ _ (two18 HS.out.drop) (fun hHeld => ?_)
  clear hK K
  refine norm_ (a' := ?_) ?_ ?_
  rotate_left
  · show Act.put _ (some 60) _ = _
    simp only [Act.put, List.setIfInBounds_toArray, List.set_cons_zero, List.set_cons_succ, i64_w, i32_w]
    rfl
  refine pU 54 5 (tfs true [55]).toArray rfl rfl HT_ ?_
  refine done_ (done_of HT_.out (by kernel_rfl)) ?_
  clear HT_ HW_
  try clear hHeld
  go_upto_region 3 with (fail)
  go_loopw [6] (fun v6 wr => ∃ i : Nat, i ≤ l.length ∧ v6 = .int .i64 i ∧ Aside0 (∀ m : Nat, m < i → l[m]? = some 0) ∧ Aside0 (St w.heap.size wr (Row (Kd.int .i64) 3 (.slice A5 l.length c5) l :: [])) ∧ Aside0 (Below w.heap.size w wr)) (fun v6 _ => l.length - (intOf v6).toNat)
  case atStart => exact ⟨0, Nat.zero_le _, rfl, ⟨fun m hm => absurd hm (Nat.not_lt_zero _)⟩, ⟨(HS.out.pick 1 rfl).drop.swap.drop⟩, HB⟩
  case round =>
    clear HS HB
    obtain ⟨i, hi, rfl, HM, HS, HB⟩ := hrel
    by_cases hlt : i < l.length
    · have q0 : decide ((i : Int) < (l.length : Int)) = true := decide_eq_true (by omega)
      have q1 := eq_true (show (i : Int) < (l.length : Int) by omega)
      have q2 := eq_true (show (0 : Int) ≤ (i : Int) by omega)
      have hw : IntKind.i64.wrap ((i : Int) + 1) = (i : Int) + 1 := by rw [IntKind.wrap_i64]; have := hl9'.out; omega
      obtain ⟨ad, ea, x0⟩ := at_ints HS.out.rowC.2.2 i (by omega)
      cases ea
      obtain ⟨r, hr0⟩ : ∃ r, l[i]? = some r := ⟨l[i], List.getElem?_eq_getElem hlt⟩
      rw [List.getD_eq_getElem?_getD, hr0] at x0
      replace x0 : wr.cell? (ad.add i) = some (.int .i64 r) := x0
      have hr := Aside0.mk hr0
      have hf : Aside0 (fnz l = if r = 0 then fnz (l.drop (i + 1)) else r) := ⟨by
        rw [fnz_none l i HM.out, List.drop_eq_getElem_cons hlt, fnz, thn]
        rw [List.getElem?_eq_getElem hlt] at hr0
        rw [Option.some.inj hr0]⟩
      clear hr0
      by_cases h0 : r = 0
      · have q3 : (r != 0) = false := by rw [h0]; rfl
        replace h0 := Aside0.mk h0
        go_wp2
        go_roundw
        case rel =>
          refine ⟨i + 1, by omega, by go_num, ⟨fun m hm => ?_⟩, HS, HB⟩
          by_cases h : m < i
          · exact HM.out m h
          · obtain rfl : m = i := by omega
            rw [hr.out, h0.out]
        case measure => simp [intOf]; omega
      · have q3 : (r != 0) = true := by simpa using h0
        have hf2 : Aside0 (fnz l = r) := ⟨by rw [hf.out, if_neg h0]⟩
        replace h0 := Aside0.mk h0
        go_wp2
        go_ret
        exact ⟨congrArg (fun z => Ending.returned (Value.int .i64 z)) (hf2.out.symm.trans hfin.out), HB.out⟩
    · obtain rfl : i = l.length := by omega
      have q0 : decide ((l.length : Int) < (l.length : Int)) = false := decide_eq_false (by omega)
      have hf : Aside0 (fnz l = 0) := ⟨by rw [fnz_none l _ HM.out, List.drop_length]; rfl⟩
      go_wp2
      go_ret
      exact ⟨congrArg (fun z => Ending.returned (Value.int .i64 z)) (hf.out.symm.trans hfin.out), HB.out⟩

end Go.Proofs.YtcjfgejiknlpfaaGreat.PI
