/- A log's Conflicts: the keys that more than one event has, in order. -/
import Derived.Test.YtcjfgejiknlpfaaGreatJ5
import Derived.Test.YtcjfgejiknlpfaaGreatSq36
namespace Go.Proofs.YtcjfgejiknlpfaaGreat.PI
open Go.RowKit Go.Proofs.YtcjfgejiknlpfaaGreatW.PrintWords Go.Proofs.YtcjfgejiknlpfaaGreatW.PrintLast Go.Proofs.YtcjfgejiknlpfaaGreatW.PrintMore Go.Proofs.YtcjfgejiknlpfaaGreat.Sep
set_option linter.unusedVariables false
set_option linter.unusedSimpArgs false
set_option maxHeartbeats 8000000
set_option maxRecDepth 100000
open Go.ChangeMaps (setBlock)

def cfl.T7 : Bool × List (List Nat × List Nat) := (true, [([], []), ([], []), ([1], [1]), ([0, 2], [0, 2]), ([3], [3]), ([0, 2, 0, 1, 2], [0, 2]), ([5], [5]), ([0, 6, 4, 5, 0, 1, 2, 3, 4, 5, 6], [0, 4, 6])])
def cfl.B7 : List Nat := [0, 0, 2, 7, 15, 7, 39, 127]
theorem cfl.tab7 : rtab .any (opsOf Tryz.f16 7) = cfl.T7 := by kernel_rfl
theorem cfl.bits7 : waitsOk cfl.T7.2 cfl.B7 = true := by kernel_rfl
theorem info33 : (Tryz.prog.info? 33).map (fun i => (i.zero, i.size, i.bytes)) = some (some (.agg #[(.string ⟨#[]⟩), (.int .i64 0)]), 2, 24) := by kernel_rfl
theorem nodup_le {α : Type} [DecidableEq α] : ∀ (a b : List α), a.Nodup → (∀ x ∈ a, x ∈ b) → a.length ≤ b.length
  | [], b, _, _ => Nat.zero_le _
  | x :: a, b, hn, h => by
    rw [List.nodup_cons] at hn
    have hx := h x List.mem_cons_self
    have h1 := nodup_le a (b.erase x) hn.2 (fun y hy => (List.mem_erase_of_ne (fun e => hn.1 (by rw [← e]; exact hy))).mpr (h y (List.mem_cons_of_mem _ hy)))
    rw [List.length_erase_of_mem hx] at h1
    have := List.length_pos_of_mem hx
    rw [List.length_cons]
    omega
/-- The keys that more than one event has, in order. -/
def Conf (l : List S50) (C : List S33) : Prop := C.Pairwise BfK ∧ ∀ k, k ∈ C ↔ 2 ≤ (l.map (·.f0)).count k
def gt1 (left : List (S33 × Int)) : List S33 := (left.filter (fun x => decide (1 < x.2))).map (·.1)
theorem gt1_snoc (d : List (S33 × Int)) (k : S33) (n : Int) : gt1 (d ++ [(k, n)]) = if 1 < n then gt1 d ++ [k] else gt1 d := by
  unfold gt1
  rw [List.filter_append, List.map_append]
  by_cases h : 1 < n <;> simp [h]
theorem gt1_perm {a b : List (S33 × Int)} (h : a.Perm b) : (gt1 a).Perm (gt1 b) := (h.filter _).map _
theorem gt1_len (a : List (S33 × Int)) : (gt1 a).length ≤ a.length := by unfold gt1; rw [List.length_map]; exact List.length_filter_le _ _
theorem gt1_nodup {a : List (S33 × Int)} (h : (a.map (·.1)).Nodup) : (gt1 a).Nodup := h.sublist ((List.filter_sublist).map _)
theorem conf_of {l : List S50} {left : List (S33 × Int)} (h1 : ∀ x ∈ left, x.1 ∈ l.map (·.f0) ∧ x.2 = ((l.map (·.f0)).count x.1 : Int)) (h2 : (left.map (·.1)).Nodup) (h3 : ∀ k ∈ l.map (·.f0), ∃ x ∈ left, x.1 = k) {xs : List S33} (hp : xs.Perm (gt1 left)) : Conf l (srtK xs) := by
  have hmem : ∀ k, k ∈ srtK xs ↔ 2 ≤ (l.map (·.f0)).count k := fun k => by
    rw [(srt_permK xs).mem_iff, hp.mem_iff]
    unfold gt1
    constructor
    · intro h
      obtain ⟨x, hx, rfl⟩ := List.mem_map.mp h
      obtain ⟨hx1, hx2⟩ := List.mem_filter.mp hx
      have := (h1 x hx1).2
      have := of_decide_eq_true hx2
      omega
    · intro h
      have hk : k ∈ l.map (·.f0) := List.count_pos_iff.mp (by omega)
      obtain ⟨x, hx, rfl⟩ := h3 k hk
      refine List.mem_map.mpr ⟨x, List.mem_filter.mpr ⟨hx, decide_eq_true ?_⟩, rfl⟩
      have := (h1 x hx).2
      omega
  refine ⟨?_, hmem⟩
  have ho : OrdK (srtK xs) := srt_ordK xs
  have hn : (srtK xs).Nodup := ((srt_permK xs).trans hp).nodup_iff.mpr (gt1_nodup h2)
  unfold OrdK at ho
  unfold List.Nodup at hn
  exact List.Pairwise.imp₂ (fun a b h4 h5 => bf_triK h4 (fun e => h5 e.symm)) ho hn
theorem Conflicts_ok (p : Nat) (l : List S50) (m10 : l.length ≤ 10000) {N : Nat} {w : World} {L : List Res} (HS0 : St N w (Lg p l :: L)) :
    Calls Tryz.prog 16 #[.pointer (some ⟨p, 0, none⟩)] w fun e w' => ∃ v C, e = .returned v ∧ Conf l C ∧ St N w' (Row k33 33 v C :: Lg p l :: L) ∧ Below N w w' := by
  obtain ⟨A, c, hc, h⟩ := lg_open HS0
  have HS := Aside0.mk h
  have HB := Aside0.mk (Below.refl N w)
  have m1 := Aside0.mk m10
  clear HS0 h m10 hc
  go_enter Tryz.func16, Tryz.ntmps16
  go_upto_region 4 with (first | ((with_reducible refine gate_opc (p := Op.makeMap 72 none) rfl ?_); refine S_makeCM rfl rfl HS.out HB.out ?_; intro b w1 hs hb; have n0_ := Aside0.mk (hs); have n1_ := Aside0.mk (hb); clear HS HB; have HS := n0_; have HB := n1_; clear n0_ n1_; (try simp only [List.eraseIdx_cons_succ, List.eraseIdx_cons_zero] at HS); clear hs hb))
  have p0 : w1.cell? ⟨p, 0, none⟩ = some (.slice A l.length c) := ((HS.out.pick 1 rfl).cell 0).trans rfl
  go_upto_region 5 with (fail)
  clear p0
  go_loopw [17] (fun v17 wr => ∃ i : Nat, i ≤ l.length ∧ v17 = .int .i64 i ∧ Aside0 (St N wr (CM b ((l.take i).map (·.f0)) :: Blk p #[.slice A l.length c] 58 :: Row k50 50 (.slice A l.length c) l :: L)) ∧ Aside0 (Below N w wr)) (fun v17 _ => l.length - (intOf v17).toNat)
  case atStart => exact ⟨0, Nat.zero_le _, rfl, HS, HB⟩
  case round =>
    clear HS HB
    obtain ⟨i, hi, rfl, HS, HB⟩ := hrel
    by_cases hlt : i < l.length
    · obtain ⟨ad, ea, x0, x1, x2, x3, x4, x5, x6, x7, x8⟩ := at_T50 (HS.out.pick 2 rfl).rowC.2.2 (i : Int) (by omega) (by omega)
      cases ea
      rw [Int.toNat_natCast] at x0 x1 x2 x3 x4 x5 x6 x7 x8
      have q0 : decide ((i : Int) < (l.length : Int)) = true := decide_eq_true (by omega)
      have q1 := eq_true (show (i : Int) < (l.length : Int) by omega)
      have q2 := eq_true (show (0 : Int) ≤ (i : Int) by omega)
      have hw : IntKind.i64.wrap ((i : Int) + 1) = (i : Int) + 1 := by rw [IntKind.wrap_i64]; have := m1.out; omega
      obtain ⟨x, hx0⟩ : ∃ x, rd_T50 l (i : Int) = x := ⟨_, rfl⟩
      have hnx : Aside0 ((l.take (i + 1)).map (·.f0) = (l.take i).map (·.f0) ++ [x.f0]) := ⟨by rw [take_rd l i hlt, hx0, List.map_append]; rfl⟩
      rw [hx0] at x0 x1 x2 x3 x4 x5 x6 x7 x8
      obtain ⟨ks, hks_⟩ : ∃ ks, (l.take i).map (·.f0) = ks := ⟨_, rfl⟩
      rw [hks_] at HS hnx
      have hkl : ks.length ≤ l.length := by rw [← hks_, List.length_map, List.length_take]; omega
      obtain ⟨n, hn_⟩ : ∃ n : Int, (ks.count x.f0 : Int) = n := ⟨_, rfl⟩
      have hcnt := Aside0.mk hn_
      have hw2 : IntKind.i64.wrap (n + 1) = n + 1 := by rw [IntKind.wrap_i64]; have := m1.out; have := List.count_le_length (a := x.f0) (l := ks); omega
      clear hx0 hks_ hkl hn_
      go_upto_region 7 with (fail)
      have hbx := HS.out.box (g := wr.heap.size) (cs := #[.string x.f0.f0, .int .i64 x.f0.f1, .int .i64 x.f1, .int .i64 x.f2, .string x.f3.f0, .int .i64 x.f3.f1, .string x.f4, .int .i64 x.f5, .string x.f6]) (t := 50) rfl (new_cells wr _ _) ((Below.refl _ _).alloc (Nat.le_refl _) _)
      have hbb := below_step' HB.out HS.out.size ((Below.refl _ _).alloc (Nat.le_refl _) (.cells #[.string x.f0.f0, .int .i64 x.f0.f1, .int .i64 x.f1, .int .i64 x.f2, .string x.f3.f0, .int .i64 x.f3.f1, .string x.f4, .int .i64 x.f5, .string x.f6] 50))
      generalize wr.heap.size = g5 at hbx hbb ⊢
      generalize wr.alloc (.cells #[.string x.f0.f0, .int .i64 x.f0.f1, .int .i64 x.f1, .int .i64 x.f2, .string x.f3.f0, .int .i64 x.f3.f1, .string x.f4, .int .i64 x.f5, .string x.f6] 50) = w5 at hbx hbb ⊢
      clear x0 x1 x2 x3 x4 x5 x6 x7 x8
      have n0_ := Aside0.mk (hbx); have n1_ := Aside0.mk (hbb); clear HS HB; have HS := n0_; have HB := n1_; clear n0_ n1_; (try simp only [List.eraseIdx_cons_succ, List.eraseIdx_cons_zero] at HS)
      clear hbx hbb
      have n0_ := Aside0.mk (HS.out.drew); have n1_ := Aside0.mk (HB.out.drew); clear HS HB; have HS := n0_; have HB := n1_; clear n0_ n1_
      refine start_ (n := 8) (S := fun w' => w'.cell? ⟨g5, 0, none⟩ = some (.string x.f0.f0) ∧ w'.cell? ⟨g5, 1, none⟩ = some (.int .i64 x.f0.f1) ∧ (Instr.lookup 72 (.map (some b)) (.agg #[.string x.f0.f0, .int .i64 x.f0.f1]) false).run Tryz.prog w' = .ok (.int .i64 n) w') (ds := [7]) #[false, false, false, false, false, false, false, false] (by kernel_rfl) rfl rfl ⟨((HS.out.pick 0 rfl).cell 0).trans rfl, ((HS.out.pick 0 rfl).cell 1).trans rfl, (by first | exact (lookup_cm x.f0 (cm_at (HS.out.pick 1 rfl))).trans (by rw [hcnt.out]) | exact (lookup_cmid x.f0 (cmid_at (HS.out.pick 1 rfl))).trans (by rw [hcnt.out]))⟩ (fun hHeld => ?_); refine with_tabW cfl.tab7 cfl.bits7 (fun HT_ HW_ => ?_)
      generalize w5.drew = wd at HS HB hHeld ⊢
      refine pU 0 21 #[true, false, false, false, false, false, false, false] rfl rfl HT_ ?_
      refine pU 1 22 #[true, true, false, false, false, false, false, false] rfl rfl HT_ ?_
      refine tK 2 23 #[true, true, true, false, false, false, false, false] rfl rfl HT_ HW_ hHeld ?_ (by rintro w' ⟨s0, s1, s2⟩; go_simp; with_reducible rfl)
      refine tK 3 24 #[true, true, true, true, false, false, false, false] rfl rfl HT_ HW_ hHeld ?_ (by rintro w' ⟨s0, s1, s2⟩; go_simp; with_reducible rfl)
      refine pU 4 25 #[true, true, true, true, true, false, false, false] rfl rfl HT_ ?_
      refine one_ (i := 5) (N := some 26) #[true, true, true, true, true, true, false, false] rfl rfl (one_of HT_.out (by kernel_rfl)) (by decide) (fun K hK => ?_)
      obtain ⟨o1, v1, bn, hr1_, hs1⟩ := entry_cm x.f0 (cm_at (HS.out.pick 1 rfl))
      have hr1 : (Instr.mapEntry 72 (.map (some b)) (.agg #[.string x.f0.f0, .int .i64 x.f0.f1])).run Tryz.prog wd = .ok (.tuple #[v1, .int .i64 bn]) (setBlock wd b o1) := hr1_
      clear hr1_
      have hp1 := put_piece (s := CMid b ks x.f0 bn) (HS.out.pick 1 rfl) (fun G hg => hg.1) (fun G hg hgb => ⟨hgb, hs1⟩)
      refine value_step (by rfl) (v := .tuple #[v1, .int .i64 bn]) (W1 := setBlock wd b o1) (by first | (go_simp; done) | (go_simp; rfl)) ?_
      generalize setBlock wd b o1 = we at hp1 ⊢
      have n0_ := Aside0.mk (hp1.1.swap); have n1_ := Aside0.mk (HB.out.trans hp1.2); clear HS HB; have HS := n0_; have HB := n1_; clear n0_ n1_; (try simp only [List.eraseIdx_cons_succ, List.eraseIdx_cons_zero] at HS)
      clear hr1 hs1 hp1
      refine hK.out _ _ ⟨((HS.out.pick 0 rfl).cell 0).trans rfl, ((HS.out.pick 0 rfl).cell 1).trans rfl, (by first | exact (lookup_cm x.f0 (cm_at (HS.out.pick 1 rfl))).trans (by rw [hcnt.out]) | exact (lookup_cmid x.f0 (cmid_at (HS.out.pick 1 rfl))).trans (by rw [hcnt.out]))⟩ (fun hHeld => ?_)
      clear hK K
      refine norm_ (a' := ?_) ?_ ?_
      rotate_left
      · show Act.put _ (some 26) _ = _
        simp only [Act.put, List.setIfInBounds_toArray, List.set_cons_zero, List.set_cons_succ, i64_w, i32_w]
        rfl
      refine pU 6 27 #[true, true, true, true, true, true, true, false] rfl rfl HT_ ?_
      refine last_ (i := 7) (N := none) #[true, true, true, true, true, true, true, true] rfl rfl (one_of HT_.out (by kernel_rfl)) (by decide) (fun K hK => ?_)
      obtain ⟨o2, hr2, hs2⟩ := store_cm x.f0 bn (cmid_at (HS.out.pick 1 rfl))
      rw [hcnt.out] at hr2
      have hp2 := put_piece (s := CM b (ks ++ [x.f0])) (HS.out.pick 1 rfl) (fun G hg => hg.1) (fun G hg hgb => ⟨hgb, hs2⟩)
      refine skip_ (w1 := setBlock we b o2) (by rfl) rfl (by first | (go_simp; done) | (go_simp; rfl)) ?_
      generalize setBlock we b o2 = wg at hp2 ⊢
      have n0_ := Aside0.mk (hp2.1); have n1_ := Aside0.mk (HB.out.trans hp2.2); clear HS HB; have HS := n0_; have HB := n1_; clear n0_ n1_; (try simp only [List.eraseIdx_cons_succ, List.eraseIdx_cons_zero] at HS)
      clear hr2 hs2 hp2
      refine hK.out _ _ ?_
      clear hK K
      refine done_ (done_of HT_.out (by kernel_rfl)) ?_
      clear HT_ HW_
      try clear hHeld
      go_wp2
      go_roundw
      case rel =>
        refine ⟨i + 1, by omega, by go_num, ?_, HB⟩
        rw [hnx.out]
        exact ⟨HS.out.swap.drop⟩
      case measure => simp [intOf]; omega
    · obtain rfl : i = l.length := by omega
      have q0 : decide ((l.length : Int) < (l.length : Int)) = false := decide_eq_false (by omega)
      rw [List.take_length] at HS
      go_upto_region 11 with (first | ((with_reducible refine gate_opc (p := Op.range 72 (.tmp 29)) rfl ?_); refine S_range rfl (.tmp 29) rfl b _ rfl (HS.out.pick 0 rfl) HB.out ?_; intro r left0 w3 hl1_ hl2_ hl3_ hs hb; have hl1 := Aside0.mk hl1_; have hl2 := Aside0.mk hl2_; have hl3 := Aside0.mk hl3_; clear hl1_ hl2_ hl3_; have n0_ := Aside0.mk (hs); have n1_ := Aside0.mk (hb); clear HS HB; have HS := n0_; have HB := n1_; clear n0_ n1_; (try simp only [List.eraseIdx_cons_succ, List.eraseIdx_cons_zero] at HS); clear hs hb))
      simp only [Act.put, List.setIfInBounds_toArray, List.set_cons_succ, List.set_cons_zero]
      clear q0
      have hl0 : Aside0 (left0.length ≤ l.length) := ⟨by
        have h5 : (left0.map (·.1)).length ≤ (l.map (·.f0)).length := nodup_le _ _ hl2.out (fun k hk => by obtain ⟨x, hx, rfl⟩ := List.mem_map.mp hk; exact (hl1.out x hx).1)
        simpa using h5⟩
      go_loopw [6] (fun v6 wr => ∃ done left, (done ++ left).Perm left0 ∧ Aside0 (St N wr (Row k33 33 v6 (gt1 done) :: Rg b r left :: Blk p #[.slice A l.length c] 58 :: Row k50 50 (.slice A l.length c) l :: L)) ∧ Aside0 (Below N w wr)) (fun _ wr => lfN b r wr)
      case atStart => exact ⟨[], left0, List.Perm.refl _, ⟨HS.out.rowNil⟩, HB⟩
      case round =>
        clear HS HB
        obtain ⟨done, left, hpd_, HS, HB⟩ := hrel
        have hpd := Aside0.mk hpd_
        clear hpd_
        have hms := Aside0.mk (lf_at (rg_at (HS.out.pick 1 rfl)))
        cases left with
        | cons y left =>
          have hdl : Aside0 ((gt1 done).length + 1 ≤ 10001) := ⟨by have h1 := hpd.out.length_eq; have h2 := gt1_len done; have h3 := hl0.out; have h4 := m1.out; rw [List.length_append, List.length_cons] at h1; omega⟩
          go_upto_region 13 with (first | ((with_reducible refine gate_opc (p := Op.next (.tmp 30) false) rfl ?_); refine S_next_more rfl (.tmp 30) rfl b r y left rfl (HS.out.pick 1 rfl) HB.out ?_; intro k n left' w4 hpm_ hs hb; have hpm := Aside0.mk hpm_; clear hpm_; have n0_ := Aside0.mk (hs); have n1_ := Aside0.mk (hb); clear HS HB; have HS := n0_; have HB := n1_; clear n0_ n1_; (try simp only [List.eraseIdx_cons_succ, List.eraseIdx_cons_zero] at HS); clear hs hb) | ((with_reducible refine gate_opc (p := Op.entry (.tmp 30)) rfl ?_); refine S_entry rfl (.tmp 30) rfl b r k n left' rfl HS.out ?_; intro hs; have n2_ := Aside0.mk hs; clear HS hs; have HS := n2_; clear n2_))
          have hbx := HS.out.box (g := w4.heap.size) (cs := #[.string k.f0, .int .i64 k.f1]) (t := 33) rfl (new_cells w4 _ _) ((Below.refl _ _).alloc (Nat.le_refl _) _)
          have hbb := below_step' HB.out HS.out.size ((Below.refl _ _).alloc (Nat.le_refl _) (.cells #[.string k.f0, .int .i64 k.f1] 33))
          generalize w4.heap.size = g7 at hbx hbb ⊢
          generalize w4.alloc (.cells #[.string k.f0, .int .i64 k.f1] 33) = w6 at hbx hbb ⊢
          have n0_ := Aside0.mk (hbx); have n1_ := Aside0.mk (hbb); clear HS HB; have HS := n0_; have HB := n1_; clear n0_ n1_; (try simp only [List.eraseIdx_cons_succ, List.eraseIdx_cons_zero] at HS)
          clear hbx hbb
          have hc0_0 := ((HS.out.pick 0 rfl).cell 0).trans (show _ = some (Value.string k.f0) from rfl)
          have hc0_1 := ((HS.out.pick 0 rfl).cell 1).trans (show _ = some (Value.int .i64 k.f1) from rfl)
          have hpn : Aside0 (((done ++ [(k, n)]) ++ left').Perm left0) := ⟨by rw [List.append_assoc]; exact (List.Perm.append_left done hpm.out.symm).trans hpd.out⟩
          have hln : Aside0 (left'.length < left.length + 1) := ⟨by have := hpm.out.length_eq; simp at this; omega⟩
          by_cases hgt : 1 < n
          · have hq : decide (1 < n) = true := decide_eq_true hgt
            have hg2 : Aside0 (gt1 (done ++ [(k, n)]) = gt1 done ++ [k]) := ⟨by rw [gt1_snoc, if_pos hgt]⟩
            replace hgt := Aside0.mk hgt
            go_wp2_with (first | ((with_reducible refine gate_builtin (b := .append) (xs := #[.tmp 38, .tmp 40]) rfl ?_); at_builtin; refine S_append k33 rfl (.tmp 38) (.tmp 40) 45 33 (.agg #[(.string ⟨#[]⟩), (.int .i64 0)]) 24 rfl Tryz.underlying45 info33 rfl (by decide) (by omega) _ _ k [.string k.f0, .int .i64 k.f1] rfl rfl (k33_mkM _ _ _ k) (HS.out.pick 2 rfl) HB.out (by have := hdl.out; omega) ?_; intro v6 w7 hs hb; have n0_ := Aside0.mk (hs); have n1_ := Aside0.mk (hb); clear HS HB; have HS := n0_; have HB := n1_; clear n0_ n1_; (try simp only [List.eraseIdx_cons_succ, List.eraseIdx_cons_zero] at HS); clear hs hb hc0_0 hc0_1))
            go_roundw
            case rel =>
              refine ⟨done ++ [(k, n)], left', hpn.out, ?_, HB⟩
              rw [hg2.out]
              exact ⟨HS.out.swap.drop⟩
            case measure =>
              rw [lf_at (rg_at (HS.out.pick 2 rfl)), hms.out]
              exact hln.out
          · have hq : decide (1 < n) = false := decide_eq_false hgt
            have hg2 : Aside0 (gt1 (done ++ [(k, n)]) = gt1 done) := ⟨by rw [gt1_snoc, if_neg hgt]⟩
            replace hgt := Aside0.mk hgt
            go_wp2
            go_roundw
            case rel =>
              refine ⟨done ++ [(k, n)], left', hpn.out, ?_, HB⟩
              rw [hg2.out]
              exact ⟨HS.out.drop.swap⟩
            case measure =>
              rw [lf_at (rg_at (HS.out.pick 1 rfl)), hms.out]
              exact hln.out
        | nil =>
          obtain ⟨xs, hxs_⟩ : ∃ xs, gt1 done = xs := ⟨_, rfl⟩
          rw [hxs_] at HS
          have hxl : Aside0 (xs.length ≤ 10000) := ⟨by have h1 := hpd.out.length_eq; have h2 := gt1_len done; have h3 := hl0.out; have h4 := m1.out; rw [List.append_nil] at h1; rw [← hxs_]; omega⟩
          have hcf : Aside0 (Conf l (srtK xs)) := ⟨conf_of hl1.out hl2.out hl3.out (by rw [← hxs_]; have := hpd.out; rw [List.append_nil] at this; exact gt1_perm this)⟩
          clear hxs_
          go_wp2_with (first | ((with_reducible refine gate_opc (p := Op.next (.tmp 30) false) rfl ?_); refine S_next_done rfl (.tmp 30) rfl b r rfl (HS.out.pick 1 rfl) ?_) | (go_at_call 34; refine (sort_okK xs (by have := hxl.out; omega) _ HS.out).mono ?_; rintro r_ w8 ⟨rfl, hs, hb⟩; have n0_ := Aside0.mk (hs); have n1_ := Aside0.mk (HB.out.trans hb); clear HS HB; have HS := n0_; have HB := n1_; clear n0_ n1_; (try simp only [List.eraseIdx_cons_succ, List.eraseIdx_cons_zero] at HS); clear hs hb))
          go_ret
          have h9 := ((((HS.out.pick 0 rfl).pick 3 rfl).pick 3 rfl).pick 3 rfl).drop
          exact ⟨_, srtK xs, rfl, hcf.out, (lg_shut h9).swap, HB.out⟩

end Go.Proofs.YtcjfgejiknlpfaaGreat.PI
