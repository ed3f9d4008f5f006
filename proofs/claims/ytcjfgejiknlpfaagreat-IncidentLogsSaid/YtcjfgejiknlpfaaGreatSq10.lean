/- Somebody gets a role. -/
import Derived.Test.YtcjfgejiknlpfaaGreatSq8
import Derived.Test.YtcjfgejiknlpfaaGreatSq9
import Derived.Test.YtcjfgejiknlpfaaGreatJ1
namespace Go.Proofs.YtcjfgejiknlpfaaGreat.PI
open Go.RowKit Go.Proofs.YtcjfgejiknlpfaaGreatW.PrintWords Go.Proofs.YtcjfgejiknlpfaaGreatW.PrintLast Go.Proofs.YtcjfgejiknlpfaaGreatW.PrintMore Go.Proofs.YtcjfgejiknlpfaaGreat.Sep
set_option linter.unusedVariables false
set_option linter.unusedSimpArgs false
set_option maxHeartbeats 8000000
set_option maxRecDepth 100000

theorem rd_of {p : Nat} {s : PS} {N : Nat} {w : World} {v5 v6 : Value} {L : List Res} (HS : St N w (Blk p #[.int .i64 s.st, .string s.ti, .int .i64 s.op, .int .i64 s.en, .string s.ca.f0, .int .i64 s.ca.f1, v5, v6, .int .i64 s.no] 37 :: Row k69 69 v5 (s.pe) :: Row k71 71 v6 (s.th) :: L)) : RdSt p s w := by
  obtain ⟨A5, k5, e5, _, h5⟩ := (HS.pick 1 rfl).reads
  obtain ⟨A6, k6, e6, _, h6⟩ := (HS.pick 2 rfl).reads
  subst e5 e6
  exact ⟨A5, k5, A6, k6, HS.blk, h5, h6⟩
theorem get_rdP (l : List S69) (i : Nat) (h : i < l.length) : rd_T69 l (i : Int) = l[i] := by simp [rd_T69, h]
theorem get_rdT (l : List S71) (i : Nat) (h : i < l.length) : rd_T71 l (i : Int) = l[i] := by simp [rd_T71, h]

/-- The last step: the role is stored. -/
theorem assign_end {N : Nat} {w w0 : World} {L : List Res} {g n cap : Nat} {l : List S69} (h : St N w (Row k69 69 (.slice (some ⟨g, 0, none⟩) n cap) l :: L)) (hb : Below N w0 w) (i : Nat) (r : Int) (hi : i < l.length) :
    St N (w.setCell ⟨g, i * 2 + 1, none⟩ (.int .i64 r)) (Row k69 69 (.slice (some ⟨g, 0, none⟩) n cap) (l.set i ⟨(rd_T69 l (i : Int)).f0, r⟩) :: L) ∧ Below N w0 (w.setCell ⟨g, i * 2 + 1, none⟩ (.int .i64 r)) :=
  St.field flatP h i 1 (.int .i64 r) ⟨(rd_T69 l (i : Int)).f0, r⟩ hi (by decide) (by rw [get_rdP l i hi]; rfl) hb

theorem assign_ok (p : Nat) (s : PS) (hl : s.pe.length ≤ 999999) (nm : ByteArray) (r : Int) (hI0 : IncP s.pe) (v5 v6 : Value) {N : Nat} {w : World} {L : List Res} (HS0 : St N w (Blk p #[.int .i64 s.st, .string s.ti, .int .i64 s.op, .int .i64 s.en, .string s.ca.f0, .int .i64 s.ca.f1, v5, v6, .int .i64 s.no] 37 :: Row k69 69 v5 (s.pe) :: Row k71 71 v6 (s.th) :: L)) :
    Calls Tryz.prog 97 #[.pointer (some ⟨p, 0, none⟩), .string nm, .int .i64 r] w fun e w' => e = .returned (.tuple #[]) ∧ (∃ v5', St N w' (Blk p #[.int .i64 s.st, .string s.ti, .int .i64 s.op, .int .i64 s.en, .string s.ca.f0, .int .i64 s.ca.f1, v5', v6, .int .i64 s.no] 37 :: Row k69 69 v5' (assignP nm r s.pe) :: Row k71 71 v6 (s.th) :: L)) ∧ Below N w w' := by
  have HS := Aside0.mk HS0
  have HB := Aside0.mk (Below.refl N w)
  have hI := Aside0.mk hI0
  clear HS0 hI0
  obtain ⟨A5, k5, e5, _, _⟩ := (HS.out.pick 1 rfl).reads
  subst e5
  go_enter Tryz.func97, Tryz.ntmps97
  go_upto_region 1 with (first | (go_at_call 119; (with_reducible refine (person_ok p s (by omega) nm hI.out _ (rd_of HS.out)).mono ?_); rintro r_ w1 ⟨rfl, hb⟩; have n0_ := Aside0.mk (HS.out.step hb); have n1_ := Aside0.mk (below_step' HB.out HS.out.size hb); clear HS HB; have HS := n0_; have HB := n1_; clear n0_ n1_; (try simp only [List.eraseIdx_cons_succ, List.eraseIdx_cons_zero] at HS); clear hb))
  have hple := plcP_le nm s.pe
  have hAs : Aside0 (assignP nm r s.pe = if hitP nm s.pe = true then s.pe.set (plcP nm s.pe) ⟨(rd_T69 s.pe (plcP nm s.pe : Nat)).f0, r⟩ else s.pe.take (plcP nm s.pe) ++ ⟨nm, r⟩ :: s.pe.drop (plcP nm s.pe)) := ⟨rfl⟩
  have hit_lt : Aside0 (hitP nm s.pe = true → plcP nm s.pe < s.pe.length) := ⟨fun hh => by
    unfold hitP at hh
    simp only [Bool.and_eq_true, decide_eq_true_eq] at hh
    exact hh.1⟩
  generalize hitP nm s.pe = hit at hAs hit_lt ⊢
  generalize plcP nm s.pe = i at hAs hple hit_lt ⊢
  generalize hA0 : assignP nm r s.pe = asg at hAs ⊢
  replace hA0 := Aside0.mk hA0
  have c6 := ((HS.out.pick 0 rfl).cell 6).trans (show _ = some (.slice A5 s.pe.length k5) from rfl)
  cases hit with
  | true =>
    have hlt := hit_lt.out rfl
    have hA2 : Aside0 (asg = s.pe.set i ⟨(rd_T69 s.pe (i : Int)).f0, r⟩) := ⟨by rw [hAs.out, if_pos rfl]⟩
    clear hAs hit_lt
    obtain ⟨g, cap, eg, hf⟩ := St.row_some flatP (HS.out.pick 1 rfl) (by omega)
    cases eg
    obtain ⟨ad, ea, x0, x1⟩ := at_T69 (HS.out.pick 1 rfl).rowC.2.2 (i : Int) (by omega) (by omega)
    cases ea
    rw [Int.toNat_natCast, Addr.add_lit, Nat.zero_add] at x0 x1
    have hfz := hf (i * 2 + 1)
    clear hf
    have q2 : decide ((i : Int) < (s.pe.length : Int)) = true := decide_eq_true (by omega)
    have q3 := eq_true (show (i : Int) < (s.pe.length : Int) by omega)
    have q4 := eq_true (show (0 : Int) ≤ (i : Int) by omega)
    go_wp2
    go_end0
    have h := assign_end (HS.out.pick 1 rfl) HB.out i r hlt
    have h1 := h.1.swap
    rw [← hA2.out, ← hA0.out] at h1
    exact ⟨rfl, ⟨_, h1⟩, h.2⟩
  | false =>
    have hlen : (s.pe.take i ++ ⟨nm, 0⟩ :: s.pe.drop i).length = s.pe.length + 1 := by simp; omega
    generalize hq : s.pe.take i ++ (⟨nm, 0⟩ : S69) :: s.pe.drop i = q at hlen
    have hse : asg = q.set i ⟨(rd_T69 q (i : Int)).f0, r⟩ := by
      rw [hAs.out, if_neg (by simp), ← hq]
      have h1 : (s.pe.take i).length = i := by rw [List.length_take]; omega
      have h2 : rd_T69 (s.pe.take i ++ (⟨nm, 0⟩ : S69) :: s.pe.drop i) (i : Int) = ⟨nm, 0⟩ := by
        rw [get_rdP _ _ (by rw [hq]; omega)]
        rw [List.getElem_append_right (by omega)]
        simp [h1]
      rw [h2, List.set_append_right _ _ (by omega), h1, Nat.sub_self, List.set_cons_zero]
    clear hAs hit_lt
    replace hq := Aside0.mk hq
    replace hse := Aside0.mk hse
    replace hlen := Aside0.mk hlen
    go_upto_region 3 with (first | ((with_reducible refine gate_dst (N := 24) rfl ?_); refine S_lit k69 69 ?hg24 (Nt := 24) ?hd24 (xs := [(⟨nm, 0⟩ : S69)]) (inner := [.string nm, .int .i64 0]) ?hr24 ?hp24 HS.out (by simp) ?_; (case hd24 => rfl); (case hg24 => rfl); (case hr24 => first | (go_simp; done) | (go_simp; rfl)); (case hp24 => exact reps_encs flatP (fun y => flatP.M _ _ _ y) [⟨nm, 0⟩]); intro u w2 hs hb; have n0_ := Aside0.mk (hs); have n1_ := Aside0.mk (below_step' HB.out HS.out.size hb); clear HS HB; have HS := n0_; have HB := n1_; clear n0_ n1_; (try simp only [List.eraseIdx_cons_succ, List.eraseIdx_cons_zero] at HS); clear hs hb c6; have c6 := ((HS.out.pick 1 rfl).cell 6).trans (show _ = some (.slice A5 s.pe.length k5) from rfl)) | (go_at_call 120; (with_reducible refine (slices_Insert.ok ⟨nm, 0⟩ s.pe i hple (by omega) (.slice A5 s.pe.length k5) u ((HS.out.pick 0 rfl).pick 2 rfl)).mono ?_); rintro r_ w3 ⟨v', rfl, hs, hb⟩; rw [hq.out] at hs; have n0_ := Aside0.mk (hs.pick 1 rfl); have n1_ := Aside0.mk (HB.out.trans hb); clear HS HB; have HS := n0_; have HB := n1_; clear n0_ n1_; (try simp only [List.eraseIdx_cons_succ, List.eraseIdx_cons_zero] at HS); clear hs hb c6; obtain ⟨A', k', e', _, _⟩ := (HS.out.pick 1 rfl).reads; subst e'; have c6 := ((HS.out.pick 0 rfl).cell 6).trans (show _ = some (.slice A5 s.pe.length k5) from rfl); have f6 := (HS.out.pick 0 rfl).frozen 6))
    have h1 := HS.out.set 6 (.slice A' q.length k') #[.int .i64 s.st, .string s.ti, .int .i64 s.op, .int .i64 s.en, .string s.ca.f0, .int .i64 s.ca.f1, .slice A' q.length k', v6, .int .i64 s.no] rfl
    have h2 := HS.out.below_set (i := 6) (u := .slice A' q.length k') HB.out
    generalize w3.setCell ⟨p, 6, none⟩ (.slice A' q.length k') = w4 at h1 h2 ⊢
    clear c6 f6
    have n0_ := Aside0.mk (h1); have n1_ := Aside0.mk (h2); clear HS HB; have HS := n0_; have HB := n1_; clear n0_ n1_; (try simp only [List.eraseIdx_cons_succ, List.eraseIdx_cons_zero] at HS)
    clear h1 h2
    have c6 := ((HS.out.pick 0 rfl).cell 6).trans (show _ = some (.slice A' q.length k') from rfl)
    have hlt : i < q.length := by have := hlen.out; omega
    obtain ⟨g, cap, eg, hf⟩ := St.row_some flatP (HS.out.pick 1 rfl) (by omega)
    cases eg
    obtain ⟨ad, ea, x0, x1⟩ := at_T69 (HS.out.pick 1 rfl).rowC.2.2 (i : Int) (by omega) (by omega)
    cases ea
    rw [Int.toNat_natCast, Addr.add_lit, Nat.zero_add] at x0 x1
    have hfz := hf (i * 2 + 1)
    clear hf
    have q2 : decide ((i : Int) < (q.length : Int)) = true := decide_eq_true (by omega)
    have q3 := eq_true (show (i : Int) < (q.length : Int) by omega)
    have q4 := eq_true (show (0 : Int) ≤ (i : Int) by omega)
    go_wp2
    go_end0
    have h := assign_end (HS.out.pick 1 rfl) HB.out i r hlt
    have h1 := h.1.swap
    rw [← hse.out, ← hA0.out] at h1
    exact ⟨rfl, ⟨_, h1⟩, h.2⟩

end Go.Proofs.YtcjfgejiknlpfaaGreat.PI
