/- Clone of a sketch, and whether two fit. -/
import Derived.Test.YtddhpkobingmhaaSk21

namespace Go.Proofs.Ytddhpkobingmhaa.PB
open Go.RowKit Go.Proofs.YtddhpkobingmhaaW.PrintWords Go.Proofs.YtddhpkobingmhaaW.PrintLast Go.Proofs.YtddhpkobingmhaaW.PrintMore Go.Proofs.Ytddhpkobingmhaa.Sep
set_option linter.unusedVariables false
set_option linter.unusedSimpArgs false
set_option maxHeartbeats 8000000
set_option maxRecDepth 100000

section
variable {N : Nat} {w w0 w1 : World} {L : List Res} {g : Nat} {t : TypeId} {x y z u a b c d : Value}
theorem St.set4 (h : St N w (Blk g #[x, y, z, u] t :: L)) (e : w1 = (((w.setCell ⟨g, 0, none⟩ a).setCell ⟨g, 1, none⟩ b).setCell ⟨g, 2, none⟩ c).setCell ⟨g, 3, none⟩ d) : St N w1 (Blk g #[a, b, c, d] t :: L) := by
  subst e; exact (((h.set 0 a #[a, y, z, u] rfl).set 1 b #[a, b, z, u] rfl).set 2 c #[a, b, c, u] rfl).set 3 d #[a, b, c, d] rfl
theorem St.below_set4 (h : St N w (Blk g #[x, y, z, u] t :: L)) (hb : Below N w0 w) (e : w1 = (((w.setCell ⟨g, 0, none⟩ a).setCell ⟨g, 1, none⟩ b).setCell ⟨g, 2, none⟩ c).setCell ⟨g, 3, none⟩ d) : Below N w0 w1 := by
  subst e; exact (((hb.setCell h.ge _).setCell h.ge _).setCell h.ge _).setCell h.ge _
theorem row_none {A : Option Addr} {n c : Nat} {l : List S52} (h : St N w (Row k52 52 (.slice A n c) l :: L)) : A = none → l = [] ∧ c = 0 := by
  rintro rfl
  rcases St.open_row flatK h with ⟨e1, h1⟩ | ⟨g, cap, cur, e1, _⟩
  · simp at e1; exact ⟨h1, e1.2⟩
  · cases e1
end

theorem Clone_sk (p Kn : Nat) (sd : Int) (l : List S52) (hK : Kn ≤ 1024) {N : Nat} {w : World} {L : List Res} (HS0 : St N w (Sk p Kn sd l :: L)) :
    Calls Try.prog 32 #[.pointer (some ⟨p, 0, none⟩)] w fun e w' => ∃ q : Nat, e = .returned (.pointer (some ⟨q, 0, none⟩)) ∧ St N w' (Sk q Kn sd l :: Sk p Kn sd l :: L) ∧ Below N w w' := by
  obtain ⟨v, hv⟩ := Sk_open HS0
  obtain ⟨A, c, e, _, _⟩ := hv.swap.reads
  subst e
  have hl : Aside0 ((l.take Kn).length ≤ 1000000) := ⟨by rw [List.length_take]; omega⟩
  generalize hlt : l.take Kn = lt at hv hl
  generalize hm : decide (Kn < l.length) = m at hv
  replace hlt := Aside0.mk hlt
  replace hm := Aside0.mk hm
  have HS := Aside0.mk hv
  have HB := Aside0.mk (Below.refl N w)
  clear HS0 hv hK
  have hc0_0 := ((HS.out.pick 0 rfl).cell 0).trans (show _ = some (.int .i64 Kn) from rfl)
  have hc0_1 := ((HS.out.pick 0 rfl).cell 1).trans (show _ = some (.int .i64 sd) from rfl)
  have hc0_2 := ((HS.out.pick 0 rfl).cell 2).trans (show _ = some (.slice A lt.length c) from rfl)
  have hc0_3 := ((HS.out.pick 0 rfl).cell 3).trans (show _ = some (.bool m) from rfl)
  go_enter Try.func32, Try.ntmps32
  go_wp2_with (first | ((with_reducible refine gate_dst (N := 3) rfl ?_); refine box_event ?hg (N := 3) ?hd (cs := #[.int .i64 0, .int .i64 0, .slice none 0 0, .bool false]) (t := 59) ?hr ?_; (case hd => rfl); (case hg => rfl); (case hr => first | (go_simp; done) | (go_simp; rfl)); intro q hg w1 hbox hb; have n0_ := Aside0.mk (HS.out.box hg hbox hb); have n1_ := Aside0.mk (below_step' HB.out HS.out.size hb); clear HS HB; have HS := n0_; have HB := n1_; clear n0_ n1_; (try simp only [List.eraseIdx_cons_succ, List.eraseIdx_cons_zero] at HS); clear hb hbox hg; have hc0_0 := ((HS.out.pick 0 rfl).cell 0).trans (show _ = some (.int .i64 0) from rfl); have hc0_1 := ((HS.out.pick 0 rfl).cell 1).trans (show _ = some (.int .i64 0) from rfl); have hc0_2 := ((HS.out.pick 0 rfl).cell 2).trans (show _ = some (.slice none 0 0) from rfl); have hc0_3 := ((HS.out.pick 0 rfl).cell 3).trans (show _ = some (.bool false) from rfl); have hc1_0 := ((HS.out.pick 1 rfl).cell 0).trans (show _ = some (.int .i64 Kn) from rfl); have hc1_1 := ((HS.out.pick 1 rfl).cell 1).trans (show _ = some (.int .i64 sd) from rfl); have hc1_2 := ((HS.out.pick 1 rfl).cell 2).trans (show _ = some (.slice A lt.length c) from rfl); have hc1_3 := ((HS.out.pick 1 rfl).cell 3).trans (show _ = some (.bool m) from rfl); have hf0_0 := (HS.out.pick 0 rfl).frozen 0; have hf0_1 := (HS.out.pick 0 rfl).frozen 1; have hf0_2 := (HS.out.pick 0 rfl).frozen 2; have hf0_3 := (HS.out.pick 0 rfl).frozen 3) | ((with_reducible refine gate_store (t := 59) (p := 3) rfl ?_); refine store_event (t := 59) (p := 3) (v := .tmp 8) (w1 := ?_) rfl rfl rfl ?_ ?_; rotate_left; (focus (first | (go_simp; done) | (go_simp; rfl))); intro w2 hw; have n0_ := Aside0.mk (St.set4 HS.out hw); have n1_ := Aside0.mk (St.below_set4 HS.out HB.out hw); clear HS HB; have HS := n0_; have HB := n1_; clear n0_ n1_; (try simp only [List.eraseIdx_cons_succ, List.eraseIdx_cons_zero] at HS); clear hw; clear hc0_0 hc0_1 hc0_2 hc0_3 hf0_0 hf0_1 hf0_2 hf0_3 hc1_0 hc1_1 hc1_2 hc1_3; have hc1_2 := ((HS.out.pick 1 rfl).cell 2).trans (show _ = some (.slice A lt.length c) from rfl)) | ((with_reducible refine gate_callee (f := 62) rfl ?_); refine goesL_ (some 13) rfl rfl Try.func62 (by kernel_rfl) rfl #[.slice A lt.length c] rfl (by (try simp only [List.map_toArray, List.map_cons, List.map_nil]); first | done | rfl | (simp only [List.length_drop, List.length_take]; rfl)) ?_; (with_reducible refine (slices_Clone.ok A c lt hl.out (row_none (HS.out.pick 2 rfl)) (HS.out.pick 2 rfl).rowC.2.2 HS.out).mono ?_); rintro e w3 ⟨v9, rfl, hs, hb⟩; clear hc1_2; refine ⟨_, rfl, ?_⟩; have n0_ := Aside0.mk (hs); have n1_ := Aside0.mk (HB.out.trans hb); clear HS HB; have HS := n0_; have HB := n1_; clear n0_ n1_; (try simp only [List.eraseIdx_cons_succ, List.eraseIdx_cons_zero] at HS); clear hs hb; obtain ⟨A9, n9, c9, e9⟩ : ∃ (A : Option Addr) (n c : Nat), v9 = .slice A n c := (by obtain ⟨A, c, e, _, _⟩ := HS.out.reads; exact ⟨A, _, c, e⟩); subst e9; have hc1_2 := ((HS.out.pick 1 rfl).cell 2).trans (show _ = some (.slice A lt.length c) from rfl); have hf1_2 := (HS.out.pick 1 rfl).frozen 2) | ((with_reducible refine gate_store (t := 26) (p := 14) rfl ?_); refine store_event (t := 26) (p := 14) (v := .tmp 13) (w1 := ?_) rfl rfl rfl ?_ ?_; rotate_left; (focus (first | (go_simp; done) | (go_simp; rfl))); intro w4 hw; have n0_ := Aside0.mk (hw ▸ (HS.out.pick 1 rfl).set 2 (.slice A9 n9 c9) #[.int .i64 Kn, .int .i64 sd, .slice A9 n9 c9, .bool m] rfl); have n1_ := Aside0.mk (hw ▸ (HS.out.pick 1 rfl).below_set (i := 2) (u := .slice A9 n9 c9) HB.out); clear HS HB; have HS := n0_; have HB := n1_; clear n0_ n1_; (try simp only [List.eraseIdx_cons_succ, List.eraseIdx_cons_zero] at HS); clear hw; clear hc1_2 hf1_2))
  go_ret
  refine ⟨q, rfl, ?_, HB.out⟩
  have h0 := HS.out
  rw [← hlt.out, ← hm.out] at h0
  have h1 := Sk_shut h0
  exact (Sk_shut ((h1.pick 2 rfl).pick 2 rfl)).swap
theorem Clone_nil (w : World) : Calls Try.prog 32 #[.pointer none] w fun e w' => e = .returned (.pointer none) ∧ w' = w := by
  go_enter Try.func32, Try.ntmps32
  go_wp2
  go_ret
  exact ⟨rfl, rfl⟩

end Go.Proofs.Ytddhpkobingmhaa.PB
