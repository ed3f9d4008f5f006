/- BottomkDecodes, walked: a decoded form's sketch has that form. -/
import Derived.Test.YtddhpkobingmhaaDecL

namespace Go.Proofs.Ytddhpkobingmhaa.PB
open Go.RowKit Go.Proofs.YtddhpkobingmhaaW.PrintWords Go.Proofs.YtddhpkobingmhaaW.PrintLast Go.Proofs.YtddhpkobingmhaaW.PrintMore Go.Proofs.Ytddhpkobingmhaa.Sep
set_option linter.unusedVariables false
set_option linter.unusedSimpArgs false
set_option maxHeartbeats 8000000
set_option maxRecDepth 100000

theorem Dec_bad (s : ByteArray) (hs : s.size ≤ 140737488355328) (E : Int) (h : decE s = E) (hE : E ≠ 0) {N : Nat} {w : World} {L : List Res} (HS0 : St N w L) :
    Calls Try.prog 28 #[.string s] w fun e w' => e = .returned (.tuple #[.pointer none, .int .i64 E]) ∧ St N w' L ∧ Below N w w' := by
  refine (Decode_ok s hs (dN1 s).1 (dN2 s).1 (dB3 s).1 (dN1 s).2.1 (dN2 s).2.1 (dB3 s).2.1 (dC4 s).2.1 (dN1 s).2.2 (dN2 s).2.2 (dB3 s).2.2 (dC4 s).2.2 (dC4 s).1 rfl rfl rfl rfl (dT5 s).1 (dT5 s).2.1 (dT5 s).2.2 rfl E h HS0).mono ?_
  rintro e w' ⟨⟨h1, h2, h3⟩ | ⟨h1, _⟩, hb⟩
  · exact ⟨h2, h3, hb⟩
  · exact absurd h1 hE
theorem Dec_good (s : ByteArray) (hs : s.size ≤ 140737488355328) (h : decE s = 0) {N : Nat} {w : World} {L : List Res} (HS0 : St N w L) :
    Calls Try.prog 28 #[.string s] w fun e w' => ∃ (p : Nat) (A : Option Addr) (c Kn sn : Nat) (m : Bool) (lt : List S52), e = .returned (.tuple #[.pointer (some ⟨p, 0, none⟩), .int .i64 0]) ∧ Kn ≤ 1024 ∧ sn ≤ 1048576 ∧ lt.length ≤ 1024 ∧ (∀ k ∈ lt, k.f1.size ≤ 5000) ∧ strOfNums (encF Kn sn (!m) lt) = s ∧ St N w' (Blk p #[.int .i64 Kn, .int .i64 sn, .slice A lt.length c, .bool m] 59 :: Row k52 52 (.slice A lt.length c) lt :: L) ∧ Below N w w' := by
  obtain ⟨Kn, sn, h1, h2, h3, h4, h5, h6, h7, h8⟩ := enc_of_dec s (dN1 s).1 (dN2 s).1 (dB3 s).1 (dN1 s).2.1 (dN2 s).2.1 (dB3 s).2.1 (dC4 s).2.1 (dN1 s).2.2 (dN2 s).2.2 (dB3 s).2.2 (dC4 s).2.2 (dC4 s).1 rfl rfl rfl rfl (dT5 s).1 (dT5 s).2.1 (dT5 s).2.2 rfl h
  refine (Decode_ok s hs (dN1 s).1 (dN2 s).1 (dB3 s).1 (dN1 s).2.1 (dN2 s).2.1 (dB3 s).2.1 (dC4 s).2.1 (dN1 s).2.2 (dN2 s).2.2 (dB3 s).2.2 (dC4 s).2.2 (dC4 s).1 rfl rfl rfl rfl (dT5 s).1 (dT5 s).2.1 (dT5 s).2.2 rfl 0 h HS0).mono ?_
  rintro e w' ⟨⟨h1, _⟩ | ⟨_, p, he, V, h9⟩, hb⟩
  · exact absurd rfl h1
  · rw [h1, h2] at h9
    rw [h2] at h8
    generalize hl : (dT5 s).1.map (kyOf (sn : Int)) = lt at h8 h9
    have hlen : lt.length ≤ 1024 := by rw [← hl, List.length_map]; omega
    have hsz : ∀ k ∈ lt, k.f1.size ≤ 5000 := by
      intro k hk
      rw [← hl] at hk
      obtain ⟨t, ht, rfl⟩ := List.mem_map.mp hk
      exact h7 t ht
    obtain ⟨A, c, e1, _, _⟩ := h9.swap.reads
    subst e1
    refine ⟨p, A, c, Kn, sn, !(dB3 s).1, lt, he, h4, h5, hlen, hsz, ?_, h9, hb⟩
    rw [Bool.not_not, h8, str_bytes]
theorem dec_law (s : ByteArray) (hs : s.size ≤ 140737488355328) (E : Int) (h : decE s = E) {N : Nat} {w : World} {L : List Res} (HS0 : St N w L) :
    Calls Try.prog 29 #[.string s] w fun e w' => e = .returned (.int .i64 E) ∧ St N w' L ∧ Below N w w' :=
  decode_law s hs (dN1 s).1 (dN2 s).1 (dB3 s).1 (dN1 s).2.1 (dN2 s).2.1 (dB3 s).2.1 (dC4 s).2.1 (dN1 s).2.2 (dN2 s).2.2 (dB3 s).2.2 (dC4 s).2.2 (dC4 s).1 rfl rfl rfl rfl (dT5 s).1 (dT5 s).2.1 (dT5 s).2.2 rfl E h HS0

theorem decodes_walk (s : ByteArray) (w : World) :
    Calls Try.prog 6 #[.string s] w fun e w' => e = .returned (.bool true) ∧ Below w.heap.size w w' := by
  have HS := Aside0.mk (St.none_ (N := w.heap.size) (w := w) (Nat.le_refl _))
  have HB := Aside0.mk (Below.refl w.heap.size w)
  by_cases hl : 300 < s.size
  · have q1 : decide ((300 : Int) < (s.size : Int)) = true := decide_eq_true (by omega)
    replace hl := Aside0.mk hl
    go_enter Try.func6, Try.ntmps6
    go_wp2_with (first | ((with_reducible refine gate_callee (f := 13) rfl ?_); refine goesL_ (some 5) rfl rfl Try.func13 (by kernel_rfl) rfl #[] rfl (by (try simp only [List.map_toArray, List.map_cons, List.map_nil]); first | done | rfl | (simp only [List.length_drop, List.length_take]; rfl)) ?_; (with_reducible refine (known_ok HS.out).mono ?_); rintro e w1 ⟨rfl, hs1, hb⟩; refine ⟨_, rfl, ?_⟩; have n0_ := Aside0.mk (hs1); have n1_ := Aside0.mk (HB.out.trans hb); clear HS HB; have HS := n0_; have HB := n1_; clear n0_ n1_; (try simp only [List.eraseIdx_cons_succ, List.eraseIdx_cons_zero] at HS); clear hs1 hb) | ((with_reducible refine gate_callee (f := 13) rfl ?_); refine goesL_ (some 12) rfl rfl Try.func13 (by kernel_rfl) rfl #[] rfl (by (try simp only [List.map_toArray, List.map_cons, List.map_nil]); first | done | rfl | (simp only [List.length_drop, List.length_take]; rfl)) ?_; (with_reducible refine (known_ok HS.out).mono ?_); rintro e w2 ⟨rfl, hs1, hb⟩; refine ⟨_, rfl, ?_⟩; have n0_ := Aside0.mk (hs1); have n1_ := Aside0.mk (HB.out.trans hb); clear HS HB; have HS := n0_; have HB := n1_; clear n0_ n1_; (try simp only [List.eraseIdx_cons_succ, List.eraseIdx_cons_zero] at HS); clear hs1 hb))
    go_ret
    exact ⟨rfl, HB.out⟩
  have q1 : decide ((300 : Int) < (s.size : Int)) = false := decide_eq_false (by omega)
  have hs : Aside0 (s.size ≤ 140737488355328) := ⟨by omega⟩
  replace hl := Aside0.mk hl
  by_cases hE : decE s = 0
  · have hd := Aside0.mk hE
    clear hE
    go_enter Try.func6, Try.ntmps6
    go_wp2_with (first | ((with_reducible refine gate_callee (f := 13) rfl ?_); refine goesL_ (some 5) rfl rfl Try.func13 (by kernel_rfl) rfl #[] rfl (by (try simp only [List.map_toArray, List.map_cons, List.map_nil]); first | done | rfl | (simp only [List.length_drop, List.length_take]; rfl)) ?_; (with_reducible refine (known_ok HS.out).mono ?_); rintro e w1 ⟨rfl, hs1, hb⟩; refine ⟨_, rfl, ?_⟩; have n0_ := Aside0.mk (hs1); have n1_ := Aside0.mk (HB.out.trans hb); clear HS HB; have HS := n0_; have HB := n1_; clear n0_ n1_; (try simp only [List.eraseIdx_cons_succ, List.eraseIdx_cons_zero] at HS); clear hs1 hb) | ((with_reducible refine gate_callee (f := 28) rfl ?_); refine goesL_ (some 15) rfl rfl Try.func28 (by kernel_rfl) rfl #[.string s] rfl (by (try simp only [List.map_toArray, List.map_cons, List.map_nil]); first | done | rfl | (simp only [List.length_drop, List.length_take]; rfl)) ?_; (with_reducible refine (Dec_good s hs.out hd.out HS.out).mono ?_); rintro e w3 ⟨p, A, c, Kn, sn, m, lt, rfl, b1, b2, b3, b4, b5, hs1, hb⟩; replace b1 := Aside0.mk b1; replace b2 := Aside0.mk b2; replace b3 := Aside0.mk b3; replace b4 := Aside0.mk b4; replace b5 := Aside0.mk b5; refine ⟨_, rfl, ?_⟩; have n0_ := Aside0.mk (hs1); have n1_ := Aside0.mk (HB.out.trans hb); clear HS HB; have HS := n0_; have HB := n1_; clear n0_ n1_; (try simp only [List.eraseIdx_cons_succ, List.eraseIdx_cons_zero] at HS); clear hs1 hb) | ((with_reducible refine gate_callee (f := 29) rfl ?_); refine goesL_ (some 20) rfl rfl Try.func29 (by kernel_rfl) rfl #[.string s] rfl (by (try simp only [List.map_toArray, List.map_cons, List.map_nil]); first | done | rfl | (simp only [List.length_drop, List.length_take]; rfl)) ?_; (with_reducible refine (dec_law s hs.out 0 hd.out HS.out).mono ?_); rintro e w4 ⟨rfl, hs1, hb⟩; refine ⟨_, rfl, ?_⟩; have n0_ := Aside0.mk (hs1); have n1_ := Aside0.mk (HB.out.trans hb); clear HS HB; have HS := n0_; have HB := n1_; clear n0_ n1_; (try simp only [List.eraseIdx_cons_succ, List.eraseIdx_cons_zero] at HS); clear hs1 hb) | (go_at_call 30; refine (Encode_open p Kn sn b1.out b2.out lt b3.out b4.out A c m HS.out).mono ?_; rintro e w5 ⟨rfl, hs1, hb⟩; rw [b5.out]; have n0_ := Aside0.mk (hs1); have n1_ := Aside0.mk (HB.out.trans hb); clear HS HB; have HS := n0_; have HB := n1_; clear n0_ n1_; (try simp only [List.eraseIdx_cons_succ, List.eraseIdx_cons_zero] at HS); clear hs1 hb))
    go_ret
    exact ⟨by simp, HB.out⟩
  · obtain ⟨E, hd⟩ : ∃ E, decE s = E := ⟨_, rfl⟩
    have hne : Aside0 (E ≠ 0) := ⟨hd ▸ hE⟩
    have bE : (E != E) = false := bne_self_eq_false E
    have bE0 : (E == 0) = false := beq_false_of_ne hne.out
    replace hd := Aside0.mk hd
    clear hE
    go_enter Try.func6, Try.ntmps6
    go_wp2_with (first | ((with_reducible refine gate_callee (f := 13) rfl ?_); refine goesL_ (some 5) rfl rfl Try.func13 (by kernel_rfl) rfl #[] rfl (by (try simp only [List.map_toArray, List.map_cons, List.map_nil]); first | done | rfl | (simp only [List.length_drop, List.length_take]; rfl)) ?_; (with_reducible refine (known_ok HS.out).mono ?_); rintro e w1 ⟨rfl, hs1, hb⟩; refine ⟨_, rfl, ?_⟩; have n0_ := Aside0.mk (hs1); have n1_ := Aside0.mk (HB.out.trans hb); clear HS HB; have HS := n0_; have HB := n1_; clear n0_ n1_; (try simp only [List.eraseIdx_cons_succ, List.eraseIdx_cons_zero] at HS); clear hs1 hb) | ((with_reducible refine gate_callee (f := 28) rfl ?_); refine goesL_ (some 15) rfl rfl Try.func28 (by kernel_rfl) rfl #[.string s] rfl (by (try simp only [List.map_toArray, List.map_cons, List.map_nil]); first | done | rfl | (simp only [List.length_drop, List.length_take]; rfl)) ?_; (with_reducible refine (Dec_bad s hs.out E hd.out hne.out HS.out).mono ?_); rintro e w3 ⟨rfl, hs1, hb⟩; refine ⟨_, rfl, ?_⟩; have n0_ := Aside0.mk (hs1); have n1_ := Aside0.mk (HB.out.trans hb); clear HS HB; have HS := n0_; have HB := n1_; clear n0_ n1_; (try simp only [List.eraseIdx_cons_succ, List.eraseIdx_cons_zero] at HS); clear hs1 hb) | ((with_reducible refine gate_callee (f := 29) rfl ?_); refine goesL_ (some 20) rfl rfl Try.func29 (by kernel_rfl) rfl #[.string s] rfl (by (try simp only [List.map_toArray, List.map_cons, List.map_nil]); first | done | rfl | (simp only [List.length_drop, List.length_take]; rfl)) ?_; (with_reducible refine (dec_law s hs.out E hd.out HS.out).mono ?_); rintro e w4 ⟨rfl, hs1, hb⟩; refine ⟨_, rfl, ?_⟩; have n0_ := Aside0.mk (hs1); have n1_ := Aside0.mk (HB.out.trans hb); clear HS HB; have HS := n0_; have HB := n1_; clear n0_ n1_; (try simp only [List.eraseIdx_cons_succ, List.eraseIdx_cons_zero] at HS); clear hs1 hb))
    go_ret
    exact ⟨rfl, HB.out⟩
end Go.Proofs.Ytddhpkobingmhaa.PB
