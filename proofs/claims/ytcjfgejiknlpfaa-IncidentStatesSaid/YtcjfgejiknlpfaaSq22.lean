/- The law IncidentStates walked. -/
import Derived.Test.YtcjfgejiknlpfaaSq21
import Derived.Test.YtcjfgejiknlpfaaSam
namespace Go.Proofs.Ytcjfgejiknlpfaa.PI
open Go.RowKit Go.Proofs.YtcjfgejiknlpfaaW.PrintWords Go.Proofs.YtcjfgejiknlpfaaW.PrintLast Go.Proofs.YtcjfgejiknlpfaaW.PrintMore Go.Proofs.Ytcjfgejiknlpfaa.Sep
set_option linter.unusedVariables false
set_option linter.unusedSimpArgs false
set_option maxHeartbeats 8000000
set_option maxRecDepth 100000

def stt.T2 : Bool × List (List Nat × List Nat) := (true, [([], []), ([0], [0]), ([1, 0], [1]), ([2], [2]), ([2], [2]), ([3, 4, 2, 2], [2, 3, 4]), ([2], [2]), ([2], [2]), ([6, 7, 5, 2], [2, 6, 7]), ([5, 8, 2], [2, 5, 8]), ([2, 9], [2, 9]), ([10, 8], [10]), ([11], [11]), ([11], [11]), ([12, 13, 11, 11], [11, 12, 13]), ([14, 11], [11, 14]), ([11, 15], [11, 15])])
def stt.B2 : List Nat := [0, 1, 3, 7, 7, 31, 7, 7, 255, 511, 1023, 2047, 4095, 4095, 16383, 32767, 65535]
theorem stt.tab2 : rtab .any (opsOf Try.f6 2) = stt.T2 := by kernel_rfl
theorem stt.bits2 : waitsOk stt.T2.2 stt.B2 = true := by kernel_rfl
def stt.T5 : Bool × List (List Nat × List Nat) := (true, [([], []), ([], []), ([1], [1]), ([0, 2], [0, 2]), ([], []), ([], []), ([5], [5]), ([4, 6, 3], [4, 6]), ([0, 1, 2, 3], []), ([8, 3, 7, 0, 1, 2, 3], [3, 8]), ([0, 1, 2, 3, 4, 5, 6, 7, 8, 9], []), ([10, 7, 9, 0, 1, 2, 3, 4, 5, 6, 7, 8, 9], [7, 10])])
def stt.B5 : List Nat := [0, 0, 2, 7, 0, 0, 32, 127, 15, 511, 1023, 2047]
theorem stt.tab5 : rtab .any (opsOf Try.f6 5) = stt.T5 := by kernel_rfl
theorem stt.bits5 : waitsOk stt.T5.2 stt.B5 = true := by kernel_rfl
theorem equal_twoB (s t : PS) (b : Bool) (hb : decide (s = t) = b) (A6 A7 B6 B7 : Option Addr) (c6 c7 d6 d7 : Nat) (w : World) (h1 : Kd.C k49 w A6 s.pe.length s.pe) (h2 : s.pe.length ≤ c6) (h3 : Kd.C k51 w A7 s.th.length s.th) (h4 : s.th.length ≤ c7) (h5 : Kd.C k49 w B6 t.pe.length t.pe) (h6 : t.pe.length ≤ d6) (h7 : Kd.C k51 w B7 t.th.length t.th) (h8 : t.th.length ≤ d7) (m1 : s.pe.length ≤ 100000) (m2 : s.th.length ≤ 100000) :
    Calls Try.prog 23 #[.agg #[.int .i64 s.st, .string s.ti, .int .i64 s.op, .int .i64 s.en, .string s.ca.f0, .int .i64 s.ca.f1, .slice A6 s.pe.length c6, .slice A7 s.th.length c7, .int .i64 s.no], .agg #[.int .i64 t.st, .string t.ti, .int .i64 t.op, .int .i64 t.en, .string t.ca.f0, .int .i64 t.ca.f1, .slice B6 t.pe.length d6, .slice B7 t.th.length d7, .int .i64 t.no]] w fun e w' => e = .returned (.bool b) ∧ Below w.heap.size w w' := by
  subst hb
  exact equal_two s t A6 A7 B6 B7 c6 c7 d6 d7 w h1 h2 h3 h4 h5 h6 h7 h8 m1 m2
theorem same_twoB (s t : PS) (b : Bool) (hb : decide (s = t) = b) (A6 A7 B6 B7 : Option Addr) (c6 c7 d6 d7 : Nat) (w : World) (h1 : Kd.C k49 w A6 s.pe.length s.pe) (h2 : s.pe.length ≤ c6) (h3 : Kd.C k51 w A7 s.th.length s.th) (h4 : s.th.length ≤ c7) (h5 : Kd.C k49 w B6 t.pe.length t.pe) (h6 : t.pe.length ≤ d6) (h7 : Kd.C k51 w B7 t.th.length t.th) (h8 : t.th.length ≤ d7) (m1 : s.pe.length ≤ 100000) (m2 : s.th.length ≤ 100000) :
    Calls Try.prog 21 #[.agg #[.int .i64 s.st, .string s.ti, .int .i64 s.op, .int .i64 s.en, .string s.ca.f0, .int .i64 s.ca.f1, .slice A6 s.pe.length c6, .slice A7 s.th.length c7, .int .i64 s.no], .agg #[.int .i64 t.st, .string t.ti, .int .i64 t.op, .int .i64 t.en, .string t.ca.f0, .int .i64 t.ca.f1, .slice B6 t.pe.length d6, .slice B7 t.th.length d7, .int .i64 t.no]] w fun e w' => e = .returned (.bool b) ∧ Below w.heap.size w w' := by
  subst hb
  exact same_two s t A6 A7 B6 B7 c6 c7 d6 d7 w h1 h2 h3 h4 h5 h6 h7 h8 m1 m2
theorem tx3_size (i : Int) : (tx3 i).size ≤ 9 := by
  have h : i % 3 = 0 ∨ i % 3 = 1 ∨ i % 3 = 2 := by omega
  unfold tx3
  rcases h with h | h | h <;> rw [h] <;> decide
theorem decE_text (a : S23) : (decE a).f6.size ≤ 9 := by
  unfold decE
  split
  · exact tx3_size _
  · split
    · exact Nat.zero_le _
    · split <;> exact Nat.zero_le _
theorem title_step {s : PS} {rs : List Int} (e : S27) (h : s.ti.size ≤ 9) (he : e.f6.size ≤ 9) : (stepP (s, rs) e).1.ti.size ≤ 9 := by
  unfold stepP
  by_cases h0 : reasonP s e = 0
  · simp only [if_pos h0]
    unfold effP
    split
    · exact he
    · split
      · exact h
      · split
        · exact h
        · split
          · exact h
          · split
            · exact h
            · split
              · exact h
              · split
                · exact h
                · split <;> exact h
  · simp only [if_neg h0]; exact h
theorem title_run (l : List S27) : (∀ x ∈ l, x.f6.size ≤ 9) → (runO l).1.ti.size ≤ 9 := snoc_ind (p := fun l => (∀ x ∈ l, x.f6.size ≤ 9) → (runO l).1.ti.size ≤ 9) (fun _ => Nat.zero_le _) (fun l e ih h => by
  rw [runO_snoc]
  exact title_step e (ih (fun x hx => h x (by simp [hx]))) (h e (by simp))) l
theorem title_small (l : List S23) : (runP (evs l)).1.ti.size ≤ 9 := title_run (orderE (evs l)) (fun x hx => by
  obtain ⟨a, _, rfl⟩ := List.mem_map.mp (order_mem hx)
  exact decE_text a)
theorem ti_ne (a : ByteArray) : ¬ a = a ++ ⟨#[46]⟩ := by
  intro h
  have := congrArg ByteArray.size h
  rw [ByteArray.size_append] at this
  have e : (⟨#[46]⟩ : ByteArray).size = 1 := rfl
  omega
theorem wrap_ne (x : Int) : ¬ x = IntKind.i64.wrap (x + 1) := by rw [IntKind.wrap_i64]; omega
theorem run_small (l : List S23) : (runP (evs l)).1.pe.length ≤ 24 ∧ (runP (evs l)).1.th.length ≤ 24 := by
  have h := good_run (orderE (evs l))
  have h1 := order_len (evs l)
  have h2 := evs_len l
  have h3 := h.lp
  have h4 := h.lt
  exact ⟨by show (runO (orderE (evs l))).1.pe.length ≤ 24; omega, by show (runO (orderE (evs l))).1.th.length ≤ 24; omega⟩
theorem states_walk (A : Option Addr) (c : Nat) (acts : List S23) (hu0 : ∀ a ∈ acts, U8s a) (A' : Option Addr) (c' : Nat) (acts2 : List S23) (hu20 : ∀ a ∈ acts2, U8s a) (ch : Int) (hc0 : 0 ≤ ch) (hc255 : ch ≤ 255) (w : World) (hc : Kd.C k23 w A acts.length acts) (hc2 : Kd.C k23 w A' acts2.length acts2) :
    Calls Try.prog 6 #[.slice A acts.length c, .slice A' acts2.length c', .int .u8 ch] w fun r w' => r = .returned (.bool true) ∧ Below w.heap.size w w' := by
  have HS := Aside0.mk (St.none_ (N := w.heap.size) (w := w) (Nat.le_refl _))
  have HB := Aside0.mk (Below.refl w.heap.size w)
  have HC := Aside0.mk hc
  have HC2 := Aside0.mk hc2
  have hu := Aside0.mk hu0
  have hu2 := Aside0.mk hu20
  have hch := Aside0.mk (And.intro hc0 hc255)
  clear hc hu0 hc2 hu20 hc0 hc255
  have hk1 : Aside0 (∀ x ∈ orderE (evs acts), 1 ≤ x.f2 ∧ x.f2 ≤ 9) := ⟨fun x hx => evs_kind acts x (order_mem hx)⟩
  have hk2 : Aside0 (∀ x ∈ orderE (evs acts2), 1 ≤ x.f2 ∧ x.f2 ≤ 9) := ⟨fun x hx => evs_kind acts2 x (order_mem hx)⟩
  have hl1 := run_small acts
  have hl2 := run_small acts2
  have hti := title_small acts
  obtain ⟨s, hs_⟩ : ∃ s, (runP (evs acts)).1 = s := ⟨_, rfl⟩
  obtain ⟨t, ht_⟩ : ∃ t, (runP (evs acts2)).1 = t := ⟨_, rfl⟩
  rw [hs_] at hl1 hti
  rw [ht_] at hl2
  replace hs_ := Aside0.mk hs_
  replace ht_ := Aside0.mk ht_
  replace hl1 := Aside0.mk hl1
  replace hti := Aside0.mk hti
  replace hl2 := Aside0.mk hl2
  go_enter Try.func6, Try.ntmps6
  go_upto_region 2 with (first | (go_at_call 18; (with_reducible refine (Events_ok A acts.length c acts rfl hu.out (fun w' _ h => Kd.C_below HC.out h) (fun w' v xs _ h => Kd.C_below HC.out h) HS.out).mono ?_); rintro r_ w1 ⟨ve, rfl, hs, hb⟩; have n0_ := Aside0.mk (hs); have n1_ := Aside0.mk (HB.out.trans hb); clear HS HB; have HS := n0_; have HB := n1_; clear n0_ n1_; (try simp only [List.eraseIdx_cons_succ, List.eraseIdx_cons_zero] at HS); clear hs hb; obtain ⟨Ae, ce, ee, _, _⟩ := HS.out.reads; subst ee) | (go_at_call 22; (with_reducible refine (Fold_ok Ae ce (evs acts) (by have := evs_len acts; omega) hk1.out (fun w' L' h _ => row_kept w' L' h) HS.out).mono ?_); rintro r_ w2 ⟨v5, v6, rfl, hs, hb⟩; rw [hs_.out] at hs ⊢; have n0_ := Aside0.mk (hs); have n1_ := Aside0.mk (HB.out.trans hb); clear HS HB; have HS := n0_; have HB := n1_; clear n0_ n1_; (try simp only [List.eraseIdx_cons_succ, List.eraseIdx_cons_zero] at HS); clear hs hb; obtain ⟨A5, k5, e5, _, _⟩ := (HS.out.pick 0 rfl).reads; subst e5; obtain ⟨A6, k6, e6, _, _⟩ := (HS.out.pick 1 rfl).reads; subst e6) | (go_at_call 18; (with_reducible refine (Events_ok A' acts2.length c' acts2 rfl hu2.out (fun w' _ h => Kd.C_below HC2.out (HB.out.trans h)) (fun w' v xs _ h => Kd.C_below HC2.out (HB.out.trans h)) HS.out).mono ?_); rintro r_ w3 ⟨ve2, rfl, hs, hb⟩; have n0_ := Aside0.mk (hs); have n1_ := Aside0.mk (HB.out.trans hb); clear HS HB; have HS := n0_; have HB := n1_; clear n0_ n1_; (try simp only [List.eraseIdx_cons_succ, List.eraseIdx_cons_zero] at HS); clear hs hb; obtain ⟨A2, c2, ee, _, _⟩ := HS.out.reads; subst ee) | (go_at_call 22; (with_reducible refine (Fold_ok A2 c2 (evs acts2) (by have := evs_len acts2; omega) hk2.out (fun w' L' h _ => row_kept w' L' h) HS.out).mono ?_); rintro r_ w4 ⟨v7, v8, rfl, hs, hb⟩; rw [ht_.out] at hs ⊢; have n0_ := Aside0.mk (hs); have n1_ := Aside0.mk (HB.out.trans hb); clear HS HB; have HS := n0_; have HB := n1_; clear n0_ n1_; (try simp only [List.eraseIdx_cons_succ, List.eraseIdx_cons_zero] at HS); clear hs hb; obtain ⟨B5, j5, e5, _, _⟩ := (HS.out.pick 0 rfl).reads; subst e5; obtain ⟨B6, j6, e6, _, _⟩ := (HS.out.pick 1 rfl).reads; subst e6))
  have hbx := HS.out.box (g := w4.heap.size) (cs := #[.int .i64 s.st, .string s.ti, .int .i64 s.op, .int .i64 s.en, .string s.ca.f0, .int .i64 s.ca.f1, .slice A5 s.pe.length k5, .slice A6 s.th.length k6, .int .i64 s.no]) (t := 40) rfl (new_cells w4 _ _) ((Below.refl _ _).alloc (Nat.le_refl _) _)
  have hbb := below_step' HB.out HS.out.size ((Below.refl _ _).alloc (Nat.le_refl _) (.cells #[.int .i64 s.st, .string s.ti, .int .i64 s.op, .int .i64 s.en, .string s.ca.f0, .int .i64 s.ca.f1, .slice A5 s.pe.length k5, .slice A6 s.th.length k6, .int .i64 s.no] 40))
  have hsz : (w4.alloc (.cells #[.int .i64 s.st, .string s.ti, .int .i64 s.op, .int .i64 s.en, .string s.ca.f0, .int .i64 s.ca.f1, .slice A5 s.pe.length k5, .slice A6 s.th.length k6, .int .i64 s.no] 40)).heap.size = w4.heap.size + 1 := Array.size_push _
  generalize w4.alloc (.cells #[.int .i64 s.st, .string s.ti, .int .i64 s.op, .int .i64 s.en, .string s.ca.f0, .int .i64 s.ca.f1, .slice A5 s.pe.length k5, .slice A6 s.th.length k6, .int .i64 s.no] 40) = w5 at hbx hbb hsz ⊢
  generalize w4.heap.size = g at hbx hsz ⊢
  have n0_ := Aside0.mk (hbx); have n1_ := Aside0.mk (hbb); clear HS HB; have HS := n0_; have HB := n1_; clear n0_ n1_; (try simp only [List.eraseIdx_cons_succ, List.eraseIdx_cons_zero] at HS)
  clear hbx hbb
  have hbx := HS.out.box (g := g + 1) (cs := #[.int .i64 t.st, .string t.ti, .int .i64 t.op, .int .i64 t.en, .string t.ca.f0, .int .i64 t.ca.f1, .slice B5 t.pe.length j5, .slice B6 t.th.length j6, .int .i64 t.no]) (t := 40) hsz.symm (by rw [← hsz]; exact new_cells w5 _ _) ((Below.refl _ w5).alloc (Nat.le_refl _) _)
  have hbb := below_step' HB.out HS.out.size ((Below.refl _ w5).alloc (Nat.le_refl _) (.cells #[.int .i64 t.st, .string t.ti, .int .i64 t.op, .int .i64 t.en, .string t.ca.f0, .int .i64 t.ca.f1, .slice B5 t.pe.length j5, .slice B6 t.th.length j6, .int .i64 t.no] 40))
  clear hsz
  generalize w5.alloc (.cells #[.int .i64 t.st, .string t.ti, .int .i64 t.op, .int .i64 t.en, .string t.ca.f0, .int .i64 t.ca.f1, .slice B5 t.pe.length j5, .slice B6 t.th.length j6, .int .i64 t.no] 40) = w6 at hbx hbb ⊢
  generalize g + 1 = g2 at hbx ⊢
  have n0_ := Aside0.mk (hbx); have n1_ := Aside0.mk (hbb); clear HS HB; have HS := n0_; have HB := n1_; clear n0_ n1_; (try simp only [List.eraseIdx_cons_succ, List.eraseIdx_cons_zero] at HS)
  clear hbx hbb
  obtain ⟨b, hbq⟩ : ∃ b, decide (s = t) = b := ⟨_, rfl⟩
  replace hbq := Aside0.mk hbq
  have nb1 : (b != b) = false := by simp
  have nb2 : (b == b) = true := by simp
  have n0_ := Aside0.mk (HS.out.drew); have n1_ := Aside0.mk (HB.out.drew); clear HS HB; have HS := n0_; have HB := n1_; clear n0_ n1_
  refine start_ (n := 17) (S := fun w' => w'.cell? ⟨g, 0, none⟩ = some (.int .i64 s.st) ∧ w'.cell? ⟨g, 1, none⟩ = some (.string s.ti) ∧ w'.cell? ⟨g, 2, none⟩ = some (.int .i64 s.op) ∧ w'.cell? ⟨g, 3, none⟩ = some (.int .i64 s.en) ∧ w'.cell? ⟨g, 4, none⟩ = some (.string s.ca.f0) ∧ w'.cell? ⟨g, 5, none⟩ = some (.int .i64 s.ca.f1) ∧ w'.cell? ⟨g, 6, none⟩ = some (.slice A5 s.pe.length k5) ∧ w'.cell? ⟨g, 7, none⟩ = some (.slice A6 s.th.length k6) ∧ w'.cell? ⟨g, 8, none⟩ = some (.int .i64 s.no) ∧ w'.cell? ⟨g2, 0, none⟩ = some (.int .i64 t.st) ∧ w'.cell? ⟨g2, 1, none⟩ = some (.string t.ti) ∧ w'.cell? ⟨g2, 2, none⟩ = some (.int .i64 t.op) ∧ w'.cell? ⟨g2, 3, none⟩ = some (.int .i64 t.en) ∧ w'.cell? ⟨g2, 4, none⟩ = some (.string t.ca.f0) ∧ w'.cell? ⟨g2, 5, none⟩ = some (.int .i64 t.ca.f1) ∧ w'.cell? ⟨g2, 6, none⟩ = some (.slice B5 t.pe.length j5) ∧ w'.cell? ⟨g2, 7, none⟩ = some (.slice B6 t.th.length j6) ∧ w'.cell? ⟨g2, 8, none⟩ = some (.int .i64 t.no)) (ds := []) (tfs true [0, 17]).toArray (by kernel_rfl) rfl rfl ⟨((HS.out.pick 1 rfl).cell 0).trans rfl, ((HS.out.pick 1 rfl).cell 1).trans rfl, ((HS.out.pick 1 rfl).cell 2).trans rfl, ((HS.out.pick 1 rfl).cell 3).trans rfl, ((HS.out.pick 1 rfl).cell 4).trans rfl, ((HS.out.pick 1 rfl).cell 5).trans rfl, ((HS.out.pick 1 rfl).cell 6).trans rfl, ((HS.out.pick 1 rfl).cell 7).trans rfl, ((HS.out.pick 1 rfl).cell 8).trans rfl, ((HS.out.pick 0 rfl).cell 0).trans rfl, ((HS.out.pick 0 rfl).cell 1).trans rfl, ((HS.out.pick 0 rfl).cell 2).trans rfl, ((HS.out.pick 0 rfl).cell 3).trans rfl, ((HS.out.pick 0 rfl).cell 4).trans rfl, ((HS.out.pick 0 rfl).cell 5).trans rfl, ((HS.out.pick 0 rfl).cell 6).trans rfl, ((HS.out.pick 0 rfl).cell 7).trans rfl, ((HS.out.pick 0 rfl).cell 8).trans rfl⟩ (fun hHeld => ?_); refine with_tabW stt.tab2 stt.bits2 (fun HT_ HW_ => ?_)
  generalize w6.drew = w7 at HS HB hHeld ⊢
  refine one_ (i := 0) (N := some 16) (tfs true [1, 16]).toArray rfl rfl (one_of HT_.out (by kernel_rfl)) (by decide) (fun K hK => ?_)
  refine goes_ Try.func13 (by kernel_rfl) rfl #[] (by rfl) rfl rfl (by (try simp only [List.map_toArray, List.map_cons, List.map_nil]); first | done | rfl | (simp only [List.length_drop, List.length_take]; rfl)) ?_
  with_reducible refine (known_ok _).mono ?_
  rintro r_ wk ⟨rfl, hb⟩
  refine ⟨_, rfl, ?_⟩
  have n0_ := Aside0.mk (HS.out.step hb); have n1_ := Aside0.mk (below_step' HB.out HS.out.size hb); clear HS HB; have HS := n0_; have HB := n1_; clear n0_ n1_; (try simp only [List.eraseIdx_cons_succ, List.eraseIdx_cons_zero] at HS)
  clear hb
  refine hK.out _ _ ⟨((HS.out.pick 1 rfl).cell 0).trans rfl, ((HS.out.pick 1 rfl).cell 1).trans rfl, ((HS.out.pick 1 rfl).cell 2).trans rfl, ((HS.out.pick 1 rfl).cell 3).trans rfl, ((HS.out.pick 1 rfl).cell 4).trans rfl, ((HS.out.pick 1 rfl).cell 5).trans rfl, ((HS.out.pick 1 rfl).cell 6).trans rfl, ((HS.out.pick 1 rfl).cell 7).trans rfl, ((HS.out.pick 1 rfl).cell 8).trans rfl, ((HS.out.pick 0 rfl).cell 0).trans rfl, ((HS.out.pick 0 rfl).cell 1).trans rfl, ((HS.out.pick 0 rfl).cell 2).trans rfl, ((HS.out.pick 0 rfl).cell 3).trans rfl, ((HS.out.pick 0 rfl).cell 4).trans rfl, ((HS.out.pick 0 rfl).cell 5).trans rfl, ((HS.out.pick 0 rfl).cell 6).trans rfl, ((HS.out.pick 0 rfl).cell 7).trans rfl, ((HS.out.pick 0 rfl).cell 8).trans rfl⟩ (fun hHeld => ?_)
  clear hK K
  refine norm_ (a' := ?_) ?_ ?_
  rotate_left
  · show Act.put _ (some 16) _ = _
    simp only [Act.put, List.setIfInBounds_toArray, List.set_cons_zero, List.set_cons_succ, i64_w, i32_w]
    rfl
  refine pU 1 17 (tfs true [2, 15]).toArray rfl rfl HT_ ?_
  refine pU 2 18 (tfs true [3, 14]).toArray rfl rfl HT_ ?_
  refine tK 3 19 (tfs true [4, 13]).toArray rfl rfl HT_ HW_ hHeld ?_ (by rintro w' ⟨s0, s1, s2, s3, s4, s5, s6, s7, s8, s9, s10, s11, s12, s13, s14, s15, s16, s17⟩; go_simp; with_reducible rfl)
  refine tK 4 20 (tfs true [5, 12]).toArray rfl rfl HT_ HW_ hHeld ?_ (by rintro w' ⟨s0, s1, s2, s3, s4, s5, s6, s7, s8, s9, s10, s11, s12, s13, s14, s15, s16, s17⟩; go_simp; with_reducible rfl)
  refine tK 6 22 (tfs true [5, 1, 1, 10]).toArray rfl rfl HT_ HW_ hHeld ?_ (by rintro w' ⟨s0, s1, s2, s3, s4, s5, s6, s7, s8, s9, s10, s11, s12, s13, s14, s15, s16, s17⟩; go_simp; with_reducible rfl)
  refine tK 7 23 (tfs true [5, 1, 2, 9]).toArray rfl rfl HT_ HW_ hHeld ?_ (by rintro w' ⟨s0, s1, s2, s3, s4, s5, s6, s7, s8, s9, s10, s11, s12, s13, s14, s15, s16, s17⟩; go_simp; with_reducible rfl)
  refine one_ (i := 5) (N := some 21) (tfs true [8, 9]).toArray rfl rfl (one_of HT_.out (by kernel_rfl)) (by decide) (fun K hK => ?_)
  refine goes_ Try.func23 (by kernel_rfl) rfl #[.agg #[.int .i64 s.st, .string s.ti, .int .i64 s.op, .int .i64 s.en, .string s.ca.f0, .int .i64 s.ca.f1, .slice A5 s.pe.length k5, .slice A6 s.th.length k6, .int .i64 s.no], .agg #[.int .i64 t.st, .string t.ti, .int .i64 t.op, .int .i64 t.en, .string t.ca.f0, .int .i64 t.ca.f1, .slice B5 t.pe.length j5, .slice B6 t.th.length j6, .int .i64 t.no]] (by rfl) rfl rfl (by (try simp only [List.map_toArray, List.map_cons, List.map_nil]); first | done | rfl | (simp only [List.length_drop, List.length_take]; rfl)) ?_
  with_reducible refine (equal_twoB s t b hbq.out A5 A6 B5 B6 k5 k6 j5 j6 _ (HS.out.pick 5 rfl).rowC.2.2 (HS.out.pick 5 rfl).rowC.2.1 (HS.out.pick 6 rfl).rowC.2.2 (HS.out.pick 6 rfl).rowC.2.1 (HS.out.pick 2 rfl).rowC.2.2 (HS.out.pick 2 rfl).rowC.2.1 (HS.out.pick 3 rfl).rowC.2.2 (HS.out.pick 3 rfl).rowC.2.1 (by have := hl1.out; omega) (by have := hl1.out; omega)).mono ?_
  rintro r_ wl ⟨rfl, hb⟩
  refine ⟨_, rfl, ?_⟩
  have n0_ := Aside0.mk (HS.out.step hb); have n1_ := Aside0.mk (below_step' HB.out HS.out.size hb); clear HS HB; have HS := n0_; have HB := n1_; clear n0_ n1_; (try simp only [List.eraseIdx_cons_succ, List.eraseIdx_cons_zero] at HS)
  clear hb
  refine hK.out _ _ ⟨((HS.out.pick 1 rfl).cell 0).trans rfl, ((HS.out.pick 1 rfl).cell 1).trans rfl, ((HS.out.pick 1 rfl).cell 2).trans rfl, ((HS.out.pick 1 rfl).cell 3).trans rfl, ((HS.out.pick 1 rfl).cell 4).trans rfl, ((HS.out.pick 1 rfl).cell 5).trans rfl, ((HS.out.pick 1 rfl).cell 6).trans rfl, ((HS.out.pick 1 rfl).cell 7).trans rfl, ((HS.out.pick 1 rfl).cell 8).trans rfl, ((HS.out.pick 0 rfl).cell 0).trans rfl, ((HS.out.pick 0 rfl).cell 1).trans rfl, ((HS.out.pick 0 rfl).cell 2).trans rfl, ((HS.out.pick 0 rfl).cell 3).trans rfl, ((HS.out.pick 0 rfl).cell 4).trans rfl, ((HS.out.pick 0 rfl).cell 5).trans rfl, ((HS.out.pick 0 rfl).cell 6).trans rfl, ((HS.out.pick 0 rfl).cell 7).trans rfl, ((HS.out.pick 0 rfl).cell 8).trans rfl⟩ (fun hHeld => ?_)
  clear hK K
  refine norm_ (a' := ?_) ?_ ?_
  rotate_left
  · show Act.put _ (some 21) _ = _
    simp only [Act.put, List.setIfInBounds_toArray, List.set_cons_zero, List.set_cons_succ, i64_w, i32_w]
    rfl
  refine one_ (i := 8) (N := some 24) (tfs true [9, 8]).toArray rfl rfl (one_of HT_.out (by kernel_rfl)) (by decide) (fun K hK => ?_)
  refine goes_ Try.func21 (by kernel_rfl) rfl #[.agg #[.int .i64 s.st, .string s.ti, .int .i64 s.op, .int .i64 s.en, .string s.ca.f0, .int .i64 s.ca.f1, .slice A5 s.pe.length k5, .slice A6 s.th.length k6, .int .i64 s.no], .agg #[.int .i64 t.st, .string t.ti, .int .i64 t.op, .int .i64 t.en, .string t.ca.f0, .int .i64 t.ca.f1, .slice B5 t.pe.length j5, .slice B6 t.th.length j6, .int .i64 t.no]] (by rfl) rfl rfl (by (try simp only [List.map_toArray, List.map_cons, List.map_nil]); first | done | rfl | (simp only [List.length_drop, List.length_take]; rfl)) ?_
  with_reducible refine (same_twoB s t b hbq.out A5 A6 B5 B6 k5 k6 j5 j6 _ (HS.out.pick 5 rfl).rowC.2.2 (HS.out.pick 5 rfl).rowC.2.1 (HS.out.pick 6 rfl).rowC.2.2 (HS.out.pick 6 rfl).rowC.2.1 (HS.out.pick 2 rfl).rowC.2.2 (HS.out.pick 2 rfl).rowC.2.1 (HS.out.pick 3 rfl).rowC.2.2 (HS.out.pick 3 rfl).rowC.2.1 (by have := hl1.out; omega) (by have := hl1.out; omega)).mono ?_
  rintro r_ wm ⟨rfl, hb⟩
  refine ⟨_, rfl, ?_⟩
  have n0_ := Aside0.mk (HS.out.step hb); have n1_ := Aside0.mk (below_step' HB.out HS.out.size hb); clear HS HB; have HS := n0_; have HB := n1_; clear n0_ n1_; (try simp only [List.eraseIdx_cons_succ, List.eraseIdx_cons_zero] at HS)
  clear hb
  refine hK.out _ _ ⟨((HS.out.pick 1 rfl).cell 0).trans rfl, ((HS.out.pick 1 rfl).cell 1).trans rfl, ((HS.out.pick 1 rfl).cell 2).trans rfl, ((HS.out.pick 1 rfl).cell 3).trans rfl, ((HS.out.pick 1 rfl).cell 4).trans rfl, ((HS.out.pick 1 rfl).cell 5).trans rfl, ((HS.out.pick 1 rfl).cell 6).trans rfl, ((HS.out.pick 1 rfl).cell 7).trans rfl, ((HS.out.pick 1 rfl).cell 8).trans rfl, ((HS.out.pick 0 rfl).cell 0).trans rfl, ((HS.out.pick 0 rfl).cell 1).trans rfl, ((HS.out.pick 0 rfl).cell 2).trans rfl, ((HS.out.pick 0 rfl).cell 3).trans rfl, ((HS.out.pick 0 rfl).cell 4).trans rfl, ((HS.out.pick 0 rfl).cell 5).trans rfl, ((HS.out.pick 0 rfl).cell 6).trans rfl, ((HS.out.pick 0 rfl).cell 7).trans rfl, ((HS.out.pick 0 rfl).cell 8).trans rfl⟩ (fun hHeld => ?_)
  clear hK K
  refine norm_ (a' := ?_) ?_ ?_
  rotate_left
  · show Act.put _ (some 24) _ = _
    simp only [Act.put, List.setIfInBounds_toArray, List.set_cons_zero, List.set_cons_succ, i64_w, i32_w]
    rfl
  refine pU 9 25 (tfs true [10, 7]).toArray rfl rfl HT_ ?_
  refine pU 10 26 (tfs true [11, 6]).toArray rfl rfl HT_ ?_
  refine pU 11 27 (tfs true [12, 5]).toArray rfl rfl HT_ ?_
  refine tK 12 28 (tfs true [13, 4]).toArray rfl rfl HT_ HW_ hHeld ?_ (by rintro w' ⟨s0, s1, s2, s3, s4, s5, s6, s7, s8, s9, s10, s11, s12, s13, s14, s15, s16, s17⟩; go_simp; with_reducible rfl)
  refine tK 13 29 (tfs true [14, 3]).toArray rfl rfl HT_ HW_ hHeld ?_ (by rintro w' ⟨s0, s1, s2, s3, s4, s5, s6, s7, s8, s9, s10, s11, s12, s13, s14, s15, s16, s17⟩; go_simp; with_reducible rfl)
  refine one_ (i := 14) (N := some 30) (tfs true [15, 2]).toArray rfl rfl (one_of HT_.out (by kernel_rfl)) (by decide) (fun K hK => ?_)
  refine goes_ Try.func23 (by kernel_rfl) rfl #[.agg #[.int .i64 s.st, .string s.ti, .int .i64 s.op, .int .i64 s.en, .string s.ca.f0, .int .i64 s.ca.f1, .slice A5 s.pe.length k5, .slice A6 s.th.length k6, .int .i64 s.no], .agg #[.int .i64 s.st, .string s.ti, .int .i64 s.op, .int .i64 s.en, .string s.ca.f0, .int .i64 s.ca.f1, .slice A5 s.pe.length k5, .slice A6 s.th.length k6, .int .i64 s.no]] (by rfl) rfl rfl (by (try simp only [List.map_toArray, List.map_cons, List.map_nil]); first | done | rfl | (simp only [List.length_drop, List.length_take]; rfl)) ?_
  with_reducible refine (equal_same s A5 A6 A5 A6 k5 k6 k5 k6 _ (HS.out.pick 5 rfl).rowC.2.2 (HS.out.pick 5 rfl).rowC.2.1 (HS.out.pick 6 rfl).rowC.2.2 (HS.out.pick 6 rfl).rowC.2.1 (HS.out.pick 5 rfl).rowC.2.2 (HS.out.pick 5 rfl).rowC.2.1 (HS.out.pick 6 rfl).rowC.2.2 (HS.out.pick 6 rfl).rowC.2.1 (by have := hl1.out; omega) (by have := hl1.out; omega)).mono ?_
  rintro r_ wn ⟨rfl, hb⟩
  refine ⟨_, rfl, ?_⟩
  have n0_ := Aside0.mk (HS.out.step hb); have n1_ := Aside0.mk (below_step' HB.out HS.out.size hb); clear HS HB; have HS := n0_; have HB := n1_; clear n0_ n1_; (try simp only [List.eraseIdx_cons_succ, List.eraseIdx_cons_zero] at HS)
  clear hb
  refine hK.out _ _ ⟨((HS.out.pick 1 rfl).cell 0).trans rfl, ((HS.out.pick 1 rfl).cell 1).trans rfl, ((HS.out.pick 1 rfl).cell 2).trans rfl, ((HS.out.pick 1 rfl).cell 3).trans rfl, ((HS.out.pick 1 rfl).cell 4).trans rfl, ((HS.out.pick 1 rfl).cell 5).trans rfl, ((HS.out.pick 1 rfl).cell 6).trans rfl, ((HS.out.pick 1 rfl).cell 7).trans rfl, ((HS.out.pick 1 rfl).cell 8).trans rfl, ((HS.out.pick 0 rfl).cell 0).trans rfl, ((HS.out.pick 0 rfl).cell 1).trans rfl, ((HS.out.pick 0 rfl).cell 2).trans rfl, ((HS.out.pick 0 rfl).cell 3).trans rfl, ((HS.out.pick 0 rfl).cell 4).trans rfl, ((HS.out.pick 0 rfl).cell 5).trans rfl, ((HS.out.pick 0 rfl).cell 6).trans rfl, ((HS.out.pick 0 rfl).cell 7).trans rfl, ((HS.out.pick 0 rfl).cell 8).trans rfl⟩ (fun hHeld => ?_)
  clear hK K
  refine norm_ (a' := ?_) ?_ ?_
  rotate_left
  · show Act.put _ (some 30) _ = _
    simp only [Act.put, List.setIfInBounds_toArray, List.set_cons_zero, List.set_cons_succ, i64_w, i32_w]
    rfl
  refine pU 15 31 (tfs true [16, 1]).toArray rfl rfl HT_ ?_
  refine pU 16 32 (tfs true [17]).toArray rfl rfl HT_ ?_
  refine done_ (done_of HT_.out (by kernel_rfl)) ?_
  clear HT_ HW_
  try clear hHeld
  clear nb1 nb2
  have HS1 := Aside0.mk ((((((HS.out.pick 0 rfl).drop.pick 1 rfl).drop.pick 1 rfl).drop.pick 1 rfl).drop.pick 3 rfl).drop)
  clear HS
  have HS := HS1
  clear HS1
  simp only [List.eraseIdx_cons_succ, List.eraseIdx_cons_zero] at HS
  have p0 : wn.cell? ⟨g, 0, none⟩ = some (.int .i64 s.st) := ((HS.out.pick 0 rfl).cell 0).trans rfl
  have p1 : wn.cell? ⟨g, 1, none⟩ = some (.string s.ti) := ((HS.out.pick 0 rfl).cell 1).trans rfl
  have p2 : wn.cell? ⟨g, 2, none⟩ = some (.int .i64 s.op) := ((HS.out.pick 0 rfl).cell 2).trans rfl
  have p3 : wn.cell? ⟨g, 3, none⟩ = some (.int .i64 s.en) := ((HS.out.pick 0 rfl).cell 3).trans rfl
  have p4 : wn.cell? ⟨g, 4, none⟩ = some (.string s.ca.f0) := ((HS.out.pick 0 rfl).cell 4).trans rfl
  have p5 : wn.cell? ⟨g, 5, none⟩ = some (.int .i64 s.ca.f1) := ((HS.out.pick 0 rfl).cell 5).trans rfl
  have p6 : wn.cell? ⟨g, 6, none⟩ = some (.slice A5 s.pe.length k5) := ((HS.out.pick 0 rfl).cell 6).trans rfl
  have p7 : wn.cell? ⟨g, 7, none⟩ = some (.slice A6 s.th.length k6) := ((HS.out.pick 0 rfl).cell 7).trans rfl
  have p8 : wn.cell? ⟨g, 8, none⟩ = some (.int .i64 s.no) := ((HS.out.pick 0 rfl).cell 8).trans rfl
  go_upto_region 5 with (fail)
  clear p0 p1 p2 p3 p4 p5 p6 p7 p8
  have hbx := HS.out.box (g := wn.heap.size) (cs := #[.int .i64 s.st, .string s.ti, .int .i64 s.op, .int .i64 s.en, .string s.ca.f0, .int .i64 s.ca.f1, .slice A5 s.pe.length k5, .slice A6 s.th.length k6, .int .i64 s.no]) (t := 40) rfl (new_cells wn _ _) ((Below.refl _ _).alloc (Nat.le_refl _) _)
  have hbb := below_step' HB.out HS.out.size ((Below.refl _ _).alloc (Nat.le_refl _) (.cells #[.int .i64 s.st, .string s.ti, .int .i64 s.op, .int .i64 s.en, .string s.ca.f0, .int .i64 s.ca.f1, .slice A5 s.pe.length k5, .slice A6 s.th.length k6, .int .i64 s.no] 40))
  generalize wn.heap.size = g9 at hbx ⊢
  generalize wn.alloc (.cells #[.int .i64 s.st, .string s.ti, .int .i64 s.op, .int .i64 s.en, .string s.ca.f0, .int .i64 s.ca.f1, .slice A5 s.pe.length k5, .slice A6 s.th.length k6, .int .i64 s.no] 40) = w9 at hbx hbb ⊢
  have n0_ := Aside0.mk (hbx); have n1_ := Aside0.mk (hbb); clear HS HB; have HS := n0_; have HB := n1_; clear n0_ n1_; (try simp only [List.eraseIdx_cons_succ, List.eraseIdx_cons_zero] at HS)
  clear hbx hbb
  go_cut [9] (fun v9 wc => v9 = .pointer (some ⟨g9, 0, none⟩) ∧ ∃ vCA vCc vDA vDc, Aside0 (St w.heap.size wc (Blk g9 #[.int .i64 s.st, .string s.ti, .int .i64 s.op, .int .i64 s.en, .string s.ca.f0, .int .i64 s.ca.f1, .slice vCA s.pe.length vCc, .slice vDA s.th.length vDc, .int .i64 s.no] 40 :: Blk g #[.int .i64 s.st, .string s.ti, .int .i64 s.op, .int .i64 s.en, .string s.ca.f0, .int .i64 s.ca.f1, .slice A5 s.pe.length k5, .slice A6 s.th.length k6, .int .i64 s.no] 40 :: Row k49 49 (.slice vCA s.pe.length vCc) s.pe :: Row k51 51 (.slice vDA s.th.length vDc) s.th :: Row k49 49 (.slice A5 s.pe.length k5) s.pe :: Row k51 51 (.slice A6 s.th.length k6) s.th :: [])) ∧ Aside0 (Below w.heap.size w wc))
  case first =>
    have n0_ := Aside0.mk (HS.out.drew); have n1_ := Aside0.mk (HB.out.drew); clear HS HB; have HS := n0_; have HB := n1_; clear n0_ n1_
    refine start_ (n := 12) (S := fun w' => w'.cell? ⟨g, 6, none⟩ = some (.slice A5 s.pe.length k5) ∧ w'.cell? ⟨g, 7, none⟩ = some (.slice A6 s.th.length k6)) (ds := [9, 11]) (tfs true [0, 12]).toArray (by kernel_rfl) rfl rfl ⟨((HS.out.pick 1 rfl).cell 6).trans rfl, ((HS.out.pick 1 rfl).cell 7).trans rfl⟩ (fun hHeld => ?_); refine with_tabW stt.tab5 stt.bits5 (fun HT_ HW_ => ?_)
    generalize w9.drew = w10 at HS HB hHeld ⊢
    refine pU 1 35 (tfs true [0, 1, 1, 10]).toArray rfl rfl HT_ ?_
    refine pU 5 39 (tfs true [0, 1, 1, 3, 1, 6]).toArray rfl rfl HT_ ?_
    refine tK 2 36 (tfs true [0, 1, 2, 2, 1, 6]).toArray rfl rfl HT_ HW_ hHeld ?_ (by rintro w' ⟨s0, s1⟩; go_simp; with_reducible rfl)
    refine tK 6 40 (tfs true [0, 1, 2, 2, 2, 5]).toArray rfl rfl HT_ HW_ hHeld ?_ (by rintro w' ⟨s0, s1⟩; go_simp; with_reducible rfl)
    refine two_ (i := 0) (j := 4) (Ni := some 34) (Nj := some 38) (tfs true [3, 2, 2, 5]).toArray (tfs true [0, 1, 2, 1, 3, 5]).toArray rfl rfl rfl rfl (two_of HT_.out (by kernel_rfl)) (by decide) (by decide) (fun K hK => ?_) (fun K hK => ?_)
    ·
      refine S_lit_step k49 49 (by rfl) (Nt := 34) rfl (xs := ([] : List S49)) (inner := ([] : List Value)) (by first | (go_simp; done) | (go_simp; rfl)) (Reps.none _ _) HS.out (by simp) ?_
      intro u34 wq hs hb
      have n0_ := Aside0.mk (((((hs.pick 4 rfl).pick 4 rfl).pick 4 rfl).pick 4 rfl)); have n1_ := Aside0.mk (below_step' HB.out HS.out.size hb); clear HS HB; have HS := n0_; have HB := n1_; clear n0_ n1_; (try simp only [List.eraseIdx_cons_succ, List.eraseIdx_cons_zero] at HS)
      clear hs hb
      refine hK.out _ _ ⟨((HS.out.pick 1 rfl).cell 6).trans rfl, ((HS.out.pick 1 rfl).cell 7).trans rfl⟩ (fun hHeld => ?_)
      clear hK K
      refine norm_ (a' := ?_) ?_ ?_
      rotate_left
      · show Act.put _ (some 34) _ = _
        simp only [Act.put, List.setIfInBounds_toArray, List.set_cons_zero, List.set_cons_succ, i64_w, i32_w]
        rfl
      refine two_ (i := 3) (j := 4) (Ni := some 37) (Nj := some 38) (tfs true [4, 1, 2, 5]).toArray (tfs true [3, 1, 3, 5]).toArray rfl rfl rfl rfl (two_of HT_.out (by kernel_rfl)) (by decide) (by decide) (fun K hK => ?_) (fun K hK => ?_)
      ·
        refine S_append_rows_step k49 (by rfl) (.tmp 34) (.tmp 36) 37 49 (.agg #[(.string ⟨#[]⟩), (.int .i64 0)]) 24 rfl Try.underlying37 info49 rfl (by decide) (by omega) u34 [] s.pe A5 s.pe.length k5 rfl rfl (fun x cs h => by rw [flatP.K h]; exact k49_mkM _ _ _ x) (HS.out.pick 4 rfl) (HS.out.pick 2 rfl).rowC.2.2 HB.out (by have := hl1.out; simp; omega) ?_
        intro vC wq hs hb
        rw [List.nil_append] at hs
        have n0_ := Aside0.mk (((((hs.pick 4 rfl).pick 4 rfl).pick 4 rfl).pick 4 rfl)); have n1_ := Aside0.mk (hb); clear HS HB; have HS := n0_; have HB := n1_; clear n0_ n1_; (try simp only [List.eraseIdx_cons_succ, List.eraseIdx_cons_zero] at HS)
        clear hs hb
        obtain ⟨vCA, vCc, vCe, _, _⟩ := (HS.out.pick 4 rfl).reads
        subst vCe
        refine hK.out _ _ ⟨((HS.out.pick 1 rfl).cell 6).trans rfl, ((HS.out.pick 1 rfl).cell 7).trans rfl⟩ (fun hHeld => ?_)
        clear hK K
        refine norm_ (a' := ?_) ?_ ?_
        rotate_left
        · show Act.put _ (some 37) _ = _
          simp only [Act.put, List.setIfInBounds_toArray, List.set_cons_zero, List.set_cons_succ, i64_w, i32_w]
          rfl
        refine pU 8 42 (tfs true [4, 1, 2, 1, 1, 3]).toArray rfl rfl HT_ ?_
        refine one_ (i := 4) (N := some 38) (tfs true [7, 1, 1, 3]).toArray rfl rfl (one_of HT_.out (by kernel_rfl)) (by decide) (fun K hK => ?_)
        refine S_lit_step k51 51 (by rfl) (Nt := 38) rfl (xs := ([] : List S51)) (inner := ([] : List Value)) (by first | (go_simp; done) | (go_simp; rfl)) (Reps.none _ _) HS.out (by simp) ?_
        intro u38 wq hs hb
        have n0_ := Aside0.mk ((((((hs.pick 5 rfl).pick 5 rfl).pick 5 rfl).pick 5 rfl).pick 5 rfl)); have n1_ := Aside0.mk (below_step' HB.out HS.out.size hb); clear HS HB; have HS := n0_; have HB := n1_; clear n0_ n1_; (try simp only [List.eraseIdx_cons_succ, List.eraseIdx_cons_zero] at HS)
        clear hs hb
        refine hK.out _ _ ⟨((HS.out.pick 1 rfl).cell 6).trans rfl, ((HS.out.pick 1 rfl).cell 7).trans rfl⟩ (fun hHeld => ?_)
        clear hK K
        refine norm_ (a' := ?_) ?_ ?_
        rotate_left
        · show Act.put _ (some 38) _ = _
          simp only [Act.put, List.setIfInBounds_toArray, List.set_cons_zero, List.set_cons_succ, i64_w, i32_w]
          rfl
        refine one_ (i := 7) (N := some 41) (tfs true [9, 3]).toArray rfl rfl (one_of HT_.out (by kernel_rfl)) (by decide) (fun K hK => ?_)
        refine S_append_rows_step k51 (by rfl) (.tmp 38) (.tmp 40) 38 51 (.agg #[(.string ⟨#[]⟩), (.int .i64 0), (.string ⟨#[]⟩), (.int .i64 0)]) 48 rfl Try.underlying38 info51 rfl (by decide) (by omega) u38 [] s.th A6 s.th.length k6 rfl rfl (fun x cs h => by rw [flatT.K h]; exact k51_mkM _ _ _ x) (HS.out.pick 5 rfl) (HS.out.pick 3 rfl).rowC.2.2 HB.out (by have := hl1.out; simp; omega) ?_
        intro vD wq hs hb
        rw [List.nil_append] at hs
        have n0_ := Aside0.mk ((((((hs.pick 5 rfl).pick 5 rfl).pick 5 rfl).pick 5 rfl).pick 5 rfl)); have n1_ := Aside0.mk (hb); clear HS HB; have HS := n0_; have HB := n1_; clear n0_ n1_; (try simp only [List.eraseIdx_cons_succ, List.eraseIdx_cons_zero] at HS)
        clear hs hb
        obtain ⟨vDA, vDc, vDe, _, _⟩ := (HS.out.pick 5 rfl).reads
        subst vDe
        refine hK.out _ _ ⟨((HS.out.pick 1 rfl).cell 6).trans rfl, ((HS.out.pick 1 rfl).cell 7).trans rfl⟩ (fun hHeld => ?_)
        clear hK K
        refine norm_ (a' := ?_) ?_ ?_
        rotate_left
        · show Act.put _ (some 41) _ = _
          simp only [Act.put, List.setIfInBounds_toArray, List.set_cons_zero, List.set_cons_succ, i64_w, i32_w]
          rfl
        refine last_ (i := 9) (N := none) (tfs true [10, 2]).toArray rfl rfl (one_of HT_.out (by kernel_rfl)) (by decide) (fun K hK => ?_)
        have qc := ((HS.out.pick 0 rfl).cell 6).trans (show _ = some (.slice A5 s.pe.length k5) from rfl)
        have qf := (HS.out.pick 0 rfl).frozen 6
        refine skip_ (w1 := ?_) (by rfl) rfl ?_ ?_
        rotate_left
        · go_simp
          rfl
        clear qc qf
        have n0_ := Aside0.mk (HS.out.set 6 (.slice vCA s.pe.length vCc) #[.int .i64 s.st, .string s.ti, .int .i64 s.op, .int .i64 s.en, .string s.ca.f0, .int .i64 s.ca.f1, .slice vCA s.pe.length vCc, .slice A6 s.th.length k6, .int .i64 s.no] rfl); have n1_ := Aside0.mk (HS.out.below_set (i := 6) (u := .slice vCA s.pe.length vCc) HB.out); clear HS HB; have HS := n0_; have HB := n1_; clear n0_ n1_; (try simp only [List.eraseIdx_cons_succ, List.eraseIdx_cons_zero] at HS)
        generalize World.setCell _ _ _ = wq at HS HB ⊢
        refine hK.out _ _ ?_
        clear hK K
        refine pU 10 43 (tfs true [11, 1]).toArray rfl rfl HT_ ?_
        refine last_ (i := 11) (N := none) (tfs true [12]).toArray rfl rfl (one_of HT_.out (by kernel_rfl)) (by decide) (fun K hK => ?_)
        have qc := ((HS.out.pick 0 rfl).cell 7).trans (show _ = some (.slice A6 s.th.length k6) from rfl)
        have qf := (HS.out.pick 0 rfl).frozen 7
        refine skip_ (w1 := ?_) (by rfl) rfl ?_ ?_
        rotate_left
        · go_simp
          rfl
        clear qc qf
        have n0_ := Aside0.mk (HS.out.set 7 (.slice vDA s.th.length vDc) #[.int .i64 s.st, .string s.ti, .int .i64 s.op, .int .i64 s.en, .string s.ca.f0, .int .i64 s.ca.f1, .slice vCA s.pe.length vCc, .slice vDA s.th.length vDc, .int .i64 s.no] rfl); have n1_ := Aside0.mk (HS.out.below_set (i := 7) (u := .slice vDA s.th.length vDc) HB.out); clear HS HB; have HS := n0_; have HB := n1_; clear n0_ n1_; (try simp only [List.eraseIdx_cons_succ, List.eraseIdx_cons_zero] at HS)
        generalize World.setCell _ _ _ = wq at HS HB ⊢
        refine hK.out _ _ ?_
        clear hK K
        refine done_ (done_of HT_.out (by kernel_rfl)) ?_
        clear HT_ HW_
        try clear hHeld
        go_wp2
        go_meet
        case rel => exact ⟨rfl, vCA, vCc, vDA, vDc, ⟨((((((HS.out.pick 3 rfl).pick 3 rfl).pick 5 rfl).pick 5 rfl).pick 5 rfl).pick 5 rfl)⟩, HB⟩
      ·
        refine S_lit_step k51 51 (by rfl) (Nt := 38) rfl (xs := ([] : List S51)) (inner := ([] : List Value)) (by first | (go_simp; done) | (go_simp; rfl)) (Reps.none _ _) HS.out (by simp) ?_
        intro u38 wq hs hb
        have n0_ := Aside0.mk ((((((hs.pick 5 rfl).pick 5 rfl).pick 5 rfl).pick 5 rfl).pick 5 rfl)); have n1_ := Aside0.mk (below_step' HB.out HS.out.size hb); clear HS HB; have HS := n0_; have HB := n1_; clear n0_ n1_; (try simp only [List.eraseIdx_cons_succ, List.eraseIdx_cons_zero] at HS)
        clear hs hb
        refine hK.out _ _ ⟨((HS.out.pick 1 rfl).cell 6).trans rfl, ((HS.out.pick 1 rfl).cell 7).trans rfl⟩ (fun hHeld => ?_)
        clear hK K
        refine norm_ (a' := ?_) ?_ ?_
        rotate_left
        · show Act.put _ (some 38) _ = _
          simp only [Act.put, List.setIfInBounds_toArray, List.set_cons_zero, List.set_cons_succ, i64_w, i32_w]
          rfl
        refine one_ (i := 3) (N := some 37) (tfs true [7, 5]).toArray rfl rfl (one_of HT_.out (by kernel_rfl)) (by decide) (fun K hK => ?_)
        refine S_append_rows_step k49 (by rfl) (.tmp 34) (.tmp 36) 37 49 (.agg #[(.string ⟨#[]⟩), (.int .i64 0)]) 24 rfl Try.underlying37 info49 rfl (by decide) (by omega) u34 [] s.pe A5 s.pe.length k5 rfl rfl (fun x cs h => by rw [flatP.K h]; exact k49_mkM _ _ _ x) (HS.out.pick 4 rfl) (HS.out.pick 2 rfl).rowC.2.2 HB.out (by have := hl1.out; simp; omega) ?_
        intro vC wq hs hb
        rw [List.nil_append] at hs
        have n0_ := Aside0.mk ((((((hs.pick 5 rfl).pick 5 rfl).pick 5 rfl).pick 5 rfl).pick 5 rfl)); have n1_ := Aside0.mk (hb); clear HS HB; have HS := n0_; have HB := n1_; clear n0_ n1_; (try simp only [List.eraseIdx_cons_succ, List.eraseIdx_cons_zero] at HS)
        clear hs hb
        obtain ⟨vCA, vCc, vCe, _, _⟩ := (HS.out.pick 5 rfl).reads
        subst vCe
        refine hK.out _ _ ⟨((HS.out.pick 1 rfl).cell 6).trans rfl, ((HS.out.pick 1 rfl).cell 7).trans rfl⟩ (fun hHeld => ?_)
        clear hK K
        refine norm_ (a' := ?_) ?_ ?_
        rotate_left
        · show Act.put _ (some 37) _ = _
          simp only [Act.put, List.setIfInBounds_toArray, List.set_cons_zero, List.set_cons_succ, i64_w, i32_w]
          rfl
        refine pU 8 42 (tfs true [7, 1, 1, 3]).toArray rfl rfl HT_ ?_
        refine one_ (i := 7) (N := some 41) (tfs true [9, 3]).toArray rfl rfl (one_of HT_.out (by kernel_rfl)) (by decide) (fun K hK => ?_)
        refine S_append_rows_step k51 (by rfl) (.tmp 38) (.tmp 40) 38 51 (.agg #[(.string ⟨#[]⟩), (.int .i64 0), (.string ⟨#[]⟩), (.int .i64 0)]) 48 rfl Try.underlying38 info51 rfl (by decide) (by omega) u38 [] s.th A6 s.th.length k6 rfl rfl (fun x cs h => by rw [flatT.K h]; exact k51_mkM _ _ _ x) (HS.out.pick 4 rfl) (HS.out.pick 3 rfl).rowC.2.2 HB.out (by have := hl1.out; simp; omega) ?_
        intro vD wq hs hb
        rw [List.nil_append] at hs
        have n0_ := Aside0.mk ((((((hs.pick 5 rfl).pick 5 rfl).pick 5 rfl).pick 5 rfl).pick 5 rfl)); have n1_ := Aside0.mk (hb); clear HS HB; have HS := n0_; have HB := n1_; clear n0_ n1_; (try simp only [List.eraseIdx_cons_succ, List.eraseIdx_cons_zero] at HS)
        clear hs hb
        obtain ⟨vDA, vDc, vDe, _, _⟩ := (HS.out.pick 5 rfl).reads
        subst vDe
        refine hK.out _ _ ⟨((HS.out.pick 1 rfl).cell 6).trans rfl, ((HS.out.pick 1 rfl).cell 7).trans rfl⟩ (fun hHeld => ?_)
        clear hK K
        refine norm_ (a' := ?_) ?_ ?_
        rotate_left
        · show Act.put _ (some 41) _ = _
          simp only [Act.put, List.setIfInBounds_toArray, List.set_cons_zero, List.set_cons_succ, i64_w, i32_w]
          rfl
        refine last_ (i := 9) (N := none) (tfs true [10, 2]).toArray rfl rfl (one_of HT_.out (by kernel_rfl)) (by decide) (fun K hK => ?_)
        have qc := ((HS.out.pick 0 rfl).cell 6).trans (show _ = some (.slice A5 s.pe.length k5) from rfl)
        have qf := (HS.out.pick 0 rfl).frozen 6
        refine skip_ (w1 := ?_) (by rfl) rfl ?_ ?_
        rotate_left
        · go_simp
          rfl
        clear qc qf
        have n0_ := Aside0.mk (HS.out.set 6 (.slice vCA s.pe.length vCc) #[.int .i64 s.st, .string s.ti, .int .i64 s.op, .int .i64 s.en, .string s.ca.f0, .int .i64 s.ca.f1, .slice vCA s.pe.length vCc, .slice A6 s.th.length k6, .int .i64 s.no] rfl); have n1_ := Aside0.mk (HS.out.below_set (i := 6) (u := .slice vCA s.pe.length vCc) HB.out); clear HS HB; have HS := n0_; have HB := n1_; clear n0_ n1_; (try simp only [List.eraseIdx_cons_succ, List.eraseIdx_cons_zero] at HS)
        generalize World.setCell _ _ _ = wq at HS HB ⊢
        refine hK.out _ _ ?_
        clear hK K
        refine pU 10 43 (tfs true [11, 1]).toArray rfl rfl HT_ ?_
        refine last_ (i := 11) (N := none) (tfs true [12]).toArray rfl rfl (one_of HT_.out (by kernel_rfl)) (by decide) (fun K hK => ?_)
        have qc := ((HS.out.pick 0 rfl).cell 7).trans (show _ = some (.slice A6 s.th.length k6) from rfl)
        have qf := (HS.out.pick 0 rfl).frozen 7
        refine skip_ (w1 := ?_) (by rfl) rfl ?_ ?_
        rotate_left
        · go_simp
          rfl
        clear qc qf
        have n0_ := Aside0.mk (HS.out.set 7 (.slice vDA s.th.length vDc) #[.int .i64 s.st, .string s.ti, .int .i64 s.op, .int .i64 s.en, .string s.ca.f0, .int .i64 s.ca.f1, .slice vCA s.pe.length vCc, .slice vDA s.th.length vDc, .int .i64 s.no] rfl); have n1_ := Aside0.mk (HS.out.below_set (i := 7) (u := .slice vDA s.th.length vDc) HB.out); clear HS HB; have HS := n0_; have HB := n1_; clear n0_ n1_; (try simp only [List.eraseIdx_cons_succ, List.eraseIdx_cons_zero] at HS)
        generalize World.setCell _ _ _ = wq at HS HB ⊢
        refine hK.out _ _ ?_
        clear hK K
        refine done_ (done_of HT_.out (by kernel_rfl)) ?_
        clear HT_ HW_
        try clear hHeld
        go_wp2
        go_meet
        case rel => exact ⟨rfl, vCA, vCc, vDA, vDc, ⟨((((((HS.out.pick 3 rfl).pick 3 rfl).pick 5 rfl).pick 5 rfl).pick 5 rfl).pick 5 rfl)⟩, HB⟩
    ·
      refine S_lit_step k51 51 (by rfl) (Nt := 38) rfl (xs := ([] : List S51)) (inner := ([] : List Value)) (by first | (go_simp; done) | (go_simp; rfl)) (Reps.none _ _) HS.out (by simp) ?_
      intro u38 wq hs hb
      have n0_ := Aside0.mk (((((hs.pick 4 rfl).pick 4 rfl).pick 4 rfl).pick 4 rfl)); have n1_ := Aside0.mk (below_step' HB.out HS.out.size hb); clear HS HB; have HS := n0_; have HB := n1_; clear n0_ n1_; (try simp only [List.eraseIdx_cons_succ, List.eraseIdx_cons_zero] at HS)
      clear hs hb
      refine hK.out _ _ ⟨((HS.out.pick 1 rfl).cell 6).trans rfl, ((HS.out.pick 1 rfl).cell 7).trans rfl⟩ (fun hHeld => ?_)
      clear hK K
      refine norm_ (a' := ?_) ?_ ?_
      rotate_left
      · show Act.put _ (some 38) _ = _
        simp only [Act.put, List.setIfInBounds_toArray, List.set_cons_zero, List.set_cons_succ, i64_w, i32_w]
        rfl
      refine one_ (i := 0) (N := some 34) (tfs true [3, 1, 3, 5]).toArray rfl rfl (one_of HT_.out (by kernel_rfl)) (by decide) (fun K hK => ?_)
      refine S_lit_step k49 49 (by rfl) (Nt := 34) rfl (xs := ([] : List S49)) (inner := ([] : List Value)) (by first | (go_simp; done) | (go_simp; rfl)) (Reps.none _ _) HS.out (by simp) ?_
      intro u34 wq hs hb
      have n0_ := Aside0.mk ((((((hs.pick 5 rfl).pick 5 rfl).pick 5 rfl).pick 5 rfl).pick 5 rfl)); have n1_ := Aside0.mk (below_step' HB.out HS.out.size hb); clear HS HB; have HS := n0_; have HB := n1_; clear n0_ n1_; (try simp only [List.eraseIdx_cons_succ, List.eraseIdx_cons_zero] at HS)
      clear hs hb
      refine hK.out _ _ ⟨((HS.out.pick 1 rfl).cell 6).trans rfl, ((HS.out.pick 1 rfl).cell 7).trans rfl⟩ (fun hHeld => ?_)
      clear hK K
      refine norm_ (a' := ?_) ?_ ?_
      rotate_left
      · show Act.put _ (some 34) _ = _
        simp only [Act.put, List.setIfInBounds_toArray, List.set_cons_zero, List.set_cons_succ, i64_w, i32_w]
        rfl
      refine one_ (i := 3) (N := some 37) (tfs true [7, 5]).toArray rfl rfl (one_of HT_.out (by kernel_rfl)) (by decide) (fun K hK => ?_)
      refine S_append_rows_step k49 (by rfl) (.tmp 34) (.tmp 36) 37 49 (.agg #[(.string ⟨#[]⟩), (.int .i64 0)]) 24 rfl Try.underlying37 info49 rfl (by decide) (by omega) u34 [] s.pe A5 s.pe.length k5 rfl rfl (fun x cs h => by rw [flatP.K h]; exact k49_mkM _ _ _ x) (HS.out.pick 5 rfl) (HS.out.pick 2 rfl).rowC.2.2 HB.out (by have := hl1.out; simp; omega) ?_
      intro vC wq hs hb
      rw [List.nil_append] at hs
      have n0_ := Aside0.mk ((((((hs.pick 5 rfl).pick 5 rfl).pick 5 rfl).pick 5 rfl).pick 5 rfl)); have n1_ := Aside0.mk (hb); clear HS HB; have HS := n0_; have HB := n1_; clear n0_ n1_; (try simp only [List.eraseIdx_cons_succ, List.eraseIdx_cons_zero] at HS)
      clear hs hb
      obtain ⟨vCA, vCc, vCe, _, _⟩ := (HS.out.pick 5 rfl).reads
      subst vCe
      refine hK.out _ _ ⟨((HS.out.pick 1 rfl).cell 6).trans rfl, ((HS.out.pick 1 rfl).cell 7).trans rfl⟩ (fun hHeld => ?_)
      clear hK K
      refine norm_ (a' := ?_) ?_ ?_
      rotate_left
      · show Act.put _ (some 37) _ = _
        simp only [Act.put, List.setIfInBounds_toArray, List.set_cons_zero, List.set_cons_succ, i64_w, i32_w]
        rfl
      refine pU 8 42 (tfs true [7, 1, 1, 3]).toArray rfl rfl HT_ ?_
      refine one_ (i := 7) (N := some 41) (tfs true [9, 3]).toArray rfl rfl (one_of HT_.out (by kernel_rfl)) (by decide) (fun K hK => ?_)
      refine S_append_rows_step k51 (by rfl) (.tmp 38) (.tmp 40) 38 51 (.agg #[(.string ⟨#[]⟩), (.int .i64 0), (.string ⟨#[]⟩), (.int .i64 0)]) 48 rfl Try.underlying38 info51 rfl (by decide) (by omega) u38 [] s.th A6 s.th.length k6 rfl rfl (fun x cs h => by rw [flatT.K h]; exact k51_mkM _ _ _ x) (HS.out.pick 4 rfl) (HS.out.pick 3 rfl).rowC.2.2 HB.out (by have := hl1.out; simp; omega) ?_
      intro vD wq hs hb
      rw [List.nil_append] at hs
      have n0_ := Aside0.mk ((((((hs.pick 5 rfl).pick 5 rfl).pick 5 rfl).pick 5 rfl).pick 5 rfl)); have n1_ := Aside0.mk (hb); clear HS HB; have HS := n0_; have HB := n1_; clear n0_ n1_; (try simp only [List.eraseIdx_cons_succ, List.eraseIdx_cons_zero] at HS)
      clear hs hb
      obtain ⟨vDA, vDc, vDe, _, _⟩ := (HS.out.pick 5 rfl).reads
      subst vDe
      refine hK.out _ _ ⟨((HS.out.pick 1 rfl).cell 6).trans rfl, ((HS.out.pick 1 rfl).cell 7).trans rfl⟩ (fun hHeld => ?_)
      clear hK K
      refine norm_ (a' := ?_) ?_ ?_
      rotate_left
      · show Act.put _ (some 41) _ = _
        simp only [Act.put, List.setIfInBounds_toArray, List.set_cons_zero, List.set_cons_succ, i64_w, i32_w]
        rfl
      refine last_ (i := 9) (N := none) (tfs true [10, 2]).toArray rfl rfl (one_of HT_.out (by kernel_rfl)) (by decide) (fun K hK => ?_)
      have qc := ((HS.out.pick 0 rfl).cell 6).trans (show _ = some (.slice A5 s.pe.length k5) from rfl)
      have qf := (HS.out.pick 0 rfl).frozen 6
      refine skip_ (w1 := ?_) (by rfl) rfl ?_ ?_
      rotate_left
      · go_simp
        rfl
      clear qc qf
      have n0_ := Aside0.mk (HS.out.set 6 (.slice vCA s.pe.length vCc) #[.int .i64 s.st, .string s.ti, .int .i64 s.op, .int .i64 s.en, .string s.ca.f0, .int .i64 s.ca.f1, .slice vCA s.pe.length vCc, .slice A6 s.th.length k6, .int .i64 s.no] rfl); have n1_ := Aside0.mk (HS.out.below_set (i := 6) (u := .slice vCA s.pe.length vCc) HB.out); clear HS HB; have HS := n0_; have HB := n1_; clear n0_ n1_; (try simp only [List.eraseIdx_cons_succ, List.eraseIdx_cons_zero] at HS)
      generalize World.setCell _ _ _ = wq at HS HB ⊢
      refine hK.out _ _ ?_
      clear hK K
      refine pU 10 43 (tfs true [11, 1]).toArray rfl rfl HT_ ?_
      refine last_ (i := 11) (N := none) (tfs true [12]).toArray rfl rfl (one_of HT_.out (by kernel_rfl)) (by decide) (fun K hK => ?_)
      have qc := ((HS.out.pick 0 rfl).cell 7).trans (show _ = some (.slice A6 s.th.length k6) from rfl)
      have qf := (HS.out.pick 0 rfl).frozen 7
      refine skip_ (w1 := ?_) (by rfl) rfl ?_ ?_
      rotate_left
      · go_simp
        rfl
      clear qc qf
      have n0_ := Aside0.mk (HS.out.set 7 (.slice vDA s.th.length vDc) #[.int .i64 s.st, .string s.ti, .int .i64 s.op, .int .i64 s.en, .string s.ca.f0, .int .i64 s.ca.f1, .slice vCA s.pe.length vCc, .slice vDA s.th.length vDc, .int .i64 s.no] rfl); have n1_ := Aside0.mk (HS.out.below_set (i := 7) (u := .slice vDA s.th.length vDc) HB.out); clear HS HB; have HS := n0_; have HB := n1_; clear n0_ n1_; (try simp only [List.eraseIdx_cons_succ, List.eraseIdx_cons_zero] at HS)
      generalize World.setCell _ _ _ = wq at HS HB ⊢
      refine hK.out _ _ ?_
      clear hK K
      refine done_ (done_of HT_.out (by kernel_rfl)) ?_
      clear HT_ HW_
      try clear hHeld
      go_wp2
      go_meet
      case rel => exact ⟨rfl, vCA, vCc, vDA, vDc, ⟨((((((HS.out.pick 3 rfl).pick 3 rfl).pick 5 rfl).pick 5 rfl).pick 5 rfl).pick 5 rfl)⟩, HB⟩
  case rest =>
    clear HS HB
    obtain ⟨rfl, vCA, vCc, vDA, vDc, HS, HB⟩ := hcut
    obtain ⟨n, tn, hn, zn⟩ := tmod_lt ch hch.out 9 (by decide)
    have hk : n = 0 ∨ n = 1 ∨ n = 2 ∨ n = 3 ∨ n = 4 ∨ n = 5 ∨ n = 6 ∨ n = 7 ∨ n = 8 := by omega
    clear hn zn
    rcases hk with hk | hk | hk | hk | hk | hk | hk | hk | hk
    · have tk : ch.tmod 9 = (0 : Int) := by rw [show ch.tmod 9 = (n : Int) from tn, hk]; rfl
      clear tn hk
      obtain ⟨y, hy0⟩ : ∃ y, IntKind.i64.wrap (s.st + 1) = y := ⟨_, rfl⟩
      have hy : wrap64 (s.st + 1) = y := by rw [← hy0, i64_w]
      have hny : ¬ s.st = y := fun h => wrap_ne (s.st) (h.trans hy0.symm)
      replace hny := Aside0.mk hny
      have hne := Aside0.mk (show ¬ s = { s with st := y } from fun e => hny.out (congrArg PS.st e))
      have c0 : wc.cell? ⟨g9, 0, none⟩ = some (.int .i64 s.st) := ((HS.out.pick 0 rfl).cell 0).trans rfl
      have f0 := (HS.out.pick 0 rfl).frozen 0
      go_upto_region 24 with (fail)
      have h9 := HS.out.set 0 (.int .i64 y) #[.int .i64 y, .string s.ti, .int .i64 s.op, .int .i64 s.en, .string s.ca.f0, .int .i64 s.ca.f1, .slice vCA s.pe.length vCc, .slice vDA s.th.length vDc, .int .i64 s.no] rfl
      have h8 := HS.out.below_set (i := 0) (u := .int .i64 y) HB.out
      generalize World.setCell _ _ _ = w11 at h9 h8 ⊢
      clear c0 f0
      have n0_ := Aside0.mk (h9); have n1_ := Aside0.mk (h8); clear HS HB; have HS := n0_; have HB := n1_; clear n0_ n1_; (try simp only [List.eraseIdx_cons_succ, List.eraseIdx_cons_zero] at HS)
      clear h9 h8
      have c0 : w11.cell? ⟨g9, 0, none⟩ = some (.int .i64 y) := ((HS.out.pick 0 rfl).cell 0).trans rfl
      have c1 : w11.cell? ⟨g9, 1, none⟩ = some (.string s.ti) := ((HS.out.pick 0 rfl).cell 1).trans rfl
      have c2 : w11.cell? ⟨g9, 2, none⟩ = some (.int .i64 s.op) := ((HS.out.pick 0 rfl).cell 2).trans rfl
      have c3 : w11.cell? ⟨g9, 3, none⟩ = some (.int .i64 s.en) := ((HS.out.pick 0 rfl).cell 3).trans rfl
      have c4 : w11.cell? ⟨g9, 4, none⟩ = some (.string s.ca.f0) := ((HS.out.pick 0 rfl).cell 4).trans rfl
      have c5 : w11.cell? ⟨g9, 5, none⟩ = some (.int .i64 s.ca.f1) := ((HS.out.pick 0 rfl).cell 5).trans rfl
      have c6 : w11.cell? ⟨g9, 6, none⟩ = some (.slice vCA s.pe.length vCc) := ((HS.out.pick 0 rfl).cell 6).trans rfl
      have c7 : w11.cell? ⟨g9, 7, none⟩ = some (.slice vDA s.th.length vDc) := ((HS.out.pick 0 rfl).cell 7).trans rfl
      have c8 : w11.cell? ⟨g9, 8, none⟩ = some (.int .i64 s.no) := ((HS.out.pick 0 rfl).cell 8).trans rfl
      have d0 : w11.cell? ⟨g, 0, none⟩ = some (.int .i64 s.st) := ((HS.out.pick 1 rfl).cell 0).trans rfl
      have d1 : w11.cell? ⟨g, 1, none⟩ = some (.string s.ti) := ((HS.out.pick 1 rfl).cell 1).trans rfl
      have d2 : w11.cell? ⟨g, 2, none⟩ = some (.int .i64 s.op) := ((HS.out.pick 1 rfl).cell 2).trans rfl
      have d3 : w11.cell? ⟨g, 3, none⟩ = some (.int .i64 s.en) := ((HS.out.pick 1 rfl).cell 3).trans rfl
      have d4 : w11.cell? ⟨g, 4, none⟩ = some (.string s.ca.f0) := ((HS.out.pick 1 rfl).cell 4).trans rfl
      have d5 : w11.cell? ⟨g, 5, none⟩ = some (.int .i64 s.ca.f1) := ((HS.out.pick 1 rfl).cell 5).trans rfl
      have d6 : w11.cell? ⟨g, 6, none⟩ = some (.slice A5 s.pe.length k5) := ((HS.out.pick 1 rfl).cell 6).trans rfl
      have d7 : w11.cell? ⟨g, 7, none⟩ = some (.slice A6 s.th.length k6) := ((HS.out.pick 1 rfl).cell 7).trans rfl
      have d8 : w11.cell? ⟨g, 8, none⟩ = some (.int .i64 s.no) := ((HS.out.pick 1 rfl).cell 8).trans rfl
      go_wp2_with (first | (go_at_call 23; refine (equal_twoB s { s with st := y } false (decide_eq_false hne.out) A5 A6 vCA vDA k5 k6 vCc vDc _ (HS.out.pick 4 rfl).rowC.2.2 (HS.out.pick 4 rfl).rowC.2.1 (HS.out.pick 5 rfl).rowC.2.2 (HS.out.pick 5 rfl).rowC.2.1 (HS.out.pick 2 rfl).rowC.2.2 (HS.out.pick 2 rfl).rowC.2.1 (HS.out.pick 3 rfl).rowC.2.2 (HS.out.pick 3 rfl).rowC.2.1 (by have := hl1.out; omega) (by have := hl1.out; omega)).mono ?_; rintro r_ wz ⟨rfl, hb⟩; have n0_ := Aside0.mk (HS.out.step hb); have n1_ := Aside0.mk (below_step' HB.out HS.out.size hb); clear HS HB; have HS := n0_; have HB := n1_; clear n0_ n1_; (try simp only [List.eraseIdx_cons_succ, List.eraseIdx_cons_zero] at HS); clear hb))
      go_ret
      exact ⟨rfl, HB.out⟩
    · have tk : ch.tmod 9 = (1 : Int) := by rw [show ch.tmod 9 = (n : Int) from tn, hk]; rfl
      clear tn hk
      have hts : (9223372036854775807 < s.ti.size + 1) = False := eq_false (by have := hti.out; omega)
      have hne := Aside0.mk (show ¬ s = { s with ti := s.ti ++ ⟨#[46]⟩ } from fun e => ti_ne s.ti (congrArg PS.ti e))
      have c1 : wc.cell? ⟨g9, 1, none⟩ = some (.string s.ti) := ((HS.out.pick 0 rfl).cell 1).trans rfl
      have f1 := (HS.out.pick 0 rfl).frozen 1
      go_upto_region 24 with (fail)
      have h9 := HS.out.set 1 (.string (s.ti ++ ⟨#[46]⟩)) #[.int .i64 s.st, .string (s.ti ++ ⟨#[46]⟩), .int .i64 s.op, .int .i64 s.en, .string s.ca.f0, .int .i64 s.ca.f1, .slice vCA s.pe.length vCc, .slice vDA s.th.length vDc, .int .i64 s.no] rfl
      have h8 := HS.out.below_set (i := 1) (u := .string (s.ti ++ ⟨#[46]⟩)) HB.out
      generalize World.setCell _ _ _ = w11 at h9 h8 ⊢
      clear c1 f1
      have n0_ := Aside0.mk (h9); have n1_ := Aside0.mk (h8); clear HS HB; have HS := n0_; have HB := n1_; clear n0_ n1_; (try simp only [List.eraseIdx_cons_succ, List.eraseIdx_cons_zero] at HS)
      clear h9 h8
      have c0 : w11.cell? ⟨g9, 0, none⟩ = some (.int .i64 s.st) := ((HS.out.pick 0 rfl).cell 0).trans rfl
      have c1 : w11.cell? ⟨g9, 1, none⟩ = some (.string (s.ti ++ ⟨#[46]⟩)) := ((HS.out.pick 0 rfl).cell 1).trans rfl
      have c2 : w11.cell? ⟨g9, 2, none⟩ = some (.int .i64 s.op) := ((HS.out.pick 0 rfl).cell 2).trans rfl
      have c3 : w11.cell? ⟨g9, 3, none⟩ = some (.int .i64 s.en) := ((HS.out.pick 0 rfl).cell 3).trans rfl
      have c4 : w11.cell? ⟨g9, 4, none⟩ = some (.string s.ca.f0) := ((HS.out.pick 0 rfl).cell 4).trans rfl
      have c5 : w11.cell? ⟨g9, 5, none⟩ = some (.int .i64 s.ca.f1) := ((HS.out.pick 0 rfl).cell 5).trans rfl
      have c6 : w11.cell? ⟨g9, 6, none⟩ = some (.slice vCA s.pe.length vCc) := ((HS.out.pick 0 rfl).cell 6).trans rfl
      have c7 : w11.cell? ⟨g9, 7, none⟩ = some (.slice vDA s.th.length vDc) := ((HS.out.pick 0 rfl).cell 7).trans rfl
      have c8 : w11.cell? ⟨g9, 8, none⟩ = some (.int .i64 s.no) := ((HS.out.pick 0 rfl).cell 8).trans rfl
      have d0 : w11.cell? ⟨g, 0, none⟩ = some (.int .i64 s.st) := ((HS.out.pick 1 rfl).cell 0).trans rfl
      have d1 : w11.cell? ⟨g, 1, none⟩ = some (.string s.ti) := ((HS.out.pick 1 rfl).cell 1).trans rfl
      have d2 : w11.cell? ⟨g, 2, none⟩ = some (.int .i64 s.op) := ((HS.out.pick 1 rfl).cell 2).trans rfl
      have d3 : w11.cell? ⟨g, 3, none⟩ = some (.int .i64 s.en) := ((HS.out.pick 1 rfl).cell 3).trans rfl
      have d4 : w11.cell? ⟨g, 4, none⟩ = some (.string s.ca.f0) := ((HS.out.pick 1 rfl).cell 4).trans rfl
      have d5 : w11.cell? ⟨g, 5, none⟩ = some (.int .i64 s.ca.f1) := ((HS.out.pick 1 rfl).cell 5).trans rfl
      have d6 : w11.cell? ⟨g, 6, none⟩ = some (.slice A5 s.pe.length k5) := ((HS.out.pick 1 rfl).cell 6).trans rfl
      have d7 : w11.cell? ⟨g, 7, none⟩ = some (.slice A6 s.th.length k6) := ((HS.out.pick 1 rfl).cell 7).trans rfl
      have d8 : w11.cell? ⟨g, 8, none⟩ = some (.int .i64 s.no) := ((HS.out.pick 1 rfl).cell 8).trans rfl
      go_wp2_with (first | (go_at_call 23; refine (equal_twoB s { s with ti := s.ti ++ ⟨#[46]⟩ } false (decide_eq_false hne.out) A5 A6 vCA vDA k5 k6 vCc vDc _ (HS.out.pick 4 rfl).rowC.2.2 (HS.out.pick 4 rfl).rowC.2.1 (HS.out.pick 5 rfl).rowC.2.2 (HS.out.pick 5 rfl).rowC.2.1 (HS.out.pick 2 rfl).rowC.2.2 (HS.out.pick 2 rfl).rowC.2.1 (HS.out.pick 3 rfl).rowC.2.2 (HS.out.pick 3 rfl).rowC.2.1 (by have := hl1.out; omega) (by have := hl1.out; omega)).mono ?_; rintro r_ wz ⟨rfl, hb⟩; have n0_ := Aside0.mk (HS.out.step hb); have n1_ := Aside0.mk (below_step' HB.out HS.out.size hb); clear HS HB; have HS := n0_; have HB := n1_; clear n0_ n1_; (try simp only [List.eraseIdx_cons_succ, List.eraseIdx_cons_zero] at HS); clear hb))
      go_ret
      exact ⟨rfl, HB.out⟩
    · have tk : ch.tmod 9 = (2 : Int) := by rw [show ch.tmod 9 = (n : Int) from tn, hk]; rfl
      clear tn hk
      obtain ⟨y, hy0⟩ : ∃ y, IntKind.i64.wrap (s.op + 1) = y := ⟨_, rfl⟩
      have hy : wrap64 (s.op + 1) = y := by rw [← hy0, i64_w]
      have hny : ¬ s.op = y := fun h => wrap_ne (s.op) (h.trans hy0.symm)
      replace hny := Aside0.mk hny
      have hne := Aside0.mk (show ¬ s = { s with op := y } from fun e => hny.out (congrArg PS.op e))
      have c2 : wc.cell? ⟨g9, 2, none⟩ = some (.int .i64 s.op) := ((HS.out.pick 0 rfl).cell 2).trans rfl
      have f2 := (HS.out.pick 0 rfl).frozen 2
      go_upto_region 24 with (fail)
      have h9 := HS.out.set 2 (.int .i64 y) #[.int .i64 s.st, .string s.ti, .int .i64 y, .int .i64 s.en, .string s.ca.f0, .int .i64 s.ca.f1, .slice vCA s.pe.length vCc, .slice vDA s.th.length vDc, .int .i64 s.no] rfl
      have h8 := HS.out.below_set (i := 2) (u := .int .i64 y) HB.out
      generalize World.setCell _ _ _ = w11 at h9 h8 ⊢
      clear c2 f2
      have n0_ := Aside0.mk (h9); have n1_ := Aside0.mk (h8); clear HS HB; have HS := n0_; have HB := n1_; clear n0_ n1_; (try simp only [List.eraseIdx_cons_succ, List.eraseIdx_cons_zero] at HS)
      clear h9 h8
      have c0 : w11.cell? ⟨g9, 0, none⟩ = some (.int .i64 s.st) := ((HS.out.pick 0 rfl).cell 0).trans rfl
      have c1 : w11.cell? ⟨g9, 1, none⟩ = some (.string s.ti) := ((HS.out.pick 0 rfl).cell 1).trans rfl
      have c2 : w11.cell? ⟨g9, 2, none⟩ = some (.int .i64 y) := ((HS.out.pick 0 rfl).cell 2).trans rfl
      have c3 : w11.cell? ⟨g9, 3, none⟩ = some (.int .i64 s.en) := ((HS.out.pick 0 rfl).cell 3).trans rfl
      have c4 : w11.cell? ⟨g9, 4, none⟩ = some (.string s.ca.f0) := ((HS.out.pick 0 rfl).cell 4).trans rfl
      have c5 : w11.cell? ⟨g9, 5, none⟩ = some (.int .i64 s.ca.f1) := ((HS.out.pick 0 rfl).cell 5).trans rfl
      have c6 : w11.cell? ⟨g9, 6, none⟩ = some (.slice vCA s.pe.length vCc) := ((HS.out.pick 0 rfl).cell 6).trans rfl
      have c7 : w11.cell? ⟨g9, 7, none⟩ = some (.slice vDA s.th.length vDc) := ((HS.out.pick 0 rfl).cell 7).trans rfl
      have c8 : w11.cell? ⟨g9, 8, none⟩ = some (.int .i64 s.no) := ((HS.out.pick 0 rfl).cell 8).trans rfl
      have d0 : w11.cell? ⟨g, 0, none⟩ = some (.int .i64 s.st) := ((HS.out.pick 1 rfl).cell 0).trans rfl
      have d1 : w11.cell? ⟨g, 1, none⟩ = some (.string s.ti) := ((HS.out.pick 1 rfl).cell 1).trans rfl
      have d2 : w11.cell? ⟨g, 2, none⟩ = some (.int .i64 s.op) := ((HS.out.pick 1 rfl).cell 2).trans rfl
      have d3 : w11.cell? ⟨g, 3, none⟩ = some (.int .i64 s.en) := ((HS.out.pick 1 rfl).cell 3).trans rfl
      have d4 : w11.cell? ⟨g, 4, none⟩ = some (.string s.ca.f0) := ((HS.out.pick 1 rfl).cell 4).trans rfl
      have d5 : w11.cell? ⟨g, 5, none⟩ = some (.int .i64 s.ca.f1) := ((HS.out.pick 1 rfl).cell 5).trans rfl
      have d6 : w11.cell? ⟨g, 6, none⟩ = some (.slice A5 s.pe.length k5) := ((HS.out.pick 1 rfl).cell 6).trans rfl
      have d7 : w11.cell? ⟨g, 7, none⟩ = some (.slice A6 s.th.length k6) := ((HS.out.pick 1 rfl).cell 7).trans rfl
      have d8 : w11.cell? ⟨g, 8, none⟩ = some (.int .i64 s.no) := ((HS.out.pick 1 rfl).cell 8).trans rfl
      go_wp2_with (first | (go_at_call 23; refine (equal_twoB s { s with op := y } false (decide_eq_false hne.out) A5 A6 vCA vDA k5 k6 vCc vDc _ (HS.out.pick 4 rfl).rowC.2.2 (HS.out.pick 4 rfl).rowC.2.1 (HS.out.pick 5 rfl).rowC.2.2 (HS.out.pick 5 rfl).rowC.2.1 (HS.out.pick 2 rfl).rowC.2.2 (HS.out.pick 2 rfl).rowC.2.1 (HS.out.pick 3 rfl).rowC.2.2 (HS.out.pick 3 rfl).rowC.2.1 (by have := hl1.out; omega) (by have := hl1.out; omega)).mono ?_; rintro r_ wz ⟨rfl, hb⟩; have n0_ := Aside0.mk (HS.out.step hb); have n1_ := Aside0.mk (below_step' HB.out HS.out.size hb); clear HS HB; have HS := n0_; have HB := n1_; clear n0_ n1_; (try simp only [List.eraseIdx_cons_succ, List.eraseIdx_cons_zero] at HS); clear hb))
      go_ret
      exact ⟨rfl, HB.out⟩
    · have tk : ch.tmod 9 = (3 : Int) := by rw [show ch.tmod 9 = (n : Int) from tn, hk]; rfl
      clear tn hk
      obtain ⟨y, hy0⟩ : ∃ y, IntKind.i64.wrap (s.en + 1) = y := ⟨_, rfl⟩
      have hy : wrap64 (s.en + 1) = y := by rw [← hy0, i64_w]
      have hny : ¬ s.en = y := fun h => wrap_ne (s.en) (h.trans hy0.symm)
      replace hny := Aside0.mk hny
      have hne := Aside0.mk (show ¬ s = { s with en := y } from fun e => hny.out (congrArg PS.en e))
      have c3 : wc.cell? ⟨g9, 3, none⟩ = some (.int .i64 s.en) := ((HS.out.pick 0 rfl).cell 3).trans rfl
      have f3 := (HS.out.pick 0 rfl).frozen 3
      go_upto_region 24 with (fail)
      have h9 := HS.out.set 3 (.int .i64 y) #[.int .i64 s.st, .string s.ti, .int .i64 s.op, .int .i64 y, .string s.ca.f0, .int .i64 s.ca.f1, .slice vCA s.pe.length vCc, .slice vDA s.th.length vDc, .int .i64 s.no] rfl
      have h8 := HS.out.below_set (i := 3) (u := .int .i64 y) HB.out
      generalize World.setCell _ _ _ = w11 at h9 h8 ⊢
      clear c3 f3
      have n0_ := Aside0.mk (h9); have n1_ := Aside0.mk (h8); clear HS HB; have HS := n0_; have HB := n1_; clear n0_ n1_; (try simp only [List.eraseIdx_cons_succ, List.eraseIdx_cons_zero] at HS)
      clear h9 h8
      have c0 : w11.cell? ⟨g9, 0, none⟩ = some (.int .i64 s.st) := ((HS.out.pick 0 rfl).cell 0).trans rfl
      have c1 : w11.cell? ⟨g9, 1, none⟩ = some (.string s.ti) := ((HS.out.pick 0 rfl).cell 1).trans rfl
      have c2 : w11.cell? ⟨g9, 2, none⟩ = some (.int .i64 s.op) := ((HS.out.pick 0 rfl).cell 2).trans rfl
      have c3 : w11.cell? ⟨g9, 3, none⟩ = some (.int .i64 y) := ((HS.out.pick 0 rfl).cell 3).trans rfl
      have c4 : w11.cell? ⟨g9, 4, none⟩ = some (.string s.ca.f0) := ((HS.out.pick 0 rfl).cell 4).trans rfl
      have c5 : w11.cell? ⟨g9, 5, none⟩ = some (.int .i64 s.ca.f1) := ((HS.out.pick 0 rfl).cell 5).trans rfl
      have c6 : w11.cell? ⟨g9, 6, none⟩ = some (.slice vCA s.pe.length vCc) := ((HS.out.pick 0 rfl).cell 6).trans rfl
      have c7 : w11.cell? ⟨g9, 7, none⟩ = some (.slice vDA s.th.length vDc) := ((HS.out.pick 0 rfl).cell 7).trans rfl
      have c8 : w11.cell? ⟨g9, 8, none⟩ = some (.int .i64 s.no) := ((HS.out.pick 0 rfl).cell 8).trans rfl
      have d0 : w11.cell? ⟨g, 0, none⟩ = some (.int .i64 s.st) := ((HS.out.pick 1 rfl).cell 0).trans rfl
      have d1 : w11.cell? ⟨g, 1, none⟩ = some (.string s.ti) := ((HS.out.pick 1 rfl).cell 1).trans rfl
      have d2 : w11.cell? ⟨g, 2, none⟩ = some (.int .i64 s.op) := ((HS.out.pick 1 rfl).cell 2).trans rfl
      have d3 : w11.cell? ⟨g, 3, none⟩ = some (.int .i64 s.en) := ((HS.out.pick 1 rfl).cell 3).trans rfl
      have d4 : w11.cell? ⟨g, 4, none⟩ = some (.string s.ca.f0) := ((HS.out.pick 1 rfl).cell 4).trans rfl
      have d5 : w11.cell? ⟨g, 5, none⟩ = some (.int .i64 s.ca.f1) := ((HS.out.pick 1 rfl).cell 5).trans rfl
      have d6 : w11.cell? ⟨g, 6, none⟩ = some (.slice A5 s.pe.length k5) := ((HS.out.pick 1 rfl).cell 6).trans rfl
      have d7 : w11.cell? ⟨g, 7, none⟩ = some (.slice A6 s.th.length k6) := ((HS.out.pick 1 rfl).cell 7).trans rfl
      have d8 : w11.cell? ⟨g, 8, none⟩ = some (.int .i64 s.no) := ((HS.out.pick 1 rfl).cell 8).trans rfl
      go_wp2_with (first | (go_at_call 23; refine (equal_twoB s { s with en := y } false (decide_eq_false hne.out) A5 A6 vCA vDA k5 k6 vCc vDc _ (HS.out.pick 4 rfl).rowC.2.2 (HS.out.pick 4 rfl).rowC.2.1 (HS.out.pick 5 rfl).rowC.2.2 (HS.out.pick 5 rfl).rowC.2.1 (HS.out.pick 2 rfl).rowC.2.2 (HS.out.pick 2 rfl).rowC.2.1 (HS.out.pick 3 rfl).rowC.2.2 (HS.out.pick 3 rfl).rowC.2.1 (by have := hl1.out; omega) (by have := hl1.out; omega)).mono ?_; rintro r_ wz ⟨rfl, hb⟩; have n0_ := Aside0.mk (HS.out.step hb); have n1_ := Aside0.mk (below_step' HB.out HS.out.size hb); clear HS HB; have HS := n0_; have HB := n1_; clear n0_ n1_; (try simp only [List.eraseIdx_cons_succ, List.eraseIdx_cons_zero] at HS); clear hb))
      go_ret
      exact ⟨rfl, HB.out⟩
    · have tk : ch.tmod 9 = (4 : Int) := by rw [show ch.tmod 9 = (n : Int) from tn, hk]; rfl
      clear tn hk
      obtain ⟨y, hy0⟩ : ∃ y, IntKind.i64.wrap (s.ca.f1 + 1) = y := ⟨_, rfl⟩
      have hy : wrap64 (s.ca.f1 + 1) = y := by rw [← hy0, i64_w]
      have hny : ¬ s.ca.f1 = y := fun h => wrap_ne (s.ca.f1) (h.trans hy0.symm)
      replace hny := Aside0.mk hny
      have hne := Aside0.mk (show ¬ s = { s with ca := ⟨s.ca.f0, y⟩ } from fun e => hny.out (congrArg (fun x => (PS.ca x).f1) e))
      have c5 : wc.cell? ⟨g9, 5, none⟩ = some (.int .i64 s.ca.f1) := ((HS.out.pick 0 rfl).cell 5).trans rfl
      have f5 := (HS.out.pick 0 rfl).frozen 5
      go_upto_region 24 with (fail)
      have h9 := HS.out.set 5 (.int .i64 y) #[.int .i64 s.st, .string s.ti, .int .i64 s.op, .int .i64 s.en, .string s.ca.f0, .int .i64 y, .slice vCA s.pe.length vCc, .slice vDA s.th.length vDc, .int .i64 s.no] rfl
      have h8 := HS.out.below_set (i := 5) (u := .int .i64 y) HB.out
      generalize World.setCell _ _ _ = w11 at h9 h8 ⊢
      clear c5 f5
      have n0_ := Aside0.mk (h9); have n1_ := Aside0.mk (h8); clear HS HB; have HS := n0_; have HB := n1_; clear n0_ n1_; (try simp only [List.eraseIdx_cons_succ, List.eraseIdx_cons_zero] at HS)
      clear h9 h8
      have c0 : w11.cell? ⟨g9, 0, none⟩ = some (.int .i64 s.st) := ((HS.out.pick 0 rfl).cell 0).trans rfl
      have c1 : w11.cell? ⟨g9, 1, none⟩ = some (.string s.ti) := ((HS.out.pick 0 rfl).cell 1).trans rfl
      have c2 : w11.cell? ⟨g9, 2, none⟩ = some (.int .i64 s.op) := ((HS.out.pick 0 rfl).cell 2).trans rfl
      have c3 : w11.cell? ⟨g9, 3, none⟩ = some (.int .i64 s.en) := ((HS.out.pick 0 rfl).cell 3).trans rfl
      have c4 : w11.cell? ⟨g9, 4, none⟩ = some (.string s.ca.f0) := ((HS.out.pick 0 rfl).cell 4).trans rfl
      have c5 : w11.cell? ⟨g9, 5, none⟩ = some (.int .i64 y) := ((HS.out.pick 0 rfl).cell 5).trans rfl
      have c6 : w11.cell? ⟨g9, 6, none⟩ = some (.slice vCA s.pe.length vCc) := ((HS.out.pick 0 rfl).cell 6).trans rfl
      have c7 : w11.cell? ⟨g9, 7, none⟩ = some (.slice vDA s.th.length vDc) := ((HS.out.pick 0 rfl).cell 7).trans rfl
      have c8 : w11.cell? ⟨g9, 8, none⟩ = some (.int .i64 s.no) := ((HS.out.pick 0 rfl).cell 8).trans rfl
      have d0 : w11.cell? ⟨g, 0, none⟩ = some (.int .i64 s.st) := ((HS.out.pick 1 rfl).cell 0).trans rfl
      have d1 : w11.cell? ⟨g, 1, none⟩ = some (.string s.ti) := ((HS.out.pick 1 rfl).cell 1).trans rfl
      have d2 : w11.cell? ⟨g, 2, none⟩ = some (.int .i64 s.op) := ((HS.out.pick 1 rfl).cell 2).trans rfl
      have d3 : w11.cell? ⟨g, 3, none⟩ = some (.int .i64 s.en) := ((HS.out.pick 1 rfl).cell 3).trans rfl
      have d4 : w11.cell? ⟨g, 4, none⟩ = some (.string s.ca.f0) := ((HS.out.pick 1 rfl).cell 4).trans rfl
      have d5 : w11.cell? ⟨g, 5, none⟩ = some (.int .i64 s.ca.f1) := ((HS.out.pick 1 rfl).cell 5).trans rfl
      have d6 : w11.cell? ⟨g, 6, none⟩ = some (.slice A5 s.pe.length k5) := ((HS.out.pick 1 rfl).cell 6).trans rfl
      have d7 : w11.cell? ⟨g, 7, none⟩ = some (.slice A6 s.th.length k6) := ((HS.out.pick 1 rfl).cell 7).trans rfl
      have d8 : w11.cell? ⟨g, 8, none⟩ = some (.int .i64 s.no) := ((HS.out.pick 1 rfl).cell 8).trans rfl
      go_wp2_with (first | (go_at_call 23; refine (equal_twoB s { s with ca := ⟨s.ca.f0, y⟩ } false (decide_eq_false hne.out) A5 A6 vCA vDA k5 k6 vCc vDc _ (HS.out.pick 4 rfl).rowC.2.2 (HS.out.pick 4 rfl).rowC.2.1 (HS.out.pick 5 rfl).rowC.2.2 (HS.out.pick 5 rfl).rowC.2.1 (HS.out.pick 2 rfl).rowC.2.2 (HS.out.pick 2 rfl).rowC.2.1 (HS.out.pick 3 rfl).rowC.2.2 (HS.out.pick 3 rfl).rowC.2.1 (by have := hl1.out; omega) (by have := hl1.out; omega)).mono ?_; rintro r_ wz ⟨rfl, hb⟩; have n0_ := Aside0.mk (HS.out.step hb); have n1_ := Aside0.mk (below_step' HB.out HS.out.size hb); clear HS HB; have HS := n0_; have HB := n1_; clear n0_ n1_; (try simp only [List.eraseIdx_cons_succ, List.eraseIdx_cons_zero] at HS); clear hb))
      go_ret
      exact ⟨rfl, HB.out⟩
    · have tk : ch.tmod 9 = (5 : Int) := by rw [show ch.tmod 9 = (n : Int) from tn, hk]; rfl
      clear tn hk
      obtain ⟨y, hy0⟩ : ∃ y, IntKind.i64.wrap (s.no + 1) = y := ⟨_, rfl⟩
      have hy : wrap64 (s.no + 1) = y := by rw [← hy0, i64_w]
      have hny : ¬ s.no = y := fun h => wrap_ne (s.no) (h.trans hy0.symm)
      replace hny := Aside0.mk hny
      have hne := Aside0.mk (show ¬ s = { s with no := y } from fun e => hny.out (congrArg PS.no e))
      have c8 : wc.cell? ⟨g9, 8, none⟩ = some (.int .i64 s.no) := ((HS.out.pick 0 rfl).cell 8).trans rfl
      have f8 := (HS.out.pick 0 rfl).frozen 8
      go_upto_region 24 with (fail)
      have h9 := HS.out.set 8 (.int .i64 y) #[.int .i64 s.st, .string s.ti, .int .i64 s.op, .int .i64 s.en, .string s.ca.f0, .int .i64 s.ca.f1, .slice vCA s.pe.length vCc, .slice vDA s.th.length vDc, .int .i64 y] rfl
      have h8 := HS.out.below_set (i := 8) (u := .int .i64 y) HB.out
      generalize World.setCell _ _ _ = w11 at h9 h8 ⊢
      clear c8 f8
      have n0_ := Aside0.mk (h9); have n1_ := Aside0.mk (h8); clear HS HB; have HS := n0_; have HB := n1_; clear n0_ n1_; (try simp only [List.eraseIdx_cons_succ, List.eraseIdx_cons_zero] at HS)
      clear h9 h8
      have c0 : w11.cell? ⟨g9, 0, none⟩ = some (.int .i64 s.st) := ((HS.out.pick 0 rfl).cell 0).trans rfl
      have c1 : w11.cell? ⟨g9, 1, none⟩ = some (.string s.ti) := ((HS.out.pick 0 rfl).cell 1).trans rfl
      have c2 : w11.cell? ⟨g9, 2, none⟩ = some (.int .i64 s.op) := ((HS.out.pick 0 rfl).cell 2).trans rfl
      have c3 : w11.cell? ⟨g9, 3, none⟩ = some (.int .i64 s.en) := ((HS.out.pick 0 rfl).cell 3).trans rfl
      have c4 : w11.cell? ⟨g9, 4, none⟩ = some (.string s.ca.f0) := ((HS.out.pick 0 rfl).cell 4).trans rfl
      have c5 : w11.cell? ⟨g9, 5, none⟩ = some (.int .i64 s.ca.f1) := ((HS.out.pick 0 rfl).cell 5).trans rfl
      have c6 : w11.cell? ⟨g9, 6, none⟩ = some (.slice vCA s.pe.length vCc) := ((HS.out.pick 0 rfl).cell 6).trans rfl
      have c7 : w11.cell? ⟨g9, 7, none⟩ = some (.slice vDA s.th.length vDc) := ((HS.out.pick 0 rfl).cell 7).trans rfl
      have c8 : w11.cell? ⟨g9, 8, none⟩ = some (.int .i64 y) := ((HS.out.pick 0 rfl).cell 8).trans rfl
      have d0 : w11.cell? ⟨g, 0, none⟩ = some (.int .i64 s.st) := ((HS.out.pick 1 rfl).cell 0).trans rfl
      have d1 : w11.cell? ⟨g, 1, none⟩ = some (.string s.ti) := ((HS.out.pick 1 rfl).cell 1).trans rfl
      have d2 : w11.cell? ⟨g, 2, none⟩ = some (.int .i64 s.op) := ((HS.out.pick 1 rfl).cell 2).trans rfl
      have d3 : w11.cell? ⟨g, 3, none⟩ = some (.int .i64 s.en) := ((HS.out.pick 1 rfl).cell 3).trans rfl
      have d4 : w11.cell? ⟨g, 4, none⟩ = some (.string s.ca.f0) := ((HS.out.pick 1 rfl).cell 4).trans rfl
      have d5 : w11.cell? ⟨g, 5, none⟩ = some (.int .i64 s.ca.f1) := ((HS.out.pick 1 rfl).cell 5).trans rfl
      have d6 : w11.cell? ⟨g, 6, none⟩ = some (.slice A5 s.pe.length k5) := ((HS.out.pick 1 rfl).cell 6).trans rfl
      have d7 : w11.cell? ⟨g, 7, none⟩ = some (.slice A6 s.th.length k6) := ((HS.out.pick 1 rfl).cell 7).trans rfl
      have d8 : w11.cell? ⟨g, 8, none⟩ = some (.int .i64 s.no) := ((HS.out.pick 1 rfl).cell 8).trans rfl
      go_wp2_with (first | (go_at_call 23; refine (equal_twoB s { s with no := y } false (decide_eq_false hne.out) A5 A6 vCA vDA k5 k6 vCc vDc _ (HS.out.pick 4 rfl).rowC.2.2 (HS.out.pick 4 rfl).rowC.2.1 (HS.out.pick 5 rfl).rowC.2.2 (HS.out.pick 5 rfl).rowC.2.1 (HS.out.pick 2 rfl).rowC.2.2 (HS.out.pick 2 rfl).rowC.2.1 (HS.out.pick 3 rfl).rowC.2.2 (HS.out.pick 3 rfl).rowC.2.1 (by have := hl1.out; omega) (by have := hl1.out; omega)).mono ?_; rintro r_ wz ⟨rfl, hb⟩; have n0_ := Aside0.mk (HS.out.step hb); have n1_ := Aside0.mk (below_step' HB.out HS.out.size hb); clear HS HB; have HS := n0_; have HB := n1_; clear n0_ n1_; (try simp only [List.eraseIdx_cons_succ, List.eraseIdx_cons_zero] at HS); clear hb))
      go_ret
      exact ⟨rfl, HB.out⟩
    · have tk : ch.tmod 9 = (6 : Int) := by rw [show ch.tmod 9 = (n : Int) from tn, hk]; rfl
      clear tn hk
      have hne := Aside0.mk (show ¬ s = { s with pe := s.pe ++ [(⟨bZoe, 0⟩ : S49)] } from fun e => by have h := congrArg (fun x => (PS.pe x).length) e; simp at h)
      have c6 : wc.cell? ⟨g9, 6, none⟩ = some (.slice vCA s.pe.length vCc) := ((HS.out.pick 0 rfl).cell 6).trans rfl
      have f6 := (HS.out.pick 0 rfl).frozen 6
      go_upto_region 24 with (first | ((with_reducible refine gate_builtin (b := .append) (xs := #[.tmp 90, .tmp 92]) rfl ?_); at_builtin; refine S_append k49 rfl (.tmp 90) (.tmp 92) 37 49 (.agg #[(.string ⟨#[]⟩), (.int .i64 0)]) 24 rfl Try.underlying37 info49 rfl (by decide) (by omega) _ _ (⟨bZoe, 0⟩ : S49) [.string bZoe, .int .i64 0] rfl rfl (k49_mkM _ _ _ (⟨bZoe, 0⟩ : S49)) (HS.out.pick 2 rfl) HB.out (by have := hl1.out; omega) ?_; intro vE w11 hs hb; generalize hEE : s.pe ++ [(⟨bZoe, 0⟩ : S49)] = E at hs hne; replace hEE := Aside0.mk hEE; obtain ⟨vEA, vEc, vEe, _, _⟩ := hs.reads; subst vEe; have n0_ := Aside0.mk (hs); have n1_ := Aside0.mk (hb); clear HS HB; have HS := n0_; have HB := n1_; clear n0_ n1_; (try simp only [List.eraseIdx_cons_succ, List.eraseIdx_cons_zero] at HS); clear hs hb c6 f6; have c6 : w11.cell? ⟨g9, 6, none⟩ = some (.slice vCA s.pe.length vCc) := ((HS.out.pick 1 rfl).cell 6).trans rfl; have f6 := (HS.out.pick 1 rfl).frozen 6))
      have h9 := (HS.out.pick 1 rfl).set 6 (.slice vEA E.length vEc) #[.int .i64 s.st, .string s.ti, .int .i64 s.op, .int .i64 s.en, .string s.ca.f0, .int .i64 s.ca.f1, .slice vEA E.length vEc, .slice vDA s.th.length vDc, .int .i64 s.no] rfl
      have h8 := (HS.out.pick 1 rfl).below_set (i := 6) (u := .slice vEA E.length vEc) HB.out
      generalize World.setCell _ _ _ = w12 at h9 h8 ⊢
      clear c6 f6
      have n0_ := Aside0.mk (h9); have n1_ := Aside0.mk (h8); clear HS HB; have HS := n0_; have HB := n1_; clear n0_ n1_; (try simp only [List.eraseIdx_cons_succ, List.eraseIdx_cons_zero] at HS)
      clear h9 h8
      replace HS := Aside0.mk (HS.out.pick 2 rfl).swap
      simp only [List.eraseIdx_cons_succ, List.eraseIdx_cons_zero] at HS
      have c0 : w12.cell? ⟨g9, 0, none⟩ = some (.int .i64 s.st) := ((HS.out.pick 0 rfl).cell 0).trans rfl
      have c1 : w12.cell? ⟨g9, 1, none⟩ = some (.string s.ti) := ((HS.out.pick 0 rfl).cell 1).trans rfl
      have c2 : w12.cell? ⟨g9, 2, none⟩ = some (.int .i64 s.op) := ((HS.out.pick 0 rfl).cell 2).trans rfl
      have c3 : w12.cell? ⟨g9, 3, none⟩ = some (.int .i64 s.en) := ((HS.out.pick 0 rfl).cell 3).trans rfl
      have c4 : w12.cell? ⟨g9, 4, none⟩ = some (.string s.ca.f0) := ((HS.out.pick 0 rfl).cell 4).trans rfl
      have c5 : w12.cell? ⟨g9, 5, none⟩ = some (.int .i64 s.ca.f1) := ((HS.out.pick 0 rfl).cell 5).trans rfl
      have c6 : w12.cell? ⟨g9, 6, none⟩ = some (.slice vEA E.length vEc) := ((HS.out.pick 0 rfl).cell 6).trans rfl
      have c7 : w12.cell? ⟨g9, 7, none⟩ = some (.slice vDA s.th.length vDc) := ((HS.out.pick 0 rfl).cell 7).trans rfl
      have c8 : w12.cell? ⟨g9, 8, none⟩ = some (.int .i64 s.no) := ((HS.out.pick 0 rfl).cell 8).trans rfl
      have d0 : w12.cell? ⟨g, 0, none⟩ = some (.int .i64 s.st) := ((HS.out.pick 1 rfl).cell 0).trans rfl
      have d1 : w12.cell? ⟨g, 1, none⟩ = some (.string s.ti) := ((HS.out.pick 1 rfl).cell 1).trans rfl
      have d2 : w12.cell? ⟨g, 2, none⟩ = some (.int .i64 s.op) := ((HS.out.pick 1 rfl).cell 2).trans rfl
      have d3 : w12.cell? ⟨g, 3, none⟩ = some (.int .i64 s.en) := ((HS.out.pick 1 rfl).cell 3).trans rfl
      have d4 : w12.cell? ⟨g, 4, none⟩ = some (.string s.ca.f0) := ((HS.out.pick 1 rfl).cell 4).trans rfl
      have d5 : w12.cell? ⟨g, 5, none⟩ = some (.int .i64 s.ca.f1) := ((HS.out.pick 1 rfl).cell 5).trans rfl
      have d6 : w12.cell? ⟨g, 6, none⟩ = some (.slice A5 s.pe.length k5) := ((HS.out.pick 1 rfl).cell 6).trans rfl
      have d7 : w12.cell? ⟨g, 7, none⟩ = some (.slice A6 s.th.length k6) := ((HS.out.pick 1 rfl).cell 7).trans rfl
      have d8 : w12.cell? ⟨g, 8, none⟩ = some (.int .i64 s.no) := ((HS.out.pick 1 rfl).cell 8).trans rfl
      go_wp2_with (first | (go_at_call 23; refine (equal_twoB s { s with pe := E } false (decide_eq_false hne.out) A5 A6 vEA vDA k5 k6 vEc vDc _ (HS.out.pick 4 rfl).rowC.2.2 (HS.out.pick 4 rfl).rowC.2.1 (HS.out.pick 5 rfl).rowC.2.2 (HS.out.pick 5 rfl).rowC.2.1 (HS.out.pick 2 rfl).rowC.2.2 (HS.out.pick 2 rfl).rowC.2.1 (HS.out.pick 3 rfl).rowC.2.2 (HS.out.pick 3 rfl).rowC.2.1 (by have := hl1.out; omega) (by have := hl1.out; omega)).mono ?_; rintro r_ wz ⟨rfl, hb⟩; have n0_ := Aside0.mk (HS.out.step hb); have n1_ := Aside0.mk (below_step' HB.out HS.out.size hb); clear HS HB; have HS := n0_; have HB := n1_; clear n0_ n1_; (try simp only [List.eraseIdx_cons_succ, List.eraseIdx_cons_zero] at HS); clear hb))
      go_ret
      exact ⟨rfl, HB.out⟩
    · have tk : ch.tmod 9 = (7 : Int) := by rw [show ch.tmod 9 = (n : Int) from tn, hk]; rfl
      clear tn hk
      have hne := Aside0.mk (show ¬ s = { s with th := s.th ++ [z51] } from fun e => by have h := congrArg (fun x => (PS.th x).length) e; simp at h)
      have c7 : wc.cell? ⟨g9, 7, none⟩ = some (.slice vDA s.th.length vDc) := ((HS.out.pick 0 rfl).cell 7).trans rfl
      have f7 := (HS.out.pick 0 rfl).frozen 7
      go_upto_region 24 with (first | ((with_reducible refine gate_builtin (b := .append) (xs := #[.tmp 98, .tmp 100]) rfl ?_); at_builtin; refine S_append k51 rfl (.tmp 98) (.tmp 100) 38 51 (.agg #[(.string ⟨#[]⟩), (.int .i64 0), (.string ⟨#[]⟩), (.int .i64 0)]) 48 rfl Try.underlying38 info51 rfl (by decide) (by omega) _ _ z51 [.string ⟨#[]⟩, .int .i64 0, .string ⟨#[]⟩, .int .i64 0] rfl rfl (k51_mkM _ _ _ z51) (HS.out.pick 3 rfl) HB.out (by have := hl1.out; omega) ?_; intro vE w11 hs hb; generalize hEE : s.th ++ [z51] = E at hs hne; replace hEE := Aside0.mk hEE; obtain ⟨vEA, vEc, vEe, _, _⟩ := hs.reads; subst vEe; have n0_ := Aside0.mk (hs); have n1_ := Aside0.mk (hb); clear HS HB; have HS := n0_; have HB := n1_; clear n0_ n1_; (try simp only [List.eraseIdx_cons_succ, List.eraseIdx_cons_zero] at HS); clear hs hb c7 f7; have c7 : w11.cell? ⟨g9, 7, none⟩ = some (.slice vDA s.th.length vDc) := ((HS.out.pick 1 rfl).cell 7).trans rfl; have f7 := (HS.out.pick 1 rfl).frozen 7))
      have h9 := (HS.out.pick 1 rfl).set 7 (.slice vEA E.length vEc) #[.int .i64 s.st, .string s.ti, .int .i64 s.op, .int .i64 s.en, .string s.ca.f0, .int .i64 s.ca.f1, .slice vCA s.pe.length vCc, .slice vEA E.length vEc, .int .i64 s.no] rfl
      have h8 := (HS.out.pick 1 rfl).below_set (i := 7) (u := .slice vEA E.length vEc) HB.out
      generalize World.setCell _ _ _ = w12 at h9 h8 ⊢
      clear c7 f7
      have n0_ := Aside0.mk (h9); have n1_ := Aside0.mk (h8); clear HS HB; have HS := n0_; have HB := n1_; clear n0_ n1_; (try simp only [List.eraseIdx_cons_succ, List.eraseIdx_cons_zero] at HS)
      clear h9 h8
      replace HS := Aside0.mk (HS.out.pick 2 rfl).swap
      simp only [List.eraseIdx_cons_succ, List.eraseIdx_cons_zero] at HS
      have c0 : w12.cell? ⟨g9, 0, none⟩ = some (.int .i64 s.st) := ((HS.out.pick 0 rfl).cell 0).trans rfl
      have c1 : w12.cell? ⟨g9, 1, none⟩ = some (.string s.ti) := ((HS.out.pick 0 rfl).cell 1).trans rfl
      have c2 : w12.cell? ⟨g9, 2, none⟩ = some (.int .i64 s.op) := ((HS.out.pick 0 rfl).cell 2).trans rfl
      have c3 : w12.cell? ⟨g9, 3, none⟩ = some (.int .i64 s.en) := ((HS.out.pick 0 rfl).cell 3).trans rfl
      have c4 : w12.cell? ⟨g9, 4, none⟩ = some (.string s.ca.f0) := ((HS.out.pick 0 rfl).cell 4).trans rfl
      have c5 : w12.cell? ⟨g9, 5, none⟩ = some (.int .i64 s.ca.f1) := ((HS.out.pick 0 rfl).cell 5).trans rfl
      have c6 : w12.cell? ⟨g9, 6, none⟩ = some (.slice vCA s.pe.length vCc) := ((HS.out.pick 0 rfl).cell 6).trans rfl
      have c7 : w12.cell? ⟨g9, 7, none⟩ = some (.slice vEA E.length vEc) := ((HS.out.pick 0 rfl).cell 7).trans rfl
      have c8 : w12.cell? ⟨g9, 8, none⟩ = some (.int .i64 s.no) := ((HS.out.pick 0 rfl).cell 8).trans rfl
      have d0 : w12.cell? ⟨g, 0, none⟩ = some (.int .i64 s.st) := ((HS.out.pick 1 rfl).cell 0).trans rfl
      have d1 : w12.cell? ⟨g, 1, none⟩ = some (.string s.ti) := ((HS.out.pick 1 rfl).cell 1).trans rfl
      have d2 : w12.cell? ⟨g, 2, none⟩ = some (.int .i64 s.op) := ((HS.out.pick 1 rfl).cell 2).trans rfl
      have d3 : w12.cell? ⟨g, 3, none⟩ = some (.int .i64 s.en) := ((HS.out.pick 1 rfl).cell 3).trans rfl
      have d4 : w12.cell? ⟨g, 4, none⟩ = some (.string s.ca.f0) := ((HS.out.pick 1 rfl).cell 4).trans rfl
      have d5 : w12.cell? ⟨g, 5, none⟩ = some (.int .i64 s.ca.f1) := ((HS.out.pick 1 rfl).cell 5).trans rfl
      have d6 : w12.cell? ⟨g, 6, none⟩ = some (.slice A5 s.pe.length k5) := ((HS.out.pick 1 rfl).cell 6).trans rfl
      have d7 : w12.cell? ⟨g, 7, none⟩ = some (.slice A6 s.th.length k6) := ((HS.out.pick 1 rfl).cell 7).trans rfl
      have d8 : w12.cell? ⟨g, 8, none⟩ = some (.int .i64 s.no) := ((HS.out.pick 1 rfl).cell 8).trans rfl
      go_wp2_with (first | (go_at_call 23; refine (equal_twoB s { s with th := E } false (decide_eq_false hne.out) A5 A6 vCA vEA k5 k6 vCc vEc _ (HS.out.pick 4 rfl).rowC.2.2 (HS.out.pick 4 rfl).rowC.2.1 (HS.out.pick 5 rfl).rowC.2.2 (HS.out.pick 5 rfl).rowC.2.1 (HS.out.pick 3 rfl).rowC.2.2 (HS.out.pick 3 rfl).rowC.2.1 (HS.out.pick 2 rfl).rowC.2.2 (HS.out.pick 2 rfl).rowC.2.1 (by have := hl1.out; omega) (by have := hl1.out; omega)).mono ?_; rintro r_ wz ⟨rfl, hb⟩; have n0_ := Aside0.mk (HS.out.step hb); have n1_ := Aside0.mk (below_step' HB.out HS.out.size hb); clear HS HB; have HS := n0_; have HB := n1_; clear n0_ n1_; (try simp only [List.eraseIdx_cons_succ, List.eraseIdx_cons_zero] at HS); clear hb))
      go_ret
      exact ⟨rfl, HB.out⟩
    · have tk : ch.tmod 9 = (8 : Int) := by rw [show ch.tmod 9 = (n : Int) from tn, hk]; rfl
      clear tn hk
      have c0 : wc.cell? ⟨g9, 0, none⟩ = some (.int .i64 s.st) := ((HS.out.pick 0 rfl).cell 0).trans rfl
      have c1 : wc.cell? ⟨g9, 1, none⟩ = some (.string s.ti) := ((HS.out.pick 0 rfl).cell 1).trans rfl
      have c2 : wc.cell? ⟨g9, 2, none⟩ = some (.int .i64 s.op) := ((HS.out.pick 0 rfl).cell 2).trans rfl
      have c3 : wc.cell? ⟨g9, 3, none⟩ = some (.int .i64 s.en) := ((HS.out.pick 0 rfl).cell 3).trans rfl
      have c4 : wc.cell? ⟨g9, 4, none⟩ = some (.string s.ca.f0) := ((HS.out.pick 0 rfl).cell 4).trans rfl
      have c5 : wc.cell? ⟨g9, 5, none⟩ = some (.int .i64 s.ca.f1) := ((HS.out.pick 0 rfl).cell 5).trans rfl
      have c6 : wc.cell? ⟨g9, 6, none⟩ = some (.slice vCA s.pe.length vCc) := ((HS.out.pick 0 rfl).cell 6).trans rfl
      have c7 : wc.cell? ⟨g9, 7, none⟩ = some (.slice vDA s.th.length vDc) := ((HS.out.pick 0 rfl).cell 7).trans rfl
      have c8 : wc.cell? ⟨g9, 8, none⟩ = some (.int .i64 s.no) := ((HS.out.pick 0 rfl).cell 8).trans rfl
      have d0 : wc.cell? ⟨g, 0, none⟩ = some (.int .i64 s.st) := ((HS.out.pick 1 rfl).cell 0).trans rfl
      have d1 : wc.cell? ⟨g, 1, none⟩ = some (.string s.ti) := ((HS.out.pick 1 rfl).cell 1).trans rfl
      have d2 : wc.cell? ⟨g, 2, none⟩ = some (.int .i64 s.op) := ((HS.out.pick 1 rfl).cell 2).trans rfl
      have d3 : wc.cell? ⟨g, 3, none⟩ = some (.int .i64 s.en) := ((HS.out.pick 1 rfl).cell 3).trans rfl
      have d4 : wc.cell? ⟨g, 4, none⟩ = some (.string s.ca.f0) := ((HS.out.pick 1 rfl).cell 4).trans rfl
      have d5 : wc.cell? ⟨g, 5, none⟩ = some (.int .i64 s.ca.f1) := ((HS.out.pick 1 rfl).cell 5).trans rfl
      have d6 : wc.cell? ⟨g, 6, none⟩ = some (.slice A5 s.pe.length k5) := ((HS.out.pick 1 rfl).cell 6).trans rfl
      have d7 : wc.cell? ⟨g, 7, none⟩ = some (.slice A6 s.th.length k6) := ((HS.out.pick 1 rfl).cell 7).trans rfl
      have d8 : wc.cell? ⟨g, 8, none⟩ = some (.int .i64 s.no) := ((HS.out.pick 1 rfl).cell 8).trans rfl
      go_wp2_with (first | (go_at_call 23; refine (equal_same s A5 A6 vCA vDA k5 k6 vCc vDc _ (HS.out.pick 4 rfl).rowC.2.2 (HS.out.pick 4 rfl).rowC.2.1 (HS.out.pick 5 rfl).rowC.2.2 (HS.out.pick 5 rfl).rowC.2.1 (HS.out.pick 2 rfl).rowC.2.2 (HS.out.pick 2 rfl).rowC.2.1 (HS.out.pick 3 rfl).rowC.2.2 (HS.out.pick 3 rfl).rowC.2.1 (by have := hl1.out; omega) (by have := hl1.out; omega)).mono ?_; rintro r_ wz ⟨rfl, hb⟩; have n0_ := Aside0.mk (HS.out.step hb); have n1_ := Aside0.mk (below_step' HB.out HS.out.size hb); clear HS HB; have HS := n0_; have HB := n1_; clear n0_ n1_; (try simp only [List.eraseIdx_cons_succ, List.eraseIdx_cons_zero] at HS); clear hb))
      go_ret
      exact ⟨rfl, HB.out⟩

end Go.Proofs.Ytcjfgejiknlpfaa.PI
