/- The Reader: number. -/
import Derived.Test.YtddhpkobingmhaaRdM

namespace Go.Proofs.Ytddhpkobingmhaa.PB
open Go.RowKit Go.Proofs.YtddhpkobingmhaaW.PrintWords Go.Proofs.YtddhpkobingmhaaW.PrintLast Go.Proofs.YtddhpkobingmhaaW.PrintMore Go.Proofs.Ytddhpkobingmhaa.Sep
set_option linter.unusedVariables false
set_option linter.unusedSimpArgs false
set_option maxHeartbeats 8000000
set_option maxRecDepth 100000

theorem nmF_lt7 (s : ByteArray) (neg : Bool) (p i : Nat) (h : i < 8) : nmF s neg p i < 72057594037927936 := Nat.lt_of_lt_of_le (nmF_lt s neg p i) (Nat.le_trans (Nat.pow_le_pow_right (by decide) (Nat.le_of_lt_succ h)) (by decide))
theorem nmF_lt8 (s : ByteArray) (neg : Bool) (p i : Nat) (h : i ≤ 8) : nmF s neg p i < 18446744073709551616 := Nat.lt_of_lt_of_le (nmF_lt s neg p i) (Nat.le_trans (Nat.pow_le_pow_right (by decide) h) (by decide))
theorem rd_facts (at_ sz n i q : Nat) (h3 : ¬ n - (at_ + 1) < sz) (hlt : i < sz) (hs : n ≤ 140737488355328) (h8 : ¬ 8 < sz) (hq : at_ + 1 + i = q) : decide ((i : Int) < (sz : Int)) = true ∧ wrap64 ((at_ : Int) + 1 + (i : Int)) = (at_ : Int) + 1 + (i : Int) ∧ ((at_ : Int) + 1 + (i : Int)).toNat = at_ + 1 + i ∧ ((0 : Int) ≤ (at_ : Int) + 1 + (i : Int)) = True ∧ ((at_ : Int) + 1 + (i : Int) < (n : Int)) = True ∧ (at_ + 1 + i < n) = True ∧ wrap64 ((i : Int) + 1) = (i : Int) + 1 :=
  ⟨decide_eq_true (by omega), wrap64_small _ (by omega) (by omega), by omega, eq_true (by omega), eq_true (by omega), eq_true (by omega), wrap64_small _ (by omega) (by omega)⟩
theorem hdn_ok (s : ByteArray) (neg : Bool) (p i sz q d : Nat) (h : ¬ (0 < sz ∧ dgt s neg p = 0)) (hlt : i < sz) (hq : p + i = q) (hd : dgt s neg q = d) : i = 0 → ¬ d = 0 := fun h0 e => h ⟨by omega, by subst h0; rw [← hd, ← hq] at e; exact e⟩
theorem nm_fin (s : ByteArray) (neg : Bool) (p i sz q d mi : Nat) (hlt : i < sz) (hq : p + i = q) (hd : dgt s neg q = d) (hm : nmF s neg p i = mi) : ∃ i' : Nat, i' ≤ sz ∧ Value.int .i64 ((i : Int) + 1) = .int .i64 i' ∧ Value.int .u64 ((mi : Int) * 256 + (d : Int)) = .int .u64 (nmF s neg p i') := ⟨i + 1, hlt, by rw [Int.natCast_add]; rfl, by rw [nmF, hm, hq, hd, Int.natCast_add, Int.natCast_mul]; rfl⟩
theorem meas_w0 (sz : Nat) (hlt : 0 < sz) : ((sz : Int) - intOf (.int .i64 1)).toNat < ((sz : Int) - intOf (.int .i64 ((0 : Nat) : Int))).toNat := by simp only [intOf]; omega
theorem nz_beq {i : Nat} (h : ¬ i = 0) : ((i : Int) == 0) = false ∧ ((i : Int) = 0) = False ∧ (i = 0) = False := ⟨by rw [beq_eq_false_iff_ne]; omega, eq_false (by omega), eq_false h⟩
theorem dg_ne (s : ByteArray) (neg : Bool) (at_ sz : Nat) (h : ¬ (0 < sz ∧ dgt s neg (at_ + 1) = 0)) (hlt : 0 < sz) : ((dgt s neg (at_ + 1) : Int) == 0) = false ∧ ((dgt s neg (at_ + 1) : Int) = 0) = False ∧ (dgt s neg (at_ + 1) = 0) = False :=
  have h0 : ¬ dgt s neg (at_ + 1) = 0 := fun e => h ⟨hlt, e⟩
  nz_beq h0
theorem rd_badP (m : Nat) (h : 9223372036854775807 < m) : decide ((m : Int) > 9223372036854775807) = true ∧ ((9223372036854775807 : Int) < (m : Int)) = True := ⟨decide_eq_true (by omega), eq_true (by omega)⟩
theorem rd_badN (m : Nat) (h : 9223372036854775808 < m) : decide ((m : Int) > 9223372036854775808) = true ∧ ((9223372036854775808 : Int) < (m : Int)) = True := ⟨decide_eq_true (by omega), eq_true (by omega)⟩
theorem rd_goodP (m at_ i n : Nat) (h : ¬ 9223372036854775807 < m) (h3 : ¬ n - (at_ + 1) < i) (hs : n ≤ 140737488355328) (h1 : ¬ n ≤ at_) (h2 : ¬ 8 < i) : ((9223372036854775807 : Int) < (m : Int)) = False ∧ ((9223372036854775808 : Int) < (m : Int)) = False ∧ wrap64 (m : Int) = (m : Int) ∧ wrap64 ((at_ : Int) + 1 + (i : Int)) = ((at_ + 1 + i : Nat) : Int) := ⟨eq_false (by omega), eq_false (by omega), wrap64_small _ (by omega) (by omega), by rw [wrap64_small _ (by omega) (by omega)]; omega⟩
theorem rd_goodN (m at_ i n : Nat) (h : ¬ 9223372036854775808 < m) (h3 : ¬ n - (at_ + 1) < i) (hs : n ≤ 140737488355328) (h1 : ¬ n ≤ at_) (h2 : ¬ 8 < i) : ((9223372036854775808 : Int) < (m : Int)) = False ∧ decide ((m : Int) > 9223372036854775808) = false ∧ wrap64 (IntKind.u64.wrap (-(m : Int))) = -(m : Int) ∧ wrap64 ((at_ : Int) + 1 + (i : Int)) = ((at_ + 1 + i : Nat) : Int) := ⟨eq_false (by omega), decide_eq_false (by omega), by rw [IntKind.wrap_u64]; unfold wrap64; omega, by rw [wrap64_small _ (by omega) (by omega)]; omega⟩
theorem number_ok (g : Nat) (s : ByteArray) (hs : s.size ≤ 140737488355328) (at_ : Nat) (z er : Int) {N : Nat} {w : World} {L : List Res} (HS0 : St N w (Blk g #[.string s, .int .i64 z, .int .i64 er] 98 :: L)) :
    Calls Try.prog 73 #[.pointer (some ⟨g, 0, none⟩), .int .i64 at_] w fun e w' => e = .returned (.tuple #[.int .i64 (numR s at_).1, .int .i64 (numR s at_).2.1, .int .i64 (numR s at_).2.2]) ∧ w' = w := by
  have hc0 := (HS0.cell 0).trans (show _ = some (.string s) from rfl)
  clear HS0
  by_cases h1 : s.size ≤ at_
  · have q1 : decide ((at_ : Int) ≥ (s.size : Int)) = true := decide_eq_true (by omega)
    rw [show numR s at_ = (0, 0, 4) from if_pos h1]
    go_enter Try.func73, Try.ntmps73
    go_wp2
    go_ret3
    exact ⟨rfl, rfl⟩
  have q1 : decide ((at_ : Int) ≥ (s.size : Int)) = false := decide_eq_false (by omega)
  have q2 : (0 : Int) ≤ (at_ : Int) := by omega
  have q3 : (at_ : Int) < (s.size : Int) := by omega
  have hbt := bt_lt s at_
  have hbe : ∀ h : at_ < s.size, (s[at_]'h).toNat = (bt s at_).toNat := fun h => bt_eq s at_ h
  rw [show numR s at_ = numQ s at_ (decide ((bt s at_).toNat < 128)) (szR (bt s at_).toNat) from if_neg h1]
  obtain ⟨b, hb_⟩ : ∃ b, (bt s at_).toNat = b := ⟨_, rfl⟩
  have hb8 : b < 256 := by omega
  rw [hb_] at hbe ⊢
  clear hbt hb_
  obtain ⟨sz, hz⟩ : ∃ z, szR b = z := ⟨_, rfl⟩
  rw [hz]
  go_enter Try.func73, Try.ntmps73
  by_cases hb : b < 128
  · rw [decide_eq_true hb]
    have hZ : (-((b : Int) - 128)) = (sz : Int) := by rw [← hz]; unfold szR; rw [if_pos hb]; omega
    have e3 : decide ((b : Int) - 128 < 0) = true := decide_eq_true (by omega)
    have e3' : ((b : Int) - 128 < 0) = True := eq_true (by omega)
    by_cases h2 : 8 < sz
    · have q4 : decide (8 < (sz : Int)) = true := decide_eq_true (by omega)
      have q5 : ((8 : Int) < (sz : Int)) = True := eq_true (by omega)
      rw [show numQ s at_ true sz = (0, 0, 3) from if_pos h2]
      go_wp2
      go_ret3
      exact ⟨rfl, rfl⟩
    have q4 : decide (8 < (sz : Int)) = false := decide_eq_false (by omega)
    have q5 : ((8 : Int) < (sz : Int)) = False := eq_false (by omega)
    have q6 : wrap64 ((at_ : Int) + 1) = (at_ : Int) + 1 := wrap64_small _ (by omega) (by omega)
    have q7 : wrap64 ((s.size : Int) - ((at_ : Int) + 1)) = (s.size : Int) - ((at_ : Int) + 1) := wrap64_small _ (by omega) (by omega)
    by_cases h3 : s.size - (at_ + 1) < sz
    · have q8 : decide ((s.size : Int) - ((at_ : Int) + 1) < (sz : Int)) = true := decide_eq_true (by omega)
      rw [show numQ s at_ true sz = (0, 0, 4) by unfold numQ; rw [if_neg h2, if_pos h3]]
      go_wp2
      go_ret3
      exact ⟨rfl, rfl⟩
    have q8 : decide ((s.size : Int) - ((at_ : Int) + 1) < (sz : Int)) = false := decide_eq_false (by omega)
    by_cases h4 : 0 < sz ∧ dgt s true (at_ + 1) = 0
    · rw [show numQ s at_ true sz = (0, 0, 3) by unfold numQ; rw [if_neg h2, if_neg h3, if_pos h4]]
      go_wp2
      go_loopw [10, 47] (fun v10 v47 wc => v47 = .int .i64 0 ∧ v10 = .int .u64 0 ∧ wc = w) (fun _ _ _ => 0)
      case atStart => exact ⟨rfl, rfl, rfl⟩
      case round =>
        obtain ⟨rfl, rfl, rfl⟩ := hrel
        have p1 : decide ((0 : Int) < (sz : Int)) = true := decide_eq_true (by omega)
        have p2 : wrap64 ((at_ : Int) + 1 + 0) = ((at_ + 1 : Nat) : Int) := by rw [Int.add_zero]; exact q6
        have p3 : (0 : Int) ≤ ((at_ + 1 : Nat) : Int) := by omega
        have p4 : ((at_ + 1 : Nat) : Int) < (s.size : Int) := by omega
        have p5 : ∀ h : at_ + 1 < s.size, (s[at_ + 1]'h).toNat = (bt s ((at_ + 1 : Nat) : Int)).toNat := fun h => bt_eq s (at_ + 1) h
        have p6 : bits BinOp.xor IntKind.u8 ((bt s ((at_ + 1 : Nat) : Int)).toNat : Int) 255 = 0 := by rw [dg_neg s (at_ + 1), h4.2]; rfl
        obtain ⟨c, hc⟩ : ∃ c, (bt s ((at_ + 1 : Nat) : Int)).toNat = c := ⟨_, rfl⟩
        rw [hc] at p5 p6
        clear hc
        have p7 : (0 : Int) ≤ (at_ : Int) + 1 := by omega
        have p8 : (at_ : Int) + 1 < (s.size : Int) := by omega
        have p9 : ((at_ : Int) + 1).toNat = at_ + 1 := by omega
        go_wp2
        go_ret3
        exact ⟨rfl, rfl⟩
    have h4' := Aside0.mk h4
    have h3' := Aside0.mk h3
    have h2' := Aside0.mk h2
    obtain ⟨m, hm⟩ : ∃ m, nmF s true (at_ + 1) sz = m := ⟨_, rfl⟩
    by_cases h5 : 9223372036854775808 < m
    · rw [show numQ s at_ true sz = (0, 0, 3) by unfold numQ; rw [if_neg h2, if_neg h3, if_neg h4, hm]; rw [if_pos (by exact .inr h5)]]
      have h5' := Aside0.mk h5
      replace hm := Aside0.mk hm
      clear h4 h3 h2 h5
      go_wp2
      clear e3 e3' q4 q5 q8
      go_loopw [10, 47] (fun v10 v47 wc => ∃ i : Nat, i ≤ sz ∧ v47 = .int .i64 i ∧ v10 = .int .u64 (nmF s true (at_ + 1) i) ∧ wc = w) (fun _ v47 _ => (sz - intOf v47).toNat)
      case atStart => exact ⟨0, Nat.zero_le _, rfl, rfl, rfl⟩
      case round =>
        obtain ⟨i, hi, rfl, rfl, rfl⟩ := hrel
        by_cases hlt : i < sz
        · obtain ⟨q, hq⟩ : ∃ q, at_ + 1 + i = q := ⟨_, rfl⟩
          obtain ⟨p1, p2, p2', p3, p4, p7, p12⟩ := rd_facts at_ sz s.size i q h3'.out hlt hs h2'.out hq
          have p5 : ∀ h : at_ + 1 + i < s.size, (s[at_ + 1 + i]'h).toNat = (bt s (q : Int)).toNat := hq ▸ fun h => bt_eq s (at_ + 1 + i) h
          have p6 := dg_neg s q
          obtain ⟨c, hc⟩ : ∃ c, (bt s (q : Int)).toNat = c := ⟨_, rfl⟩
          obtain ⟨d, hd⟩ : ∃ d, dgt s true q = d := ⟨_, rfl⟩
          rw [hc, hd] at p6
          rw [hc] at p5
          clear hc
          have p8 := or_step (nmF s true (at_ + 1) i) d (nmF_lt7 s true (at_ + 1) i (Nat.lt_of_lt_of_le hlt (Nat.le_of_not_lt h2'.out))) (hd ▸ dgt_lt _ _ _)
          obtain ⟨mi, hmi⟩ : ∃ x, nmF s true (at_ + 1) i = x := ⟨_, rfl⟩
          rw [hmi] at p8 ⊢
          have fin := Aside0.mk (nm_fin s true (at_ + 1) i sz q d mi hlt hq hd hmi)
          have mea := Aside0.mk (meas_w i sz hlt)
          have hdn := Aside0.mk (hdn_ok s true (at_ + 1) i sz q d h4'.out hlt hq hd)
          replace hmi := Aside0.mk hmi
          replace hd := Aside0.mk hd
          replace hq := Aside0.mk hq
          by_cases h0 : i = 0
          · obtain ⟨p14, p15, p16⟩ := nz_beq (hdn.out h0)
            have p13 : ((i : Int) == 0) = true := by rw [h0]; rfl
            have p17 : ((i : Int) = 0) = True := eq_true (by rw [h0]; rfl)
            have p18 : (i = 0) = True := eq_true h0
            clear hi h0 p2'
            go_wp2
            obtain ⟨i', x1, x2, x3⟩ := fin.out
            exact ⟨⟨i', x1, x2, x3, by first | rfl | trivial⟩, mea.out⟩
          · obtain ⟨p13, p14, p15⟩ := nz_beq h0
            clear hi h0 p2'
            go_wp2
            obtain ⟨i', x1, x2, x3⟩ := fin.out
            exact ⟨⟨i', x1, x2, x3, by first | rfl | trivial⟩, mea.out⟩
        · obtain rfl : i = sz := Nat.le_antisymm hi (Nat.le_of_not_lt hlt)
          have p1 : decide ((i : Int) < (i : Int)) = false := decide_eq_false (Int.lt_irrefl _)
          rw [hm.out]
          have h5 := h5'.out
          clear hi hlt
          obtain ⟨r1, r2⟩ := rd_badN m h5
          go_wp2
          go_ret3
          exact ⟨rfl, rfl⟩
    · rw [show numQ s at_ true sz = (-(m : Int), at_ + 1 + sz, 0) by unfold numQ; rw [if_neg h2, if_neg h3, if_neg h4, hm]; rw [if_neg (by exact fun h => h.elim (fun h => Bool.noConfusion h.1) h5)]; rfl]
      have h5' := Aside0.mk h5
      replace hm := Aside0.mk hm
      clear h4 h3 h2 h5
      go_wp2
      clear e3 e3' q4 q5 q8
      go_loopw [10, 47] (fun v10 v47 wc => ∃ i : Nat, i ≤ sz ∧ v47 = .int .i64 i ∧ v10 = .int .u64 (nmF s true (at_ + 1) i) ∧ wc = w) (fun _ v47 _ => (sz - intOf v47).toNat)
      case atStart => exact ⟨0, Nat.zero_le _, rfl, rfl, rfl⟩
      case round =>
        obtain ⟨i, hi, rfl, rfl, rfl⟩ := hrel
        by_cases hlt : i < sz
        · obtain ⟨q, hq⟩ : ∃ q, at_ + 1 + i = q := ⟨_, rfl⟩
          obtain ⟨p1, p2, p2', p3, p4, p7, p12⟩ := rd_facts at_ sz s.size i q h3'.out hlt hs h2'.out hq
          have p5 : ∀ h : at_ + 1 + i < s.size, (s[at_ + 1 + i]'h).toNat = (bt s (q : Int)).toNat := hq ▸ fun h => bt_eq s (at_ + 1 + i) h
          have p6 := dg_neg s q
          obtain ⟨c, hc⟩ : ∃ c, (bt s (q : Int)).toNat = c := ⟨_, rfl⟩
          obtain ⟨d, hd⟩ : ∃ d, dgt s true q = d := ⟨_, rfl⟩
          rw [hc, hd] at p6
          rw [hc] at p5
          clear hc
          have p8 := or_step (nmF s true (at_ + 1) i) d (nmF_lt7 s true (at_ + 1) i (Nat.lt_of_lt_of_le hlt (Nat.le_of_not_lt h2'.out))) (hd ▸ dgt_lt _ _ _)
          obtain ⟨mi, hmi⟩ : ∃ x, nmF s true (at_ + 1) i = x := ⟨_, rfl⟩
          rw [hmi] at p8 ⊢
          have fin := Aside0.mk (nm_fin s true (at_ + 1) i sz q d mi hlt hq hd hmi)
          have mea := Aside0.mk (meas_w i sz hlt)
          have hdn := Aside0.mk (hdn_ok s true (at_ + 1) i sz q d h4'.out hlt hq hd)
          replace hmi := Aside0.mk hmi
          replace hd := Aside0.mk hd
          replace hq := Aside0.mk hq
          by_cases h0 : i = 0
          · obtain ⟨p14, p15, p16⟩ := nz_beq (hdn.out h0)
            have p13 : ((i : Int) == 0) = true := by rw [h0]; rfl
            have p17 : ((i : Int) = 0) = True := eq_true (by rw [h0]; rfl)
            have p18 : (i = 0) = True := eq_true h0
            clear hi h0 p2'
            go_wp2
            obtain ⟨i', x1, x2, x3⟩ := fin.out
            exact ⟨⟨i', x1, x2, x3, by first | rfl | trivial⟩, mea.out⟩
          · obtain ⟨p13, p14, p15⟩ := nz_beq h0
            clear hi h0 p2'
            go_wp2
            obtain ⟨i', x1, x2, x3⟩ := fin.out
            exact ⟨⟨i', x1, x2, x3, by first | rfl | trivial⟩, mea.out⟩
        · obtain rfl : i = sz := Nat.le_antisymm hi (Nat.le_of_not_lt hlt)
          have p1 : decide ((i : Int) < (i : Int)) = false := decide_eq_false (Int.lt_irrefl _)
          rw [hm.out]
          have h5 := h5'.out
          clear hi hlt
          obtain ⟨r1, r2, r3, r4⟩ := rd_goodN m at_ i s.size h5 h3'.out hs h1 h2'.out
          go_wp2
          go_ret3
          exact ⟨rfl, rfl⟩

  · rw [decide_eq_false hb]
    have hZ : ((b : Int) - 128) = (sz : Int) := by rw [← hz]; unfold szR; rw [if_neg hb]; omega
    have e3 : decide ((sz : Int) < 0) = false := decide_eq_false (by omega)
    have e3' : ((sz : Int) < 0) = False := eq_false (by omega)
    by_cases h2 : 8 < sz
    · have q4 : decide (8 < (sz : Int)) = true := decide_eq_true (by omega)
      have q5 : ((8 : Int) < (sz : Int)) = True := eq_true (by omega)
      rw [show numQ s at_ false sz = (0, 0, 3) from if_pos h2]
      go_wp2
      go_ret3
      exact ⟨rfl, rfl⟩
    have q4 : decide (8 < (sz : Int)) = false := decide_eq_false (by omega)
    have q5 : ((8 : Int) < (sz : Int)) = False := eq_false (by omega)
    have q6 : wrap64 ((at_ : Int) + 1) = (at_ : Int) + 1 := wrap64_small _ (by omega) (by omega)
    have q7 : wrap64 ((s.size : Int) - ((at_ : Int) + 1)) = (s.size : Int) - ((at_ : Int) + 1) := wrap64_small _ (by omega) (by omega)
    by_cases h3 : s.size - (at_ + 1) < sz
    · have q8 : decide ((s.size : Int) - ((at_ : Int) + 1) < (sz : Int)) = true := decide_eq_true (by omega)
      rw [show numQ s at_ false sz = (0, 0, 4) by unfold numQ; rw [if_neg h2, if_pos h3]]
      go_wp2
      go_ret3
      exact ⟨rfl, rfl⟩
    have q8 : decide ((s.size : Int) - ((at_ : Int) + 1) < (sz : Int)) = false := decide_eq_false (by omega)
    by_cases h4 : 0 < sz ∧ dgt s false (at_ + 1) = 0
    · rw [show numQ s at_ false sz = (0, 0, 3) by unfold numQ; rw [if_neg h2, if_neg h3, if_pos h4]]
      go_wp2
      go_loopw [10, 47] (fun v10 v47 wc => v47 = .int .i64 0 ∧ v10 = .int .u64 0 ∧ wc = w) (fun _ _ _ => 0)
      case atStart => exact ⟨rfl, rfl, rfl⟩
      case round =>
        obtain ⟨rfl, rfl, rfl⟩ := hrel
        have p1 : decide ((0 : Int) < (sz : Int)) = true := decide_eq_true (by omega)
        have p2 : wrap64 ((at_ : Int) + 1 + 0) = ((at_ + 1 : Nat) : Int) := by rw [Int.add_zero]; exact q6
        have p3 : (0 : Int) ≤ ((at_ + 1 : Nat) : Int) := by omega
        have p4 : ((at_ + 1 : Nat) : Int) < (s.size : Int) := by omega
        have p5 : ∀ h : at_ + 1 < s.size, (s[at_ + 1]'h).toNat = (bt s ((at_ + 1 : Nat) : Int)).toNat := fun h => bt_eq s (at_ + 1) h
        have p6 : bits BinOp.xor IntKind.u8 ((bt s ((at_ + 1 : Nat) : Int)).toNat : Int) 0 = 0 := by rw [dg_pos s (at_ + 1), h4.2]; rfl
        obtain ⟨c, hc⟩ : ∃ c, (bt s ((at_ + 1 : Nat) : Int)).toNat = c := ⟨_, rfl⟩
        rw [hc] at p5 p6
        clear hc
        have p7 : (0 : Int) ≤ (at_ : Int) + 1 := by omega
        have p8 : (at_ : Int) + 1 < (s.size : Int) := by omega
        have p9 : ((at_ : Int) + 1).toNat = at_ + 1 := by omega
        go_wp2
        go_ret3
        exact ⟨rfl, rfl⟩
    have h4' := Aside0.mk h4
    have h3' := Aside0.mk h3
    have h2' := Aside0.mk h2
    obtain ⟨m, hm⟩ : ∃ m, nmF s false (at_ + 1) sz = m := ⟨_, rfl⟩
    by_cases h5 : 9223372036854775807 < m
    · rw [show numQ s at_ false sz = (0, 0, 3) by unfold numQ; rw [if_neg h2, if_neg h3, if_neg h4, hm]; rw [if_pos (by exact .inl ⟨rfl, h5⟩)]]
      have h5' := Aside0.mk h5
      replace hm := Aside0.mk hm
      clear h4 h3 h2 h5
      go_wp2
      clear e3 e3' q4 q5 q8
      go_loopw [10, 47] (fun v10 v47 wc => ∃ i : Nat, i ≤ sz ∧ v47 = .int .i64 i ∧ v10 = .int .u64 (nmF s false (at_ + 1) i) ∧ wc = w) (fun _ v47 _ => (sz - intOf v47).toNat)
      case atStart => exact ⟨0, Nat.zero_le _, rfl, rfl, rfl⟩
      case round =>
        obtain ⟨i, hi, rfl, rfl, rfl⟩ := hrel
        by_cases hlt : i < sz
        · obtain ⟨q, hq⟩ : ∃ q, at_ + 1 + i = q := ⟨_, rfl⟩
          obtain ⟨p1, p2, p2', p3, p4, p7, p12⟩ := rd_facts at_ sz s.size i q h3'.out hlt hs h2'.out hq
          have p5 : ∀ h : at_ + 1 + i < s.size, (s[at_ + 1 + i]'h).toNat = (bt s (q : Int)).toNat := hq ▸ fun h => bt_eq s (at_ + 1 + i) h
          have p6 := dg_pos s q
          obtain ⟨c, hc⟩ : ∃ c, (bt s (q : Int)).toNat = c := ⟨_, rfl⟩
          obtain ⟨d, hd⟩ : ∃ d, dgt s false q = d := ⟨_, rfl⟩
          rw [hc, hd] at p6
          rw [hc] at p5
          clear hc
          have p8 := or_step (nmF s false (at_ + 1) i) d (nmF_lt7 s false (at_ + 1) i (Nat.lt_of_lt_of_le hlt (Nat.le_of_not_lt h2'.out))) (hd ▸ dgt_lt _ _ _)
          obtain ⟨mi, hmi⟩ : ∃ x, nmF s false (at_ + 1) i = x := ⟨_, rfl⟩
          rw [hmi] at p8 ⊢
          have fin := Aside0.mk (nm_fin s false (at_ + 1) i sz q d mi hlt hq hd hmi)
          have mea := Aside0.mk (meas_w i sz hlt)
          have hdn := Aside0.mk (hdn_ok s false (at_ + 1) i sz q d h4'.out hlt hq hd)
          replace hmi := Aside0.mk hmi
          replace hd := Aside0.mk hd
          replace hq := Aside0.mk hq
          by_cases h0 : i = 0
          · obtain ⟨p14, p15, p16⟩ := nz_beq (hdn.out h0)
            have p13 : ((i : Int) == 0) = true := by rw [h0]; rfl
            have p17 : ((i : Int) = 0) = True := eq_true (by rw [h0]; rfl)
            have p18 : (i = 0) = True := eq_true h0
            clear hi h0 p2'
            go_wp2
            obtain ⟨i', x1, x2, x3⟩ := fin.out
            exact ⟨⟨i', x1, x2, x3, by first | rfl | trivial⟩, mea.out⟩
          · obtain ⟨p13, p14, p15⟩ := nz_beq h0
            clear hi h0 p2'
            go_wp2
            obtain ⟨i', x1, x2, x3⟩ := fin.out
            exact ⟨⟨i', x1, x2, x3, by first | rfl | trivial⟩, mea.out⟩
        · obtain rfl : i = sz := Nat.le_antisymm hi (Nat.le_of_not_lt hlt)
          have p1 : decide ((i : Int) < (i : Int)) = false := decide_eq_false (Int.lt_irrefl _)
          rw [hm.out]
          have h5 := h5'.out
          clear hi hlt
          obtain ⟨r1, r2⟩ := rd_badP m h5
          go_wp2
          go_ret3
          exact ⟨rfl, rfl⟩
    · rw [show numQ s at_ false sz = ((m : Int), at_ + 1 + sz, 0) by unfold numQ; rw [if_neg h2, if_neg h3, if_neg h4, hm]; rw [if_neg (by exact fun h => h.elim (fun h => h5 h.2) (fun h => h5 (Nat.lt_trans (by decide) h)))]; rfl]
      have h5' := Aside0.mk h5
      replace hm := Aside0.mk hm
      clear h4 h3 h2 h5
      go_wp2
      clear e3 e3' q4 q5 q8
      go_loopw [10, 47] (fun v10 v47 wc => ∃ i : Nat, i ≤ sz ∧ v47 = .int .i64 i ∧ v10 = .int .u64 (nmF s false (at_ + 1) i) ∧ wc = w) (fun _ v47 _ => (sz - intOf v47).toNat)
      case atStart => exact ⟨0, Nat.zero_le _, rfl, rfl, rfl⟩
      case round =>
        obtain ⟨i, hi, rfl, rfl, rfl⟩ := hrel
        by_cases hlt : i < sz
        · obtain ⟨q, hq⟩ : ∃ q, at_ + 1 + i = q := ⟨_, rfl⟩
          obtain ⟨p1, p2, p2', p3, p4, p7, p12⟩ := rd_facts at_ sz s.size i q h3'.out hlt hs h2'.out hq
          have p5 : ∀ h : at_ + 1 + i < s.size, (s[at_ + 1 + i]'h).toNat = (bt s (q : Int)).toNat := hq ▸ fun h => bt_eq s (at_ + 1 + i) h
          have p6 := dg_pos s q
          obtain ⟨c, hc⟩ : ∃ c, (bt s (q : Int)).toNat = c := ⟨_, rfl⟩
          obtain ⟨d, hd⟩ : ∃ d, dgt s false q = d := ⟨_, rfl⟩
          rw [hc, hd] at p6
          rw [hc] at p5
          clear hc
          have p8 := or_step (nmF s false (at_ + 1) i) d (nmF_lt7 s false (at_ + 1) i (Nat.lt_of_lt_of_le hlt (Nat.le_of_not_lt h2'.out))) (hd ▸ dgt_lt _ _ _)
          obtain ⟨mi, hmi⟩ : ∃ x, nmF s false (at_ + 1) i = x := ⟨_, rfl⟩
          rw [hmi] at p8 ⊢
          have fin := Aside0.mk (nm_fin s false (at_ + 1) i sz q d mi hlt hq hd hmi)
          have mea := Aside0.mk (meas_w i sz hlt)
          have hdn := Aside0.mk (hdn_ok s false (at_ + 1) i sz q d h4'.out hlt hq hd)
          replace hmi := Aside0.mk hmi
          replace hd := Aside0.mk hd
          replace hq := Aside0.mk hq
          by_cases h0 : i = 0
          · obtain ⟨p14, p15, p16⟩ := nz_beq (hdn.out h0)
            have p13 : ((i : Int) == 0) = true := by rw [h0]; rfl
            have p17 : ((i : Int) = 0) = True := eq_true (by rw [h0]; rfl)
            have p18 : (i = 0) = True := eq_true h0
            clear hi h0 p2'
            go_wp2
            obtain ⟨i', x1, x2, x3⟩ := fin.out
            exact ⟨⟨i', x1, x2, x3, by first | rfl | trivial⟩, mea.out⟩
          · obtain ⟨p13, p14, p15⟩ := nz_beq h0
            clear hi h0 p2'
            go_wp2
            obtain ⟨i', x1, x2, x3⟩ := fin.out
            exact ⟨⟨i', x1, x2, x3, by first | rfl | trivial⟩, mea.out⟩
        · obtain rfl : i = sz := Nat.le_antisymm hi (Nat.le_of_not_lt hlt)
          have p1 : decide ((i : Int) < (i : Int)) = false := decide_eq_false (Int.lt_irrefl _)
          rw [hm.out]
          have h5 := h5'.out
          clear hi hlt
          obtain ⟨r1, r2, r3, r4⟩ := rd_goodP m at_ i s.size h5 h3'.out hs h1 h2'.out
          go_wp2
          go_ret3
          exact ⟨rfl, rfl⟩


end Go.Proofs.Ytddhpkobingmhaa.PB
