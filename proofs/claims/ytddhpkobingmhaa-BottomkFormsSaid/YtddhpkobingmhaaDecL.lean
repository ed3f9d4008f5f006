/- The form of a decoded form is the form: plain lists of bytes. -/
import Derived.Test.YtddhpkobingmhaaSk37
namespace Go.Proofs.Ytddhpkobingmhaa.PB
open Go.RowKit Go.Proofs.YtddhpkobingmhaaW.PrintWords Go.Proofs.YtddhpkobingmhaaW.PrintLast Go.Proofs.YtddhpkobingmhaaW.PrintMore Go.Proofs.Ytddhpkobingmhaa.Sep
set_option linter.unusedVariables false
theorem pre_step (s : ByteArray) (a : Nat) (h : a < s.size) : (bytesOf s).take (a + 1) = (bytesOf s).take a ++ [bt s (a : Int)] := by
  have hl : a < (bytesOf s).length := by rw [bytesOf_length]; exact h
  rw [List.take_add_one, List.getElem?_eq_getElem hl]
  have e : (bytesOf s)[a] = bt s (a : Int) := by
    rw [← rd_bytesOf]
    simp [rd, List.getD_eq_getElem?_getD, List.getElem?_eq_getElem hl]
  rw [e]; rfl
theorem dgN_div (n i : Nat) : dgN n (i + 1) = dgN (n / 256) i := by
  unfold dgN
  rw [Nat.pow_succ, Nat.mul_comm, Nat.div_div_eq_div_mul]
theorem digs_snoc (n : Nat) : ∀ i, digs n (i + 1) = digs (n / 256) i ++ [dgN n 0]
  | 0 => rfl
  | i + 1 => by
    rw [digs, digs_snoc n i, digs, dgN_div]; rfl
theorem dg_bt (s : ByteArray) (q : Nat) : ((dgt s false q : Nat) : Int) = bt s (q : Int) := by
  have := bt_lt s q
  unfold dgt
  simp only [Bool.false_eq_true, if_false]
  omega
theorem pre_digs (s : ByteArray) (p : Nat) : ∀ i, p + i ≤ s.size → (bytesOf s).take (p + i) = (bytesOf s).take p ++ digs (nmF s false p i) i
  | 0, _ => by simp [digs]
  | i + 1, h => by
    have h1 := pre_digs s p i (by omega)
    have h2 := dgt_lt s false (p + i)
    rw [← Nat.add_assoc, pre_step s (p + i) (by omega), h1, digs_snoc, nmF, List.append_assoc]
    congr 2
    · congr 1; omega
    · unfold dgN
      rw [← dg_bt]
      have : (nmF s false p i * 256 + dgt s false (p + i)) / 256 ^ 0 % 256 = dgt s false (p + i) := by rw [Nat.pow_zero, Nat.div_one]; omega
      rw [this]
theorem szN_nm (s : ByteArray) (p : Nat) (h : dgt s false p ≠ 0) : ∀ i, szN (nmF s false p (i + 1)) = i + 1 ∧ 0 < nmF s false p (i + 1)
  | 0 => by
    have := dgt_lt s false p
    have e : nmF s false p (0 + 1) = dgt s false p := by simp [nmF]
    rw [e, szN_step h, show dgt s false p / 256 = 0 from by omega, szN_zero]
    exact ⟨rfl, by omega⟩
  | i + 1 => by
    have h1 := szN_nm s p h i
    have h2 := dgt_lt s false (p + (i + 1))
    have e : nmF s false p (i + 1 + 1) = nmF s false p (i + 1) * 256 + dgt s false (p + (i + 1)) := by rw [nmF]
    have h3 : nmF s false p (i + 1 + 1) / 256 = nmF s false p (i + 1) := by omega
    have h4 : ¬ nmF s false p (i + 1 + 1) = 0 := by omega
    rw [szN_step h4, h3, h1.1]
    exact ⟨rfl, by omega⟩
theorem nm_true_pos (s : ByteArray) (p : Nat) (h : dgt s true p ≠ 0) : ∀ i, 0 < nmF s true p (i + 1)
  | 0 => by
    have e : nmF s true p (0 + 1) = dgt s true p := by simp [nmF]
    omega
  | i + 1 => by
    have h1 := nm_true_pos s p h i
    have e : nmF s true p (i + 1 + 1) = nmF s true p (i + 1) * 256 + dgt s true (p + (i + 1)) := by rw [nmF]
    omega
/-- A number that is read without an error, not negative: the bytes read are its bytes. -/
theorem num_pre (s : ByteArray) (a : Nat) (h : (numR s a).2.2 = 0) (hv : 0 ≤ (numR s a).1) : (bytesOf s).take (numR s a).2.1 = (bytesOf s).take a ++ numB (numR s a).1.toNat := by
  unfold numR at h hv ⊢
  by_cases h1 : s.size ≤ a
  · rw [if_pos h1] at h; simp at h
  rw [if_neg h1] at h hv ⊢
  have hb := bt_lt s (a : Int)
  unfold numQ at h hv ⊢
  by_cases hn : (bt s (a : Int)).toNat < 128
  · rw [decide_eq_true hn] at h hv
    have hz : szR (bt s (a : Int)).toNat = 128 - (bt s (a : Int)).toNat := by unfold szR; rw [if_pos hn]
    obtain ⟨i, hi⟩ : ∃ i, 128 - (bt s (a : Int)).toNat = i + 1 := ⟨128 - (bt s (a : Int)).toNat - 1, by omega⟩
    rw [hz, hi] at h hv
    exfalso
    by_cases h2 : 8 < i + 1
    · rw [if_pos h2] at h; simp at h
    rw [if_neg h2] at h hv
    by_cases h3 : s.size - (a + 1) < i + 1
    · rw [if_pos h3] at h; simp at h
    rw [if_neg h3] at h hv
    by_cases h4 : 0 < i + 1 ∧ dgt s true (a + 1) = 0
    · rw [if_pos h4] at h; simp at h
    rw [if_neg h4] at h hv
    have h6 := nm_true_pos s (a + 1) (fun e => h4 ⟨by omega, e⟩) i
    by_cases h5 : (true = false ∧ 9223372036854775807 < nmF s true (a + 1) (i + 1)) ∨ 9223372036854775808 < nmF s true (a + 1) (i + 1)
    · rw [if_pos h5] at h; simp at h
    rw [if_neg h5] at hv
    simp only [if_true] at hv
    omega
  · rw [decide_eq_false hn] at h hv ⊢
    have hz : szR (bt s (a : Int)).toNat = (bt s (a : Int)).toNat - 128 := by unfold szR; rw [if_neg hn]
    rw [hz] at h hv ⊢
    have hbe : bt s (a : Int) = 128 + (((bt s (a : Int)).toNat - 128 : Nat) : Int) := by omega
    generalize (bt s (a : Int)).toNat - 128 = k at h hv hbe ⊢
    by_cases h2 : 8 < k
    · rw [if_pos h2] at h; simp at h
    rw [if_neg h2] at h hv ⊢
    by_cases h3 : s.size - (a + 1) < k
    · rw [if_pos h3] at h; simp at h
    rw [if_neg h3] at h hv ⊢
    by_cases h4 : 0 < k ∧ dgt s false (a + 1) = 0
    · rw [if_pos h4] at h; simp at h
    rw [if_neg h4] at h hv ⊢
    by_cases h5 : (false = false ∧ 9223372036854775807 < nmF s false (a + 1) k) ∨ 9223372036854775808 < nmF s false (a + 1) k
    · rw [if_pos h5] at h; simp at h
    rw [if_neg h5] at h hv ⊢
    simp only [Bool.false_eq_true, if_false, Int.toNat_natCast]
    have hs : szN (nmF s false (a + 1) k) = k := by
      cases k with
      | zero => rw [nmF, szN_zero]
      | succ j => exact (szN_nm s (a + 1) (fun e => h4 ⟨by omega, e⟩) j).1
    rw [pre_digs s (a + 1) k (by omega), pre_step s a (by omega), numB, hs, List.append_assoc, hbe]
    rfl
theorem num_step (s : ByteArray) (a : Nat) (e : Int) (n : Nat) (h : (numS s a e).2.2 = 0) (hn : (numS s a e).1 = (n : Int)) : e = 0 ∧ (bytesOf s).take (numS s a e).2.1 = (bytesOf s).take a ++ numB n := by
  unfold numS at h hn ⊢
  by_cases h1 : e = 0
  · rw [if_pos h1] at h hn ⊢
    by_cases h2 : (numR s a).2.2 = 0
    · rw [if_pos h2] at hn ⊢
      simp only at hn ⊢
      have := num_pre s a h2 (by omega)
      rw [hn, Int.toNat_natCast] at this
      exact ⟨h1, this⟩
    · rw [if_neg h2] at h; exact absurd h h2
  · rw [if_neg h1] at h; exact absurd h h1
theorem bool_step (s : ByteArray) (a : Nat) (e : Int) (h : (boolS s a e).2.2 = 0) : e = 0 ∧ (bytesOf s).take (boolS s a e).2.1 = (bytesOf s).take a ++ numB (b2n (boolS s a e).1) := by
  unfold boolS at h ⊢
  by_cases h1 : e = 0
  · rw [if_pos h1] at h ⊢
    by_cases h2 : boolE s a = 0
    · rw [if_pos h2]
      unfold boolE at h2
      by_cases h3 : (numR s a).2.2 = 0
      · rw [if_pos h3] at h2
        by_cases h4 : (numR s a).1 = 0 ∨ (numR s a).1 = 1
        · refine ⟨h1, ?_⟩
          have := num_pre s a h3 (by omega)
          simp only
          rw [this]
          rcases h4 with h4 | h4 <;> rw [h4] <;> rfl
        · rw [if_neg h4] at h2; simp at h2
      · rw [if_neg h3] at h2; exact absurd h2 h3
    · rw [if_neg h2] at h; exact absurd h h2
  · rw [if_neg h1] at h; exact absurd h h1
theorem size_num (s : ByteArray) (a : Nat) (most more : Int) (hm : more ≠ 0) (h : sizE s a most more = 0) : (bytesOf s).take (numR s a).2.1 = (bytesOf s).take a ++ numB (numR s a).1.toNat ∧ 0 ≤ (numR s a).1 ∧ (numR s a).1 ≤ most ∧ (numR s a).2.1 + (numR s a).1.toNat ≤ s.size := by
  unfold sizE at h
  by_cases h1 : (numR s a).2.2 = 0
  · rw [if_pos h1] at h
    by_cases h2 : (numR s a).1 < 0
    · rw [if_pos h2] at h; simp at h
    rw [if_neg h2] at h
    by_cases h3 : most < (numR s a).1
    · rw [if_pos h3] at h; exact absurd h hm
    rw [if_neg h3] at h
    by_cases h4 : (s.size : Int) - (numR s a).2.1 < (numR s a).1
    · rw [if_pos h4] at h; simp at h
    have := num_pre s a h1 (by omega)
    have := (numR_le s a h1).1
    exact ⟨‹_›, by omega, by omega, by omega⟩
  · rw [if_neg h1] at h; exact absurd h h1
theorem cnt_step (s : ByteArray) (a : Nat) (e : Int) (h : (cntS s a e 1024).2.2 = 0) : e = 0 ∧ (bytesOf s).take (cntS s a e 1024).2.1 = (bytesOf s).take a ++ numB (cntS s a e 1024).1.toNat := by
  unfold cntS at h ⊢
  by_cases h1 : e = 0
  · rw [if_pos h1] at h ⊢
    by_cases h2 : sizE s a 1024 6 = 0
    · rw [if_pos h2]
      exact ⟨h1, (size_num s a 1024 6 (by decide) h2).1⟩
    · rw [if_neg h2] at h; exact absurd h h2
  · rw [if_neg h1] at h; exact absurd h h1
theorem bytesOf_extract (s : ByteArray) (p n : Nat) : bytesOf (s.extract p (p + n)) = ((bytesOf s).drop p).take n := by
  unfold bytesOf
  rw [ByteArray.data_extract, Array.toList_extract, List.extract_eq_take_drop, List.map_take, List.map_drop, Nat.add_sub_cancel_left]
theorem txt_step (s : ByteArray) (a : Nat) (e : Int) (h : (txtS s a e 4096).2.2 = 0) : e = 0 ∧ (bytesOf s).take (txtS s a e 4096).2.1 = (bytesOf s).take a ++ textB (txtS s a e 4096).1 := by
  unfold txtS at h ⊢
  by_cases h1 : e = 0
  · rw [if_pos h1] at h ⊢
    by_cases h2 : sizE s a 4096 5 = 0
    · rw [if_pos h2]
      have h3 := size_num s a 4096 5 (by decide) h2
      refine ⟨h1, ?_⟩
      simp only
      have e1 : (s.extract (numR s a).2.1 ((numR s a).2.1 + (numR s a).1.toNat)).size = (numR s a).1.toNat := by rw [ByteArray.size_extract]; omega
      rw [List.take_add, h3.1, textB, e1, bytesOf_extract, List.append_assoc]
    · rw [if_neg h2] at h; exact absurd h h2
  · rw [if_neg h1] at h; exact absurd h h1
theorem rdT_step (s : ByteArray) : ∀ (k a : Nat) (e : Int), (rdT s k a e).2.2 = 0 → e = 0 ∧ (rdT s k a e).1.length = k ∧ (bytesOf s).take (rdT s k a e).2.1 = (bytesOf s).take a ++ (rdT s k a e).1.flatMap textB ∧ ∀ t ∈ (rdT s k a e).1, t.size ≤ 4096
  | 0, a, e, h => by
    rw [rdT] at h ⊢
    exact ⟨h, rfl, by simp, by simp⟩
  | k + 1, a, e, h => by
    rw [rdT] at h ⊢
    by_cases h1 : (txtS s a e 4096).2.2 = 0
    · rw [if_pos h1] at h ⊢
      have h2 := txt_step s a e h1
      have h3 := rdT_step s k (txtS s a e 4096).2.1 0 h
      refine ⟨h2.1, by simp only [List.length_cons, h3.2.1], ?_, ?_⟩
      · simp only [List.flatMap_cons]
        rw [h3.2.2.1, h2.2, List.append_assoc]
      · intro t ht
        rcases List.mem_cons.mp ht with rfl | ht
        · unfold txtS
          split
          · split
            · have := size_num s a 4096 5 (by decide) ‹_›
              simp only [ByteArray.size_extract]; omega
            · simp [ByteArray.size]
          · simp [ByteArray.size]
        · exact h3.2.2.2 t ht
    · rw [if_neg h1] at h; exact absurd h h1
theorem txB_map (sd : Int) (ks : List ByteArray) : txB (ks.map (kyOf sd)) = ks.flatMap textB := by
  unfold txB
  rw [List.flatMap_map]; rfl
/-- What is decoded without an error: sizes in bounds, and its form is the form read. -/
theorem enc_of_dec (s : ByteArray) (sz sd : Int) (ex : Bool) (a1 a2 a3 a4 : Nat) (x1 x2 x3 x4 n : Int) (H1 : numS s 0 0 = (sz, a1, x1)) (H2 : numS s a1 x1 = (sd, a2, x2)) (H3 : boolS s a2 x2 = (ex, a3, x3)) (H4 : cntS s a3 x3 1024 = (n, a4, x4)) (ks : List ByteArray) (af : Nat) (ef : Int) (HT : rdT s n.toNat a4 x4 = (ks, af, ef)) (hE : decR s sz sd ex ks af ef = 0) :
    ∃ Kn sn : Nat, sz = (Kn : Int) ∧ sd = (sn : Int) ∧ 1 ≤ Kn ∧ Kn ≤ 1024 ∧ sn ≤ 1048576 ∧ ks.length ≤ Kn ∧ (∀ t ∈ ks, t.size ≤ 5000) ∧ encF Kn sn ex (ks.map (kyOf sd)) = bytesOf s := by
  unfold decR at hE
  by_cases e0 : ¬ (ef = 0)
  · rw [if_neg e0] at hE; exact absurd hE e0
  replace e0 := Decidable.not_not.mp e0
  rw [if_pos e0] at hE
  by_cases e1 : af < s.size
  · rw [if_pos e1] at hE; simp at hE
  rw [if_neg e1] at hE
  by_cases e2 : sz < 1 ∨ 1024 < sz ∨ sd < 0 ∨ 1048576 < sd
  · rw [if_pos e2] at hE; simp at hE
  rw [if_neg e2] at hE
  by_cases e3 : ¬ (chkF ks = 0)
  · rw [if_neg e3] at hE; exact absurd hE e3
  replace e3 := Decidable.not_not.mp e3
  rw [if_pos e3] at hE
  by_cases e4 : ¬ (ordN (ks.map (kyOf sd)) ks.length = true)
  · rw [if_neg e4] at hE; simp at hE
  replace e4 := Decidable.not_not.mp e4
  rw [if_pos e4] at hE
  by_cases e5 : sz < (ks.length : Int) ∨ ((ks.length : Int) < sz ∧ ex = false)
  · rw [if_pos e5] at hE; simp at hE
  obtain ⟨Kn, hK⟩ : ∃ k : Nat, sz = (k : Int) := ⟨sz.toNat, by omega⟩
  obtain ⟨sn, hn⟩ : ∃ k : Nat, sd = (k : Int) := ⟨sd.toNat, by omega⟩
  have t5 := rdT_step s n.toNat a4 x4 (by rw [HT]; exact e0)
  rw [HT] at t5
  simp only at t5
  have t4 := cnt_step s a3 x3 (by rw [H4]; exact t5.1)
  rw [H4] at t4
  simp only at t4
  have t3 := bool_step s a2 x2 (by rw [H3]; exact t4.1)
  rw [H3] at t3
  simp only at t3
  have t2 := num_step s a1 x1 sn (by rw [H2]; exact t3.1) (by rw [H2]; exact hn)
  rw [H2] at t2
  simp only at t2
  have t1 := num_step s 0 0 Kn (by rw [H1]; exact t2.1) (by rw [H1]; exact hK)
  rw [H1] at t1
  simp only at t1
  refine ⟨Kn, sn, hK, hn, by omega, by omega, by omega, by omega, fun t ht => by have := t5.2.2.2 t ht; omega, ?_⟩
  unfold encF
  rw [txB_map, List.length_map, t5.2.1]
  have e6 := t5.2.2.1
  rw [t4.2, t3.2, t2.2, t1.2, List.take_zero, List.take_of_length_le (by rw [bytesOf_length]; omega)] at e6
  rw [e6]
theorem str_bytes (s : ByteArray) : strOfNums (bytesOf s) = s := by
  unfold strOfNums bytesOf
  apply ByteArray.ext
  simp only [List.map_map]
  have e : ((fun n : Int => UInt8.ofNat n.toNat) ∘ fun b : UInt8 => (b.toNat : Int)) = id := by
    funext b
    simp
  rw [e, List.map_id]
end Go.Proofs.Ytddhpkobingmhaa.PB
