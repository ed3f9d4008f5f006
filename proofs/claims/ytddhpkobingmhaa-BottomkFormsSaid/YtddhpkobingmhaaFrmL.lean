/- What is read of a form that was written: the numbers and texts written. -/
import Derived.Test.YtddhpkobingmhaaDecL
namespace Go.Proofs.Ytddhpkobingmhaa.PB
open Go.RowKit Go.Proofs.YtddhpkobingmhaaW.PrintWords Go.Proofs.YtddhpkobingmhaaW.PrintLast Go.Proofs.YtddhpkobingmhaaW.PrintMore Go.Proofs.Ytddhpkobingmhaa.Sep
set_option linter.unusedVariables false
theorem bt_mid (s : ByteArray) (pre xs post : List Int) (h : bytesOf s = pre ++ (xs ++ post)) (i : Nat) (hi : i < xs.length) : bt s ((pre.length + i : Nat) : Int) = xs[i] := by
  rw [← rd_bytesOf, h]
  unfold rd
  rw [Int.toNat_natCast, List.getD_eq_getElem?_getD, List.getElem?_append_right (by omega), Nat.add_sub_cancel_left, List.getElem?_append_left hi, List.getElem?_eq_getElem hi]
  rfl
theorem lt_sz (m : Nat) : m < 256 ^ szN m := by
  induction m using Nat.strongRecOn with
  | _ m ih =>
    by_cases h : m = 0
    · subst h; rw [szN_zero]; decide
    · rw [szN_step h, Nat.pow_succ]
      have := ih (m / 256) (by omega)
      omega
theorem top_ne (m : Nat) : ∀ j, szN m = j + 1 → dgN m j ≠ 0 := by
  induction m using Nat.strongRecOn with
  | _ m ih =>
    intro j hj
    by_cases h : m = 0
    · rw [h, szN_zero] at hj; omega
    · rw [szN_step h] at hj
      by_cases h2 : m / 256 = 0
      · rw [h2, szN_zero] at hj
        obtain rfl : j = 0 := by omega
        unfold dgN
        have : m / 256 ^ 0 % 256 = m := by rw [Nat.pow_zero, Nat.div_one]; omega
        rw [this]; omega
      · obtain ⟨i, hi⟩ : ∃ i, szN (m / 256) = i + 1 := ⟨szN (m / 256 / 256), szN_step h2⟩
        obtain rfl : j = i + 1 := by omega
        rw [dgN_div]
        exact ih (m / 256) (by omega) i hi
theorem nm_digs (s : ByteArray) (p : Nat) : ∀ (k m : Nat), (∀ (i : Nat) (hi : i < (digs m k).length), bt s ((p + i : Nat) : Int) = (digs m k)[i]) → nmF s false p k = m % 256 ^ k
  | 0, m, _ => by rw [nmF, Nat.pow_zero, Nat.mod_one]
  | k + 1, m, h => by
    have e := digs_snoc m k
    have l1 := digs_len (m / 256) k
    have l2 := digs_len m (k + 1)
    have h1 := nm_digs s p k (m / 256) (fun i hi => by
      rw [h i (by omega)]
      simp only [e]
      rw [List.getElem_append_left])
    have h2 := h k (by omega)
    have h3 : (digs m (k + 1))[k]'(by omega) = dgN m 0 := by
      simp only [e]
      rw [List.getElem_append_right (by omega)]
      simp
    rw [h3, ← dg_bt] at h2
    have h4 : dgt s false (p + k) = m % 256 := by
      unfold dgN at h2
      rw [Nat.pow_zero, Nat.div_one] at h2
      omega
    rw [nmF, h1, h4, Nat.pow_succ, Nat.mul_comm (256 ^ k), Nat.mod_mul]
    omega
theorem numB_sz (n : Nat) : (numB n).length = szN n + 1 := by rw [numB, List.length_cons, digs_len]
theorem num_read (s : ByteArray) (n : Nat) (hn : n < 4611686018427387904) (pre post : List Int) (h : bytesOf s = pre ++ (numB n ++ post)) : numR s pre.length = ((n : Int), pre.length + (numB n).length, 0) := by
  have hsz : s.size = pre.length + ((numB n).length + post.length) := by rw [← bytesOf_length, h, List.length_append, List.length_append]
  have hl := numB_sz n
  have h8 := numB_len n hn
  have h0 := bt_mid s pre (numB n) post h 0 (by omega)
  have e0 : (numB n)[0]'(by omega) = 128 + (szN n : Int) := by simp [numB]
  rw [e0, Nat.add_zero] at h0
  have hd : ∀ (i : Nat) (hi : i < (digs n (szN n)).length), bt s ((pre.length + 1 + i : Nat) : Int) = (digs n (szN n))[i] := by
    intro i hi
    rw [digs_len] at hi
    have := bt_mid s pre (numB n) post h (i + 1) (by omega)
    rw [show pre.length + 1 + i = pre.length + (i + 1) from by omega, this]
    simp [numB]
  have hnm := nm_digs s (pre.length + 1) (szN n) n hd
  rw [Nat.mod_eq_of_lt (lt_sz n)] at hnm
  have ht : (bt s (pre.length : Int)).toNat = 128 + szN n := by omega
  unfold numR
  rw [if_neg (by omega), ht, decide_eq_false (by omega)]
  have hz : szR (128 + szN n) = szN n := by unfold szR; rw [if_neg (by omega)]; omega
  rw [hz]
  unfold numQ
  have g4 : ¬ (0 < szN n ∧ dgt s false (pre.length + 1) = 0) := by
    rintro ⟨g1, g2⟩
    obtain ⟨j, hj⟩ : ∃ j, szN n = j + 1 := ⟨szN n - 1, by omega⟩
    have g5 := hd 0 (by rw [digs_len]; omega)
    rw [Nat.add_zero, ← dg_bt, g2] at g5
    have g6 : (digs n (szN n))[0]'(by rw [digs_len]; omega) = dgN n j := by
      simp only [hj]
      simp [digs]
    rw [g6] at g5
    exact top_ne n j hj g5.symm
  rw [if_neg (by omega), if_neg (by omega), if_neg g4, hnm]
  rw [if_neg (by omega)]
  simp only [Bool.false_eq_true, if_false, hl]
  congr 2
  omega
theorem num_rd (s : ByteArray) (n : Nat) (hn : n < 4611686018427387904) (pre post : List Int) (h : bytesOf s = pre ++ (numB n ++ post)) : numS s pre.length 0 = ((n : Int), (pre ++ numB n).length, 0) := by
  unfold numS
  rw [if_pos rfl, num_read s n hn pre post h, List.length_append]
  rfl
theorem bool_rd (s : ByteArray) (b : Bool) (pre post : List Int) (h : bytesOf s = pre ++ (numB (b2n b) ++ post)) : boolS s pre.length 0 = (b, (pre ++ numB (b2n b)).length, 0) := by
  have h1 := num_read s (b2n b) (b2n_le b) pre post h
  unfold boolS boolE
  rw [if_pos rfl, h1, List.length_append]
  cases b <;> rfl
theorem cnt_rd (s : ByteArray) (n : Nat) (hn : n ≤ 1024) (pre post : List Int) (h : bytesOf s = pre ++ (numB n ++ post)) (hp : n ≤ post.length) : cntS s pre.length 0 1024 = ((n : Int), (pre ++ numB n).length, 0) := by
  have h1 := num_read s n (by omega) pre post h
  have hsz : s.size = pre.length + ((numB n).length + post.length) := by rw [← bytesOf_length, h, List.length_append, List.length_append]
  have h2 : sizE s pre.length 1024 6 = 0 := by
    unfold sizE
    rw [h1]
    simp only [↓reduceIte]
    rw [if_neg (by omega), if_neg (by omega), if_neg (by omega)]
  unfold cntS
  rw [if_pos rfl, if_pos h2, h1, List.length_append]
theorem bytes_inj (s t : ByteArray) (h : bytesOf s = bytesOf t) : s = t := by rw [← str_bytes s, h, str_bytes]
theorem txt_rd (s t : ByteArray) (ht : t.size ≤ 4096) (pre post : List Int) (h : bytesOf s = pre ++ (textB t ++ post)) : txtS s pre.length 0 4096 = (t, (pre ++ textB t).length, 0) := by
  rw [textB, List.append_assoc] at h
  have h1 := num_read s t.size (by omega) pre (bytesOf t ++ post) h
  have hsz : s.size = pre.length + ((numB t.size).length + (t.size + post.length)) := by rw [← bytesOf_length s, h, List.length_append, List.length_append, List.length_append, bytesOf_length]
  have h2 : sizE s pre.length 4096 5 = 0 := by
    unfold sizE
    rw [h1]
    simp only [↓reduceIte]
    rw [if_neg (by omega), if_neg (by omega), if_neg (by omega)]
  unfold txtS
  rw [if_pos rfl, if_pos h2, h1]
  simp only [Int.toNat_natCast]
  refine Prod.ext ?_ (Prod.ext ?_ rfl)
  · apply bytes_inj
    simp only
    rw [bytesOf_extract, h, ← List.append_assoc, List.drop_left' (by rw [List.length_append]), List.take_left' (bytesOf_length t)]
  · simp only [textB, List.length_append, bytesOf_length]; omega
theorem rdT_rd (s : ByteArray) : ∀ (ts : List ByteArray) (pre post : List Int), (∀ t ∈ ts, t.size ≤ 4096) → bytesOf s = pre ++ (ts.flatMap textB ++ post) → rdT s ts.length pre.length 0 = (ts, (pre ++ ts.flatMap textB).length, 0)
  | [], pre, post, _, _ => by simp [rdT]
  | t :: ts, pre, post, hz, h => by
    rw [List.flatMap_cons, List.append_assoc] at h
    have h1 := txt_rd s t (hz t (by simp)) pre _ h
    have h2 := rdT_rd s ts (pre ++ textB t) post (fun x hx => hz x (List.mem_cons_of_mem _ hx)) (by rw [h, List.append_assoc])
    rw [List.length_cons, rdT, h1]
    simp only [if_true]
    rw [h2, List.flatMap_cons, ← List.append_assoc]
end Go.Proofs.Ytddhpkobingmhaa.PB
