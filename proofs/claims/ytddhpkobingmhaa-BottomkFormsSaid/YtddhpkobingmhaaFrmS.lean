/- Contracts for the walk of BottomkForms: with letters for the strings and the answers. -/
import Derived.Test.YtddhpkobingmhaaFrmD
namespace Go.Proofs.Ytddhpkobingmhaa.PB
open Go.RowKit Go.Proofs.YtddhpkobingmhaaW.PrintWords Go.Proofs.YtddhpkobingmhaaW.PrintLast Go.Proofs.YtddhpkobingmhaaW.PrintMore Go.Proofs.Ytddhpkobingmhaa.Sep
set_option linter.unusedVariables false
theorem ins_mem (x : S52) : ∀ (l : List S52) (y : S52), y ∈ ins x l → y = x ∨ y ∈ l
  | [], y, h => by simp [ins] at h; exact .inl h
  | z :: l, y, h => by
    rw [ins] at h
    split at h
    · rcases List.mem_cons.mp h with rfl | h
      · exact .inr (by simp)
      · rcases ins_mem x l y h with h | h
        · exact .inl h
        · exact .inr (List.mem_cons_of_mem _ h)
    · split at h
      · exact .inr h
      · rcases List.mem_cons.mp h with rfl | h
        · exact .inl rfl
        · exact .inr h
theorem foldl_all (hs : ByteArray → Int) : ∀ (ts : List ByteArray) (l : List S52) (y : S52), y ∈ ts.foldl (fun l t => ins ⟨hs t, t⟩ l) l → y ∈ l ∨ ∃ t ∈ ts, y = ⟨hs t, t⟩
  | [], l, y, h => .inl h
  | t :: ts, l, y, h => by
    rcases foldl_all hs ts _ y h with h | ⟨u, hu, e⟩
    · rcases ins_mem _ _ _ h with h | h
      · exact .inr ⟨t, by simp, h⟩
      · exact .inl h
    · exact .inr ⟨u, List.mem_cons_of_mem _ hu, e⟩
theorem foldk_all (sd : Int) (ts : List ByteArray) (h : ∀ t ∈ ts, t.size ≤ 4096 ∧ chk t = 0) : ∀ k ∈ foldk (hashT sd) ts, k.f1.size ≤ 4096 ∧ chk k.f1 = 0 ∧ k = kyOf sd k.f1 := by
  intro k hk
  rcases foldl_all (hashT sd) ts [] k hk with hk | ⟨t, ht, rfl⟩
  · simp at hk
  · exact ⟨(h t ht).1, (h t ht).2, rfl⟩
theorem fold_next (hs : ByteArray → Int) (ts us : List ByteArray) (j : Nat) (h : j < us.length) (t : ByteArray) (e : rdOf ByteArray.empty us (j : Int) = t) : ins ⟨hs t, t⟩ (foldk hs (ts ++ us.take j)) = foldk hs (ts ++ us.take (j + 1)) := by
  rw [← foldk_snoc, take_snoc us j h, e, List.append_assoc]
theorem encF_len (Kn sn : Nat) (ex : Bool) (ks : List S52) (hK : Kn ≤ 1024) (hs : sn ≤ 1048576) (hl : ks.length ≤ 1024) (hz : ∀ k ∈ ks, k.f1.size ≤ 5000) : (strOfNums (encF Kn sn ex ks)).size ≤ 140737488355328 := by
  rw [strOfNums_size]
  unfold encF
  have h1 := numB_len Kn (by omega)
  have h2 := numB_len sn (by omega)
  have h3 := numB_len _ (b2n_le ex)
  have h4 := numB_len ks.length (by omega)
  have h5 := txB_len ks hz ks.length (Nat.le_refl _)
  rw [List.take_length] at h5
  simp only [List.length_append, List.length_nil]
  omega
theorem Encode_to (p Kn sn : Nat) (hK : Kn ≤ 1024) (hs : sn ≤ 1048576) (l : List S52) (hz : ∀ k ∈ l, k.f1.size ≤ 5000) (s : ByteArray) (h : strOfNums (encF Kn sn (!(decide (Kn < l.length))) (l.take Kn)) = s) {N : Nat} {w : World} {L : List Res} (HS0 : St N w (Sk p Kn sn l :: L)) :
    Calls Try.prog 30 #[.pointer (some ⟨p, 0, none⟩)] w fun e w' => e = .returned (.string s) ∧ St N w' (Sk p Kn sn l :: L) ∧ Below N w w' := by
  subst h
  exact Encode_sk p Kn sn hK hs l hz HS0
theorem form_to (Kn sn : Nat) (hK : Kn ≤ 1024) (hs : sn ≤ 1048576) (l : List S52) (hl0 : l.length ≤ 1000000) (hz0 : ∀ k ∈ l, k.f1.size ≤ 5000) (A : Option Addr) (n c : Nat) (s : ByteArray) (h : strOfNums (encF Kn sn (!(decide (Kn < l.length))) (l.take Kn)) = s) {N : Nat} {w : World} {L : List Res} (HS0 : St N w (Row k52 52 (.slice A n c) l :: L)) :
    Calls Try.prog 31 #[.agg #[.int .i64 Kn, .int .i64 sn, .slice A n c]] w fun e w' => e = .returned (.string s) ∧ St N w' (Row k52 52 (.slice A n c) l :: L) ∧ Below N w w' := by
  have e1 := HS0.rowC.1
  subst h e1
  exact form_ok Kn sn hK hs l hl0 hz0 A c HS0
theorem Equal_to (pa pb Kn sn : Nat) (la lb : List S52) (hK : Kn ≤ 1024) (b : Bool) (h : decide ((Kn : Int) = (Kn : Int) ∧ (sn : Int) = (sn : Int) ∧ decide (Kn < la.length) = decide (Kn < lb.length) ∧ la.take Kn = lb.take Kn) = b) {N : Nat} {w : World} {L : List Res} (HS0 : St N w (Sk pa Kn sn la :: Sk pb Kn sn lb :: L)) :
    Calls Try.prog 27 #[.pointer (some ⟨pa, 0, none⟩), .pointer (some ⟨pb, 0, none⟩)] w fun e w' => e = .returned (.bool b) ∧ St N w' (Sk pa Kn sn la :: Sk pb Kn sn lb :: L) ∧ Below N w w' := by
  subst h
  exact Equal_sk pa pb Kn Kn sn sn la lb hK HS0
theorem str_ne (s : ByteArray) : (s.toList != s.toList) = false := by simp
theorem forms_same (Kn sn : Nat) (la lb : List S52) (hK : Kn ≤ 1024) (hs : sn ≤ 1048576) (hz : ∀ k ∈ la, k.f1.size ≤ 4096 ∧ chk k.f1 = 0 ∧ k = kyOf sn k.f1) (hz2 : ∀ k ∈ lb, k.f1.size ≤ 4096 ∧ chk k.f1 = 0 ∧ k = kyOf sn k.f1) (s t : ByteArray) (h1 : strOfNums (encF Kn sn (!(decide (Kn < la.length))) (la.take Kn)) = s) (h2 : strOfNums (encF Kn sn (!(decide (Kn < lb.length))) (lb.take Kn)) = t) (b : Bool)
    (hb : decide ((Kn : Int) = (Kn : Int) ∧ (sn : Int) = (sn : Int) ∧ decide (Kn < la.length) = decide (Kn < lb.length) ∧ la.take Kn = lb.take Kn) = b) : (s.toList == t.toList) = b := by
  have e := form_eq Kn sn (decide (Kn < la.length)) (decide (Kn < lb.length)) (la.take Kn) (lb.take Kn) hK hs (by rw [List.length_take]; omega) (by rw [List.length_take]; omega) (fun k hk => let h := hz k (List.mem_of_mem_take hk); ⟨h.1, h.2.2⟩) (fun k hk => let h := hz2 k (List.mem_of_mem_take hk); ⟨h.1, h.2.2⟩)
  rw [h1, h2, hb] at e
  rw [← e]
  by_cases hst : s = t
  · subst hst; simp
  · rw [decide_eq_false hst, beq_eq_false_iff_ne]
    exact fun h => hst (bytes_ext _ _ h)
end Go.Proofs.Ytddhpkobingmhaa.PB
