/- A sketch's form, decoded: no error, and the same keys. Two forms are alike only where the keys are. -/
import Derived.Test.YtddhpkobingmhaaFrmL
namespace Go.Proofs.Ytddhpkobingmhaa.PB
open Go.RowKit Go.Proofs.YtddhpkobingmhaaW.PrintWords Go.Proofs.YtddhpkobingmhaaW.PrintLast Go.Proofs.YtddhpkobingmhaaW.PrintMore Go.Proofs.Ytddhpkobingmhaa.Sep
set_option linter.unusedVariables false
theorem bytes_str (xs : List Int) (h : ∀ x ∈ xs, 0 ≤ x ∧ x ≤ 255) : bytesOf (strOfNums xs) = xs := by
  unfold strOfNums bytesOf
  simp only [List.map_map]
  conv => rhs; rw [← List.map_id xs]
  apply List.map_congr_left
  intro x hx
  have := h x hx
  have e : (UInt8.ofNat x.toNat).toNat = x.toNat := by rw [UInt8.toNat_ofNat']; omega
  simp only [Function.comp_apply, e, id]
  omega
theorem digs_rng (n : Nat) : ∀ k, ∀ x ∈ digs n k, 0 ≤ x ∧ x ≤ 255
  | 0, x, h => by simp [digs] at h
  | k + 1, x, h => by
    rw [digs] at h
    rcases List.mem_cons.mp h with rfl | h
    · unfold dgN; omega
    · exact digs_rng n k x h
theorem numB_rng (n : Nat) (hn : n < 4611686018427387904) : ∀ x ∈ numB n, 0 ≤ x ∧ x ≤ 255 := by
  intro x h
  have h8 := numB_len n hn
  rw [numB_sz] at h8
  rw [numB] at h
  rcases List.mem_cons.mp h with rfl | h
  · omega
  · exact digs_rng n _ x h
theorem bytesOf_rng (s : ByteArray) : ∀ x ∈ bytesOf s, 0 ≤ x ∧ x ≤ 255 := by
  intro x h
  unfold bytesOf at h
  obtain ⟨b, _, rfl⟩ := List.mem_map.mp h
  have := UInt8.toNat_lt b
  omega
theorem txB_rng (ks : List S52) (hz : ∀ k ∈ ks, k.f1.size ≤ 4096) : ∀ x ∈ txB ks, 0 ≤ x ∧ x ≤ 255 := by
  intro x h
  unfold txB at h
  obtain ⟨k, hk, h⟩ := List.mem_flatMap.mp h
  rw [textB] at h
  have := hz k hk
  rcases List.mem_append.mp h with h | h
  · exact numB_rng _ (by omega) x h
  · exact bytesOf_rng _ x h
theorem encF_rng (Kn sn : Nat) (ex : Bool) (ks : List S52) (hK : Kn ≤ 1024) (hs : sn ≤ 1048576) (hl : ks.length ≤ 1024) (hz : ∀ k ∈ ks, k.f1.size ≤ 4096) : ∀ x ∈ encF Kn sn ex ks, 0 ≤ x ∧ x ≤ 255 := by
  intro x h
  unfold encF at h
  rw [List.nil_append] at h
  rcases List.mem_append.mp h with h | h
  · rcases List.mem_append.mp h with h | h
    · rcases List.mem_append.mp h with h | h
      · rcases List.mem_append.mp h with h | h
        · exact numB_rng Kn (by omega) x h
        · exact numB_rng sn (by omega) x h
      · exact numB_rng _ (b2n_le _) x h
    · exact numB_rng _ (by omega) x h
  · exact txB_rng ks hz x h
theorem txB_long : ∀ ks : List S52, ks.length ≤ (txB ks).length
  | [] => Nat.zero_le _
  | k :: ks => by
    have h1 := txB_long ks
    have h2 := numB_sz k.f1.size
    unfold txB at h1 ⊢
    rw [List.flatMap_cons, List.length_append, List.length_cons, textB, List.length_append]
    omega
theorem txB_f1 (ks : List S52) : txB ks = (ks.map (·.f1)).flatMap textB := by
  unfold txB
  rw [List.flatMap_map]
theorem dec_all (Kn sn : Nat) (ex : Bool) (ks : List S52) (hK : Kn ≤ 1024) (hs : sn ≤ 1048576) (hl : ks.length ≤ 1024) (hz : ∀ k ∈ ks, k.f1.size ≤ 4096) (s : ByteArray) (h : strOfNums (encF Kn sn ex ks) = s) :
    ∃ a1 a2 a3 a4 af, numS s 0 0 = ((Kn : Int), a1, 0) ∧ numS s a1 0 = ((sn : Int), a2, 0) ∧ boolS s a2 0 = (ex, a3, 0) ∧ cntS s a3 0 1024 = ((ks.length : Int), a4, 0) ∧ rdT s ks.length a4 0 = (ks.map (·.f1), af, 0) ∧ s.size = af := by
  have hb : bytesOf s = encF Kn sn ex ks := by rw [← h, bytes_str _ (encF_rng Kn sn ex ks hK hs hl hz)]
  unfold encF at hb
  rw [txB_f1] at hb
  have h1 := num_rd s Kn (by omega) [] (numB sn ++ (numB (b2n ex) ++ (numB ks.length ++ (ks.map (·.f1)).flatMap textB))) (by rw [hb]; simp only [List.append_assoc])
  have h2 := num_rd s sn (by omega) ([] ++ numB Kn) (numB (b2n ex) ++ (numB ks.length ++ (ks.map (·.f1)).flatMap textB)) (by rw [hb]; simp only [List.append_assoc])
  have h3 := bool_rd s ex ([] ++ numB Kn ++ numB sn) (numB ks.length ++ (ks.map (·.f1)).flatMap textB) (by rw [hb]; simp only [List.append_assoc])
  have h4 := cnt_rd s ks.length hl ([] ++ numB Kn ++ numB sn ++ numB (b2n ex)) ((ks.map (·.f1)).flatMap textB) (by rw [hb]; simp only [List.append_assoc]) (by rw [← txB_f1]; exact txB_long ks)
  have h5 := rdT_rd s (ks.map (·.f1)) ([] ++ numB Kn ++ numB sn ++ numB (b2n ex) ++ numB ks.length) [] (fun t ht => by obtain ⟨k, hk, rfl⟩ := List.mem_map.mp ht; exact hz k hk) (by rw [hb, List.append_nil])
  rw [List.length_map] at h5
  exact ⟨_, _, _, _, _, h1, h2, h3, h4, h5, by rw [← bytesOf_length, hb]⟩
theorem ord_inc (l : List S52) (h : Inc l) : ∀ k, k ≤ l.length → ordN l k = true
  | 0, _ => rfl
  | k + 1, hk => by
    rw [ordN, ord_inc l h k (by omega)]
    by_cases h0 : k = 0
    · subst h0; rfl
    · have : Bf (rd_T52 l ((k - 1 : Nat) : Int)) (rd_T52 l (k : Int)) := by
        rw [rd52 l (k - 1) (by omega), rd52 l k (by omega)]
        exact List.pairwise_iff_getElem.mp h (k - 1) k (by omega) (by omega) (by omega)
      rw [decide_eq_true this]
      simp
theorem chkF_zero : ∀ ts : List ByteArray, (∀ t ∈ ts, chk t = 0) → chkF ts = 0
  | [], _ => rfl
  | t :: ts, h => by rw [chkF, if_pos (h t (by simp))]; exact chkF_zero ts fun x hx => h x (List.mem_cons_of_mem _ hx)
theorem map_ky (sd : Int) (ks : List S52) (h : ∀ k ∈ ks, k = kyOf sd k.f1) : (ks.map (·.f1)).map (kyOf sd) = ks := by
  rw [List.map_map]
  conv => rhs; rw [← List.map_id ks]
  exact List.map_congr_left fun k hk => (h k hk).symm
theorem form_inj (Kn sn : Nat) (ex ex2 : Bool) (ks ls : List S52) (hK : Kn ≤ 1024) (hs : sn ≤ 1048576) (hl : ks.length ≤ 1024) (hl2 : ls.length ≤ 1024) (hz : ∀ k ∈ ks, k.f1.size ≤ 4096 ∧ k = kyOf sn k.f1) (hz2 : ∀ k ∈ ls, k.f1.size ≤ 4096 ∧ k = kyOf sn k.f1) (h : strOfNums (encF Kn sn ex ks) = strOfNums (encF Kn sn ex2 ls)) : ex = ex2 ∧ ks = ls := by
  obtain ⟨a1, a2, a3, a4, af, h1, h2, h3, h4, h5, _⟩ := dec_all Kn sn ex ks hK hs hl (fun k hk => (hz k hk).1) _ rfl
  obtain ⟨b1, b2, b3, b4, bf, g1, g2, g3, g4, g5, _⟩ := dec_all Kn sn ex2 ls hK hs hl2 (fun k hk => (hz2 k hk).1) _ h.symm
  rw [h1] at g1; cases g1
  rw [h2] at g2; cases g2
  rw [h3] at g3
  simp only [Prod.mk.injEq] at g3
  obtain ⟨e1, rfl, _⟩ := g3
  rw [h4] at g4
  simp only [Prod.mk.injEq] at g4
  obtain ⟨e2, rfl, _⟩ := g4
  rw [show ls.length = ks.length from by omega, h5] at g5
  simp only [Prod.mk.injEq] at g5
  refine ⟨e1, ?_⟩
  rw [← map_ky sn ks (fun k hk => (hz k hk).2), g5.1, map_ky sn ls (fun k hk => (hz2 k hk).2)]
theorem form_eq (Kn sn : Nat) (d1 d2 : Bool) (ks ls : List S52) (hK : Kn ≤ 1024) (hs : sn ≤ 1048576) (hl : ks.length ≤ 1024) (hl2 : ls.length ≤ 1024) (hz : ∀ k ∈ ks, k.f1.size ≤ 4096 ∧ k = kyOf sn k.f1) (hz2 : ∀ k ∈ ls, k.f1.size ≤ 4096 ∧ k = kyOf sn k.f1) : decide (strOfNums (encF Kn sn (!d1) ks) = strOfNums (encF Kn sn (!d2) ls)) = decide ((Kn : Int) = (Kn : Int) ∧ (sn : Int) = (sn : Int) ∧ d1 = d2 ∧ ks = ls) := by
  apply decide_eq_decide.mpr
  constructor
  · intro h
    have := form_inj Kn sn (!d1) (!d2) ks ls hK hs hl hl2 hz hz2 h
    exact ⟨rfl, rfl, by simpa using this.1, this.2⟩
  · rintro ⟨_, _, rfl, rfl⟩; rfl
theorem Dec_sk (p Kn sn : Nat) (hK1 : 1 ≤ Kn) (hK : Kn ≤ 1024) (hs : sn ≤ 1048576) (l : List S52) (hI : Inc l) (hz : ∀ k ∈ l, k.f1.size ≤ 4096 ∧ chk k.f1 = 0 ∧ k = kyOf sn k.f1) (s : ByteArray) (h : strOfNums (encF Kn sn (!(decide (Kn < l.length))) (l.take Kn)) = s) (hs0 : s.size ≤ 140737488355328) {N : Nat} {w : World} {L : List Res} (HS0 : St N w L) :
    Calls Try.prog 28 #[.string s] w fun e w' => ∃ p : Nat, e = .returned (.tuple #[.pointer (some ⟨p, 0, none⟩), .int .i64 0]) ∧ St N w' (Sk p Kn sn l :: L) ∧ Below N w w' := by
  have hz1 : ∀ k ∈ l.take Kn, k.f1.size ≤ 4096 ∧ chk k.f1 = 0 ∧ k = kyOf sn k.f1 := fun k hk => hz k (List.mem_of_mem_take hk)
  have hlen : (l.take Kn).length ≤ Kn := by rw [List.length_take]; omega
  have hlen2 : (l.take Kn).length = min Kn l.length := List.length_take
  obtain ⟨a1, a2, a3, a4, af, h1, h2, h3, h4, h5, h6⟩ := dec_all Kn sn _ (l.take Kn) hK hs (by omega) (fun k hk => (hz1 k hk).1) s h
  have hm := map_ky sn (l.take Kn) (fun k hk => (hz1 k hk).2.2)
  have hE : decR s (Kn : Int) (sn : Int) (!(decide (Kn < l.length))) ((l.take Kn).map (·.f1)) af 0 = 0 := by
    rw [decR_last s _ _ _ _ af (by omega) (by omega) (chkF_zero _ fun t ht => by obtain ⟨k, hk, rfl⟩ := List.mem_map.mp ht; exact (hz1 k hk).2.1) (by
      rw [hm, List.length_map]
      exact ord_inc _ (hI.sublist (List.take_sublist _ _)) _ (Nat.le_refl _)), List.length_map]
    refine if_neg ?_
    rintro (g | ⟨g1, g2⟩)
    · omega
    · have : Kn < l.length := by simpa using g2
      omega
  refine (Decode_ok s hs0 _ _ _ a1 a2 a3 a4 0 0 0 0 _ h1 h2 h3 h4 _ af 0 (by rw [Int.toNat_natCast]; exact h5) 0 hE HS0).mono ?_
  rintro e w' ⟨⟨g, _⟩ | ⟨_, q, he, V, hst⟩, hb⟩
  · exact absurd rfl g
  · rw [hm, Bool.not_not] at hst
    exact ⟨q, he, Sk_shut hst, hb⟩
end Go.Proofs.Ytddhpkobingmhaa.PB
