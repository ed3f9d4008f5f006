/- The different events of a list; the eighteen keys in order; which of them conflict. No walk. -/
import Derived.Test.YtcjfgejiknlpfaaGreatJ0
import Derived.Test.YtcjfgejiknlpfaaGreatLogQ
import Derived.Test.YtcjfgejiknlpfaaGreatSq43
namespace Go.Proofs.YtcjfgejiknlpfaaGreat.PI
open Go.RowKit Go.Proofs.YtcjfgejiknlpfaaGreatW.PrintWords
set_option linter.unusedVariables false
set_option linter.unusedSimpArgs false
def setS (out : List S50) (x : S50) : List S50 := if x ∈ out then out else out ++ [x]
def st (l : List S50) : List S50 := l.foldl setS []
theorem eqAll (x y : S50) : (((x.f0.f0.toList == y.f0.f0.toList) && (x.f0.f1 == y.f0.f1)) && ((x.f1 == y.f1) && ((x.f2 == y.f2) && (((x.f3.f0.toList == y.f3.f0.toList) && (x.f3.f1 == y.f3.f1)) && ((x.f4.toList == y.f4.toList) && ((x.f5 == y.f5) && (x.f6.toList == y.f6.toList))))))) = decide (x = y) := by
  have h := neAll x y
  have h2 : decide (x = y) = !(!decide (x = y)) := by simp
  rw [h2, ← h]
  simp only [Bool.not_or, Bool.not_not]
theorem set_inner (l out : List S50) (j : Nat) (hj : j < l.length) (hb : out.length ≤ 100000) (hl : l.length ≤ 100000) (r : List S50) (K : Nat) (hK : sleuthlaw51_set.l0 K l (setS out l[j]) ((j + 1 : Nat) : Int) = some r) : ∀ (n i : Nat), n + i = out.length → ∃ K', sleuthlaw51_set.l1 K' l out (j : Int) (decide (l[j] ∈ out.take i)) (i : Int) = some r
  | 0, i, h => by
    obtain rfl : i = out.length := by omega
    refine ⟨K + 1, ?_⟩
    unfold sleuthlaw51_set.l1
    have e1 : rd_T50 l (j : Int) = l[j] := by simp [rd_T50, hj]
    rw [if_neg (by omega), List.take_length, w64_ j (by omega)]
    unfold setS at hK
    by_cases hm : l[j] ∈ out
    · rw [if_pos hm] at hK
      rw [decide_eq_true hm, if_pos rfl]
      exact hK
    · rw [if_neg hm] at hK
      rw [decide_eq_false hm, if_neg (by simp), if_pos (by omega), if_pos (by omega), if_pos (by omega), e1]
      exact hK
  | n + 1, i, h => by
    obtain ⟨K', h1⟩ := set_inner l out j hj hb hl r K hK n (i + 1) (by omega)
    refine ⟨K' + 1, ?_⟩
    have hi : i < out.length := by omega
    have e1 : rd_T50 l (j : Int) = l[j] := by simp [rd_T50, hj]
    have e2 : rd_T50 out (i : Int) = out[i] := by simp [rd_T50, hi]
    have ht : (l[j] ∈ out.take (i + 1)) ↔ (l[j] ∈ out.take i ∨ out[i] = l[j]) := by
      rw [List.take_succ_eq_append_getElem hi, List.mem_append, List.mem_singleton]
      exact or_congr Iff.rfl eq_comm
    unfold sleuthlaw51_set.l1
    rw [if_pos (by omega), w64_ i (by omega)]
    by_cases hm : l[j] ∈ out.take i
    · rw [decide_eq_true hm, if_pos rfl]
      rw [decide_eq_true (ht.mpr (.inl hm))] at h1
      exact h1
    · rw [decide_eq_false hm, if_neg (by simp), if_pos (by omega), if_pos (by omega), if_pos (by omega), e1, e2, eqAll]
      rw [show decide (l[j] ∈ out.take (i + 1)) = decide (out[i] = l[j]) from decide_eq_decide.mpr (ht.trans ⟨fun h => h.resolve_left hm, .inr⟩)] at h1
      exact h1
theorem setS_len (out : List S50) (x : S50) : (setS out x).length ≤ out.length + 1 := by unfold setS; split <;> simp
theorem set_outer (l : List S50) (hl : l.length ≤ 100000) : ∀ (n j : Nat) (out : List S50), n + j = l.length → out.length ≤ j → ∃ K, sleuthlaw51_set.l0 K l out (j : Int) = some ((l.drop j).foldl setS out)
  | 0, j, out, h, ho => by
    obtain rfl : j = l.length := by omega
    refine ⟨1, ?_⟩
    unfold sleuthlaw51_set.l0
    rw [if_neg (by omega), List.drop_length]
    rfl
  | n + 1, j, out, h, ho => by
    have hj : j < l.length := by omega
    obtain ⟨K, hK⟩ := set_outer l hl n (j + 1) (setS out l[j]) (by omega) (Nat.le_trans (setS_len _ _) (by omega))
    obtain ⟨K', h1⟩ := set_inner l out j hj (by omega) hl _ K hK out.length 0 (by omega)
    refine ⟨K' + 1, ?_⟩
    unfold sleuthlaw51_set.l0
    rw [if_pos (by omega), List.drop_eq_getElem_cons hj, List.foldl_cons, ← h1]
    simp
theorem set_is (l : List S50) (hl : l.length ≤ 100000) : ∃ k, sleuthlaw51_set.f k l = some (st l) := by
  obtain ⟨K, h⟩ := set_outer l hl l.length 0 [] (by omega) (Nat.zero_le _)
  exact ⟨K, h⟩
theorem st_snoc (l : List S50) (x : S50) : st (l ++ [x]) = setS (st l) x := by unfold st; rw [List.foldl_append]; rfl
theorem st_all (l : List S50) : (st l).Nodup ∧ ∀ x, x ∈ st l ↔ x ∈ l := snoc_ind (p := fun l => (st l).Nodup ∧ ∀ x, x ∈ st l ↔ x ∈ l) ⟨List.nodup_nil, fun x => Iff.rfl⟩ (fun l e ih => by
  rw [st_snoc]
  unfold setS
  by_cases hm : e ∈ st l
  · rw [if_pos hm]
    refine ⟨ih.1, fun x => ?_⟩
    rw [ih.2, List.mem_append, List.mem_singleton]
    exact ⟨.inl, fun h => h.elim id (fun he => he ▸ (ih.2 e).mp hm)⟩
  · rw [if_neg hm]
    refine ⟨List.nodup_append.mpr ⟨ih.1, by simp, fun a ha b hb => ?_⟩, fun x => ?_⟩
    · rw [List.mem_singleton] at hb
      subst hb
      exact fun he => hm (he ▸ ha)
    · rw [List.mem_append, List.mem_append, ih.2]) l
theorem sdd_nodup (l : List S50) : (sdd l).Nodup := by
  show (sdd l).Pairwise (fun a b => a ≠ b)
  refine List.Pairwise.imp ?_ (sdd_strict l)
  intro a b h e
  subst e
  exact bf_irrefl a h
theorem st_perm (l : List S50) : (st l).Perm (sdd l) := by
  rw [List.perm_ext_iff_of_nodup (st_all l).1 (sdd_nodup l)]
  intro x
  rw [(st_all l).2, mem_sdd]
theorem st_len (l : List S50) : (st l).length = (sdd l).length := (st_perm l).length_eq
theorem st_count (l : List S50) (k : S33) : ((st l).map (·.f0)).count k = ((sdd l).map (·.f0)).count k := ((st_perm l).map _).count_eq k
/-! ### the eighteen keys -/
def k18 (p : Nat) : S33 := ⟨rdOf ByteArray.empty ppl ((p / 6 : Nat) : Int), 1 + ((p % 6 : Nat) : Int)⟩
def K18 : List S33 := (List.range 18).map k18
theorem k18_len : K18.length = 18 := rfl
theorem k18_get (p : Nat) (h : p < 18) : K18[p]? = some (k18 p) := by unfold K18; rw [List.getElem?_map, List.getElem?_range h]; rfl
theorem k18_ord : K18.Pairwise BfK := by
  rw [List.pairwise_iff_getElem]
  have h : ∀ j, j < 18 → ∀ i, i < j → kcmp (k18 i) (k18 j) < 0 := by decide +kernel
  intro i j hi hj hij
  have hi2 : i < 18 := hi
  have hj2 : j < 18 := hj
  have ei : K18[i]'hi = k18 i := by have := k18_get i hi2; rw [List.getElem?_eq_getElem hi] at this; exact Option.some.inj this
  have ej : K18[j]'hj = k18 j := by have := k18_get j hj2; rw [List.getElem?_eq_getElem hj] at this; exact Option.some.inj this
  rw [ei, ej]
  exact h j hj2 i hij
theorem decE_key (a : S61) : (decE a).f0 = ⟨nm3 a.f0, 1 + a.f1 % 6⟩ := by
  unfold decE
  split
  · rfl
  · split
    · rfl
    · split <;> rfl
theorem key_in (a : S61) : (decE a).f0 ∈ K18 := by
  rw [decE_key]
  obtain ⟨x, hx⟩ := Int.eq_ofNat_of_zero_le (show 0 ≤ a.f0 % 3 by omega)
  obtain ⟨y, hy⟩ := Int.eq_ofNat_of_zero_le (show 0 ≤ a.f1 % 6 by omega)
  have hx3 : x < 3 := by omega
  have hy6 : y < 6 := by omega
  refine List.mem_map.mpr ⟨x * 6 + y, List.mem_range.mpr (by omega), ?_⟩
  unfold k18 nm3
  rw [show (x * 6 + y) / 6 = x by omega, show (x * 6 + y) % 6 = y by omega, hx, hy]
/-- Which keys more than one of the events has. -/
def two (D : List S50) (k : S33) : Bool := decide (2 ≤ (D.map (·.f0)).count k)
theorem strict_extK : ∀ {l m : List S33}, l.Pairwise BfK → m.Pairwise BfK → (∀ x, x ∈ l ↔ x ∈ m) → l = m
  | [], [], _, _, _ => rfl
  | [], y :: m, _, _, h => absurd ((h y).mpr (by simp)) (by simp)
  | x :: l, [], _, _, h => absurd ((h x).mp (by simp)) (by simp)
  | x :: l, y :: m, hl, hm, h => by
    obtain ⟨hx, hl2⟩ := List.pairwise_cons.mp hl
    obtain ⟨hy, hm2⟩ := List.pairwise_cons.mp hm
    have e : x = y := by
      rcases List.mem_cons.mp ((h x).mp (by simp)) with h1 | h1
      · exact h1
      · rcases List.mem_cons.mp ((h y).mpr (by simp)) with h2 | h2
        · exact h2.symm
        · exact absurd (hx y h2) (fun hb => bf_asymmK hb (hy x h1))
    subst e
    have hmem : ∀ z, z ∈ l ↔ z ∈ m := fun z => by
      constructor
      · intro hz
        rcases List.mem_cons.mp ((h z).mp (List.mem_cons_of_mem _ hz)) with h1 | h1
        · exact absurd (hx z hz) (h1 ▸ bf_irreflK _)
        · exact h1
      · intro hz
        rcases List.mem_cons.mp ((h z).mpr (List.mem_cons_of_mem _ hz)) with h1 | h1
        · exact absurd (hy z hz) (h1 ▸ bf_irreflK _)
        · exact h1
    rw [strict_extK hl2 hm2 hmem]
theorem conf_is {U D : List S50} {C : List S33} (h : Conf U C) (hk : ∀ x ∈ U, x.f0 ∈ K18) (hc : ∀ k, (D.map (·.f0)).count k = (U.map (·.f0)).count k) : C = K18.filter (two D) := by
  refine strict_extK h.1 (k18_ord.sublist List.filter_sublist) (fun k => ?_)
  rw [h.2, List.mem_filter]
  unfold two
  rw [decide_eq_true_iff, hc]
  refine ⟨fun h2 => ⟨?_, h2⟩, fun h2 => h2.2⟩
  have hm : k ∈ U.map (·.f0) := List.count_pos_iff.mp (by omega)
  obtain ⟨x, hx, rfl⟩ := List.mem_map.mp hm
  exact hk x hx
/-- So many of the first p keys conflict. -/
def nC (D : List S50) (p : Nat) : Nat := ((K18.take p).filter (two D)).length
theorem nC_zero (D : List S50) : nC D 0 = 0 := rfl
theorem nC_next (D : List S50) (p : Nat) (h : p < 18) : nC D (p + 1) = if two D (k18 p) = true then nC D p + 1 else nC D p := by
  have e : K18.take (p + 1) = K18.take p ++ [k18 p] := by rw [List.take_add_one, k18_get p h]; rfl
  unfold nC
  rw [e, List.filter_append, List.length_append]
  by_cases ht : two D (k18 p) = true
  · rw [if_pos ht, List.filter_cons, if_pos ht]; rfl
  · rw [if_neg ht, List.filter_cons, if_neg ht]; rfl
theorem nC_end (D : List S50) : nC D 18 = (K18.filter (two D)).length := by unfold nC; rw [List.take_of_length_le (Nat.le_of_eq k18_len)]
theorem nC_at (D : List S50) (p : Nat) (h : p < 18) (ht : two D (k18 p) = true) : (K18.filter (two D))[nC D p]? = some (k18 p) := by
  have e : K18 = K18.take p ++ (k18 p :: K18.drop (p + 1)) := by
    have hp : p < K18.length := h
    have e1 : K18[p] = k18 p := by have := k18_get p h; rw [List.getElem?_eq_getElem hp] at this; exact Option.some.inj this
    rw [← e1, ← List.drop_eq_getElem_cons hp, List.take_append_drop]
  have e2 : K18.filter (two D) = (K18.take p).filter (two D) ++ (k18 p :: (K18.drop (p + 1)).filter (two D)) := by
    conv => lhs; rw [e]
    rw [List.filter_append, List.filter_cons, if_pos ht]
  rw [e2]
  unfold nC
  rw [List.getElem?_append_right (Nat.le_refl _), Nat.sub_self]
  rfl
end Go.Proofs.YtcjfgejiknlpfaaGreat.PI
