/- Hashes and checks of texts, plainly. -/
import Derived.Test.YtddhpkobingmhaaSk7
import Derived.Test.YtddhpkobingmhaaPBx15
import Derived.Test.YtddhpkobingmhaaPBx2
namespace Go.Proofs.Ytddhpkobingmhaa.PB
open Go.RowKit Go.Proofs.YtddhpkobingmhaaW.PrintWords
set_option linter.unusedVariables false
set_option linter.unusedSimpArgs false
set_option maxRecDepth 100000
theorem wrap64_small (n : Int) (h0 : 0 ≤ n) (h1 : n < 9223372036854775808) : wrap64 n = n := by unfold wrap64; omega
theorem text_l0 (s : ByteArray) (hs : s.size ≤ 1000000) : ∀ (m j : Nat) (x : Int), j + m = s.size → ∃ h, ∀ k, m + 1 ≤ k → checksum_Text.l0 k s x (s.size : Int) (j : Int) = some h
  | 0, j, x, hj => ⟨wrap64 (x / 4), fun k hk => by
    obtain ⟨k, rfl⟩ : ∃ q, k = q + 1 := ⟨k - 1, by omega⟩
    rw [checksum_Text.l0, if_neg (by omega)]⟩
  | m + 1, j, x, hj => by
    have hw : ∀ a b, checksum_Word.f a b = some ((checksum_Word.f a b).getD 0) := fun a b => rfl
    obtain ⟨h, ih⟩ := text_l0 s hs m (j + 1) ((checksum_Word.f x (IntKind.u64.wrap (bt s (j : Int)))).getD 0) (by omega)
    refine ⟨h, fun k hk => ?_⟩
    obtain ⟨k, rfl⟩ : ∃ q, k = q + 1 := ⟨k - 1, by omega⟩
    rw [checksum_Text.l0, if_pos (by omega), if_pos (by omega), if_pos (by omega), hw, Option.bind_some, wrap64_small _ (by omega) (by omega)]
    exact ih k (by omega)
/-- The hash of a text. -/
def hashT (a : Int) (s : ByteArray) : Int := (checksum_Text.f (s.size + 1) a s).getD 0
theorem hash_ok (a : Int) (s : ByteArray) (hs : s.size ≤ 1000000) (k : Nat) (hk : s.size + 1 ≤ k) : checksum_Text.f k a s = some (hashT a s) := by
  have hw : ∀ a b, checksum_Word.f a b = some ((checksum_Word.f a b).getD 0) := fun a b => rfl
  obtain ⟨h, ih⟩ := text_l0 s hs s.size 0 ((checksum_Word.f (IntKind.u64.wrap a) (IntKind.u64.wrap (s.size : Int))).getD 0) (by omega)
  have e : ∀ k, s.size + 1 ≤ k → checksum_Text.f k a s = some h := fun k hk => by
    unfold checksum_Text.f
    rw [hw, Option.bind_some]
    exact ih k hk
  rw [e k hk, hashT, e _ (Nat.le_refl _)]; rfl
theorem within_l0 (s : ByteArray) (hs : s.size ≤ 1000000) : ∀ (m j : Nat), j + m = s.size → ∃ b : Bool, ∀ k, m + 1 ≤ k → attribute_within.l0 k s 32 126 (s.size : Int) (j : Int) = some b ∧ sleuthlaw23_check.l0 k s (j : Int) = some (if b = true then 0 else 3)
  | 0, j, hj => ⟨true, fun k hk => by
    obtain ⟨k, rfl⟩ : ∃ q, k = q + 1 := ⟨k - 1, by omega⟩
    rw [attribute_within.l0, if_neg (by omega), sleuthlaw23_check.l0, if_neg (by omega)]
    exact ⟨rfl, rfl⟩⟩
  | m + 1, j, hj => by
    obtain ⟨b, ih⟩ := within_l0 s hs m (j + 1) (by omega)
    by_cases h1 : bt s (j : Int) < 32
    · refine ⟨false, fun k hk => ?_⟩
      obtain ⟨k, rfl⟩ : ∃ q, k = q + 1 := ⟨k - 1, by omega⟩
      rw [attribute_within.l0, if_pos (by omega), if_pos (by omega), if_pos (by omega), if_pos h1, sleuthlaw23_check.l0, if_pos (by omega), if_pos (by omega), if_pos h1]
      exact ⟨rfl, rfl⟩
    · by_cases h2 : bt s (j : Int) > 126
      · refine ⟨false, fun k hk => ?_⟩
        obtain ⟨k, rfl⟩ : ∃ q, k = q + 1 := ⟨k - 1, by omega⟩
        rw [attribute_within.l0, if_pos (by omega), if_pos (by omega), if_pos (by omega), if_neg h1, if_pos h2, sleuthlaw23_check.l0, if_pos (by omega), if_pos (by omega), if_neg h1, if_pos h2]
        exact ⟨rfl, rfl⟩
      · refine ⟨b, fun k hk => ?_⟩
        obtain ⟨k, rfl⟩ : ∃ q, k = q + 1 := ⟨k - 1, by omega⟩
        rw [attribute_within.l0, if_pos (by omega), if_pos (by omega), if_pos (by omega), if_neg h1, if_neg h2, sleuthlaw23_check.l0, if_pos (by omega), if_pos (by omega), if_neg h1, if_neg h2, wrap64_small _ (by omega) (by omega)]
        exact ih k (by omega)
/-- The code with which a text is refused; 0: it is not. -/
def chk (s : ByteArray) : Int := (bottomk_check.f (s.size + 2) s).getD 0
theorem chk_ok (s : ByteArray) (hs : s.size ≤ 1000000) (k : Nat) (hk : s.size + 2 ≤ k) : bottomk_check.f k s = some (chk s) ∧ sleuthlaw23_check.f k s = some (chk s) := by
  obtain ⟨b, ih⟩ := within_l0 s hs s.size 0 (by omega)
  obtain ⟨r, hr⟩ : ∃ r : Int, r = if (s.size : Int) > 4096 then 5 else if b = true then 0 else 3 := ⟨_, rfl⟩
  have e : ∀ k, s.size + 2 ≤ k → bottomk_check.f k s = some r ∧ sleuthlaw23_check.f k s = some r := fun k hk => by
    obtain ⟨h1, h2⟩ := ih k (by omega)
    replace h1 : attribute_within.l0 k s 32 126 (s.size : Int) 0 = some b := h1
    replace h2 : sleuthlaw23_check.l0 k s 0 = some (if b = true then 0 else 3) := h2
    have j0 : ∀ q : Bool, attribute_CheckValue.j0 k q 1 s 0 = some (if (s.size : Int) > 4096 then 5 else if q = true then 0 else 3) := fun q => by
      obtain ⟨k, rfl⟩ : ∃ q, k = q + 1 := ⟨k - 1, by omega⟩
      rw [attribute_CheckValue.j0]
      split
      · rfl
      · split <;> rfl
    constructor
    · unfold bottomk_check.f attribute_CheckValue.f attribute_within.f
      rw [if_pos rfl, h1, Option.bind_some, j0, j0, hr]
      cases b <;> simp
    · unfold sleuthlaw23_check.f
      rw [h2, hr]
      split <;> rfl
  have e2 : chk s = r := by rw [chk, (e _ (Nat.le_refl _)).1]; rfl
  rw [e2]
  exact e k hk
end Go.Proofs.Ytddhpkobingmhaa.PB
