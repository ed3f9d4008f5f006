/- FractionParses, in plain numbers and lists of bytes. -/
import Derived.Test.YtikioicjhdhdpaaMath8
import Derived.Test.YtikioicjhdhdpaaPFx12
-- NEEDS F: sleuthlaw02_FractionParses
namespace Go.Proofs.Ytikioicjhdhdpaa.Pure
open Go.RowKit Go.Proofs.Ytikioicjhdhdpaa.PF Go.Proofs.YtikioicjhdhdpaaW.PrintWords Go.Proofs.YtikioicjhdhdpaaW.PrintLast
set_option linter.unusedVariables false
theorem ptail_pc (k : Nat) (neg : Bool) (M : List UInt8) (hl : M.length ≤ 1000) : ptail k neg (B (M ++ [37])) = ptail2 k neg true (B M) := by
  rw [ptail_eq, CutSuffix_B 37 M hl, Option.bind_some]
theorem ptail_no (k : Nat) (neg : Bool) (L : List UInt8) (hl : L.length ≤ 1000) (h : L.getLast? ≠ some 37) : ptail k neg (B L) = ptail2 k neg false (B L) := by
  rw [ptail_eq, CutSuffix_no 37 L hl h, Option.bind_some]
theorem suffix (k : Nat) (neg : Bool) (D : List UInt8) (x : UInt8) (t : List UInt8) (hl : (D ++ x :: t).length ≤ 16) :
    (∃ M, x :: t = M ++ [37] ∧ ptail k neg (B (D ++ x :: t)) = ptail2 k neg true (B (D ++ M))) ∨ ((∀ M, x :: t ≠ M ++ [37]) ∧ ptail k neg (B (D ++ x :: t)) = ptail2 k neg false (B (D ++ x :: t))) := by
  by_cases h : ∃ M, x :: t = M ++ [37]
  · obtain ⟨M, e⟩ := h
    left
    refine ⟨M, e, ?_⟩
    rw [e, ← List.append_assoc]
    apply ptail_pc
    rw [e] at hl
    simp at hl ⊢
    omega
  · right
    refine ⟨fun M e => h ⟨M, e⟩, ptail_no k neg _ (by omega) ?_⟩
    intro hg
    rcases List.eq_nil_or_concat (x :: t) with e | ⟨M, y, e⟩
    · cases e
    · rw [List.concat_eq_append] at e
      apply h
      refine ⟨M, ?_⟩
      rw [e] at hg ⊢
      have : y = 37 := by simpa using hg
      rw [this]
theorem agree (k1 k2 : Nat) (h1 : 200 ≤ k1) (h2 : 200 ≤ k2) (neg : Bool) (L : List UInt8) (hl : L.length ≤ 16) : ∃ r, ptail k1 neg (B L) = some r ∧ sleuthref02_Parse.j1 k2 (B L) neg = some r := by
  obtain ⟨D, R, rfl, hd, hs⟩ := span L
  have n47 : (47 : UInt8) ∉ D := fun h => absurd (hd _ h) (by decide)
  have n46 : (46 : UInt8) ∉ D := fun h => absurd (hd _ h) (by decide)
  have n37 : (37 : UInt8) ∉ D := fun h => absurd (hd _ h) (by decide)
  cases R with
  | nil =>
    rw [List.append_nil] at hl ⊢
    rw [ptail_no k1 neg D (by omega) (fun h => n37 (List.mem_of_getLast? h)), plain_all k1 h1 neg false D hl n47 n46]
    by_cases he : D = []
    · refine ⟨syn, by rw [if_neg (fun h => h.1 he)], ?_⟩
      have := j1_none k2 h2 neg D hd [] hs he (by simpa using hl)
      rw [List.append_nil] at this
      exact this
    · exact ⟨_, by rw [if_pos ⟨he, hd⟩, if_neg (by decide)], j1_nil k2 h2 neg D hd he hl⟩
  | cons x t =>
    have hx := hs x t rfl
    have hl' : D.length + (t.length + 1) ≤ 16 := by simpa using hl
    have none : D = [] → sleuthref02_Parse.j1 k2 (B (D ++ x :: t)) neg = some syn := fun e => j1_none k2 h2 neg D hd (x :: t) hs e hl
    by_cases x47 : x = 47
    · subst x47
      obtain ⟨D2, R2, ht, d2, s2⟩ := span t
      rcases suffix k1 neg D 47 t hl with ⟨M, e, hp⟩ | ⟨hno, hp⟩
      · rw [hp]
        cases M with
        | nil => simp at e
        | cons y M =>
          obtain ⟨rfl, e'⟩ := List.cons.inj e
          replace e : t = M ++ [37] := e'
          have lt : t.length = M.length + 1 := by rw [e]; simp
          refine ⟨syn, by rw [slash_all k1 h1 neg true D M (by simp; omega) n47, if_neg (fun h => by cases h.2.2)], ?_⟩
          by_cases he : D = []
          · exact none he
          · rw [j1_slash k2 h2 neg D hd t D2 R2 ht d2 s2 he hl]
            by_cases h3 : D2 = []
            · rw [if_pos h3]
            · rw [if_neg h3, if_neg]
              intro hR
              subst hR
              rw [List.append_nil] at ht
              have : (37 : UInt8) ∈ D2 := by rw [← ht, e]; simp
              exact absurd (d2 _ this) (by decide)
      · rw [hp, slash_all k1 h1 neg false D t hl n47]
        by_cases he : D = []
        · exact ⟨syn, by rw [if_neg (fun h => h.1.1 he)], none he⟩
        · rw [j1_slash k2 h2 neg D hd t D2 R2 ht d2 s2 he hl]
          by_cases h3 : D2 = []
          · refine ⟨syn, ?_, by rw [if_pos h3]⟩
            rw [if_neg]
            rintro ⟨_, ⟨h4, h5⟩, _⟩
            subst h3
            rw [List.nil_append] at ht
            subst ht
            cases t with
            | nil => exact h4 rfl
            | cons y u => exact s2 y u rfl (h5 y List.mem_cons_self)
          · rw [if_neg h3]
            by_cases h4 : R2 = []
            · subst h4
              rw [List.append_nil] at ht
              subst ht
              exact ⟨_, by rw [if_pos ⟨⟨he, hd⟩, ⟨h3, d2⟩, rfl⟩], by rw [if_pos rfl]⟩
            · refine ⟨syn, ?_, by rw [if_neg h4]⟩
              rw [if_neg]
              rintro ⟨_, ⟨_, h5⟩, _⟩
              cases R2 with
              | nil => exact h4 rfl
              | cons y u => exact s2 y u rfl (h5 y (by rw [ht]; simp))
    · by_cases x46 : x = 46
      · subst x46
        obtain ⟨D2, R2, ht, d2, s2⟩ := span t
        have ref47 : (47 : UInt8) ∈ t → sleuthref02_Parse.j1 k2 (B (D ++ 46 :: t)) neg = some syn := by
          intro hm
          by_cases he : D = []
          · exact none he
          · rw [j1_point k2 h2 neg D hd t D2 R2 ht d2 s2 he hl]
            have hR : (47 : UInt8) ∈ R2 := by
              rw [ht] at hm
              rcases List.mem_append.mp hm with h | h
              · exact absurd (d2 _ h) (by decide)
              · exact h
            by_cases h3 : D2 = []
            · rw [if_pos h3]
            · rw [if_neg h3, if_neg (fun h => by rw [h] at hR; simp at hR), if_neg (fun h => by rw [h] at hR; simp at hR)]
        rcases suffix k1 neg D 46 t hl with ⟨M, e, hp⟩ | ⟨hno, hp⟩
        · rw [hp]
          cases M with
          | nil => simp at e
          | cons y M =>
            obtain ⟨rfl, e'⟩ := List.cons.inj e
            replace e : t = M ++ [37] := e'
            have lt : t.length = M.length + 1 := by rw [e]; simp
            by_cases hm : (47 : UInt8) ∈ M
            · refine ⟨syn, ?_, ref47 (by rw [e]; exact List.mem_append_left _ hm)⟩
              have hin : (47 : UInt8) ∈ D ++ 46 :: M := by simp [hm]
              obtain ⟨a, b, eab, ha⟩ := mem_first hin
              have hlen : (a ++ 47 :: b).length ≤ 16 := by rw [← eab]; simp; omega
              rw [eab, slash_all k1 h1 neg true a b hlen ha, if_neg (fun h => by cases h.2.2)]
            · have hm2 : (47 : UInt8) ∉ D ++ 46 :: M := by simp [hm, n47]
              rw [point_all k1 h1 neg true D M (by simp; omega) hm2 n46]
              by_cases he : D = []
              · exact ⟨syn, by rw [if_neg (fun h => h.1.1 he)], none he⟩
              · rw [j1_point k2 h2 neg D hd t D2 R2 ht d2 s2 he hl]
                by_cases hM : allD M
                · have hu := span_uniq D2 M R2 [37] (by rw [← ht, e]) d2 hM s2 (fun y u h => by obtain ⟨rfl, _⟩ := List.cons.inj h; decide)
                  obtain ⟨rfl, rfl⟩ := hu
                  by_cases h3 : D2 = []
                  · exact ⟨syn, by rw [if_neg (fun h => h.2.1 h3)], by rw [if_pos h3]⟩
                  · refine ⟨_, by rw [if_pos ⟨⟨he, hd⟩, h3, hM⟩, if_pos rfl], ?_⟩
                    rw [if_neg h3, if_neg (by simp), if_pos rfl, Int.mul_comm]
                · refine ⟨syn, by rw [if_neg (fun h => hM h.2.2)], ?_⟩
                  by_cases h3 : D2 = []
                  · rw [if_pos h3]
                  · rw [if_neg h3, if_neg, if_neg]
                    · intro hR
                      subst hR
                      have : D2 = M := List.append_cancel_right (ht.symm.trans e)
                      exact hM (this ▸ d2)
                    · intro hR
                      subst hR
                      rw [List.append_nil] at ht
                      have : (37 : UInt8) ∈ D2 := by rw [← ht, e]; simp
                      exact absurd (d2 _ this) (by decide)
        · rw [hp]
          by_cases hm : (47 : UInt8) ∈ t
          · refine ⟨syn, ?_, ref47 hm⟩
            have hin : (47 : UInt8) ∈ D ++ 46 :: t := by simp [hm]
            have hin2 : (46 : UInt8) ∈ D ++ 46 :: t := by simp
            obtain ⟨a, b, eab, ha⟩ := mem_first hin
            rw [eab] at hl hin2 ⊢
            rw [slash_all k1 h1 neg false a b hl ha, if_neg]
            rintro ⟨⟨_, da⟩, ⟨_, db⟩, _⟩
            rcases List.mem_append.mp hin2 with h | h
            · exact absurd (da _ h) (by decide)
            · rcases List.mem_cons.mp h with h | h
              · exact absurd h (by decide)
              · exact absurd (db _ h) (by decide)
          · have hm2 : (47 : UInt8) ∉ D ++ 46 :: t := by simp [hm, n47]
            rw [point_all k1 h1 neg false D t hl hm2 n46]
            by_cases he : D = []
            · exact ⟨syn, by rw [if_neg (fun h => h.1.1 he)], none he⟩
            · rw [j1_point k2 h2 neg D hd t D2 R2 ht d2 s2 he hl]
              by_cases hM : allD t
              · have hu := span_uniq D2 t R2 [] (by rw [← ht, List.append_nil]) d2 hM s2 (fun y u h => by simp at h)
                obtain ⟨rfl, rfl⟩ := hu
                by_cases h3 : D2 = []
                · exact ⟨syn, by rw [if_neg (fun h => h.2.1 h3)], by rw [if_pos h3]⟩
                · exact ⟨_, by rw [if_pos ⟨⟨he, hd⟩, h3, hM⟩, if_neg (by decide)], by rw [if_neg h3, if_pos rfl]⟩
              · refine ⟨syn, by rw [if_neg (fun h => hM h.2.2)], ?_⟩
                by_cases h3 : D2 = []
                · rw [if_pos h3]
                · rw [if_neg h3, if_neg, if_neg]
                  · intro hR
                    subst hR
                    exact hno (46 :: D2) (by rw [ht]; rfl)
                  · intro hR
                    subst hR
                    rw [List.append_nil] at ht
                    exact hM (ht ▸ d2)
      · by_cases h37 : x :: t = [37]
        · obtain ⟨rfl, rfl⟩ := List.cons.inj h37
          rcases suffix k1 neg D 37 [] hl with ⟨M, e, hp⟩ | ⟨hno, hp⟩
          · have eM : M = [] := by
              cases M with
              | nil => rfl
              | cons y M => simp at e
            subst eM
            rw [List.append_nil] at hp
            rw [hp, plain_all k1 h1 neg true D (by omega) n47 n46]
            by_cases he : D = []
            · exact ⟨syn, by rw [if_neg (fun h => h.1 he)], none he⟩
            · exact ⟨_, by rw [if_pos ⟨he, hd⟩, if_pos rfl], by rw [j1_other k2 h2 neg D hd 37 [] hx (by decide) (by decide) he hl, if_pos rfl]⟩
          · exact absurd rfl (hno [])
        · refine ⟨syn, ?_, ?_⟩
          · rcases suffix k1 neg D x t hl with ⟨M, e, hp⟩ | ⟨hno, hp⟩
            · rw [hp]
              cases M with
              | nil => exact absurd e (by simpa using h37)
              | cons y M =>
                obtain ⟨rfl, e'⟩ := List.cons.inj e
                replace e : t = M ++ [37] := e'
                have lt : t.length = M.length + 1 := by rw [e]; simp
                exact bad_all k1 h1 neg true _ (by simp; omega) x (by simp) hx x47 x46
            · rw [hp]
              exact bad_all k1 h1 neg false _ hl x (by simp) hx x47 x46
          · by_cases he : D = []
            · exact none he
            · rw [j1_other k2 h2 neg D hd x t hx x47 x46 he hl, if_neg h37]
theorem both (k : Nat) (hk : 300 ≤ k) (s : ByteArray) (hs : s.size ≤ 16) : ∃ r, fraction_Parse.f k s = some r ∧ sleuthref02_Parse.f k s = some r := by
  obtain ⟨k, rfl⟩ : ∃ j, k = j + 1 := ⟨k - 1, by omega⟩
  rw [Parse_eq _ s hs]
  obtain ⟨L, rfl⟩ : ∃ L, s = B L := ⟨_, B_of s⟩
  rw [B_size] at hs
  unfold sleuthref02_Parse.f
  rw [B_size]
  cases L with
  | nil =>
    rw [CutPrefix_no 45 [] (by simp), Option.bind_some, if_neg (by simp), sleuthref02_Parse.j0, if_neg (by decide)]
    exact agree (k + 1) k (by omega) (by omega) false [] (by simp)
  | cons c t =>
    have hb : bt (B (c :: t)) 0 = (c.toNat : Int) := by
      have := bt_B (c :: t) 0 (by simp)
      simpa using this
    have hl : t.length + 1 ≤ 16 := by simpa using hs
    rw [if_pos (by simp), if_pos (by simp), hb]
    by_cases h : c = 45
    · subst h
      have he : (B (45 :: t)).extract 1 (B (45 :: t)).size = B t := by
        rw [B_size, B_ext, List.drop_succ_cons, List.drop_zero, List.take_of_length_le (by simp)]
      rw [CutPrefix_B 45 t, Option.bind_some, show (((45 : UInt8).toNat : Int) == 45) = true from rfl, sleuthref02_Parse.j0, if_pos rfl, if_pos (by rw [B_size]; simp; omega), he]
      exact agree (k + 1) k (by omega) (by omega) true t (by omega)
    · have hn : ((c.toNat : Int) == 45) = false := by
        have : ¬ (c.toNat = 45) := fun e => h (UInt8.toNat_inj.mp e)
        simp only [beq_eq_false_iff_ne, ne_eq]; omega
      rw [CutPrefix_no 45 (c :: t) (by simpa using h), Option.bind_some, hn, sleuthref02_Parse.j0, if_neg (by decide)]
      exact agree (k + 1) k (by omega) (by omega) false (c :: t) hs
theorem FractionParses : sleuthlaw02_FractionParses.Pure := by
  intro s _
  refine ⟨400, ?_⟩
  unfold sleuthlaw02_FractionParses.f
  rw [known_ok _ (by omega), Option.bind_some, if_pos rfl, sleuthlaw02_FractionParses.j0]
  by_cases h : (s.size : Int) > 40
  · rw [decide_eq_true h, if_pos rfl, known_ok _ (by omega)]; rfl
  · rw [decide_eq_false h, if_neg (by decide)]
    by_cases h2 : (s.size : Int) > 16
    · have e : fraction_Parse.f 399 s = some (0, 0, 5) := by
        unfold fraction_Parse.f
        rw [if_pos h2]
      rw [e, Option.bind_some, if_pos h2]
      rfl
    · obtain ⟨r, e1, e2⟩ := both 399 (by omega) s (by omega)
      rw [e1, Option.bind_some, if_neg h2, e2, Option.bind_some]
      simp
end Go.Proofs.Ytikioicjhdhdpaa.Pure
