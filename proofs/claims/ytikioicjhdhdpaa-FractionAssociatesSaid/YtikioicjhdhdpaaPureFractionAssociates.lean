/- FractionAssociates, in plain numbers. -/
import Derived.Test.YtikioicjhdhdpaaMath4
import Derived.Test.YtikioicjhdhdpaaPFx16
-- NEEDS F: sleuthlaw02_FractionAssociates
namespace Go.Proofs.Ytikioicjhdhdpaa.Pure
open Go.RowKit Go.Proofs.Ytikioicjhdhdpaa.PF Go.Proofs.YtikioicjhdhdpaaW.PrintWords Go.Proofs.YtikioicjhdhdpaaW.PrintLast
set_option linter.unusedVariables false

def small (a b : Int) : Prop := can a b ∧ a ≤ 60 ∧ -60 ≤ a ∧ b ≤ 60
instance (a b : Int) : Decidable (small a b) := by unfold small; infer_instance
theorem round (k : Nat) (i : Int) (l : List S24) (y1 y2 y3 y4 y5 y6 : Int) (hi : 0 ≤ i ∧ i < 3 ∧ 200 ≤ k) (hl : (l.length : Int) = 3) :
    sleuthlaw02_FractionAssociates.l0 (k + 1) l i y1 y2 y3 y4 y5 y6 = if small (rd_T24 l i).f0 (rd_T24 l i).f1 then sleuthlaw02_FractionAssociates.l0 k l (wrap64 (i + 1)) y1 y2 y3 y4 y5 y6 else some true := by
  rw [sleuthlaw02_FractionAssociates.l0, if_pos (by omega), if_pos (by omega), if_pos (by omega), Check_ok _ (by omega), Option.bind_some, known_ok _ (by omega)]
  generalize (rd_T24 l i).f0 = a
  generalize (rd_T24 l i).f1 = b
  by_cases h : can a b
  · rw [decide_eq_true h, if_pos rfl]
    by_cases h1 : a > 60
    · rw [if_pos h1, if_neg (fun s => by have := s.2.1; omega)]; rfl
    · rw [if_neg h1]
      by_cases h2 : a < -60
      · rw [if_pos h2, if_neg (fun s => by have := s.2.2.1; omega)]; rfl
      · rw [if_neg h2]
        by_cases h3 : b > 60
        · rw [if_pos h3, if_neg (fun s => by have := s.2.2.2; omega)]; rfl
        · rw [if_neg h3, if_pos ⟨h, by omega, by omega, by omega⟩]
  · rw [decide_eq_false h, if_neg (by decide), if_neg (fun s => h s.1)]; rfl
theorem mk_some (a b : Int) (h0 : -1048576 ≤ a) (h1 : a ≤ 1048576) (h2 : -1048576 ≤ b) (h3 : b ≤ 1048576) : ∃ x y, mk a b = some (x, y) := by
  unfold mk
  have hp : a.natAbs / Nat.gcd a.natAbs b.natAbs ≤ a.natAbs := Nat.div_le_self _ _
  have hq : b.natAbs / Nat.gcd a.natAbs b.natAbs ≤ b.natAbs := Nat.div_le_self _ _
  rw [if_pos (by omega)]
  exact ⟨_, _, rfl⟩
theorem mkE_some (a b x y : Int) (hb : b ≠ 0) (h : mk a b = some (x, y)) : mkE a b = (x, y, 0) := by
  unfold mkE; rw [if_neg hb, h]
theorem bd (x y : Int) (n m : Nat) (h0 : -(n : Int) ≤ x) (h1 : x ≤ n) (h2 : -(m : Int) ≤ y) (h3 : y ≤ m) : -((n * m : Nat) : Int) ≤ x * y ∧ x * y ≤ ((n * m : Nat) : Int) := by
  have h : (x * y).natAbs ≤ n * m := by rw [Int.natAbs_mul]; exact Nat.mul_le_mul (by omega) (by omega)
  omega
theorem add_small (a b c d : Int) (a0 : -60 ≤ a) (a1 : a ≤ 60) (b0 : 1 ≤ b) (b1 : b ≤ 60) (c0 : -60 ≤ c) (c1 : c ≤ 60) (d0 : 1 ≤ d) (d1 : d ≤ 60) : ∃ x y, mk (a * d + c * b) (b * d) = some (x, y) ∧ can x y ∧ True := by
  have e1 := bd a d 60 60 (by omega) (by omega) (by omega) (by omega)
  have e2 := bd c b 60 60 (by omega) (by omega) (by omega) (by omega)
  have e3 := bd b d 60 60 (by omega) (by omega) (by omega) (by omega)
  obtain ⟨x, y, h⟩ := mk_some (a * d + c * b) (b * d) (by omega) (by omega) (by omega) (by omega)
  exact ⟨x, y, h, (mk_rep _ _ _ _ (by have := mul_pos2 b d b0 d0; omega) h).1, trivial⟩
theorem mul_small (a b c d : Int) (b0 : 1 ≤ b) (d0 : 1 ≤ d) (a0 : -60 ≤ a) (a1 : a ≤ 60) (b1 : b ≤ 60) (c0 : -60 ≤ c) (c1 : c ≤ 60) (d1 : d ≤ 60) : ∃ x y, mk (a * c) (b * d) = some (x, y) ∧ can x y := by
  have e1 := bd a c 60 60 (by omega) (by omega) (by omega) (by omega)
  have e3 := bd b d 60 60 (by omega) (by omega) (by omega) (by omega)
  obtain ⟨x, y, h⟩ := mk_some (a * c) (b * d) (by omega) (by omega) (by omega) (by omega)
  exact ⟨x, y, h, (mk_rep _ _ _ _ (by have := mul_pos2 b d b0 d0; omega) h).1⟩
theorem add_more (a b c d p q x y : Int) (hb : 1 ≤ b) (hd : 1 ≤ d) (hq : 1 ≤ q) (h : mk (a * d + c * b) (b * d) = some (x, y)) : mk (x * q + p * y) (y * q) = mk (a * d * q + c * b * q + p * b * d) (b * d * q) := by
  obtain ⟨hc, t, ht, e1, e2⟩ := mk_rep _ _ _ _ (by have := mul_pos2 b d hb hd; omega) h
  rw [← mk_scale t _ _ ht]
  congr 1 <;> grind
theorem mul_more (a b c d p q x y : Int) (hb : 1 ≤ b) (hd : 1 ≤ d) (hq : 1 ≤ q) (h : mk (a * c) (b * d) = some (x, y)) : mk (x * p) (y * q) = mk (a * c * p) (b * d * q) := by
  obtain ⟨hc, t, ht, e1, e2⟩ := mk_rep _ _ _ _ (by have := mul_pos2 b d hb hd; omega) h
  rw [← mk_scale t _ _ ht]
  congr 1 <;> grind
theorem total (a b c d p q : Int) (hb : 1 ≤ b) (hd : 1 ≤ d) (hq : 1 ≤ q) (a0 : -60 ≤ a) (a1 : a ≤ 60) (b1 : b ≤ 60) (c0 : -60 ≤ c) (c1 : c ≤ 60) (d1 : d ≤ 60) (p0 : -60 ≤ p) (p1 : p ≤ 60) (q1 : q ≤ 60) : ∃ x y, mk (a * d * q + c * b * q + p * b * d) (b * d * q) = some (x, y) := by
  have e1 := bd a d 60 60 (by omega) (by omega) (by omega) (by omega)
  have e2 := bd c b 60 60 (by omega) (by omega) (by omega) (by omega)
  have e3 := bd b d 60 60 (by omega) (by omega) (by omega) (by omega)
  have e4 := bd p b 60 60 (by omega) (by omega) (by omega) (by omega)
  have s1 := bd (a * d) q 3600 60 (by omega) (by omega) (by omega) (by omega)
  have s2 := bd (c * b) q 3600 60 (by omega) (by omega) (by omega) (by omega)
  have s3 := bd (b * d) q 3600 60 (by omega) (by omega) (by omega) (by omega)
  have s4 := bd (p * b) d 3600 60 (by omega) (by omega) (by omega) (by omega)
  exact mk_some _ _ (by omega) (by omega) (by omega) (by omega)
theorem ptotal (a b c d p q : Int) (hb : 1 ≤ b) (hd : 1 ≤ d) (hq : 1 ≤ q) (a0 : -60 ≤ a) (a1 : a ≤ 60) (b1 : b ≤ 60) (c0 : -60 ≤ c) (c1 : c ≤ 60) (d1 : d ≤ 60) (p0 : -60 ≤ p) (p1 : p ≤ 60) (q1 : q ≤ 60) : ∃ x y, mk (a * c * p) (b * d * q) = some (x, y) := by
  have e1 := bd a c 60 60 (by omega) (by omega) (by omega) (by omega)
  have e3 := bd b d 60 60 (by omega) (by omega) (by omega) (by omega)
  have s1 := bd (a * c) p 3600 60 (by omega) (by omega) (by omega) (by omega)
  have s3 := bd (b * d) q 3600 60 (by omega) (by omega) (by omega) (by omega)
  exact mk_some _ _ (by omega) (by omega) (by omega) (by omega)
theorem FractionAssociates : sleuthlaw02_FractionAssociates.Pure := by
  intro a b c d p q ha hb hc hd hp hq
  refine ⟨400, ?_⟩
  unfold sleuthlaw02_FractionAssociates.f
  rw [show (400 : Nat) = 399 + 1 from rfl, round 399 0 _ _ _ _ _ _ _ (by omega) (by simp)]
  simp only [rd_T24, List.getD_eq_getElem?_getD, List.getElem?_cons_zero, Option.getD_some, Int.toNat_zero]
  by_cases hf : small a b
  · rw [if_pos hf, show wrap64 (0 + 1) = 1 from by rw [wr_small _ (by omega) (by omega)]; rfl, show (399 : Nat) = 398 + 1 from rfl, round 398 1 _ _ _ _ _ _ _ (by omega) (by simp)]
    simp only [rd_T24, List.getD_eq_getElem?_getD, Int.toNat_one, List.getElem?_cons_succ, List.getElem?_cons_zero, Option.getD_some]
    by_cases hg : small c d
    · rw [if_pos hg, show wrap64 (1 + 1) = 2 from by rw [wr_small _ (by omega) (by omega)]; rfl, show (398 : Nat) = 397 + 1 from rfl, round 397 2 _ _ _ _ _ _ _ (by omega) (by simp)]
      simp only [rd_T24, List.getD_eq_getElem?_getD, show Int.toNat 2 = 2 from rfl, List.getElem?_cons_succ, List.getElem?_cons_zero, Option.getD_some]
      by_cases hh : small p q
      · rw [if_pos hh, show wrap64 (2 + 1) = 3 from by rw [wr_small _ (by omega) (by omega)]; rfl, show (397 : Nat) = 396 + 1 from rfl, sleuthlaw02_FractionAssociates.l0, if_neg (by omega), known_ok _ (by omega), Option.bind_some, if_pos rfl]
        obtain ⟨hf, f1, f2, f3⟩ := hf
        obtain ⟨hg, g1, g2, g3⟩ := hg
        obtain ⟨hh, h1, h2, h3⟩ := hh
        have hb := hf.1
        have hd := hg.1
        have hq := hh.1
        -- the sums
        obtain ⟨x, y, m1, c1, e1⟩ := add_small a b c d (by omega) (by omega) (by omega) (by omega) (by omega) (by omega) (by omega) (by omega)
        obtain ⟨z, v, m2, c2, e2⟩ := add_small c d p q (by omega) (by omega) (by omega) (by omega) (by omega) (by omega) (by omega) (by omega)
        have k1 := add_more a b c d p q x y hb hd hq m1
        have k2 := add_more c d p q a b z v hd hq hb m2
        have hsame : mk (a * v + z * b) (b * v) = mk (x * q + p * y) (y * q) := by
          rw [k1, show a * v + z * b = z * b + a * v by omega, Int.mul_comm b v, k2]
          congr 1 <;> grind
        obtain ⟨s, u, m3⟩ := total a b c d p q hb hd hq (by omega) (by omega) (by omega) (by omega) (by omega) (by omega) (by omega) (by omega) (by omega)
        rw [Add_ok _ (by omega) a b c d hf hg, Option.bind_some, Add_ok _ (by omega) c d p q hg hh, Option.bind_some]
        rw [mkE_some _ _ _ _ (by have := mul_pos2 b d hb hd; omega) m1, mkE_some _ _ _ _ (by have := mul_pos2 d q hd hq; omega) m2]
        dsimp only
        rw [Add_ok _ (by omega) x y p q c1 hh, Option.bind_some, Add_ok _ (by omega) a b z v hf c2, Option.bind_some]
        rw [mkE_some (x * q + p * y) (y * q) s u (by have := mul_pos2 y q c1.1 hq; omega) (by rw [k1]; exact m3), mkE_some (a * v + z * b) (b * v) s u (by have := mul_pos2 b v hb c2.1; omega) (by rw [hsame, k1]; exact m3)]
        -- the products
        obtain ⟨x', y', n1, d1⟩ := mul_small a b c d hb hd (by omega) (by omega) (by omega) (by omega) (by omega) (by omega)
        obtain ⟨z', v', n2, d2⟩ := mul_small c d p q hd hq (by omega) (by omega) (by omega) (by omega) (by omega) (by omega)
        have l1 := mul_more a b c d p q x' y' hb hd hq n1
        have l2 := mul_more c d p q a b z' v' hd hq hb n2
        have hsame2 : mk (a * z') (b * v') = mk (x' * p) (y' * q) := by
          rw [l1, Int.mul_comm a z', Int.mul_comm b v', l2]
          congr 1 <;> grind
        obtain ⟨s', u', n3⟩ := ptotal a b c d p q hb hd hq (by omega) (by omega) (by omega) (by omega) (by omega) (by omega) (by omega) (by omega) (by omega)
        rw [Mul_ok _ (by omega) a b c d hf hg, Option.bind_some, Mul_ok _ (by omega) c d p q hg hh, Option.bind_some]
        rw [mkE_some _ _ _ _ (by have := mul_pos2 b d hb hd; omega) n1, mkE_some _ _ _ _ (by have := mul_pos2 d q hd hq; omega) n2]
        dsimp only
        rw [Mul_ok _ (by omega) x' y' p q d1 hh, Option.bind_some, Mul_ok _ (by omega) a b z' v' hf d2, Option.bind_some]
        rw [mkE_some (x' * p) (y' * q) s' u' (by have := mul_pos2 y' q d1.1 hq; omega) (by rw [l1]; exact n3), mkE_some (a * z') (b * v') s' u' (by have := mul_pos2 b v' hb d2.1; omega) (by rw [hsame2, l1]; exact n3)]
        simp
      · rw [if_neg hh]
    · rw [if_neg hg]
  · rw [if_neg hf]
end Go.Proofs.Ytikioicjhdhdpaa.Pure
