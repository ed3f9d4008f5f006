/- What the reference's Parse computes; both readings agree. -/
import Derived.Test.YtikioicjhdhdpaaMath7
import Derived.Test.YtikioicjhdhdpaaPFx10
import Derived.Test.YtikioicjhdhdpaaPFx11
-- NEEDS F: sleuthref02_Parse sleuthref02_scan sleuthref02_power
namespace Go.Proofs.Ytikioicjhdhdpaa.PF
open Go.RowKit Go.Proofs.YtikioicjhdhdpaaW.PrintWords Go.Proofs.YtikioicjhdhdpaaW.PrintLast Go.Proofs.YtikioicjhdhdpaaW.PrintMore
set_option linter.unusedVariables false

def stop (R : List UInt8) : Prop := ∀ x t, R = x :: t → ¬ isD x
theorem span : ∀ (M : List UInt8), ∃ D R, M = D ++ R ∧ allD D ∧ stop R
  | [] => ⟨[], [], rfl, fun c h => by simp at h, fun x t h => by simp at h⟩
  | c :: cs => by
    by_cases hc : isD c
    · obtain ⟨D, R, rfl, hd, hs⟩ := span cs
      refine ⟨c :: D, R, rfl, ?_, hs⟩
      intro x hx
      rcases List.mem_cons.mp hx with rfl | h
      · exact hc
      · exact hd x h
    · exact ⟨[], c :: cs, rfl, fun c h => by simp at h, fun x t h => by
        obtain ⟨rfl, rfl⟩ := List.cons.inj h
        exact hc⟩
theorem span_uniq : ∀ (D D2 R R2 : List UInt8), D ++ R = D2 ++ R2 → allD D → allD D2 → stop R → stop R2 → D = D2 ∧ R = R2
  | [], [], R, R2, h, _, _, _, _ => ⟨rfl, h⟩
  | [], y :: D2, R, R2, h, _, h2, hs, _ => absurd (h2 y List.mem_cons_self) (hs y (D2 ++ R2) h)
  | x :: D, [], R, R2, h, h1, _, _, hs2 => absurd (h1 x List.mem_cons_self) (hs2 x (D ++ R) h.symm)
  | x :: D, y :: D2, R, R2, h, h1, h2, hs, hs2 => by
    obtain ⟨rfl, h3⟩ := List.cons.inj h
    obtain ⟨rfl, rfl⟩ := span_uniq D D2 R R2 h3 (fun c hc => h1 c (List.mem_cons_of_mem _ hc)) (fun c hc => h2 c (List.mem_cons_of_mem _ hc)) hs hs2
    exact ⟨rfl, rfl⟩

theorem scan_l0 (R : List UInt8) (hs : stop R) : ∀ (D P : List UInt8) (n : Int) (k : Nat), allD D → (P ++ (D ++ R)).length ≤ 100 → 0 ≤ n → (n + 1) * p10 D.length ≤ 100000000000000000 → D.length + 1 ≤ k →
    sleuthref02_scan.l0 k (B (P ++ (D ++ R))) n (P.length : Int) = some (vl D n, ((P.length + D.length : Nat) : Int))
  | [], P, n, k, _, hl, h0, hb, hk => by
    obtain ⟨k, rfl⟩ : ∃ j, k = j + 1 := ⟨k - 1, by omega⟩
    rw [sleuthref02_scan.l0, B_size]
    cases R with
    | nil => rw [if_neg (by simp)]; simp [vl]
    | cons x t =>
      have hx := hs x t rfl
      unfold isD at hx
      have hl' : P.length < (P ++ ([] ++ x :: t)).length := by simp
      have e : (P ++ ([] ++ x :: t))[P.length]'hl' = x := by simp
      rw [if_pos (by omega), if_pos (by omega), bt_B _ _ hl', e]
      by_cases h1 : (x.toNat : Int) ≥ 48
      · rw [if_pos h1, if_neg (by omega)]; simp [vl]
      · rw [if_neg h1]; simp [vl]
  | c :: D, P, n, k, hd, hl, h0, hb, hk => by
    obtain ⟨k, rfl⟩ : ∃ j, k = j + 1 := ⟨k - 1, by simp at hk; omega⟩
    have hc := hd c List.mem_cons_self
    unfold isD at hc
    have e1 : (n + 1) * p10 (D.length + 1) = (10 * n + 10) * p10 D.length := by simp only [p10]; rw [← Int.mul_assoc, Int.mul_comm (n + 1) 10, Int.mul_add]; rfl
    rw [List.length_cons, e1] at hb
    have hp := p10_pos D.length
    have h1 : (10 * n + 10) * 1 ≤ (10 * n + 10) * p10 D.length := Int.mul_le_mul_of_nonneg_left hp (by omega)
    have h2 : (10 * n + ((c.toNat : Int) - 48) + 1) * p10 D.length ≤ (10 * n + 10) * p10 D.length := Int.mul_le_mul_of_nonneg_right (by omega) (by omega)
    have hl' : P.length < (P ++ (c :: D ++ R)).length := by simp
    have e : (P ++ (c :: D ++ R))[P.length]'hl' = c := by simp
    have hl2 : P.length ≤ 100 := by simp at hl; omega
    rw [sleuthref02_scan.l0, B_size, if_pos (by omega), if_pos (by omega), bt_B _ _ hl', e, if_pos (by omega), if_pos (by omega), wr_small (10 * n) (by omega) (by omega), show ((c.toNat : Int) - 48) % 256 = (c.toNat : Int) - 48 by omega, wr_small (10 * n + _) (by omega) (by omega), wr_small _ (by omega) (by omega)]
    have ih := scan_l0 R hs D (P ++ [c]) (10 * n + ((c.toNat : Int) - 48)) k (fun x hx => hd x (List.mem_cons_of_mem _ hx)) (by simpa using hl) (by omega) (by omega) (by simp at hk; omega)
    have e2 : P ++ [c] ++ (D ++ R) = P ++ (c :: D ++ R) := by simp
    rw [e2] at ih
    rw [show (P.length : Int) + 1 = ((P ++ [c]).length : Int) by simp, ih, vl]
    simp
    omega
theorem scan_ok (k : Nat) (hk : 100 ≤ k) (D R : List UInt8) (hs : stop R) (hd : allD D) (hl : (D ++ R).length ≤ 16) : sleuthref02_scan.f k (B (D ++ R)) = some (vl D 0, (D.length : Int)) := by
  have hl' : D.length + R.length ≤ 16 := by simpa using hl
  have := p10_16 D.length (by omega)
  unfold sleuthref02_scan.f
  have h := scan_l0 R hs D [] 0 k hd (by simp; omega) (by omega) (by omega) (by omega)
  simpa using h
theorem power_l0 : ∀ (d k i : Nat), d + 1 ≤ k → i + d ≤ 16 → sleuthref02_power.l0 k ((i + d : Nat) : Int) (p10 i) (i : Int) = some (p10 (i + d)) := by
  intro d
  induction d with
  | zero =>
    intro k i hk hi
    obtain ⟨k, rfl⟩ : ∃ j, k = j + 1 := ⟨k - 1, by omega⟩
    rw [sleuthref02_power.l0, if_neg (by omega)]; rfl
  | succ d ih =>
    intro k i hk hi
    obtain ⟨k, rfl⟩ : ∃ j, k = j + 1 := ⟨k - 1, by omega⟩
    have := p10_16 i (by omega)
    have := p10_pos i
    rw [sleuthref02_power.l0, if_pos (by omega), wr_small _ (by omega) (by omega), wr_small _ (by omega) (by omega), show 10 * p10 i = p10 (i + 1) from rfl, show (i : Int) + 1 = ((i + 1 : Nat) : Int) by omega, show i + (d + 1) = (i + 1) + d by omega]
    exact ih k (i + 1) (by omega) (by omega)
theorem power_ok (k c : Nat) (hk : 100 ≤ k) (hc : c ≤ 16) : sleuthref02_power.f k (c : Int) = some (p10 c) := by
  have h := power_l0 c k 0 (by omega) (by omega)
  unfold sleuthref02_power.f
  simpa [p10] using h

theorem j6_nil (k : Nat) (hk : 140 ≤ k) (neg : Bool) (num den : Int) (n0 : 0 ≤ num) (n1 : num ≤ 1000000000000000000) (d0 : 0 ≤ den) (d1 : den ≤ 1000000000000000000) :
    sleuthref02_Parse.j6 k neg num den (B []) = some (fin neg num den) := by
  obtain ⟨k, rfl⟩ : ∃ j, k = j + 1 := ⟨k - 1, by omega⟩
  rw [sleuthref02_Parse.j6, B_list, if_pos rfl]
  unfold fin
  by_cases h : den = 0
  · rw [if_pos h]; unfold mkE; rw [if_pos h]
  · rw [if_neg h]
    have key : ∀ v : Int, -1000000000000000000 ≤ v → v ≤ 1000000000000000000 → ((sleuthref02_Make.f k v den).bind fun bt160 => (if bt160.2.2 = true then (some (bt160.1, bt160.2.1, (0 : Int))) else (some (0, 0, 20)))) = some (mkE v den) := by
      intro v v0 v1
      rw [RMake_ok _ (by omega) v den h (by omega) (by omega) (by omega) (by omega), Option.bind_some]
      unfold mkB mkE
      rw [if_neg h]
      cases mk v den with
      | none => rfl
      | some p => rfl
    cases neg
    · rw [if_neg (by decide), if_neg (by decide)]; exact key num (by omega) (by omega)
    · rw [if_pos rfl, if_pos rfl, wr_small (-num) (by omega) (by omega)]; exact key (-num) (by omega) (by omega)
theorem j4_ok (k : Nat) (hk : 150 ≤ k) (neg sl : Bool) (num den : Int) (X : List UInt8) (n0 : 0 ≤ num) (n1 : num ≤ 1000000000000000000) (d0 : 0 ≤ den) (d1 : den ≤ 10000000000000000) :
    sleuthref02_Parse.j4 k neg num den (B X) sl = some (if X = [] then fin neg num den else if X = [37] ∧ sl = false then fin neg num (100 * den) else syn) := by
  obtain ⟨k, rfl⟩ : ∃ j, k = j + 1 + 1 + 1 := ⟨k - 3, by omega⟩
  rw [sleuthref02_Parse.j4, B_list]
  by_cases h : X = []
  · subst h
    rw [if_neg (by decide), if_pos rfl, sleuthref02_Parse.j5, if_neg (by decide), j6_nil _ (by omega) _ _ _ n0 n1 d0 (by omega)]
  · rw [if_neg h]
    by_cases h2 : X = [37]
    · subst h2
      rw [if_pos rfl, sleuthref02_Parse.j5]
      cases sl
      · rw [if_pos (show (!false) = true from rfl), if_pos (show ([37] : List UInt8) = [37] ∧ false = false from ⟨rfl, rfl⟩), wr_small (100 * den) (by omega) (by omega)]
        exact j6_nil _ (by omega) _ _ _ n0 n1 (by omega) (by omega)
      · rw [if_neg (by decide), if_neg (by decide), sleuthref02_Parse.j6, B_list, if_neg (by decide)]; rfl
    · rw [if_neg h2, if_neg (fun h => h2 h.1), sleuthref02_Parse.j5, if_neg (by decide), sleuthref02_Parse.j6, B_list, if_neg h]; rfl

section
variable (k : Nat) (hk : 200 ≤ k) (neg : Bool) (D : List UInt8) (hd : allD D)
include hk hd
theorem j1_none (R : List UInt8) (hs : stop R) (h : D = []) (hl : (D ++ R).length ≤ 16) : sleuthref02_Parse.j1 k (B (D ++ R)) neg = some syn := by
  obtain ⟨k, rfl⟩ : ∃ j, k = j + 1 := ⟨k - 1, by omega⟩
  rw [sleuthref02_Parse.j1, scan_ok _ (by omega) D R hs hd hl, Option.bind_some]
  subst h
  exact if_pos rfl
theorem j1_to (R : List UInt8) (hs : stop R) (h : D ≠ []) (hl : (D ++ R).length ≤ 16) : ∃ k', 190 ≤ k' ∧ sleuthref02_Parse.j1 k (B (D ++ R)) neg = (match R with | [] => sleuthref02_Parse.j2 k' neg (vl D 0) 1 (B []) false | x :: t => sleuthref02_Parse.j2 k' neg (vl D 0) 1 (B (x :: t)) (x == 47)) := by
  obtain ⟨k, rfl⟩ : ∃ j, k = j + 1 := ⟨k - 1, by omega⟩
  have hp : 0 < D.length := List.length_pos_iff.mpr h
  have hl' : D.length + R.length ≤ 16 := by simpa using hl
  have he : (B (D ++ R)).extract ((D.length : Int)).toNat (B (D ++ R)).size = B R := by
    rw [B_size, B_ext, Int.toNat_natCast, List.drop_left' rfl, List.take_of_length_le (by simp)]
  refine ⟨k, by omega, ?_⟩
  rw [sleuthref02_Parse.j1, scan_ok _ (by omega) D R hs hd hl, Option.bind_some]
  dsimp only
  rw [if_neg (by omega), if_pos (by omega), if_pos (by rw [B_size]; simp; omega), he, B_size]
  cases R with
  | nil => rw [if_neg (by simp)]
  | cons x t =>
    rw [if_pos (by simp), if_pos (by simp)]
    congr 1
    have := bt_B (x :: t) 0 (by simp)
    simp only [Int.ofNat_zero] at this
    rw [this]
    by_cases hx : x = 47
    · subst hx; rfl
    · have : ¬ (x.toNat = 47) := fun e => hx (UInt8.toNat_inj.mp e)
      rw [show (x == 47) = false from beq_eq_false_iff_ne.mpr hx]
      simp only [beq_eq_false_iff_ne, ne_eq, List.getElem_cons_zero]
      omega
theorem j3_yes (k' : Nat) (hk' : 180 ≤ k') (sl : Bool) (x : UInt8) (D2 R2 : List UInt8) (d2 : allD D2) (s2 : stop R2) (hl : (D ++ x :: (D2 ++ R2)).length ≤ 16) :
    sleuthref02_Parse.j3 k' neg (vl D 0) 1 (B (x :: (D2 ++ R2))) sl true = some (if D2 = [] then syn else if sl = true then (if R2 = [] then fin neg (vl D 0) (vl D2 0) else syn) else (if R2 = [] then fin neg (vl (D ++ D2) 0) (p10 D2.length) else if R2 = [37] then fin neg (vl (D ++ D2) 0) (100 * p10 D2.length) else syn)) := by
  have _ := hk
  obtain ⟨k', rfl⟩ : ∃ j, k' = j + 1 := ⟨k' - 1, by omega⟩
  have hl' : D.length + (D2.length + R2.length + 1) ≤ 16 := by simpa using hl
  have he : (B (x :: (D2 ++ R2))).extract 1 (B (x :: (D2 ++ R2))).size = B (D2 ++ R2) := by
    rw [B_size, B_ext, List.drop_succ_cons, List.drop_zero, List.take_of_length_le (by simp)]
  rw [sleuthref02_Parse.j3, if_pos rfl, if_pos (by rw [B_size]; simp; omega), he, scan_ok _ (by omega) D2 R2 s2 d2 (by simp; omega), Option.bind_some]
  dsimp only
  by_cases h : D2 = []
  · subst h; rw [if_pos (show ((([] : List UInt8).length : Nat) : Int) = 0 from rfl), if_pos rfl]; rfl
  · have hp : 0 < D2.length := List.length_pos_iff.mpr h
    have b1 := vl0_bd D hd (by omega)
    have b2 := vl0_bd D2 d2 (by omega)
    have he2 : (B (x :: (D2 ++ R2))).extract ((1 + (D2.length : Int))).toNat (B (x :: (D2 ++ R2))).size = B R2 := by
      rw [B_size, B_ext, show ((1 + (D2.length : Int))).toNat = D2.length + 1 by omega, List.drop_succ_cons, List.drop_left' rfl, List.take_of_length_le (by simp)]
    have hc : (1 + (D2.length : Int)) ≤ ((B (x :: (D2 ++ R2))).size : Int) := by rw [B_size]; simp; omega
    rw [if_neg (by omega), if_neg h, wr_small (1 + (D2.length : Int)) (by omega) (by omega)]
    cases sl
    · rw [if_neg (by decide), if_neg (by decide), power_ok _ _ (by omega) (by omega), Option.bind_some, Option.bind_some, if_pos (by omega), if_pos hc, he2]
      have ev : vl (D ++ D2) 0 = vl D 0 * p10 D2.length + vl D2 0 := by rw [vl_append, vl_shift]
      have bv := vl0_bd (D ++ D2) (fun c hc => by rcases List.mem_append.mp hc with h | h; exact hd c h; exact d2 c h) (by simp; omega)
      have b3 := p10_16 D2.length (by omega)
      have b4 := p10_pos D2.length
      have b5 : 0 ≤ vl D 0 * p10 D2.length := Int.mul_nonneg b1.1 (by omega)
      rw [wr_small (vl D 0 * p10 D2.length) (by omega) (by omega), wr_small _ (by omega) (by omega), ← ev, j4_ok _ (by omega) _ _ _ _ _ (by omega) (by omega) (by omega) (by omega)]
      simp
    · rw [if_pos rfl, if_pos rfl, if_pos (by omega), if_pos hc, he2, j4_ok _ (by omega) _ _ _ _ _ (by omega) (by omega) (by omega) (by omega)]
      simp
theorem j1_nil (h : D ≠ []) (hl : D.length ≤ 16) : sleuthref02_Parse.j1 k (B D) neg = some (fin neg (vl D 0) 1) := by
  obtain ⟨k', hk', e⟩ := j1_to k hk neg D hd [] (fun x t h => by simp at h) h (by simpa using hl)
  rw [List.append_nil] at e
  obtain ⟨k', rfl⟩ : ∃ j, k' = j + 1 + 1 := ⟨k' - 2, by omega⟩
  have b1 := vl0_bd D hd hl
  rw [e, sleuthref02_Parse.j2, if_neg (by decide), if_neg (by rw [B_size]; simp), sleuthref02_Parse.j3, if_neg (by decide), j4_ok _ (by omega) _ _ _ _ _ (by omega) (by omega) (by omega) (by omega), if_pos rfl]
theorem j1_slash (t D2 R2 : List UInt8) (ht : t = D2 ++ R2) (d2 : allD D2) (s2 : stop R2) (h : D ≠ []) (hl : (D ++ 47 :: t).length ≤ 16) :
    sleuthref02_Parse.j1 k (B (D ++ 47 :: t)) neg = some (if D2 = [] then syn else if R2 = [] then fin neg (vl D 0) (vl D2 0) else syn) := by
  subst ht
  obtain ⟨k', hk', e⟩ := j1_to k hk neg D hd (47 :: (D2 ++ R2)) (fun x t h => by obtain ⟨rfl, _⟩ := List.cons.inj h; decide) h hl
  obtain ⟨k', rfl⟩ : ∃ j, k' = j + 1 := ⟨k' - 1, by omega⟩
  rw [e]
  dsimp only
  rw [show ((47 : UInt8) == 47) = true from rfl, sleuthref02_Parse.j2, if_pos rfl, j3_yes k hk neg D hd k' (by omega) true 47 D2 R2 d2 s2 hl, if_pos rfl]
theorem j1_point (t D2 R2 : List UInt8) (ht : t = D2 ++ R2) (d2 : allD D2) (s2 : stop R2) (h : D ≠ []) (hl : (D ++ 46 :: t).length ≤ 16) :
    sleuthref02_Parse.j1 k (B (D ++ 46 :: t)) neg = some (if D2 = [] then syn else if R2 = [] then fin neg (vl (D ++ D2) 0) (p10 D2.length) else if R2 = [37] then fin neg (vl (D ++ D2) 0) (100 * p10 D2.length) else syn) := by
  subst ht
  obtain ⟨k', hk', e⟩ := j1_to k hk neg D hd (46 :: (D2 ++ R2)) (fun x t h => by obtain ⟨rfl, _⟩ := List.cons.inj h; decide) h hl
  obtain ⟨k', rfl⟩ : ∃ j, k' = j + 1 := ⟨k' - 1, by omega⟩
  have hb : bt (B (46 :: (D2 ++ R2))) 0 = 46 := by
    have := bt_B (46 :: (D2 ++ R2)) 0 (by simp)
    simpa using this
  rw [e]
  dsimp only
  rw [show ((46 : UInt8) == 47) = false from rfl, sleuthref02_Parse.j2, if_neg (by decide), if_pos (by rw [B_size]; simp; omega), if_pos (by rw [B_size]; simp; omega), hb, show ((46 : Int) == 46) = true from rfl, j3_yes k hk neg D hd k' (by omega) false 46 D2 R2 d2 s2 hl, if_neg (show ¬ (false = true) by decide)]
theorem j1_other (x : UInt8) (t : List UInt8) (hx : ¬ isD x) (h47 : x ≠ 47) (h46 : x ≠ 46) (h : D ≠ []) (hl : (D ++ x :: t).length ≤ 16) :
    sleuthref02_Parse.j1 k (B (D ++ x :: t)) neg = some (if x :: t = [37] then fin neg (vl D 0) 100 else syn) := by
  obtain ⟨k', hk', e⟩ := j1_to k hk neg D hd (x :: t) (fun y u h => by obtain ⟨rfl, _⟩ := List.cons.inj h; exact hx) h hl
  obtain ⟨k', rfl⟩ : ∃ j, k' = j + 1 + 1 := ⟨k' - 2, by omega⟩
  have hl' : D.length + (t.length + 1) ≤ 16 := by simpa using hl
  have b1 := vl0_bd D hd (by omega)
  have hb : bt (B (x :: t)) 0 = (x.toNat : Int) := by
    have := bt_B (x :: t) 0 (by simp)
    simpa using this
  have hn : ((x.toNat : Int) == 46) = false := by
    have : ¬ (x.toNat = 46) := fun e => h46 (UInt8.toNat_inj.mp e)
    simp only [beq_eq_false_iff_ne, ne_eq]; omega
  rw [e]
  dsimp only
  rw [show (x == 47) = false from beq_eq_false_iff_ne.mpr h47, sleuthref02_Parse.j2, if_neg (by decide), if_pos (by rw [B_size]; simp), if_pos (by rw [B_size]; simp), hb, hn, sleuthref02_Parse.j3, if_neg (by decide), j4_ok _ (by omega) _ _ _ _ _ (by omega) (by omega) (by omega) (by omega), if_neg (by simp)]
  simp
end
end Go.Proofs.Ytikioicjhdhdpaa.PF
