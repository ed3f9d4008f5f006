/- What Check, AtMost and Sum compute, in plain numbers and lists. -/
import Derived.Test.YtfnhicmjdfeanaaMath5
import Derived.Test.YtfnhicmjdfeanaaPHx4
import Derived.Test.YtfnhicmjdfeanaaPHx5
import Derived.Test.YtfnhicmjdfeanaaPHx26
import Derived.Test.YtfnhicmjdfeanaaPHx32
-- NEEDS H: histogram_Add histogram_AtMost histogram_Check histogram_Sum histogram_limited
namespace Go.Proofs.Ytfnhicmjdfeanaa.PH
open Go.RowKit Go.Proofs.YtfnhicmjdfeanaaW.PrintWords Go.Proofs.YtfnhicmjdfeanaaW.PrintLast Go.Proofs.YtfnhicmjdfeanaaW.PrintMore
set_option linter.unusedVariables false

/-! ### Check -/
def leP : Option Int → Int → Bool
  | some q, x => decide (x ≤ q)
  | none, _ => false
/-- The first error of buckets behind one with an index. -/
def chk : Option Int → List S67 → Int → Int
  | _, [], acc => if acc > 1048576 then 20 else 0
  | p, b :: bs, acc => if b.f0 < 0 ∨ b.f0 ≥ 305 then 2 else if leP p b.f0 = true then 8 else if b.f1 < 1 ∨ b.f1 > 1048576 then 2 else chk (some b.f0) bs (wrap64 (acc + b.f1))
def prevOf (l : List S67) (i : Nat) : Option Int := if i = 0 then none else some (rd_T67 l ((i : Int) - 1)).f0
theorem prevOf_succ (l : List S67) (i : Nat) : prevOf l (i + 1) = some (rd_T67 l (i : Int)).f0 := by
  unfold prevOf
  rw [if_neg (by omega), show ((i + 1 : Nat) : Int) - 1 = (i : Int) by omega]
theorem check_loop (l : List S67) (hb : l.length ≤ 1000000) : ∀ (d i k : Nat) (acc : Int), i + d = l.length → 3 * d < k → histogram_Check.l0 k acc l (l.length : Int) i l = some (chk (prevOf l i) (l.drop i) acc) := by
  intro d
  induction d with
  | zero =>
    intro i k acc hi hk
    obtain ⟨k, rfl⟩ : ∃ m, k = m + 1 := ⟨k - 1, by omega⟩
    rw [histogram_Check.l0, if_neg (by omega), List.drop_of_length_le (by omega)]
    simp only [chk]
    split <;> rfl
  | succ d ih =>
    intro i k acc hi hk
    obtain ⟨k, rfl⟩ : ∃ m, k = m + 3 := ⟨k - 3, by omega⟩
    have hlt : i < l.length := by omega
    have hn := ih (i + 1) k (wrap64 (acc + (rd_T67 l i).f1)) (by omega) (by omega)
    rw [prevOf_succ] at hn
    rw [histogram_Check.l0, if_pos (by omega), if_pos (by omega), if_pos (by omega), rd67_drop l i hlt]
    simp only [chk]
    by_cases h1 : (rd_T67 l i).f0 < 0 ∨ (rd_T67 l i).f0 ≥ 305
    · rw [if_pos h1]
      have e : (if (rd_T67 l i).f0 < 0 then histogram_Check.j1 (k + 2) acc i l (l.length : Int) i true l (rd_T67 l i).f0 (rd_T67 l i).f1 else histogram_Check.j1 (k + 2) acc i l (l.length : Int) i (decide ((rd_T67 l i).f0 ≥ 305)) l (rd_T67 l i).f0 (rd_T67 l i).f1) = histogram_Check.j1 (k + 2) acc i l (l.length : Int) i true l (rd_T67 l i).f0 (rd_T67 l i).f1 := by
        by_cases h : (rd_T67 l i).f0 < 0
        · rw [if_pos h]
        · rw [if_neg h, show decide ((rd_T67 l i).f0 ≥ 305) = true from decide_eq_true (by omega)]
      rw [e, histogram_Check.j1, if_pos rfl]
    · rw [if_neg h1, if_neg (by omega), show decide ((rd_T67 l i).f0 ≥ 305) = false from decide_eq_false (by omega), histogram_Check.j1, if_neg (by decide)]
      have tail : ∀ q : Bool, histogram_Check.j2 (k + 1) acc l (l.length : Int) i q l (rd_T67 l i).f0 (rd_T67 l i).f1 = some (if q = true then 8 else if (rd_T67 l i).f1 < 1 ∨ (rd_T67 l i).f1 > 1048576 then 2 else chk (some (rd_T67 l i).f0) (l.drop (i + 1)) (wrap64 (acc + (rd_T67 l i).f1))) := by
        intro q
        rw [histogram_Check.j2]
        cases q with
        | true => rfl
        | false =>
          rw [if_neg Bool.false_ne_true, if_neg Bool.false_ne_true]
          by_cases h2 : (rd_T67 l i).f1 < 1
          · rw [if_pos h2, if_pos (.inl h2)]
          · rw [if_neg h2]
            by_cases h3 : (rd_T67 l i).f1 > 1048576
            · rw [if_pos h3, if_pos (.inr h3)]
            · rw [if_neg h3, if_neg (by omega), wr_succ i (by omega), hn]
      by_cases h0 : i = 0
      · rw [if_neg (by omega), tail]
        unfold prevOf
        rw [if_pos h0]
        rfl
      · rw [if_pos (by omega), wr_small ((i : Int) - 1) (by omega) (by omega), if_pos (by omega), if_pos (by omega), tail]
        unfold prevOf
        rw [if_neg h0]
        rfl
theorem check_ok (k : Nat) (l : List S67) (hb : l.length ≤ 1000000) (hk : 3 * l.length < k) : histogram_Check.f k l = some (chk none l 0) := by
  unfold histogram_Check.f
  have := check_loop l hb l.length 0 k 0 (by omega) hk
  simpa [prevOf] using this
def isum : List Int → Int
  | [] => 0
  | c :: cs => c + isum cs
theorem isum_nonneg : ∀ cs : List Int, (∀ c, c ∈ cs → 0 ≤ c) → 0 ≤ isum cs
  | [], _ => by simp [isum]
  | c :: cs, h => by
    have := h c List.mem_cons_self
    have := isum_nonneg cs (fun x hx => h x (List.mem_cons_of_mem _ hx))
    simp only [isum]
    omega
theorem chk_buck : ∀ (cs : List Int) (s : Int) (p : Option Int) (acc : Int), 0 ≤ s → s + cs.length ≤ 305 → (∀ q, p = some q → q < s) → (∀ c, c ∈ cs → 0 ≤ c) → 0 ≤ acc → acc + isum cs ≤ 1048576 → chk p (buckFrom s cs) acc = 0
  | [], s, p, acc, _, _, _, _, h0, h1 => by
    simp only [isum, Int.add_zero] at h1
    simp only [buckFrom, chk]
    rw [if_neg (by omega)]
  | c :: cs, s, p, acc, hs, hl, hp, hc, h0, h1 => by
    simp only [List.length_cons] at hl
    simp only [isum] at h1
    have hc0 := hc c List.mem_cons_self
    have hcs := isum_nonneg cs (fun x hx => hc x (List.mem_cons_of_mem _ hx))
    simp only [buckFrom]
    by_cases e : c = 0
    · rw [if_pos e]
      exact chk_buck cs (s + 1) p acc (by omega) (by omega) (fun q hq => by have := hp q hq; omega) (fun x hx => hc x (List.mem_cons_of_mem _ hx)) h0 (by omega)
    · rw [if_neg e]
      simp only [chk]
      rw [if_neg (by omega)]
      have hq : ¬ leP p s = true := by
        cases p with
        | none => simp [leP]
        | some q => have := hp q rfl; simp [leP]; omega
      rw [if_neg hq, if_neg (by omega), wr_small (acc + c) (by omega) (by omega)]
      exact chk_buck cs (s + 1) (some s) (acc + c) (by omega) (by omega) (fun q hq => by injection hq with hq; omega) (fun x hx => hc x (List.mem_cons_of_mem _ hx)) (by omega) (by omega)
theorem zsum_one : ∀ (cs : List Int) (s : Int), zsum (fun _ => 1) s cs = isum cs
  | [], _ => rfl
  | c :: cs, s => by simp only [zsum, isum, zsum_one cs (s + 1)]; omega
theorem isum_cnt (l : List Int) (h : valid l) : isum (vec (cnt l)) = l.length := by
  rw [← zsum_one _ 0, zsum_cnt _ _ h, lsum_one]
theorem hst_check (k : Nat) (hk : 1000 ≤ k) (l : List Int) (h : valid l) (hl : l.length ≤ 1048576) : histogram_Check.f k (hst l) = some 0 := by
  have hle := hst_len l
  rw [check_ok k _ (by omega) (by omega)]
  congr 1
  refine chk_buck _ 0 none 0 (by omega) (by rw [vec_len]; omega) (fun q hq => by cases hq) (fun c hc => ?_) (by omega) (by rw [isum_cnt l h]; omega)
  obtain ⟨i, _, _, rfl⟩ := vec_mem hc
  exact (cnt_range l i).1

/-! ### AtMost and Sum -/
def ind (p : Prop) [Decidable p] : Int := if p then 1 else 0
theorem atmost_loop (v : Int) (l : List S67) (hb : l.length ≤ 1000000) (hc : ∀ b, b ∈ l → 0 ≤ b.f0 ∧ b.f0 < 305 ∧ 0 ≤ b.f1 ∧ b.f1 ≤ 1099511627776) :
    ∀ (d i k : Nat) (x y : Int), i + d = l.length → d + 1 < k → 0 ≤ x → x ≤ (i : Int) * 1099511627776 → 0 ≤ y → y ≤ (i : Int) * 1099511627776 →
    histogram_AtMost.l0 k v x y l (l.length : Int) i = some (x + wsum (fun n => ind (highI n ≤ v)) (l.drop i), y + wsum (fun n => ind (lowI n ≤ v)) (l.drop i)) := by
  intro d
  induction d with
  | zero =>
    intro i k x y hi hk h0 h1 h2 h3
    obtain ⟨k, rfl⟩ : ∃ m, k = m + 1 := ⟨k - 1, by omega⟩
    rw [histogram_AtMost.l0, if_neg (by omega), List.drop_of_length_le (by omega)]
    simp [wsum]
  | succ d ih =>
    intro i k x y hi hk h0 h1 h2 h3
    obtain ⟨k, rfl⟩ : ∃ m, k = m + 2 := ⟨k - 2, by omega⟩
    have hlt : i < l.length := by omega
    have hq := hc (rd_T67 l i) (List.mem_of_mem_drop (i := i) (by rw [rd67_drop l i hlt]; exact List.mem_cons_self))
    rw [histogram_AtMost.l0, if_pos (by omega), if_pos (by omega), if_pos (by omega), bounds_ok _ k hq.1 hq.2.1, rd67_drop l i hlt]
    simp only [Option.bind_some, wsum, ind]
    rw [wr_succ i (by omega), wr_small (x + _) (by omega) (by omega), wr_small (y + _) (by omega) (by omega)]
    by_cases a : highI (rd_T67 l i).f0 ≤ v
    · rw [if_pos a, if_pos a]
      by_cases b : lowI (rd_T67 l i).f0 ≤ v
      · rw [if_pos b, if_pos b, ih (i + 1) (k + 1) _ _ (by omega) (by omega) (by omega) (by omega) (by omega) (by omega)]
        simp only [ind]; congr 2 <;> omega
      · rw [if_neg b, if_neg b, ih (i + 1) (k + 1) _ _ (by omega) (by omega) (by omega) (by omega) (by omega) (by omega)]
        simp only [ind]; congr 2 <;> omega
    · rw [if_neg a, if_neg a]
      by_cases b : lowI (rd_T67 l i).f0 ≤ v
      · rw [if_pos b, if_pos b, ih (i + 1) (k + 1) _ _ (by omega) (by omega) (by omega) (by omega) (by omega) (by omega)]
        simp only [ind]; congr 2 <;> omega
      · rw [if_neg b, if_neg b, ih (i + 1) (k + 1) _ _ (by omega) (by omega) (by omega) (by omega) (by omega) (by omega)]
        simp only [ind]; congr 2 <;> omega
theorem atmost_ok (k : Nat) (v : Int) (l : List S67) (hk : l.length + 1 < k) (hb : l.length ≤ 1000000) (hc : ∀ b, b ∈ l → 0 ≤ b.f0 ∧ b.f0 < 305 ∧ 0 ≤ b.f1 ∧ b.f1 ≤ 1099511627776) :
    histogram_AtMost.f k l v = some (wsum (fun n => ind (highI n ≤ v)) l, wsum (fun n => ind (lowI n ≤ v)) l) := by
  unfold histogram_AtMost.f
  have := atmost_loop v l hb hc l.length 0 k 0 0 (by omega) hk (by omega) (by omega) (by omega) (by omega)
  simpa using this
theorem prod_bd {a b B : Int} (ha0 : 0 ≤ a) (ha : a ≤ 1099511627776) (hb0 : 0 ≤ b) (hb : b ≤ B) (hB : 0 ≤ B) : 0 ≤ a * b ∧ a * b ≤ 1099511627776 * B := by
  have x : a * b ≤ 1099511627776 * b := Int.mul_le_mul_of_nonneg_right ha hb0
  have y : 0 ≤ a * b := Int.mul_nonneg ha0 hb0
  have z : 1099511627776 * b ≤ 1099511627776 * B := Int.mul_le_mul_of_nonneg_left hb (by omega)
  omega
theorem wsum_cons (g : Int → Int) (b : S67) (bs : List S67) : wsum g (b :: bs) = g b.f0 * b.f1 + wsum g bs := rfl
theorem sum_loop (l : List S67) (hb : l.length ≤ 305) (hc : ∀ b, b ∈ l → 0 ≤ b.f0 ∧ b.f0 < 305 ∧ 0 ≤ b.f1 ∧ b.f1 ≤ 1000) :
    ∀ (d i k : Nat) (x y : Int), i + d = l.length → d + 1 < k → 0 ≤ x → x ≤ (i : Int) * 1099511627776000 → 0 ≤ y → y ≤ (i : Int) * 1099511627776000 →
    histogram_Sum.l0 k x y l (l.length : Int) i = some (x + wsum lowI (l.drop i), y + wsum highI (l.drop i)) := by
  intro d
  induction d with
  | zero =>
    intro i k x y hi hk h0 h1 h2 h3
    obtain ⟨k, rfl⟩ : ∃ m, k = m + 1 := ⟨k - 1, by omega⟩
    rw [histogram_Sum.l0, if_neg (by omega), List.drop_of_length_le (by omega)]
    simp [wsum]
  | succ d ih =>
    intro i k x y hi hk h0 h1 h2 h3
    obtain ⟨k, rfl⟩ : ∃ m, k = m + 2 := ⟨k - 2, by omega⟩
    have hlt : i < l.length := by omega
    have hq := hc (rd_T67 l i) (List.mem_of_mem_drop (i := i) (by rw [rd67_drop l i hlt]; exact List.mem_cons_self))
    have hr := lowI_range _ hq.1 hq.2.1
    have p1 := prod_bd hr.1 hr.2.1 hq.2.2.1 hq.2.2.2 (by decide)
    have p2 := prod_bd hr.2.2.1 hr.2.2.2.1 hq.2.2.1 hq.2.2.2 (by decide)
    rw [histogram_Sum.l0, if_pos (by omega), if_pos (by omega), if_pos (by omega), bounds_ok _ k hq.1 hq.2.1, rd67_drop l i hlt, Option.bind_some, wsum_cons, wsum_cons]
    dsimp only
    generalize lowI (rd_T67 l i).f0 * (rd_T67 l i).f1 = P at *
    generalize highI (rd_T67 l i).f0 * (rd_T67 l i).f1 = Q at *
    clear hr hq hc
    rw [show (1099511627776 : Int) * 1000 = 1099511627776000 from by decide] at p1 p2
    have e1 : (((i + 1 : Nat)) : Int) * 1099511627776000 = (i : Int) * 1099511627776000 + 1099511627776000 := by omega
    have e2 : (i : Int) * 1099511627776000 ≤ 335351046471680000 := by omega
    have w1 := wr_small P (by omega) (by omega)
    have w2 := wr_small Q (by omega) (by omega)
    have w3 := wr_small (x + P) (by omega) (by omega)
    have w4 := wr_small (y + Q) (by omega) (by omega)
    have ih2 := ih (i + 1) (k + 1) (x + P) (y + Q) (by omega) (by omega) (by omega) (by rw [e1]; omega) (by omega) (by rw [e1]; omega)
    rw [wr_succ i (by omega), w1, w2, w3, w4, ih2, Int.add_assoc x, Int.add_assoc y]
theorem sum_ok (k : Nat) (l : List S67) (hk : l.length + 1 < k) (hb : l.length ≤ 305) (hc : ∀ b, b ∈ l → 0 ≤ b.f0 ∧ b.f0 < 305 ∧ 0 ≤ b.f1 ∧ b.f1 ≤ 1000) : histogram_Sum.f k l = some (wsum lowI l, wsum highI l) := by
  unfold histogram_Sum.f
  have := sum_loop l hb hc l.length 0 k 0 0 (by omega) hk (by omega) (by omega) (by omega) (by omega)
  simpa using this
end Go.Proofs.Ytfnhicmjdfeanaa.PH

namespace Go.Proofs.Ytfnhicmjdfeanaa.PH
open Go.RowKit Go.Proofs.YtfnhicmjdfeanaaW.PrintWords Go.Proofs.YtfnhicmjdfeanaaW.PrintLast Go.Proofs.YtfnhicmjdfeanaaW.PrintMore
set_option linter.unusedVariables false

theorem accum_buck (g : Int → Int) (hg : ∀ n, 0 ≤ g n ∧ g n ≤ 1099511627776) : ∀ (d s : Nat) (f : Int → Int), s + d ≤ 305 → (∀ n : Int, (s : Int) ≤ n → 0 ≤ f n ∧ f n ≤ 1099511627776) →
    accum (buckFrom s (vecFrom g s d)) (vec f) = some (vec (fun n => if (s : Int) ≤ n ∧ n < s + d then f n + g n else f n)) := by
  intro d
  induction d with
  | zero =>
    intro s f hs hf
    simp only [vecFrom, List.range'_zero, List.map_nil, buckFrom, accum]
    congr 1
    refine vec_congr (fun i _ _ => ?_)
    rw [if_neg (by omega)]
  | succ d ih =>
    intro s f hs hf
    rw [vecFrom_succ]
    simp only [buckFrom]
    have hgs := hg s
    have hfs := hf s (Int.le_refl _)
    by_cases e : g s = 0
    · rw [if_pos e, show (s : Int) + 1 = ((s + 1 : Nat) : Int) by omega, ih (s + 1) f (by omega) (fun n hn => hf n (by omega))]
      congr 1
      refine vec_congr (fun i _ _ => ?_)
      by_cases c : i = s
      · subst c
        rw [if_neg (by omega), if_pos (by omega), e]; omega
      · by_cases c2 : ((s + 1 : Nat) : Int) ≤ i ∧ i < ((s + 1 : Nat) : Int) + d
        · rw [if_pos c2, if_pos (by omega)]
        · rw [if_neg c2, if_neg (by omega)]
    · rw [if_neg e]
      simp only [accum]
      rw [if_pos (by omega), if_pos (by omega), vec_at f s (by omega) (by omega), wr_small _ (by omega) (by omega), vec_set f s (by omega) (by omega), show (s : Int) + 1 = ((s + 1 : Nat) : Int) by omega,
        ih (s + 1) _ (by omega) (fun n hn => by rw [if_neg (by omega)]; exact hf n (by omega))]
      congr 1
      refine vec_congr (fun i _ _ => ?_)
      by_cases c : i = s
      · subst c
        rw [if_neg (by omega), if_pos rfl, if_pos (by omega)]
      · by_cases c2 : ((s + 1 : Nat) : Int) ≤ i ∧ i < ((s + 1 : Nat) : Int) + d
        · rw [if_pos c2, if_neg c, if_pos (by omega)]
        · rw [if_neg c2, if_neg c, if_neg (by omega)]
theorem accum_vec (f g : Int → Int) (hf : ∀ n, 0 ≤ f n ∧ f n ≤ 1099511627776) (hg : ∀ n, 0 ≤ g n ∧ g n ≤ 1099511627776) : accum (buckFrom 0 (vec g)) (vec f) = some (vec (fun n => f n + g n)) := by
  have h := accum_buck g hg 305 0 f (by omega) (fun n _ => hf n)
  rw [show ((0 : Nat) : Int) = 0 from rfl, show vecFrom g 0 305 = vec g from rfl] at h
  rw [h, vec_congr (g := fun n => f n + g n) (fun i h0 h1 => by rw [if_pos ⟨h0, by omega⟩])]
theorem accum_zero (g : Int → Int) (hg : ∀ n, 0 ≤ g n ∧ g n ≤ 1099511627776) : accum (buckFrom 0 (vec g)) (List.replicate 305 0) = some (vec g) := by
  rw [zeros_vec, accum_vec _ g (fun _ => by omega) hg]
  congr 1
  exact vec_congr (fun i _ _ => by omega)
theorem cnt_bd (l : List Int) (hl : l.length ≤ 1000000) : ∀ n, 0 ≤ cnt l n ∧ cnt l n ≤ 1099511627776 := fun n => by
  have := cnt_range l n
  omega

/-! ### totals -/
theorem vec_total (k : Nat) (f : Int → Int) (hk : 306 ≤ k) (hf : ∀ n, 0 ≤ f n ∧ f n ≤ 1099511627776) : histogram_Total.f k (buckFrom 0 (vec f)) = some (isum (vec f)) := by
  have h1 := buck_len (vec f) 0
  rw [vec_len] at h1
  rw [total_ok k _ (by omega) (by omega) (fun b hb => by
    obtain ⟨_, _, h3, _⟩ := buck_mem _ _ _ hb
    obtain ⟨i, _, _, e⟩ := vec_mem h3
    rw [e]; exact hf i), wsum_buck, zsum_one]
theorem isum_add (f g : Int → Int) : ∀ (d a : Nat), isum (vecFrom (fun n => f n + g n) a d) = isum (vecFrom f a d) + isum (vecFrom g a d)
  | 0, a => by simp [vecFrom, isum]
  | d + 1, a => by
    rw [vecFrom_succ, vecFrom_succ, vecFrom_succ]
    simp only [isum]
    rw [isum_add f g d (a + 1)]
    omega
theorem isum_mul (f : Int → Int) (c : Int) : ∀ (d a : Nat), isum (vecFrom (fun n => f n * c) a d) = isum (vecFrom f a d) * c
  | 0, a => by simp [vecFrom, isum]
  | d + 1, a => by
    rw [vecFrom_succ, vecFrom_succ]
    simp only [isum]
    rw [isum_mul f c d (a + 1), Int.add_mul]
theorem isum_one (m x : Int) : ∀ (d a : Nat), isum (vecFrom (fun n => if n = m then x else 0) a d) = if (a : Int) ≤ m ∧ m < a + d then x else 0
  | 0, a => by simp only [vecFrom, List.range'_zero, List.map_nil, isum]; rw [if_neg (by omega)]
  | d + 1, a => by
    rw [vecFrom_succ]
    simp only [isum]
    rw [isum_one m x d (a + 1)]
    by_cases c : (a : Int) = m
    · rw [if_pos c, if_neg (by omega), if_pos (by omega)]; omega
    · rw [if_neg c]
      by_cases c2 : ((a + 1 : Nat) : Int) ≤ m ∧ m < ((a + 1 : Nat) : Int) + d
      · rw [if_pos c2, if_pos (by omega)]; omega
      · rw [if_neg c2, if_neg (by omega)]; omega
theorem limited_ok (k : Nat) (f : Int → Int) (hk : 306 ≤ k) (hf : ∀ n, 0 ≤ f n ∧ f n ≤ 1099511627776) : histogram_limited.f k (buckFrom 0 (vec f)) = if isum (vec f) > 1048576 then some ([], 20) else some (buckFrom 0 (vec f), 0) := by
  unfold histogram_limited.f
  rw [vec_total k f hk hf, Option.bind_some]
theorem vec_check (k : Nat) (f : Int → Int) (hk : 1000 ≤ k) (hf : ∀ n, 0 ≤ f n ∧ f n ≤ 1099511627776) (hs : isum (vec f) ≤ 1048576) : histogram_Check.f k (buckFrom 0 (vec f)) = some 0 := by
  have hle := buck_len (vec f) 0
  rw [vec_len] at hle
  rw [check_ok k _ (by omega) (by omega)]
  congr 1
  refine chk_buck _ 0 none 0 (by omega) (by rw [vec_len]; omega) (fun q hq => by cases hq) (fun c hc => ?_) (by omega) (by omega)
  obtain ⟨i, _, _, rfl⟩ := vec_mem hc
  exact (hf i).1
theorem buck_len305 (f : Int → Int) : (buckFrom 0 (vec f)).length ≤ 305 := by
  have hle := buck_len (vec f) 0
  rw [vec_len] at hle
  exact hle

/-! ### Add -/
theorem add_ok (k : Nat) (hk : 400 ≤ k) (l : List Int) (h : valid l) (hl : l.length ≤ 40) (v n : Int) (h0 : 0 ≤ v) (h1 : v ≤ 1099511627776) (hn0 : 0 ≤ n) (hn1 : n ≤ 1048576) :
    histogram_Add.f k (hst l) v n = if (l.length : Int) + n > 1048576 then some ([], 20) else some (buckFrom 0 (vec (fun i => cnt l i + if i = bix v then n else 0)), 0) := by
  obtain ⟨j, rfl⟩ : ∃ j, k = j + 2 := ⟨k - 2, by omega⟩
  have hr := bix_range v h0 h1
  have hb := cnt_bd l (by omega)
  unfold histogram_Add.f histogram_Add.g hst
  rw [index_ok v j h0 h1, Option.bind_some, if_pos rfl, if_neg (by omega), if_neg (by omega), accum_zero _ hb, Option.bind_some, if_pos hr.1, if_pos hr.2, vec_at _ _ hr.1 hr.2]
  have hc := hb (bix v)
  rw [wr_small _ (by omega) (by omega), vec_set _ _ hr.1 hr.2]
  have e : vec (fun m => if m = bix v then cnt l (bix v) + n else cnt l m) = vec (fun i => cnt l i + if i = bix v then n else 0) := vec_congr (fun i _ _ => by
    by_cases c : i = bix v
    · rw [if_pos c, if_pos c, c]
    · rw [if_neg c, if_neg c]; omega)
  rw [e, limited_ok _ _ (by omega) (fun m => by have := cnt_range l m; split <;> omega)]
  have e2 : isum (vec (fun i => cnt l i + if i = bix v then n else 0)) = (l.length : Int) + n := by
    unfold vec
    rw [isum_add, isum_one, if_pos (by omega)]
    have := isum_cnt l h
    unfold vec at this
    rw [this]
  rw [e2]
theorem add_bad (k : Nat) (hk : 400 ≤ k) (l : List S67) (v n : Int) (hb : (v < 0 ∨ v > 1099511627776) ∨ n < 0 ∨ n > 1048576) : histogram_Add.f k l v n = some ([], 2) := by
  obtain ⟨j, rfl⟩ : ∃ j, k = j + 2 := ⟨k - 2, by omega⟩
  unfold histogram_Add.f
  by_cases c : v < 0 ∨ v > 1099511627776
  · rw [index_bad v (j + 1) c, Option.bind_some]
    rfl
  · rw [index_ok v j (by omega) (by omega), Option.bind_some, if_pos rfl]
    unfold histogram_Add.g
    by_cases c2 : n < 0
    · rw [if_pos c2]
    · rw [if_neg c2, if_pos (by omega)]
end Go.Proofs.Ytfnhicmjdfeanaa.PH
