/- HistogramQuantiles, in plain numbers and lists. -/
import Derived.Test.YtfnhicmjdfeanaaMath1
import Derived.Test.YtfnhicmjdfeanaaMath1
import Derived.Test.YtfnhicmjdfeanaaPHx8
import Derived.Test.YtfnhicmjdfeanaaPHx9
import Derived.Test.YtfnhicmjdfeanaaPHx11
import Derived.Test.YtfnhicmjdfeanaaPHx26
-- NEEDS H: sleuthlaw21_HistogramQuantiles histogram_Quantile fraction_Compare fraction_sign fraction_MulCeil fraction_MulFloor fraction_Neg
namespace Go.Proofs.Ytfnhicmjdfeanaa.Pure
open Go.RowKit Go.Proofs.Ytfnhicmjdfeanaa.PH Go.Proofs.YtfnhicmjdfeanaaW.PrintWords Go.Proofs.YtfnhicmjdfeanaaW.PrintLast Go.Proofs.YtfnhicmjdfeanaaW.PrintMore
set_option linter.unusedVariables false
open Go.Proofs.Ytfnhicmjdfeanaa.PHF (can mkE FCheck_ok Check_ok floor_ok div_bd)

theorem rd_head (x : S67) (l : List S67) : rd_T67 (x :: l) 0 = x := rfl
theorem rd_succ (x : S67) (l : List S67) (p : Nat) : rd_T67 (x :: l) ((p + 1 : Nat) : Int) = rd_T67 l (p : Int) := by
  simp [rd_T67]
theorem quant_ok : ∀ (cs : List Int) (s r i : Int), (∀ c, c ∈ cs → 0 ≤ c ∧ c ≤ 1099511627776) → 1 ≤ r → r ≤ 1099511627776 → r ≤ isum cs →
    ∃ p j : Nat, quantIdx (buckFrom s cs) r i = i + p ∧ p < (buckFrom s cs).length ∧ (rd_T67 (buckFrom s cs) (p : Int)).f0 = s + j ∧ j < cs.length ∧ isum (cs.take j) < r ∧ r ≤ isum (cs.take (j + 1))
  | [], s, r, i, _, h1, _, h2 => by simp [isum] at h2; omega
  | c :: cs, s, r, i, hc, h1, hr, h2 => by
    have hc0 := hc c List.mem_cons_self
    have hcs : ∀ x, x ∈ cs → 0 ≤ x ∧ x ≤ 1099511627776 := fun x hx => hc x (List.mem_cons_of_mem _ hx)
    simp only [isum] at h2
    by_cases h : c = 0
    · subst h
      obtain ⟨p, j, a1, a2, a3, a4, a5, a6⟩ := quant_ok cs (s + 1) r i hcs h1 hr (by omega)
      refine ⟨p, j + 1, ?_, ?_, ?_, ?_, ?_, ?_⟩
      · rw [buckFrom, if_pos rfl]; exact a1
      · rw [buckFrom, if_pos rfl]; exact a2
      · rw [buckFrom, if_pos rfl, a3]; omega
      · rw [List.length_cons]; omega
      · rw [List.take_succ_cons]; simp only [isum]; omega
      · rw [List.take_succ_cons]; simp only [isum]; omega
    · rw [buckFrom, if_neg h]
      by_cases h3 : r - c ≤ 0
      · refine ⟨0, 0, ?_, by simp, by rw [show ((0 : Nat) : Int) = 0 from rfl, rd_head]; simp, by simp, by simp [isum]; omega, by simp [isum]; omega⟩
        rw [quantIdx]
        dsimp only
        rw [wr_small _ (by omega) (by omega), if_pos h3]; simp
      · obtain ⟨p, j, a1, a2, a3, a4, a5, a6⟩ := quant_ok cs (s + 1) (r - c) (i + 1) hcs (by omega) (by omega) (by omega)
        refine ⟨p + 1, j + 1, ?_, ?_, ?_, ?_, ?_, ?_⟩
        · rw [quantIdx]
          dsimp only
          rw [wr_small _ (by omega) (by omega), if_neg h3, a1]; omega
        · rw [List.length_cons]; omega
        · rw [rd_succ, a3]; omega
        · rw [List.length_cons]; omega
        · rw [List.take_succ_cons]; simp only [isum]; omega
        · rw [List.take_succ_cons]; simp only [isum]; omega

theorem bix_mono (v : Int) (h1 : v ≤ 1099511627776) : ∀ d : Nat, 0 ≤ v - d → bix (v - d) ≤ bix v
  | 0, _ => by simp
  | d + 1, h => by
    have ih := bix_mono v h1 d (by omega)
    have hp := bix_prev (v - d) (by omega) (by omega)
    rw [show v - ((d + 1 : Nat) : Int) = v - d - 1 by omega]
    omega
theorem bix_le (u v : Int) (h0 : 0 ≤ u) (h : u ≤ v) (h1 : v ≤ 1099511627776) : bix u ≤ bix v := by
  have := bix_mono v h1 (v - u).toNat (by omega)
  rw [show v - ((v - u).toNat : Int) = u by omega] at this
  exact this
theorem lsum_le {g h : Int → Int} : ∀ (L : List Int), (∀ u, u ∈ L → g u ≤ h u) → lsum g L ≤ lsum h L
  | [], _ => Int.le_refl _
  | u :: L, e => by
    have a := e u List.mem_cons_self
    have b := lsum_le L (fun x hx => e x (List.mem_cons_of_mem _ hx))
    simp only [lsum]; omega
theorem lsum_add (g h : Int → Int) : ∀ (L : List Int), lsum (fun u => g u + h u) L = lsum g L + lsum h L
  | [] => rfl
  | u :: L => by have := lsum_add g h L; simp only [lsum]; omega
theorem zsum_off (t : Int) : ∀ (cs : List Int) (s : Int), t ≤ s → zsum (fun n => if n < t then 1 else 0) s cs = 0
  | [], _, _ => rfl
  | c :: cs, s, h => by
    have := zsum_off t cs (s + 1) (by omega)
    simp only [zsum]
    rw [if_neg (by omega), this]; omega
theorem zsum_take : ∀ (cs : List Int) (s : Int) (t : Nat), zsum (fun n => if n < s + t then 1 else 0) s cs = isum (cs.take t)
  | cs, s, 0 => by rw [List.take_zero]; exact zsum_off _ cs s (by omega)
  | [], s, t + 1 => rfl
  | c :: cs, s, t + 1 => by
    have := zsum_take cs (s + 1) t
    rw [List.take_succ_cons]
    simp only [zsum, isum]
    rw [if_pos (by omega), show s + ((t + 1 : Nat) : Int) = s + 1 + t by omega, this]; omega
def lessS (v : Int) (L : List Int) : Int := lsum (fun u => if u < v then 1 else 0) L
def eqS (v : Int) (L : List Int) : Int := lsum (fun u => if u = v then 1 else 0) L
theorem bucket_of (L : List Int) (hval : valid L) (v r : Int) (hv : v ∈ L) (J : Nat) (a5 : isum ((vec (cnt L)).take J) < r) (a6 : r ≤ isum ((vec (cnt L)).take (J + 1))) (h1 : lessS v L < r) (h2 : r ≤ lessS v L + eqS v L) : bix v = J := by
  have hv0 := hval v hv
  have c1 := zsum_take (vec (cnt L)) 0 J
  have c2 := zsum_take (vec (cnt L)) 0 (J + 1)
  rw [zsum_cnt _ L hval] at c1 c2
  rw [← c1] at a5
  rw [← c2] at a6
  rcases Int.lt_trichotomy (bix v) J with h | h | h
  · have : lessS v L + eqS v L ≤ lsum (fun u => if bix u < 0 + (J : Int) then 1 else 0) L := by
      unfold lessS eqS
      rw [← lsum_add]
      apply lsum_le
      intro u hu
      have hu0 := hval u hu
      by_cases c : u ≤ v
      · have := bix_le u v hu0.1 c hv0.2
        rw [if_pos (show bix u < 0 + (J : Int) by omega)]
        by_cases d : u < v
        · rw [if_pos d, if_neg (by omega)]; omega
        · rw [if_neg d]; split <;> omega
      · rw [if_neg (by omega), if_neg (by omega)]; split <;> omega
    omega
  · exact h
  · have : lsum (fun u => if bix u < 0 + ((J + 1 : Nat) : Int) then 1 else 0) L ≤ lessS v L := by
      unfold lessS
      apply lsum_le
      intro u hu
      have hu0 := hval u hu
      by_cases c : u < v
      · rw [if_pos c]; split <;> omega
      · have := bix_le v u hv0.1 (by omega) hu0.2
        rw [if_neg (show ¬ bix u < 0 + ((J + 1 : Nat) : Int) by omega), if_neg c]
        omega
    omega
theorem S_drop (g : Int → Int) (L : List Int) (i : Nat) (h : i < L.length) : lsum g (L.drop i) = g (rd L (i : Int)) + lsum g (L.drop (i + 1)) := by
  rw [rd_drop L i h]; rfl
theorem S_bd (g : Int → Int) (hg : ∀ u, 0 ≤ g u ∧ g u ≤ 1) : ∀ L : List Int, 0 ≤ lsum g L ∧ lsum g L ≤ L.length
  | [] => by simp [lsum]
  | u :: L => by have := S_bd g hg L; have := hg u; simp only [lsum, List.length_cons]; omega
theorem rd_mem (L : List Int) (i : Nat) (h : i < L.length) : rd L (i : Int) ∈ L := by
  have e : rd L (i : Int) = L[i] := by simp [rd, List.getD_eq_getElem?_getD, List.getElem?_eq_getElem h]
  rw [e]; exact List.getElem_mem h

theorem l1_loop (L : List Int) (hval : valid L) (hl : L.length ≤ 40) (x7 x8 r : Int) (i : Nat) (hi : i < L.length) (J : Nat) (hJ : J < 305) (e7 : x7 = lowI J) (e8 : x8 = highI J) (a5 : isum ((vec (cnt L)).take J) < r) (a6 : r ≤ isum ((vec (cnt L)).take (J + 1)))
    (k0 : Nat) (next : ∀ k, k0 ≤ k → sleuthlaw21_HistogramQuantiles.l0 k L x7 x8 r ((i + 1 : Nat) : Int) = some true) :
    ∀ (d m k : Nat) (ls es : Int), m + d = L.length → k0 + d + 100 ≤ k → 0 ≤ ls → ls ≤ m → 0 ≤ es → es ≤ m → ls + lsum (fun u => if u < rd L (i : Int) then 1 else 0) (L.drop m) = lessS (rd L (i : Int)) L → es + lsum (fun u => if u = rd L (i : Int) then 1 else 0) (L.drop m) = eqS (rd L (i : Int)) L →
      sleuthlaw21_HistogramQuantiles.l1 k L x7 x8 r (i : Int) ls es (m : Int) = some true := by
  intro d
  have hv := rd_mem L i hi
  have hv0 := hval _ hv
  have hg1 : ∀ u : Int, 0 ≤ (if u < rd L (i : Int) then (1 : Int) else 0) ∧ (if u < rd L (i : Int) then (1 : Int) else 0) ≤ 1 := fun u => by split <;> omega
  have hg2 : ∀ u : Int, 0 ≤ (if u = rd L (i : Int) then (1 : Int) else 0) ∧ (if u = rd L (i : Int) then (1 : Int) else 0) ≤ 1 := fun u => by split <;> omega
  induction d with
  | zero =>
    intro m k ls es hm hk l0 l1 e0 e1 h1 h2
    obtain ⟨k, rfl⟩ : ∃ j, k = j + 1 := ⟨k - 1, by omega⟩
    rw [List.drop_of_length_le (by omega)] at h1 h2
    simp only [lsum, Int.add_zero] at h1 h2
    rw [sleuthlaw21_HistogramQuantiles.l1, if_neg (by omega), wr_small (ls + es) (by omega) (by omega), wr_small ((i : Int) + 1) (by omega) (by omega), show (i : Int) + 1 = ((i + 1 : Nat) : Int) by omega]
    by_cases c1 : ls < r
    · rw [if_pos c1]
      by_cases c2 : r ≤ ls + es
      · have hb := bucket_of L hval (rd L (i : Int)) r hv J a5 a6 (by omega) (by omega)
        have hidx : sleuthlaw21_index.f k (rd L (i : Int)) = some (bix (rd L (i : Int))) := by
          obtain ⟨q, rfl⟩ : ∃ q, k = q + 40 := ⟨k - 40, by omega⟩
          exact law_index _ q hv0.1 hv0.2
        rw [if_pos c2, if_pos (by omega), if_pos (by omega), hidx, Option.bind_some, hb, low_ok J (by omega) (by omega), Option.bind_some, if_pos e7, Option.bind_some, high_ok J (by omega) (by omega), Option.bind_some, if_pos e8]
        exact next k (by omega)
      · rw [if_neg c2]; exact next k (by omega)
    · rw [if_neg c1]; exact next k (by omega)
  | succ d ih =>
    intro m k ls es hm hk l0 l1 e0 e1 h1 h2
    obtain ⟨k, rfl⟩ : ∃ j, k = j + 1 := ⟨k - 1, by omega⟩
    rw [S_drop _ L m (by omega)] at h1 h2
    rw [sleuthlaw21_HistogramQuantiles.l1, if_pos (by omega), if_pos (by omega), if_pos (by omega), if_pos (by omega), wr_small (ls + 1) (by omega) (by omega), wr_small (es + 1) (by omega) (by omega), wr_small ((m : Int) + 1) (by omega) (by omega), show (m : Int) + 1 = ((m + 1 : Nat) : Int) by omega]
    by_cases c1 : rd L (m : Int) < rd L (i : Int)
    · rw [if_pos c1] at h1 ⊢
      rw [if_neg (by omega)] at h2 ⊢
      exact ih (m + 1) k (ls + 1) es (by omega) (by omega) (by omega) (by omega) (by omega) (by omega) (by omega) (by omega)
    · rw [if_neg c1] at h1 ⊢
      by_cases c2 : rd L (m : Int) = rd L (i : Int)
      · rw [if_pos c2] at h2 ⊢
        exact ih (m + 1) k ls (es + 1) (by omega) (by omega) (by omega) (by omega) (by omega) (by omega) (by omega) (by omega)
      · rw [if_neg c2] at h2 ⊢
        exact ih (m + 1) k ls es (by omega) (by omega) (by omega) (by omega) (by omega) (by omega) (by omega) (by omega)
theorem l0_loop (L : List Int) (hval : valid L) (hl : L.length ≤ 40) (x7 x8 r : Int) (J : Nat) (hJ : J < 305) (e7 : x7 = lowI J) (e8 : x8 = highI J) (a5 : isum ((vec (cnt L)).take J) < r) (a6 : r ≤ isum ((vec (cnt L)).take (J + 1))) :
    ∀ (d i k : Nat), i + d = L.length → d * 200 + 1 ≤ k → sleuthlaw21_HistogramQuantiles.l0 k L x7 x8 r (i : Int) = some true := by
  intro d
  induction d with
  | zero =>
    intro i k hi hk
    obtain ⟨k, rfl⟩ : ∃ j, k = j + 1 := ⟨k - 1, by omega⟩
    have := lowI_range J (by omega) (by omega)
    rw [sleuthlaw21_HistogramQuantiles.l0, if_neg (by omega), decide_eq_true (by omega)]
  | succ d ih =>
    intro i k hi hk
    obtain ⟨k, rfl⟩ : ∃ j, k = j + 1 := ⟨k - 1, by omega⟩
    rw [sleuthlaw21_HistogramQuantiles.l0, if_pos (by omega)]
    exact l1_loop L hval hl x7 x8 r i (by omega) J hJ e7 e8 a5 a6 (d * 200 + 1) (fun k hk => ih (i + 1) k (by omega) hk) L.length 0 k 0 0 (by omega) (by omega) (by omega) (by omega) (by omega) (by omega) (by simp [lessS]) (by simp [eqS])

theorem errs (k : Nat) (hk : 2 ≤ k) (L : List Int) (e a b : Int) (he : e ≠ 0) : sleuthlaw21_HistogramQuantiles.j1 k L 0 0 e e a b = some true := by
  obtain ⟨k, rfl⟩ : ∃ j, k = j + 1 + 1 := ⟨k - 2, by omega⟩
  rw [sleuthlaw21_HistogramQuantiles.j1, if_pos rfl, show (e != 0) = true from bne_iff_ne.mpr he, sleuthlaw21_HistogramQuantiles.j2, if_pos rfl, if_pos rfl, if_pos rfl]
  rfl
theorem sign0 (a b : Int) (h : can a b) : ∃ c, fraction_Compare.f a b 0 1 = some c ∧ (c < 0 ↔ a < 0) := by
  obtain ⟨h1, h2, h3, h4, _⟩ := h
  unfold fraction_Compare.f fraction_sign.f
  rw [Int.mul_one, Int.zero_mul, wr_small a (by omega) (by omega), wr_small 0 (by omega) (by omega), Int.sub_zero, wr_small a (by omega) (by omega)]
  by_cases c : a < 0
  · rw [if_pos c]; exact ⟨_, rfl, by omega⟩
  · rw [if_neg c]
    by_cases d : a > 0
    · rw [if_pos d]; exact ⟨_, rfl, by omega⟩
    · rw [if_neg d]; exact ⟨_, rfl, by omega⟩
theorem sign1 (a b : Int) (h : can a b) : ∃ c, fraction_Compare.f a b 1 1 = some c ∧ (c > 0 ↔ a > b) := by
  obtain ⟨h1, h2, h3, h4, _⟩ := h
  unfold fraction_Compare.f fraction_sign.f
  rw [Int.mul_one, Int.one_mul, wr_small a (by omega) (by omega), wr_small b (by omega) (by omega), wr_small (a - b) (by omega) (by omega)]
  by_cases c : a - b < 0
  · rw [if_pos c]; exact ⟨_, rfl, by omega⟩
  · rw [if_neg c]
    by_cases d : a - b > 0
    · rw [if_pos d]; exact ⟨_, rfl, by omega⟩
    · rw [if_neg d]; exact ⟨_, rfl, by omega⟩
theorem ceil_eq (m b : Int) (hb : 1 ≤ b) : (m + b - 1) / b = -((-m) / b) := by
  have e := Int.mul_ediv_add_emod (-m) b
  have r0 := Int.emod_nonneg (-m) (show b ≠ 0 by omega)
  have r1 := Int.emod_lt_of_pos (-m) (show 0 < b by omega)
  have := (Int.ediv_emod_unique (a := m + b - 1) (b := b) (q := -((-m) / b)) (r := b - 1 - (-m) % b) (by omega)).mpr ⟨by rw [Int.mul_neg]; omega, by omega, by omega⟩
  exact this.1
theorem HistogramQuantiles : sleuthlaw21_HistogramQuantiles.Pure := by
  intro l a b hm hs hw ha hb
  refine ⟨400000, ?_⟩
  have hk : ∀ k, 400 ≤ k → sleuthlaw21_known.f k = some true := fun k h => at_rounds sleuthlaw21_known.mono h known_100
  have ha := PHF.wf64 _ ha
  have hb := PHF.wf64 _ hb
  have hval := vals_valid l
  have hlen := vals_len l
  unfold sleuthlaw21_HistogramQuantiles.f
  rw [hk _ (by omega), Option.bind_some, if_pos rfl, law_of _ (by omega) l (by omega), Option.bind_some, values_ok _ (by omega) l (by omega), Option.bind_some, Check_ok _ (by omega)]
  generalize vals l = L at *
  unfold histogram_Quantile.f
  rw [hst_total _ (by omega) _ hval (by omega), Option.bind_some, FCheck_ok _ (by omega) a b (by omega) (by omega) (by omega) (by omega), Option.bind_some]
  by_cases hc : can a b
  · rw [if_pos hc, if_pos rfl]
    obtain ⟨c1, hc1, h1⟩ := sign0 a b hc
    obtain ⟨c2, hc2, h2⟩ := sign1 a b hc
    rw [hc1, Option.bind_some, decide_eq_true hc]
    by_cases na : a < 0
    · rw [if_pos (h1.mpr na), Option.bind_some, Option.bind_some, if_pos rfl, if_pos na, show (400000 : Nat) = 399999 + 1 from rfl, sleuthlaw21_HistogramQuantiles.j0, if_pos rfl]
      exact errs _ (by omega) L 2 a b (by decide)
    · rw [if_neg (fun h => na (h1.mp h)), hc2, Option.bind_some]
      by_cases ab : a > b
      · rw [if_pos (h2.mpr ab), Option.bind_some, Option.bind_some, if_pos rfl, if_neg na, decide_eq_true ab, show (400000 : Nat) = 399999 + 1 from rfl, sleuthlaw21_HistogramQuantiles.j0, if_pos rfl]
        exact errs _ (by omega) L 2 a b (by decide)
      · rw [if_neg (fun h => ab (h2.mp h))]
        by_cases n0 : (L.length : Int) = 0
        · rw [if_pos n0, Option.bind_some, Option.bind_some, if_pos rfl, if_neg na, decide_eq_false ab, show (400000 : Nat) = 399999 + 1 from rfl, sleuthlaw21_HistogramQuantiles.j0, if_neg (by decide), if_pos n0]
          exact errs _ (by omega) L 7 a b (by decide)
        · obtain ⟨b1, b2, b3, b4, _⟩ := hc
          have hp : 0 ≤ a * (L.length : Int) ∧ a * (L.length : Int) ≤ 1048576 * 40 := ⟨Int.mul_nonneg (by omega) (by omega), Int.mul_le_mul (by omega) (by omega) (by omega) (by omega)⟩
          have hmc : fraction_MulCeil.f (L.length : Int) a b = some ((a * (L.length : Int) + b - 1) / b, 0) := by
            have hd := div_bd (-(a * (L.length : Int))) b b1 (by omega) (by omega)
            unfold fraction_MulCeil.f fraction_Neg.f
            rw [Option.bind_some]
            unfold fraction_MulFloor.f
            rw [if_neg (by omega), if_neg (by omega), wr_small (-a) (by omega) (by omega)]
            dsimp only
            rw [Int.mul_neg, Int.mul_comm, wr_small (-(a * (L.length : Int))) (by omega) (by omega), floor_ok _ b b1 b2 (by omega) (by omega), Option.bind_some, Option.bind_some]
            dsimp only
            rw [wr_small _ (by omega) (by omega), ceil_eq _ b b1]
          have hq : (a * (L.length : Int) + b - 1) / b ≤ L.length := by
            apply Int.le_of_lt_add_one
            apply Int.ediv_lt_of_lt_mul (by omega)
            have : a * (L.length : Int) ≤ b * L.length := Int.mul_le_mul_of_nonneg_right (by omega) (by omega)
            rw [Int.add_mul, Int.mul_comm (L.length : Int) b]
            omega
          have hq0 : 0 ≤ (a * (L.length : Int) + b - 1) / b := Int.ediv_nonneg (by omega) (by omega)
          rw [if_neg n0, hmc, Option.bind_some]
          have htd : Int.tdiv (a * (L.length : Int) + b - 1) b = (a * (L.length : Int) + b - 1) / b := Int.tdiv_eq_ediv_of_nonneg (by omega)
          obtain ⟨q, hqe⟩ : ∃ q, (a * (L.length : Int) + b - 1) / b = q := ⟨_, rfl⟩
          rw [hqe] at hq hq0 htd ⊢
          have hr : mx q 1 = mx 1 q := by unfold mx; by_cases x : q < 1 <;> by_cases y : 1 < q <;> simp [x, y] <;> omega
          have hr1 : 1 ≤ mx 1 q ∧ mx 1 q ≤ L.length := by unfold mx; by_cases y : 1 < q <;> simp [y] <;> omega
          dsimp only
          rw [hr]
          have hsum := isum_cnt L hval
          obtain ⟨p, j, a1, a2, a3, a4, a5, a6⟩ := quant_ok (vec (cnt L)) 0 (mx 1 q) 0 (fun c hc => by obtain ⟨i, _, _, rfl⟩ := vec_mem hc; exact cnt_bd L (by omega) i) (by omega) (by omega) (by omega)
          rw [vec_len] at a4
          unfold hst
          rw [a1, if_pos (by omega), if_pos (by omega), Int.zero_add, a3, Int.zero_add, show (400000 : Nat) = 399999 + 1 from rfl, bounds_ok j 399999 (by omega) (by omega), Option.bind_some, Option.bind_some, if_pos rfl, if_neg na, decide_eq_false ab, sleuthlaw21_HistogramQuantiles.j0, if_neg (by decide), if_neg n0, show (399999 : Nat) = 399997 + 1 + 1 from rfl, sleuthlaw21_HistogramQuantiles.j1, if_pos rfl, show ((0 : Int) != 0) = false from rfl, sleuthlaw21_HistogramQuantiles.j2, if_neg (by decide), if_neg (by omega),
            wr_small (a * (L.length : Int)) (by omega) (by omega), wr_small (a * (L.length : Int) + b) (by omega) (by omega), wr_small (a * (L.length : Int) + b - 1) (by omega) (by omega), htd, wr_small q (by omega) (by omega)]
          exact l0_loop L hval hlen _ _ (mx 1 q) j (by omega) rfl rfl a5 a6 L.length 0 399997 (by omega) (by omega)
  · rw [if_neg hc, if_neg (by decide), Option.bind_some, Option.bind_some, decide_eq_false hc, if_neg (by decide)]
    exact errs _ (by omega) L 3 a b (by decide)
end Go.Proofs.Ytfnhicmjdfeanaa.Pure
