/- The model's theory and role, as they are printed: thIx, roleM. What the map of rights answers. No walk. -/
import Derived.Test.YtcjfgejiknlpfaaGreatModP
import Derived.Test.YtcjfgejiknlpfaaGreatEqB
import Derived.Test.YtcjfgejiknlpfaaGreatJ4
import Derived.Test.YtcjfgejiknlpfaaGreatJ0
namespace Go.Proofs.YtcjfgejiknlpfaaGreat.PI
open Go.RowKit Go.Proofs.YtcjfgejiknlpfaaGreatW.PrintWords
set_option linter.unusedVariables false
set_option linter.unusedSimpArgs false
theorem th_from (s : PS) (q : S33) (hm : s.th.length ≤ 100000) : ∀ (k : Nat) (i : Nat), s.th.length < k + i → i ≤ s.th.length → sleuthlaw51_theory.l0 k (i : Int) s.st s.ti s.op s.en s.ca.f0 s.ca.f1 s.pe s.th s.no q.f0 q.f1 = some (thIxN q (s.th.drop i) i)
  | 0, i, h, hi => by omega
  | k + 1, i, h, hi => by
    unfold sleuthlaw51_theory.l0
    by_cases hl : i < s.th.length
    · have e1 : rd_T71 s.th (i : Int) = s.th[i] := by simp [rd_T71, hl]
      rw [if_pos (by omega), if_pos (by omega), e1, List.drop_eq_getElem_cons hl, thIxN, bytes_iff]
      by_cases hx : s.th[i].f0 = q
      · rw [if_pos (by rw [hx]; simp), if_pos hx]
      · have hn : ¬ (decide (s.th[i].f0.f0 = q.f0) && s.th[i].f0.f1 == q.f1) = true := fun h => by
          simp only [Bool.and_eq_true, decide_eq_true_eq, beq_iff_eq] at h
          refine hx ?_
          generalize s.th[i].f0 = z at h
          obtain ⟨a, b⟩ := z
          obtain ⟨c, d⟩ := q
          simp only at h
          rw [h.1, h.2]
        rw [if_neg hn, if_neg hx, w64 i (by omega), th_from s q hm k (i + 1) (by omega) (by omega)]
    · obtain rfl : i = s.th.length := by omega
      rw [if_neg (by omega), List.drop_of_length_le (Nat.le_refl _)]
      rfl
theorem th_ok (k : Nat) (s : PS) (q : S33) (hm : s.th.length ≤ 100000) (hk : s.th.length < k) : sleuthlaw51_theory.f k s.st s.ti s.op s.en s.ca.f0 s.ca.f1 s.pe s.th s.no q.f0 q.f1 = some (thIx q s.th) := by
  unfold sleuthlaw51_theory.f
  rw [show (0 : Int) = ((0 : Nat) : Int) from rfl, th_from s q hm k 0 (by omega) (by omega), List.drop_zero]
  rfl
theorem ro_from (s : PS) (nm : ByteArray) (hm : s.pe.length ≤ 100000) : ∀ (k : Nat) (i : Nat), s.pe.length < k + i → i ≤ s.pe.length → sleuthlaw51_role.l0 k nm (i : Int) s.st s.ti s.op s.en s.ca.f0 s.ca.f1 s.pe s.th s.no = some (roleM nm (s.pe.drop i))
  | 0, i, h, hi => by omega
  | k + 1, i, h, hi => by
    unfold sleuthlaw51_role.l0
    by_cases hl : i < s.pe.length
    · have e1 : rd_T69 s.pe (i : Int) = s.pe[i] := by simp [rd_T69, hl]
      rw [if_pos (by omega), if_pos (by omega), e1, List.drop_eq_getElem_cons hl, roleM]
      by_cases hx : s.pe[i].f0 = nm
      · rw [if_pos (by rw [hx]), if_pos hx]
      · rw [if_neg (fun h => hx (bytes_ext _ _ h)), if_neg hx, w64 i (by omega), ro_from s nm hm k (i + 1) (by omega) (by omega)]
    · obtain rfl : i = s.pe.length := by omega
      rw [if_neg (by omega), List.drop_of_length_le (Nat.le_refl _)]
      rfl
theorem ro_ok (k : Nat) (s : PS) (nm : ByteArray) (hm : s.pe.length ≤ 100000) (hk : s.pe.length < k) : sleuthlaw51_role.f k s.st s.ti s.op s.en s.ca.f0 s.ca.f1 s.pe s.th s.no nm = some (roleM nm s.pe) := by
  unfold sleuthlaw51_role.f
  rw [show (0 : Int) = ((0 : Nat) : Int) from rfl, ro_from s nm hm k 0 (by omega) (by omega), List.drop_zero]
section
variable (s : PS) (A6 A7 : Option Addr) (c6 c7 : Nat) (w : World) (h1 : Kd.C k69 w A6 s.pe.length s.pe) (h2 : s.pe.length ≤ c6) (h3 : Kd.C k71 w A7 s.th.length s.th) (h4 : s.th.length ≤ c7) (m1 : s.pe.length ≤ 100000) (m2 : s.th.length ≤ 100000)
include h1 h2 h3 h4
theorem theoryM_ok (m2 : s.th.length ≤ 100000) (q : S33) : Calls Tryz.prog 54 #[.agg #[.int .i64 s.st, .string s.ti, .int .i64 s.op, .int .i64 s.en, .string s.ca.f0, .int .i64 s.ca.f1, .slice A6 s.pe.length c6, .slice A7 s.th.length c7, .int .i64 s.no], .agg #[.string q.f0, .int .i64 q.f1]] w fun e w' => e = .returned (.int .i64 (thIx q s.th)) ∧ Below w.heap.size w w' :=
  sleuthlaw51_theory.calls (s.th.length + 1) s.st s.ti s.op s.en s.ca.f0 s.ca.f1 A6 c6 s.pe A7 c7 s.th s.no q.f0 q.f1 (thIx q s.th) w h1 h2 h3 h4 (th_ok _ s q m2 (by omega))
theorem roleM_ok (m1 : s.pe.length ≤ 100000) (nm : ByteArray) : Calls Tryz.prog 55 #[.agg #[.int .i64 s.st, .string s.ti, .int .i64 s.op, .int .i64 s.en, .string s.ca.f0, .int .i64 s.ca.f1, .slice A6 s.pe.length c6, .slice A7 s.th.length c7, .int .i64 s.no], .string nm] w fun e w' => e = .returned (.int .i64 (roleM nm s.pe)) ∧ Below w.heap.size w w' :=
  sleuthlaw51_role.calls (s.pe.length + 1) s.st s.ti s.op s.en s.ca.f0 s.ca.f1 A6 c6 s.pe A7 c7 s.th s.no nm (roleM nm s.pe) w h1 h2 h3 h4 (ro_ok _ s nm m1 (by omega))
end
/-- The map of rights. -/
def needL : List (Int × Value) := [(2, .int .i64 1), (3, .int .i64 2), (4, .int .i64 2), (5, .int .i64 2), (6, .int .i64 2), (7, .int .i64 3), (8, .int .i64 3), (9, .int .i64 3)]
theorem need_run {w : World} {b : Nat} (i : Int) (h : MapAt b needL w) : (Instr.lookup 89 (.map (some b)) (.int .i64 i) false).run Tryz.prog w = .ok (.int .i64 (needM i)) w := by
  by_cases h2 : i = 2
  · subst h2; exact mapf_lookup 89 3 Tryz.underlying89 2 _ rfl h
  by_cases h3 : i = 3
  · subst h3; exact mapf_lookup 89 3 Tryz.underlying89 3 _ rfl h
  by_cases h4 : i = 4
  · subst h4; exact mapf_lookup 89 3 Tryz.underlying89 4 _ rfl h
  by_cases h5 : i = 5
  · subst h5; exact mapf_lookup 89 3 Tryz.underlying89 5 _ rfl h
  by_cases h6 : i = 6
  · subst h6; exact mapf_lookup 89 3 Tryz.underlying89 6 _ rfl h
  by_cases h7 : i = 7
  · subst h7; exact mapf_lookup 89 3 Tryz.underlying89 7 _ rfl h
  by_cases h8 : i = 8
  · subst h8; exact mapf_lookup 89 3 Tryz.underlying89 8 _ rfl h
  by_cases h9 : i = 9
  · subst h9; exact mapf_lookup 89 3 Tryz.underlying89 9 _ rfl h
  have hn : needM i = 0 := by unfold needM; rw [if_neg h2, if_neg (by omega), if_neg (by omega)]
  rw [hn]
  exact mapf_none 89 3 Tryz.underlying89 i _ (by simp [Tryz.zeroValue3]) (by simp [lk, needL, h2, h3, h4, h5, h6, h7, h8, h9]) h
end Go.Proofs.YtcjfgejiknlpfaaGreat.PI
