/- strings.ContainsFunc with Check's predicate: a byte that no text may have. -/
import Derived.Test.YtcjfgejiknlpfaaGreatSq16
import Derived.Laws.RangeString
import Derived.Laws.RangeAny
namespace Go.Proofs.YtcjfgejiknlpfaaGreat.PI
open Go.RowKit Go.Proofs.YtcjfgejiknlpfaaGreatW.PrintWords Go.Proofs.YtcjfgejiknlpfaaGreatW.PrintLast Go.Proofs.YtcjfgejiknlpfaaGreatW.PrintMore Go.Proofs.YtcjfgejiknlpfaaGreat.Sep
set_option linter.unusedVariables false
set_option linter.unusedSimpArgs false
set_option maxHeartbeats 8000000
set_option maxRecDepth 100000

def okB (b : UInt8) : Bool := decide (32 ≤ b.toNat ∧ b.toNat ≤ 126)
theorem rune_ok (x : Int) (w : World) : Calls Tryz.prog 48 #[.int .i32 x] w fun e w' => e = .returned (.bool (decide (x < 32) || decide (126 < x))) ∧ w' = w := by
  go_enter Tryz.func48, Tryz.ntmps48
  by_cases h : x < 32
  · have h1 : decide (x < 32) = true := decide_eq_true h
    rw [h1]
    replace h := Aside0.mk h
    go_wp2
    go_ret
    exact ⟨rfl, rfl⟩
  · have h1 : decide (x < 32) = false := decide_eq_false h
    rw [h1]
    replace h := Aside0.mk h
    go_wp2
    go_ret
    exact ⟨by simp, rfl⟩
theorem all_drop (t : ByteArray) (pos : Nat) (h : pos < t.size) : (t.data.toList.drop pos).all okB = (okB (t[pos]'h) && (t.data.toList.drop (pos + 1)).all okB) := by
  have hl : pos < t.data.toList.length := by simpa using h
  rw [List.drop_eq_getElem_cons hl, List.all_cons]
  rfl
theorem indexFunc_ok (t : ByteArray) (w : World) : Calls Tryz.prog 87 #[.string t, .func (.func 48) #[] #[], .bool true] w fun e w' => (∃ i : Int, e = .returned (.int .i64 i) ∧ (0 ≤ i ↔ t.data.toList.all okB = false)) ∧ Below w.heap.size w w' := by
  have hu9 := Tryz.underlying9
  have HB := Aside0.mk (Below.refl w.heap.size w)
  go_enter Tryz.func87, Tryz.ntmps87
  go_wp2
  go_loopw [7, 8] (fun v7 v8 wc => ∃ pos : Nat, wc = w.iter t pos ∧ pos ≤ t.size ∧ Aside0 ((t.data.toList.drop pos).all okB = t.data.toList.all okB)) (fun _ _ wc => t.size - wc.iterPos w.heap.size)
  case atStart => exact ⟨0, rfl, Nat.zero_le _, ⟨rfl⟩⟩
  case round =>
    obtain ⟨pos, rfl, hle, HA⟩ := hrel
    have HX := Aside0.mk (show Below w.heap.size w (w.iter t pos) from by first | exact below_alloc HB.out | (apply below_alloc; exact HB.out))
    by_cases hp : pos < t.size
    · obtain ⟨b, hb⟩ : ∃ b, t[pos]'hp = b := ⟨_, rfl⟩
      have hs := all_drop t pos hp
      rw [HA.out, hb] at hs
      by_cases c1 : okB b = true
      · have c2 := of_decide_eq_true c1
        have hnx : ∀ ty, (Instr.next (.pointer (some ⟨w.heap.size, 0, none⟩)) true ty).run Tryz.prog (w.iter t pos) = _ := fun ty => run_next_ascii w t pos ty hp (by rw [hb]; omega)
        rw [hb] at hnx
        have e1 : decide ((b.toNat : Int) < 32) = false := decide_eq_false (by omega)
        have e2 : decide ((126 : Int) < (b.toNat : Int)) = false := decide_eq_false (by omega)
        rw [c1, Bool.true_and] at hs
        replace hs := Aside0.mk hs.symm
        clear HA hb c1 c2
        go_wp2_with (first | ((with_reducible refine gate_dst (N := 17) rfl ?_); refine goesVL_ (some 17) rfl rfl #[] Tryz.func48 (by kernel_rfl) rfl #[.int .i32 (b.toNat : Int)] rfl rfl (by (try simp only [List.map_toArray, List.map_cons, List.map_nil]); first | done | rfl | (simp; done)) ?_; (with_reducible refine (rune_ok _ _).mono ?_); rintro e_ w3 ⟨rfl, hw3⟩; subst hw3; refine ⟨_, rfl, ?_⟩))
        go_roundw
        case rel => exact ⟨pos + 1, rfl, by omega, hs⟩
        case measure =>
          simp
          omega
      · have c2 : ¬ (32 ≤ b.toNat ∧ b.toNat ≤ 126) := of_decide_eq_false (by simpa [okB] using c1)
        have hd : (decide (((Utf8.decode t pos).1 : Int) < 32) || decide ((126 : Int) < ((Utf8.decode t pos).1 : Int))) = true := by
          by_cases ha : b.toNat < 128
          · rw [decode_ascii t pos hp (by rw [hb]; exact ha), hb]
            simp only [Bool.or_eq_true, decide_eq_true_eq]
            omega
          · have := (decode_high t pos hp (by rw [hb]; omega)).1
            simp only [Bool.or_eq_true, decide_eq_true_eq]
            omega
        have hnx : ∀ ty, (Instr.next (.pointer (some ⟨w.heap.size, 0, none⟩)) true ty).run Tryz.prog (w.iter t pos) = _ := fun ty => run_next_any w t pos ty hp
        have HY := Aside0.mk (show Below w.heap.size w (w.iter t (pos + (Utf8.decode t pos).2)) from by first | exact below_alloc HB.out | (apply below_alloc; exact HB.out))
        have hf : t.data.toList.all okB = false := by rw [hs]; simp [c1]
        replace hf := Aside0.mk hf
        clear HA hb c1 c2 hs
        go_wp2_with (first | ((with_reducible refine gate_dst (N := 17) rfl ?_); refine goesVL_ (some 17) rfl rfl #[] Tryz.func48 (by kernel_rfl) rfl #[.int .i32 ((Utf8.decode t pos).1 : Int)] rfl rfl (by (try simp only [List.map_toArray, List.map_cons, List.map_nil]); first | done | rfl | (simp; done)) ?_; (with_reducible refine (rune_ok _ _).mono ?_); rintro e_ w3 ⟨rfl, hw3⟩; subst hw3; refine ⟨_, rfl, ?_⟩))
        go_ret
        exact ⟨⟨_, rfl, fun _ => hf.out, fun _ => by omega⟩, HY.out⟩
    · have hnx : ∀ ty, (Instr.next (.pointer (some ⟨w.heap.size, 0, none⟩)) true ty).run Tryz.prog (w.iter t pos) = _ := fun ty => run_next_end w t pos ty hp
      have hs : t.data.toList.all okB = true := by
        rw [← HA.out, List.drop_of_length_le (by simp; exact Nat.le_of_not_lt hp)]
        rfl
      replace hs := Aside0.mk hs
      clear HA
      go_wp2
      go_ret
      exact ⟨⟨_, rfl, fun h => absurd h (by decide), fun h => absurd (hs.out.symm.trans h) (by decide)⟩, HX.out⟩
theorem index_ok (t : ByteArray) (w : World) : Calls Tryz.prog 68 #[.string t, .func (.func 48) #[] #[]] w fun e w' => (∃ i : Int, e = .returned (.int .i64 i) ∧ (0 ≤ i ↔ t.data.toList.all okB = false)) ∧ Below w.heap.size w w' := by
  have HB := Aside0.mk (Below.refl w.heap.size w)
  go_enter Tryz.func68, Tryz.ntmps68
  go_wp2_with (first | (go_at_call 87; refine (indexFunc_ok t _).mono ?_; rintro e_ w2 ⟨⟨i, rfl, hi⟩, hb⟩; have hi2 := Aside0.mk hi; clear hi; have n1_ := Aside0.mk (HB.out.trans hb); clear HB; have HB := n1_; clear n1_ hb))
  go_ret
  exact ⟨⟨_, rfl, hi2.out⟩, HB.out⟩
theorem contains_ok (t : ByteArray) (w : World) : Calls Tryz.prog 47 #[.string t, .func (.func 48) #[] #[]] w fun e w' => e = .returned (.bool (!t.data.toList.all okB)) ∧ Below w.heap.size w w' := by
  have HB := Aside0.mk (Below.refl w.heap.size w)
  go_enter Tryz.func47, Tryz.ntmps47
  go_wp2_with (first | (go_at_call 68; refine (index_ok t _).mono ?_; rintro e_ w2 ⟨⟨i, rfl, hi⟩, hb⟩; have hi2 : decide (0 ≤ i) = !t.data.toList.all okB := (by cases h : t.data.toList.all okB <;> rw [h] at hi <;> simp at hi ⊢ <;> omega); have hi3 : decide (i ≥ 0) = decide (0 ≤ i) := rfl; replace hi := Aside0.mk hi; have n1_ := Aside0.mk (HB.out.trans hb); clear HB; have HB := n1_; clear n1_ hb; replace hi2 := Aside0.mk hi2))
  go_ret
  exact ⟨by rw [hi2.out]; rfl, HB.out⟩

end Go.Proofs.YtcjfgejiknlpfaaGreat.PI
