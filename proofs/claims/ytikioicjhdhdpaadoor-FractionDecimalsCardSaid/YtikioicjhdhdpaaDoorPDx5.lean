-- Written by a program of this session (gprint.py) out of Lean's own print of the program. Lean checks it.
import Derived.Test.YtikioicjhdhdpaaDoorPDx0
import Derived.Test.YtikioicjhdhdpaaDoorPDx4
namespace Go.Proofs.YtikioicjhdhdpaaDoor.PD
open Go.RowKit Go.Proofs.YtikioicjhdhdpaaDoorW.PrintWords Go.Proofs.YtikioicjhdhdpaaDoorW.PrintLast Go.Proofs.YtikioicjhdhdpaaDoorW.PrintMore
attribute [local go_sem] max2_int min2_int max_two min_two max_three min_three max_four min_four   -- for this text's walks alone
set_option linter.unusedVariables false
set_option linter.unusedSimpArgs false

/-! ### strings_CutSuffix: function 20 -/
def strings_CutSuffix.f (a0 : ByteArray) (a1 : ByteArray) : Option (ByteArray × Bool) := (stringslite_CutSuffix.f a0 a1).bind fun bt110 => (some (bt110.1, bt110.2))
set_option maxHeartbeats 8000000 in
set_option maxRecDepth 100000 in
theorem strings_CutSuffix.calls (a0 : ByteArray) (a1 : ByteArray) (r1 : ByteArray) (r2 : Bool) (w : World) (h : strings_CutSuffix.f a0 a1 = some (r1, r2)) :
    Calls Tryd.prog 20 #[.string a0, .string a1] w fun e w' => e = .returned (.tuple #[.string r1, .bool r2]) ∧ Drawn0 w w' := by
  have H : ((stringslite_CutSuffix.f a0 a1).bind fun bt110 => (some (bt110.1, bt110.2))) = some (r1, r2) := h
  clear h
  replace H := Option.bind_eq_some_iff.mp H
  obtain ⟨⟨t110, t111⟩, A30, H⟩ := H
  replace H : (some (t110, t111)) = some (r1, r2) := H
  have A3 := Aside0.mk A30
  clear A30
  simp only [Option.some.injEq, Prod.mk.injEq] at H
  obtain ⟨rfl, rfl⟩ := H
  go_enter Tryd.func20, Tryd.ntmps20
  go_wp2_with (first | ((with_reducible refine gate_callee (f := 33) rfl ?_); refine goesL_ (some 8) rfl rfl Tryd.func33 (by kernel_rfl) rfl #[.string a0, .string a1] rfl (by (try simp only [List.map_toArray, List.map_cons, List.map_nil]); first | done | rfl | (simp only [List.length_drop, List.length_take]; rfl)) ?_; (with_reducible refine (stringslite_CutSuffix.calls a0 a1 t110 t111 _ A3.out).mono ?_); rintro e w' ⟨rfl, ⟨nd, rfl⟩⟩; refine ⟨_, rfl, ?_⟩))
  go_ret2
  exact ⟨by first | rfl | (simp; done) | (simp [*]; done), by repeat (first | exact Drawn0.refl _ | apply Drawn0.step)⟩

/-! ### stringslite_Index: function 45 -/
def stringslite_Index.f (a0 : ByteArray) (a1 : ByteArray) : Option Int := match a1.data.toList with | [c] => some (Lib.indexByte a0.data.toList c) | _ => none
theorem stringslite_Index.calls (a0 : ByteArray) (a1 : ByteArray) (r : Int) (w : World) (h : stringslite_Index.f a0 a1 = some r) :
    Calls Tryd.prog 45 #[.string a0, .string a1] w fun e w' => e = .returned (.int .i64 r) ∧ Drawn0 w w' := by
  unfold stringslite_Index.f at h
  split at h
  · next c hc =>
    obtain rfl := Option.some.inj h
    have e : a1 = ⟨#[c]⟩ := by
      apply ByteArray.ext
      exact Array.toList_inj.mp hc
    subst e
    exact (Tryd.stringslite_Index_one a0 c w).mono fun e w' ⟨he, hw⟩ => ⟨he, by rw [hw]; exact Drawn0.refl w⟩
  · exact absurd h (by simp)

/-! ### stringslite_Cut: function 34 -/
def stringslite_Cut.f (a0 : ByteArray) (a1 : ByteArray) : Option (ByteArray × ByteArray × Bool) := (stringslite_Index.f a0 a1).bind fun t112 => (if t112 ≥ 0 then (if 0 ≤ t112 then (if t112 ≤ (a0.size : Int) then (if 0 ≤ (wrap64 (t112 + (a1.size : Int))) then (if (wrap64 (t112 + (a1.size : Int))) ≤ (a0.size : Int) then (some (a0.extract 0 (t112 : Int).toNat, a0.extract ((wrap64 (t112 + (a1.size : Int))) : Int).toNat a0.size, true)) else (none)) else (none)) else (none)) else (none)) else (some (a0, (⟨#[]⟩ : ByteArray), false)))
set_option maxHeartbeats 8000000 in
set_option maxRecDepth 100000 in
theorem stringslite_Cut.calls (a0 : ByteArray) (a1 : ByteArray) (r1 : ByteArray) (r2 : ByteArray) (r3 : Bool) (w : World) (h : stringslite_Cut.f a0 a1 = some (r1, r2, r3)) :
    Calls Tryd.prog 34 #[.string a0, .string a1] w fun e w' => e = .returned (.tuple #[.string r1, .string r2, .bool r3]) ∧ Drawn0 w w' := by
  have H : ((stringslite_Index.f a0 a1).bind fun t112 => (if t112 ≥ 0 then (if 0 ≤ t112 then (if t112 ≤ (a0.size : Int) then (if 0 ≤ (wrap64 (t112 + (a1.size : Int))) then (if (wrap64 (t112 + (a1.size : Int))) ≤ (a0.size : Int) then (some (a0.extract 0 (t112 : Int).toNat, a0.extract ((wrap64 (t112 + (a1.size : Int))) : Int).toNat a0.size, true)) else (none)) else (none)) else (none)) else (none)) else (some (a0, (⟨#[]⟩ : ByteArray), false)))) = some (r1, r2, r3) := h
  clear h
  replace H := Option.bind_eq_some_iff.mp H
  obtain ⟨t112, A30, H⟩ := H
  replace H : (if t112 ≥ 0 then (if 0 ≤ t112 then (if t112 ≤ (a0.size : Int) then (if 0 ≤ (wrap64 (t112 + (a1.size : Int))) then (if (wrap64 (t112 + (a1.size : Int))) ≤ (a0.size : Int) then (some (a0.extract 0 (t112 : Int).toNat, a0.extract ((wrap64 (t112 + (a1.size : Int))) : Int).toNat a0.size, true)) else (none)) else (none)) else (none)) else (none)) else (some (a0, (⟨#[]⟩ : ByteArray), false))) = some (r1, r2, r3) := H
  have A3 := Aside0.mk A30
  clear A30
  by_cases c4 : t112 ≥ 0
  · rw [if_pos c4] at H
    have c4b0 : decide (0 ≤ t112) = true := decide_eq_true c4
    clear c4
    by_cases c5 : 0 ≤ t112
    · rw [if_pos c5] at H
      have c5b0 := eq_true c5
      have c5b1 : decide (0 ≤ t112) = true := decide_eq_true c5
      clear c5
      by_cases c6 : t112 ≤ (a0.size : Int)
      · rw [if_pos c6] at H
        have c6b0 := eq_true c6
        have c6b1 : decide (t112 ≤ (a0.size : Int)) = true := decide_eq_true c6
        clear c6
        obtain ⟨ji7, hji7⟩ : ∃ j_ : Int, (wrap64 (t112 + (a1.size : Int))) = j_ := ⟨_, rfl⟩
        replace H : (if 0 ≤ (ji7) then (if (ji7) ≤ (a0.size : Int) then (some (a0.extract 0 (t112 : Int).toNat, a0.extract ((ji7) : Int).toNat a0.size, true)) else (none)) else (none)) = some (r1, r2, r3) := by first | (rw [hji7] at H; exact H) | (simp only [hji7] at H ⊢; exact H)
        (try rw [hji7] at A3)
        have hji7w : (IntKind.i64.wrap (t112 + (a1.size : Int))) = ji7 := (i64_w _).trans hji7
        by_cases c8 : 0 ≤ (ji7)
        · rw [if_pos c8] at H
          have c8b0 := eq_true c8
          have c8b1 : decide (0 ≤ (ji7)) = true := decide_eq_true c8
          clear c8
          by_cases c9 : (ji7) ≤ (a0.size : Int)
          · rw [if_pos c9] at H
            have c9b0 := eq_true c9
            have c9b1 : decide ((ji7) ≤ (a0.size : Int)) = true := decide_eq_true c9
            clear c9
            simp only [Option.some.injEq, Prod.mk.injEq] at H
            obtain ⟨rfl, rfl, rfl⟩ := H
            go_enter Tryd.func34, Tryd.ntmps34
            go_wp2_with (first | (go_at_call 45; (with_reducible refine (stringslite_Index.calls a0 a1 t112 _ A3.out).mono ?_); rintro e w' ⟨rfl, ⟨nd, rfl⟩⟩; (try first | exact ⟨rfl, _, World.drewN_drewN _ _ _⟩ | exact ⟨rfl, _, Eq.trans (World.drewN_drewN _ _ _) (congrArg (World.drewN _) (Nat.add_assoc _ _ _))⟩)))
            repeat (go_quiet (first | (go_at_call 45; (with_reducible refine (stringslite_Index.calls a0 a1 t112 _ A3.out).mono ?_); rintro e w' ⟨rfl, ⟨nd, rfl⟩⟩; (try first | exact ⟨rfl, _, World.drewN_drewN _ _ _⟩ | exact ⟨rfl, _, Eq.trans (World.drewN_drewN _ _ _) (congrArg (World.drewN _) (Nat.add_assoc _ _ _))⟩))); try go_wp2_with (first | (go_at_call 45; (with_reducible refine (stringslite_Index.calls a0 a1 t112 _ A3.out).mono ?_); rintro e w' ⟨rfl, ⟨nd, rfl⟩⟩; (try first | exact ⟨rfl, _, World.drewN_drewN _ _ _⟩ | exact ⟨rfl, _, Eq.trans (World.drewN_drewN _ _ _) (congrArg (World.drewN _) (Nat.add_assoc _ _ _))⟩))))
            go_ret3
            exact ⟨by first | rfl | (simp; done) | (simp only [← hji7] <;> (first | rfl | simp)) | (simp [*]; done), by repeat (first | exact Drawn0.refl _ | apply Drawn0.step)⟩
          · rw [if_neg c9] at H
            exact absurd H (by simp)
        · rw [if_neg c8] at H
          exact absurd H (by simp)
      · rw [if_neg c6] at H
        exact absurd H (by simp)
    · rw [if_neg c5] at H
      exact absurd H (by simp)
  · rw [if_neg c4] at H
    have c4b0 : decide (0 ≤ t112) = false := decide_eq_false c4
    clear c4
    simp only [Option.some.injEq, Prod.mk.injEq] at H
    obtain ⟨rfl, rfl, rfl⟩ := H
    go_enter Tryd.func34, Tryd.ntmps34
    go_wp2_with (first | (go_at_call 45; (with_reducible refine (stringslite_Index.calls a0 a1 t112 _ A3.out).mono ?_); rintro e w' ⟨rfl, ⟨nd, rfl⟩⟩; (try first | exact ⟨rfl, _, World.drewN_drewN _ _ _⟩ | exact ⟨rfl, _, Eq.trans (World.drewN_drewN _ _ _) (congrArg (World.drewN _) (Nat.add_assoc _ _ _))⟩)))
    repeat (go_quiet (first | (go_at_call 45; (with_reducible refine (stringslite_Index.calls a0 a1 t112 _ A3.out).mono ?_); rintro e w' ⟨rfl, ⟨nd, rfl⟩⟩; (try first | exact ⟨rfl, _, World.drewN_drewN _ _ _⟩ | exact ⟨rfl, _, Eq.trans (World.drewN_drewN _ _ _) (congrArg (World.drewN _) (Nat.add_assoc _ _ _))⟩))); try go_wp2_with (first | (go_at_call 45; (with_reducible refine (stringslite_Index.calls a0 a1 t112 _ A3.out).mono ?_); rintro e w' ⟨rfl, ⟨nd, rfl⟩⟩; (try first | exact ⟨rfl, _, World.drewN_drewN _ _ _⟩ | exact ⟨rfl, _, Eq.trans (World.drewN_drewN _ _ _) (congrArg (World.drewN _) (Nat.add_assoc _ _ _))⟩))))
    go_ret3
    exact ⟨by first | rfl | (simp; done) | (simp [*]; done), by repeat (first | exact Drawn0.refl _ | apply Drawn0.step)⟩

/-! ### strings_Cut: function 21 -/
def strings_Cut.f (a0 : ByteArray) (a1 : ByteArray) : Option (ByteArray × ByteArray × Bool) := (stringslite_Cut.f a0 a1).bind fun bt113 => (some (bt113.1, bt113.2.1, bt113.2.2))
set_option maxHeartbeats 8000000 in
set_option maxRecDepth 100000 in
theorem strings_Cut.calls (a0 : ByteArray) (a1 : ByteArray) (r1 : ByteArray) (r2 : ByteArray) (r3 : Bool) (w : World) (h : strings_Cut.f a0 a1 = some (r1, r2, r3)) :
    Calls Tryd.prog 21 #[.string a0, .string a1] w fun e w' => e = .returned (.tuple #[.string r1, .string r2, .bool r3]) ∧ Drawn0 w w' := by
  have H : ((stringslite_Cut.f a0 a1).bind fun bt113 => (some (bt113.1, bt113.2.1, bt113.2.2))) = some (r1, r2, r3) := h
  clear h
  replace H := Option.bind_eq_some_iff.mp H
  obtain ⟨⟨t113, t114, t115⟩, A30, H⟩ := H
  replace H : (some (t113, t114, t115)) = some (r1, r2, r3) := H
  have A3 := Aside0.mk A30
  clear A30
  simp only [Option.some.injEq, Prod.mk.injEq] at H
  obtain ⟨rfl, rfl, rfl⟩ := H
  go_enter Tryd.func21, Tryd.ntmps21
  go_wp2_with (first | ((with_reducible refine gate_callee (f := 34) rfl ?_); refine goesL_ (some 9) rfl rfl Tryd.func34 (by kernel_rfl) rfl #[.string a0, .string a1] rfl (by (try simp only [List.map_toArray, List.map_cons, List.map_nil]); first | done | rfl | (simp only [List.length_drop, List.length_take]; rfl)) ?_; (with_reducible refine (stringslite_Cut.calls a0 a1 t113 t114 t115 _ A3.out).mono ?_); rintro e w' ⟨rfl, ⟨nd, rfl⟩⟩; refine ⟨_, rfl, ?_⟩))
  go_ret3
  exact ⟨by first | rfl | (simp; done) | (simp [*]; done), by repeat (first | exact Drawn0.refl _ | apply Drawn0.step)⟩

/-! ### fraction_digits: function 22 -/
def dig : List UInt8 → Int → Option Int
  | [], n => some n
  | c :: cs, n => if c.toNat < 48 then none else if 57 < c.toNat then none else dig cs (wrap64 (wrap64 (10 * n) + ((c.toNat : Int) - 48)))
def fraction_digits.f (a0 : ByteArray) : Option (Int × Bool) := some (match dig a0.data.toList 0 with | some n => (n, !a0.toList.isEmpty) | none => (0, false))
theorem dig_drop (a0 : ByteArray) (pos : Nat) (h : pos < a0.size) (n : Int) : dig (a0.data.toList.drop pos) n = if (a0[pos]'h).toNat < 48 then none else if 57 < (a0[pos]'h).toNat then none else dig (a0.data.toList.drop (pos + 1)) (wrap64 (wrap64 (10 * n) + (((a0[pos]'h).toNat : Int) - 48))) := by
  have hl : pos < a0.data.toList.length := by simpa using h
  rw [List.drop_eq_getElem_cons hl]
  rfl
set_option maxRecDepth 100000 in
theorem fraction_digits.calls (a0 : ByteArray) (r1 : Int) (r2 : Bool) (w : World) (h : fraction_digits.f a0 = some (r1, r2)) :
    Calls Tryd.prog 22 #[.string a0] w fun e w' => e = .returned (.tuple #[.int .i64 r1, .bool r2]) ∧ Below w.heap.size w w' := by
  have hu9 := Tryd.underlying9
  have HB := Aside0.mk (Below.refl w.heap.size w)
  have HD := Aside0.mk (Option.some.inj h)
  clear h
  go_enter Tryd.func22, Tryd.ntmps22
  go_wp2
  go_loopw [4] (fun v4 wc => ∃ (pos : Nat) (n : Int), wc = w.iter a0 pos ∧ v4 = .int .i64 n ∧ pos ≤ a0.size ∧ Aside0 (dig (a0.data.toList.drop pos) n = dig a0.data.toList 0)) (fun _ wc => a0.size - wc.iterPos w.heap.size)
  case atStart => exact ⟨0, 0, rfl, rfl, by omega, ⟨rfl⟩⟩
  case round =>
    obtain ⟨pos, n, rfl, rfl, hle, HA⟩ := hrel
    have HX := Aside0.mk (show Below w.heap.size w (w.iter a0 pos) from by first | exact below_alloc HB.out | (apply below_alloc; exact HB.out))
    by_cases hp : pos < a0.size
    · obtain ⟨b, hb⟩ : ∃ b, a0[pos]'hp = b := ⟨_, rfl⟩
      have hs := dig_drop a0 pos hp n
      rw [HA.out, hb] at hs
      by_cases c1 : 57 < b.toNat
      · rw [if_neg (by omega), if_pos c1] at hs
        have hd : 57 < (Utf8.decode a0 pos).1 := by
          by_cases ha : b.toNat < 128
          · rw [decode_ascii a0 pos hp (by rw [hb]; exact ha), hb]; exact c1
          · have := (decode_high a0 pos hp (by rw [hb]; omega)).1
            omega
        have hnx : ∀ ty, (Instr.next (.pointer (some ⟨w.heap.size, 0, none⟩)) true ty).run Tryd.prog (w.iter a0 pos) = _ := fun ty => run_next_any w a0 pos ty hp
        have e1 : decide (((Utf8.decode a0 pos).1 : Int) < 48) = false := decide_eq_false (by omega)
        have e2 : decide ((57 : Int) < ((Utf8.decode a0 pos).1 : Int)) = true := decide_eq_true (by omega)
        have HY := Aside0.mk (show Below w.heap.size w (w.iter a0 (pos + (Utf8.decode a0 pos).2)) from by first | exact below_alloc HB.out | (apply below_alloc; exact HB.out))
        have HD2 := HD.out
        rw [hs] at HD2
        simp only [Prod.mk.injEq] at HD2
        obtain ⟨rfl, rfl⟩ := HD2
        clear hs HA HD hb
        go_wp2
        go_ret2
        exact ⟨rfl, HY.out⟩
      · have ha : b.toNat < 128 := by omega
        have hnx : ∀ ty, (Instr.next (.pointer (some ⟨w.heap.size, 0, none⟩)) true ty).run Tryd.prog (w.iter a0 pos) = _ := fun ty => run_next_ascii w a0 pos ty hp (by rw [hb]; exact ha)
        rw [hb] at hnx
        have e2 : decide ((57 : Int) < (b.toNat : Int)) = false := decide_eq_false (by omega)
        have HY := Aside0.mk (show Below w.heap.size w (w.iter a0 (pos + 1)) from by first | exact below_alloc HB.out | (apply below_alloc; exact HB.out))
        by_cases c2 : b.toNat < 48
        · rw [if_pos c2] at hs
          have e1 : decide ((b.toNat : Int) < 48) = true := decide_eq_true (by omega)
          have HD2 := HD.out
          rw [hs] at HD2
          simp only [Prod.mk.injEq] at HD2
          obtain ⟨rfl, rfl⟩ := HD2
          clear hs HA HD hb
          go_wp2
          go_ret2
          exact ⟨rfl, HY.out⟩
        · rw [if_neg c2, if_neg c1] at hs
          have e1 : decide ((b.toNat : Int) < 48) = false := decide_eq_false (by omega)
          have e3 : IntKind.i32.wrap ((b.toNat : Int) - 48) = (b.toNat : Int) - 48 := by
            rw [IntKind.wrap_i32]; have := b.toNat_lt; omega
          have e4 : IntKind.i64.wrap ((b.toNat : Int) - 48) = (b.toNat : Int) - 48 := by
            rw [IntKind.wrap_i64]; have := b.toNat_lt; omega
          have HS := Aside0.mk hs.symm
          clear hs HA hb
          go_wp2
          go_roundw
          case rel =>
            refine ⟨pos + 1, _, rfl, rfl, by omega, ⟨HS.out⟩⟩
          case measure =>
            simp
            omega
    · have hnx : ∀ ty, (Instr.next (.pointer (some ⟨w.heap.size, 0, none⟩)) true ty).run Tryd.prog (w.iter a0 pos) = _ := fun ty => run_next_end w a0 pos ty hp
      have hs : dig a0.data.toList 0 = some n := by
        rw [← HA.out, List.drop_of_length_le (by simp; exact Nat.le_of_not_lt hp)]
        rfl
      have HD2 := HD.out
      rw [hs] at HD2
      simp only [Prod.mk.injEq] at HD2
      obtain ⟨rfl, rfl⟩ := HD2
      clear hs HA HD
      go_wp2
      go_ret2
      refine ⟨?_, HX.out⟩
      rfl

end Go.Proofs.YtikioicjhdhdpaaDoor.PD
