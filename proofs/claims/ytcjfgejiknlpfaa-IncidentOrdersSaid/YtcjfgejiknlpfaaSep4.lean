/- How far a world is from another: so many draws, and blocks laid behind it. Wanted by the library's sorts. -/
import Derived.Test.YtcjfgejiknlpfaaSep3
import Derived.Sort.Grow
namespace Go.Proofs.Ytcjfgejiknlpfaa.Sep
open Go.RowKit Go.Sort Go.Proofs.YtcjfgejiknlpfaaW.PrintWords Go.Proofs.YtcjfgejiknlpfaaW.PrintLast
set_option linter.unusedVariables false

structure GD (W w : World) : Prop where mk :: (out : ∃ q os, w = grow (W.drewN q) os)
theorem GD.refl (W : World) : GD W W := ⟨⟨0, #[], by rw [grow_empty]; rfl⟩⟩
theorem GD.drew {W w : World} (h : GD W w) : GD W w.drew := by
  obtain ⟨q, os, rfl⟩ := h.out
  exact ⟨⟨q + 1, os, rfl⟩⟩
theorem GD.drewN {W w : World} (h : GD W w) (n : Nat) : GD W (w.drewN n) := by
  obtain ⟨q, os, rfl⟩ := h.out
  refine ⟨⟨q + n, os, ?_⟩⟩
  show grow ((W.drewN q).drewN n) os = _
  rw [World.drewN_drewN]
theorem GD.drawn {W w w1 : World} (h : GD W w) (hd : Drawn0 w w1) : GD W w1 := by
  obtain ⟨n, rfl⟩ := hd.out
  exact h.drewN n
theorem GD.alloc {W w : World} (h : GD W w) (o : Obj) : GD W (w.alloc o) := by
  obtain ⟨q, os, rfl⟩ := h.out
  exact ⟨⟨q, os ++ #[o], by rw [alloc_eq_grow, grow_grow]⟩⟩
theorem GD.trans {W w w1 : World} (h : GD W w) (k : GD w w1) : GD W w1 := by
  obtain ⟨q, os, rfl⟩ := h.out
  obtain ⟨q2, os2, rfl⟩ := k.out
  exact ⟨⟨q + q2, os ++ os2, by show grow (grow ((W.drewN q).drewN q2) os) os2 = _; rw [grow_grow, World.drewN_drewN]⟩⟩
section
variable {P : Program} {ops : Array Oper} {rest : List Oper} {o : Oper} {a : Act} {Q : Exit → Act → World → Prop} {Kc : Act → World → Prop} {α : Type} {N : Nat} {L : List Res}
theorem S_litD_step (d : Kd α) {W : World} (e : Nat) (hw : Region.wanted o (yielded ops a.tmps) = true) {Nt : Tmp} (hd : o.dst = some Nt) {xs : List α} {inner : List Value}
    (hrun : (execOp a.eval o).run P W = .ok (.value (.slice (some ⟨W.heap.size, 0, none⟩) xs.length xs.length)) (W.alloc (.cells inner.toArray e)))
    (hrep : Reps (d.M W W.heap.size (fun _ => True)) d.sz xs inner) (HS : St N W L) (hm : xs.length ≤ 9223372036854775807)
    (h : ∀ v1 w1, St N w1 (Row d e v1 xs :: L) → Below W.heap.size W w1 → w1 = W.alloc (.cells inner.toArray e) → Kc (a.put o.dst v1) w1) : if Region.wanted o (yielded ops a.tmps) = true then Oper.wp P o a W Kc Q else Kc (a.put o.dst undef) W := by
  have hb : Below W.heap.size W (W.alloc (.cells inner.toArray e)) := (Below.refl _ _).alloc (Nat.le_refl _) _
  refine event_step hw hrun (h _ _ (HS.made (ok := fun _ => True) ⟨fun k hk => trivial, inner, ?_, ?_⟩ hb) hb rfl)
  · have h2 := World.ownsRow_lit (base := W.heap.size) (e := e) (size := d.sz) W inner.toArray xs.length (Nat.le_refl _) (by simpa [maxLen] using hm) (by simpa using hrep.1)
    simpa using h2
  · refine hrep.imp_ (fun p c hp => d.M_mono (fun k hk => ⟨trivial, fun he => ?_⟩) (Kd.M_below (d.M_bound hp) (below_alloc (Below.refl _ _) _)))
    have h3 : k = W.heap.size := by simpa [Value.ownBlock] using he
    have := hk.2.2
    omega
end
end Go.Proofs.Ytcjfgejiknlpfaa.Sep
