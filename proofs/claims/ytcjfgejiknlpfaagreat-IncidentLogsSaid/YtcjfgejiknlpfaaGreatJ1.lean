/- Texts of this claim, taken together: Sep, Sep3, Sep4, Sep2, Fld, Nine, Sep5. -/
import Derived.Test.YtcjfgejiknlpfaaGreatV0
import Derived.Sort.Grow
import Derived.Laws.CopyOwn
import Derived.Laws.CopyRow
import Derived.Lib.AppendZerosOnto
import Derived.Lib.Overlaps
/-! # Sep -/
section
namespace Go.Proofs.YtcjfgejiknlpfaaGreat.Sep
open Go.RowKit Go.Proofs.YtcjfgejiknlpfaaGreatW.PrintWords Go.Proofs.YtcjfgejiknlpfaaGreatW.PrintLast
set_option linter.unusedVariables false

/-- A piece of memory: what it says of a world, its blocks being those of F (from block N on). -/
structure Res where
  sat : Nat → World → (Nat → Prop) → Prop
  move : ∀ {N : Nat} {w w1 : World} {F : Nat → Prop}, (∀ k, F k → k < w.heap.size → w1.heap[k]? = w.heap[k]?) → sat N w F → sat N w1 F
  mono : ∀ {N : Nat} {w : World} {F G : Nat → Prop}, (∀ k, F k → G k) → sat N w F → sat N w G

/-- A block that is known whole. -/
def Blk (g : Nat) (cs : Array Value) (t : TypeId) : Res where
  sat := fun _ w F => F g ∧ w.heap[g]? = some (.cells cs t (0, 0))
  move := fun hm h => ⟨h.1, (hm g h.1 (blk_lt h.2)).trans h.2⟩
  mono := fun hm h => ⟨hm _ h.1, h.2⟩
/-- A row of elements, with the rows inside them. -/
def Row {α : Type} (d : Kd α) (e : Nat) (v : Value) (xs : List α) : Res where
  sat := fun N w F => d.R e w N F v xs
  move := fun hm h => Kd.R_step h hm
  mono := fun hm h => Kd.R_mono h hm
/-- Nothing. -/
def Nil : Res where
  sat := fun _ _ _ => True
  move := fun _ h => h
  mono := fun _ h => h
/-- Two pieces as one. -/
def Two (a b : Res) : Res where
  sat := fun N w F => ∃ G : Nat → Prop, (∀ k, G k → F k) ∧ a.sat N w G ∧ b.sat N w (fun k => F k ∧ ¬ G k)
  move := fun hm ⟨G, h0, h1, h2⟩ => ⟨G, h0, a.move (fun k hk => hm k (h0 k hk)) h1, b.move (fun k hk => hm k hk.1) h2⟩
  mono := fun hm ⟨G, h0, h1, h2⟩ => ⟨G, fun k hk => hm k (h0 k hk), h1, b.mono (fun k hk => ⟨hm k hk.1, hk.2⟩) h2⟩
/-- There is a value .. -/
def Some_ {σ : Type} (f : σ → Res) : Res where
  sat := fun N w F => ∃ s, (f s).sat N w F
  move := fun hm ⟨s, h⟩ => ⟨s, (f s).move hm h⟩
  mono := fun hm ⟨s, h⟩ => ⟨s, (f s).mono hm h⟩
/-- A plain fact beside a piece. -/
def And_ (p : Prop) (r : Res) : Res where
  sat := fun N w F => p ∧ r.sat N w F
  move := fun hm h => ⟨h.1, r.move hm h.2⟩
  mono := fun hm h => ⟨h.1, r.mono hm h.2⟩

def Own (N : Nat) (w : World) : List Res → (Nat → Prop) → Prop
  | [], _ => True
  | r :: L, F => ∃ G : Nat → Prop, (∀ k, G k → F k ∧ N ≤ k ∧ k < w.heap.size) ∧ r.sat N w G ∧ Own N w L (fun k => F k ∧ ¬ G k)
/-- The call owns these pieces, all of them at or beyond block N. -/
structure St (N : Nat) (w : World) (L : List Res) : Prop where
  mk :: (size : N ≤ w.heap.size) (own : Own N w L (fun _ => True))

variable {N : Nat} {w w1 : World} {L M : List Res} {r s : Res}

theorem Own.imp : ∀ {L : List Res} {F G : Nat → Prop}, (∀ k, F k → G k) → Own N w L F → Own N w L G
  | [], _, _, _, _ => trivial
  | _ :: _, _, _, hi, ⟨H, h0, h1, h2⟩ => ⟨H, fun k hk => ⟨hi k (h0 k hk).1, (h0 k hk).2⟩, h1, h2.imp (fun k hk => ⟨hi k hk.1, hk.2⟩)⟩
theorem Own.move : ∀ {L : List Res} {F : Nat → Prop}, w.heap.size ≤ w1.heap.size → (∀ k, F k → k < w.heap.size → w1.heap[k]? = w.heap[k]?) → Own N w L F → Own N w1 L F
  | [], _, _, _, _ => trivial
  | r :: _, _, hs, hm, ⟨H, h0, h1, h2⟩ => ⟨H, fun k hk => ⟨(h0 k hk).1, (h0 k hk).2.1, Nat.lt_of_lt_of_le (h0 k hk).2.2 hs⟩, r.move (fun k hk => hm k (h0 k hk).1) h1, h2.move hs (fun k hk => hm k hk.1)⟩
theorem Own.bound : ∀ {L : List Res} {F : Nat → Prop}, Own N w L F → Own N w L (fun k => F k ∧ N ≤ k ∧ k < w.heap.size)
  | [], _, _ => trivial
  | r :: _, _, ⟨H, h0, h1, h2⟩ => ⟨H, fun k hk => ⟨h0 k hk, (h0 k hk).2⟩, h1, h2.bound.imp (fun k hk => ⟨⟨hk.1.1, hk.2⟩, hk.1.2⟩)⟩
theorem Own.swap {F : Nat → Prop} : Own N w (r :: s :: L) F → Own N w (s :: r :: L) F := by
  rintro ⟨G, g0, g1, H, h0, h1, h2⟩
  refine ⟨H, fun k hk => ⟨(h0 k hk).1.1, (h0 k hk).2⟩, h1, G, fun k hk => ⟨⟨(g0 k hk).1, fun hh => (h0 k hh).1.2 hk⟩, (g0 k hk).2⟩, g1, h2.imp (fun k hk => ⟨⟨hk.1.1, hk.2⟩, hk.1.2⟩)⟩
theorem Own.perm {L M : List Res} (p : L.Perm M) : ∀ {F : Nat → Prop}, Own N w L F → Own N w M F := by
  induction p with
  | nil => exact fun h => h
  | cons x _ ih => exact fun ⟨G, g0, g1, g2⟩ => ⟨G, g0, g1, ih g2⟩
  | swap x y l => exact fun h => h.swap
  | trans _ _ ih1 ih2 => exact fun h => ih2 (ih1 h)
theorem St.perm (h : St N w L) (p : L.Perm M) : St N w M := ⟨h.size, h.own.perm p⟩
theorem St.swap (h : St N w (r :: s :: L)) : St N w (s :: r :: L) := ⟨h.size, h.own.swap⟩
theorem St.drop (h : St N w (r :: L)) : St N w L := ⟨h.size, by obtain ⟨_, _, _, h2⟩ := h.own; exact h2.imp (fun _ _ => trivial)⟩
theorem St.none_ (h : N ≤ w.heap.size) : St N w [] := ⟨h, trivial⟩
/-- Whatever lies there has been left as it was. -/
theorem St.step (h : St N w L) (hb : Below w.heap.size w w1) : St N w1 L := ⟨Nat.le_trans h.size hb.size, h.own.move hb.size (fun k _ hk => hb.block k hk)⟩
theorem St.drewN (h : St N w L) (n : Nat) : St N (w.drewN n) L := h.step (pw_below_drewN (Below.refl _ _) n)
theorem St.drew (h : St N w L) : St N w.drew L := h.step (below_drew1 (Below.refl _ _))
/-- One piece's blocks, and new ones, have turned. -/
theorem St.upd (h : St N w (r :: L)) (hs : w.heap.size ≤ w1.heap.size) (hn : ∀ G : Nat → Prop, (∀ k, G k → N ≤ k ∧ k < w.heap.size) → r.sat N w G → (∀ k, k < w.heap.size → ¬ G k → w1.heap[k]? = w.heap[k]?) ∧ ∃ G' : Nat → Prop, (∀ k, G' k → (G k ∨ w.heap.size ≤ k) ∧ k < w1.heap.size) ∧ s.sat N w1 G') : St N w1 (s :: L) := by
  obtain ⟨G, g0, g1, g2⟩ := h.own
  obtain ⟨hm, G', h0, h1⟩ := hn G (fun k hk => (g0 k hk).2) g1
  refine ⟨Nat.le_trans h.size hs, G', fun k hk => ⟨trivial, ?_, (h0 k hk).2⟩, h1, (g2.bound.move hs (fun k hk hl => hm k hl hk.1.2)).imp (fun k hk => ⟨trivial, fun hg => ?_⟩)⟩
  · rcases (h0 k hk).1 with h2 | h2
    · exact (g0 k h2).2.1
    · exact Nat.le_trans h.size h2
  · rcases (h0 k hg).1 with h2 | h2
    · exact hk.1.2 h2
    · have := hk.2.2; omega
/-- A piece has been made. -/
theorem St.add (h : St N w L) (hb : Below w.heap.size w w1) (hn : ∃ G : Nat → Prop, (∀ k, G k → w.heap.size ≤ k ∧ k < w1.heap.size) ∧ s.sat N w1 G) : St N w1 (s :: L) := by
  have h1 : St N w (Nil :: L) := ⟨h.size, fun _ => False, fun _ hk => hk.elim, trivial, h.own.imp (fun _ _ => ⟨trivial, fun h => h⟩)⟩
  obtain ⟨G, g0, g1⟩ := hn
  exact h1.upd hb.size (fun G0 _ _ => ⟨fun k hk _ => hb.block k hk, G, fun k hk => ⟨.inr (g0 k hk).1, (g0 k hk).2⟩, g1⟩)
/-- The same piece told otherwise. -/
theorem St.imp (h : St N w (r :: L)) (hi : ∀ G : Nat → Prop, (∀ k, G k → N ≤ k ∧ k < w.heap.size) → r.sat N w G → s.sat N w G) : St N w (s :: L) := by
  obtain ⟨G, g0, g1, g2⟩ := h.own
  exact ⟨h.size, G, g0, hi G (fun k hk => (g0 k hk).2) g1, g2⟩
theorem St.two (h : St N w (Two r s :: L)) : St N w (r :: s :: L) := by
  obtain ⟨F, f0, ⟨G, g0, g1, g2⟩, f2⟩ := h.own
  refine ⟨h.size, G, fun k hk => f0 k (g0 k hk), g1, fun k => F k ∧ ¬ G k, fun k hk => ⟨⟨(f0 k hk.1).1, hk.2⟩, (f0 k hk.1).2⟩, g2, f2.imp (fun k hk => ⟨⟨trivial, fun hg => hk.2 (g0 k hg)⟩, fun hh => hk.2 hh.1⟩)⟩
theorem St.one (h : St N w (r :: s :: L)) : St N w (Two r s :: L) := by
  obtain ⟨G, g0, g1, H, h0, h1, h2⟩ := h.own
  refine ⟨h.size, fun k => G k ∨ H k, fun k hk => hk.elim (fun hg => ⟨trivial, (g0 k hg).2⟩) (fun hh => ⟨trivial, (h0 k hh).2⟩), ⟨G, fun k hk => .inl hk, g1, s.mono (fun k hk => ⟨.inr hk, (h0 k hk).1.2⟩) h1⟩, h2.imp (fun k hk => ⟨trivial, fun hg => hg.elim hk.1.2 hk.2⟩)⟩
theorem St.ex {σ : Type} {f : σ → Res} (h : St N w (Some_ f :: L)) : ∃ x, St N w (f x :: L) := by
  obtain ⟨G, g0, ⟨x, g1⟩, g2⟩ := h.own
  exact ⟨x, h.size, G, g0, g1, g2⟩
theorem St.hide {σ : Type} {f : σ → Res} (x : σ) (h : St N w (f x :: L)) : St N w (Some_ f :: L) := h.imp (fun G _ hg => ⟨x, hg⟩)
theorem St.and {p : Prop} (h : St N w (And_ p r :: L)) : p ∧ St N w (r :: L) := by
  obtain ⟨G, g0, ⟨x, g1⟩, g2⟩ := h.own
  exact ⟨x, h.size, G, g0, g1, g2⟩
theorem St.fact {p : Prop} (hp : p) (h : St N w (r :: L)) : St N w (And_ p r :: L) := h.imp (fun G _ hg => ⟨hp, hg⟩)
theorem perm_pick {α : Type _} : ∀ (L : List α) (k : Nat) (r : α), L[k]? = some r → L.Perm (r :: L.eraseIdx k)
  | [], _, _, h => by simp at h
  | x :: L, 0, r, h => by
    simp at h
    subst h
    exact List.Perm.refl _
  | x :: L, k + 1, r, h => by
    simp at h
    exact ((perm_pick L k r h).cons x).trans (List.Perm.swap _ _ _)
theorem St.pick (h : St N w L) (k : Nat) (hk : L[k]? = some r) : St N w (r :: L.eraseIdx k) := h.perm (perm_pick L k r hk)
/-! ### blocks -/
theorem St.blk {g : Nat} {cs : Array Value} {t : TypeId} (h : St N w (Blk g cs t :: L)) : w.heap[g]? = some (.cells cs t (0, 0)) := by
  obtain ⟨_, _, g1, _⟩ := h.own
  exact g1.2
theorem St.ge {g : Nat} {cs : Array Value} {t : TypeId} (h : St N w (Blk g cs t :: L)) : N ≤ g := by
  obtain ⟨_, g0, g1, _⟩ := h.own
  exact (g0 _ g1.1).2.1
theorem St.cell {g : Nat} {cs : Array Value} {t : TypeId} (h : St N w (Blk g cs t :: L)) (i : Nat) : w.cell? ⟨g, i, none⟩ = cs[i]? := blk_cell h.blk i
theorem St.frozen {g : Nat} {cs : Array Value} {t : TypeId} (h : St N w (Blk g cs t :: L)) (i : Nat) : w.frozen? ⟨g, i, none⟩ = false := blk_frozen h.blk i
theorem St.box {g : Nat} {cs : Array Value} {t : TypeId} (h : St N w L) (hg : g = w.heap.size) (hb : w1.heap[g]? = some (.cells cs t (0, 0))) (hw : Below w.heap.size w w1) : St N w1 (Blk g cs t :: L) :=
  h.add hw ⟨fun k => k = g, fun k hk => by subst hk; exact ⟨Nat.le_of_eq hg.symm, blk_lt hb⟩, rfl, hb⟩
theorem size_setCell (w : World) (a : Addr) (u : Value) : (w.setCell a u).heap.size = w.heap.size := by simp [World.setCell]
theorem St.set {g : Nat} {cs : Array Value} {t : TypeId} (h : St N w (Blk g cs t :: L)) (i : Nat) (u : Value) (cs' : Array Value) (e : cs.setIfInBounds i u = cs') : St N (w.setCell ⟨g, i, none⟩ u) (Blk g cs' t :: L) :=
  h.upd (Nat.le_of_eq (size_setCell _ _ _).symm) (fun G g0 hg => ⟨fun k hk hn => Below.heap_setCell w _ u k (fun e => hn (by rw [e]; exact hg.1)), G, fun k hk => ⟨.inl hk, by rw [size_setCell]; exact (g0 k hk).2⟩, hg.1, blk_put hg.2 i u e⟩)
theorem St.below_set {g i : Nat} {cs : Array Value} {t : TypeId} {u : Value} {w0 : World} (h : St N w (Blk g cs t :: L)) (hb : Below N w0 w) : Below N w0 (w.setCell ⟨g, i, none⟩ u) := hb.setCell h.ge _
theorem below_step' {w0 : World} (h : Below N w0 w) (hn : N ≤ w.heap.size) (k : Below w.heap.size w w1) : Below N w0 w1 := h.trans (k.mono hn)
/-! ### rows -/
section
variable {α : Type} {d : Kd α} {e : Nat} {v : Value} {xs : List α}
theorem St.row (h : St N w (Row d e v xs :: L)) : d.R e w N (fun _ => True) v xs := by
  obtain ⟨G, _, g1, _⟩ := h.own
  exact Kd.R_mono g1 (fun _ _ => trivial)
theorem St.reads (h : St N w (Row d e v xs :: L)) : ∃ A c, v = .slice A xs.length c ∧ xs.length ≤ c ∧ d.C w A xs.length xs := Kd.R_reads h.row
/-- What a contract of the print has made. -/
theorem St.made {ok : Nat → Prop} (h : St N w L) (hr : d.R e w1 w.heap.size ok v xs) (hb : Below w.heap.size w w1) : St N w1 (Row d e v xs :: L) :=
  h.add hb ⟨fun k => ok k ∧ w.heap.size ≤ k ∧ k < w1.heap.size, fun k hk => hk.2, Kd.R_lower (Kd.R_mono (Kd.R_bound hr) (fun k hk => ⟨hk.1, hk.2.1, hk.2.2.1⟩)) h.size⟩
theorem St.rowNil (h : St N w L) : St N w (Row d e (.slice none 0 0) [] :: L) :=
  ⟨h.size, fun _ => False, fun _ hk => hk.elim, Kd.R_nil _ _ _ _ _, h.own.imp (fun _ _ => ⟨trivial, fun h => h⟩)⟩
end
/-! ### what a call of append, and a literal, leave -/
section
variable {α : Type} {d : Kd α} {e : Nat} {v v1 : Value} {xs ys : List α}
theorem St.regrow {G : Nat → Prop} (hs : N ≤ w.heap.size) (g0 : ∀ k, G k → N ≤ k ∧ k < w.heap.size) (g1 : d.R e w N G v xs) (g2 : Own N w L (fun k => True ∧ ¬ G k)) (ho : d.R e w1 N (fun k => G k ∨ w.heap.size ≤ k) v1 ys) (hsz : w.heap.size ≤ w1.heap.size) (hg : w.grownBy w1 v.ownBlock) : St N w1 (Row d e v1 ys :: L) := by
  refine ⟨Nat.le_trans hs hsz, fun k => (G k ∨ w.heap.size ≤ k) ∧ N ≤ k ∧ k < w1.heap.size, fun k hk => ⟨trivial, hk.2⟩, Kd.R_mono (Kd.R_bound ho) (fun k hk => ⟨hk.1, hk.2.1, hk.2.2.1⟩), ?_⟩
  refine (g2.bound.move hsz (fun k hk hl => hg.block k hl (fun he => hk.1.2 (g1.1 k he.symm)))).imp (fun k hk => ⟨trivial, fun hq => ?_⟩)
  rcases hq.1 with h | h
  · exact hk.1.2 h
  · have := hk.2.2; omega
end
section
variable {P : Program} {ops : Array Oper} {rest : List Oper} {o : Oper} {a : Act} {Q : Exit → Act → World → Prop} {Kc : Act → World → Prop} {α : Type}
theorem S_lit (d : Kd α) {W : World} (e : Nat) (hgd : o.guard = none) {Nt : Tmp} (hd : o.dst = some Nt) {xs : List α} {inner : List Value}
    (hrun : (execOp a.eval o).run P W = .ok (.value (.slice (some ⟨W.heap.size, 0, none⟩) xs.length xs.length)) (W.alloc (.cells inner.toArray e)))
    (hrep : Reps (d.M W W.heap.size (fun _ => True)) d.sz xs inner) (HS : St N W L) (hm : xs.length ≤ 9223372036854775807)
    (h : ∀ v1 w1, St N w1 (Row d e v1 xs :: L) → Below W.heap.size W w1 → wpList P ops Q rest (a.put o.dst v1) w1) : wpList P ops Q (o :: rest) a W := by
  refine Kd.R_lit d (w0 := W) W.heap.size e hgd hd (ok := fun _ => True) hrun hrep (fun _ _ => trivial) trivial (Below.refl _ _) (Nat.le_refl _) hm ?_
  intro v1 w1 ho hb hg _
  exact h v1 w1 (HS.made ho hb) hb
theorem S_lit_step (d : Kd α) {W : World} (e : Nat) (hw : Region.wanted o (yielded ops a.tmps) = true) {Nt : Tmp} (hd : o.dst = some Nt) {xs : List α} {inner : List Value}
    (hrun : (execOp a.eval o).run P W = .ok (.value (.slice (some ⟨W.heap.size, 0, none⟩) xs.length xs.length)) (W.alloc (.cells inner.toArray e)))
    (hrep : Reps (d.M W W.heap.size (fun _ => True)) d.sz xs inner) (HS : St N W L) (hm : xs.length ≤ 9223372036854775807)
    (h : ∀ v1 w1, St N w1 (Row d e v1 xs :: L) → Below W.heap.size W w1 → Kc (a.put o.dst v1) w1) : if Region.wanted o (yielded ops a.tmps) = true then Oper.wp P o a W Kc Q else Kc (a.put o.dst undef) W := by
  refine Kd.R_lit_step d (w0 := W) W.heap.size e hw hd (ok := fun _ => True) hrun hrep (fun _ _ => trivial) trivial (Below.refl _ _) (Nat.le_refl _) hm ?_
  intro v1 w1 ho hb hg _
  exact h v1 w1 (HS.made ho hb) hb
/-- append(v, x): the goal's world is 'W.alloc' of the variadic's box. -/
theorem S_append (d : Kd α) {w0 W : World} (hgd : o.guard = none) (s x : Operand) (t e : TypeId) (z : Value) (bytes : Nat)
    (ho : o.op = .call { callee := .builtin .append, args := #[s, x], argTypes := #[t, t] })
    (ht : P.underlying t = some (.slice e)) (hinfo : (P.info? e).map (fun i => (i.zero, i.size, i.bytes)) = some (some z, d.sz, bytes)) (hz : z.cells.size = d.sz) (hs0 : 0 < d.sz) (hb0 : 0 < bytes)
    (v : Value) (xs : List α) (p : α) (cs : List Value) (hs : a.eval s = v) (hx : a.eval x = .slice (some ⟨W.heap.size, 0, none⟩) 1 1) (hp : d.M W N (fun _ => False) p cs)
    (HS : St N W (Row d e v xs :: L)) (HB : Below N w0 W) (hl : (xs.length + 1) * bytes ≤ 140737488355328)
    (h : ∀ v1 w1, St N w1 (Row d e v1 (xs ++ [p]) :: L) → Below N w0 w1 → wpList P ops Q rest (a.put o.dst v1) w1) :
    wpList P ops Q (o :: rest) a (W.alloc (.cells cs.toArray e)) := by
  obtain ⟨G, g0, g1, g2⟩ := HS.own
  refine Kd.R_append d N hgd s x t e z bytes ho ht hinfo hz hs0 hb0 v xs p cs (fun k => G k ∨ W.heap.size ≤ k) (fun _ => False) hs hx hp (fun _ hk => hk.elim) (fun k hk => .inr hk) (Kd.R_mono g1 (fun k hk => .inl hk)) HB HS.size hl ?_
  intro v1 w1 hr hb hg _
  exact h v1 w1 (St.regrow HS.size (fun k hk => (g0 k hk).2) g1 g2 hr hg.size hg) hb
theorem S_append_step (d : Kd α) {w0 W : World} (hw : Region.wanted o (yielded ops a.tmps) = true) (s x : Operand) (t e : TypeId) (z : Value) (bytes : Nat)
    (ho : o.op = .call { callee := .builtin .append, args := #[s, x], argTypes := #[t, t] })
    (ht : P.underlying t = some (.slice e)) (hinfo : (P.info? e).map (fun i => (i.zero, i.size, i.bytes)) = some (some z, d.sz, bytes)) (hz : z.cells.size = d.sz) (hs0 : 0 < d.sz) (hb0 : 0 < bytes)
    (v : Value) (xs : List α) (p : α) (cs : List Value) (hs : a.eval s = v) (hx : a.eval x = .slice (some ⟨W.heap.size, 0, none⟩) 1 1) (hp : d.M W N (fun _ => False) p cs)
    (HS : St N W (Row d e v xs :: L)) (HB : Below N w0 W) (hl : (xs.length + 1) * bytes ≤ 140737488355328)
    (h : ∀ v1 w1, St N w1 (Row d e v1 (xs ++ [p]) :: L) → Below N w0 w1 → Kc (a.put o.dst v1) w1) :
    if Region.wanted o (yielded ops a.tmps) = true then Oper.wp P o a (W.alloc (.cells cs.toArray e)) Kc Q else Kc (a.put o.dst undef) (W.alloc (.cells cs.toArray e)) := by
  obtain ⟨G, g0, g1, g2⟩ := HS.own
  refine Kd.R_append_step d N hw s x t e z bytes ho ht hinfo hz hs0 hb0 v xs p cs (fun k => G k ∨ W.heap.size ≤ k) (fun _ => False) hs hx hp (fun _ hk => hk.elim) (fun k hk => .inr hk) (Kd.R_mono g1 (fun k hk => .inl hk)) HB HS.size hl ?_
  intro v1 w1 hr hb hg _
  exact h v1 w1 (St.regrow HS.size (fun k hk => (g0 k hk).2) g1 g2 hr hg.size hg) hb
/-- append(v, ys...), of elements without rows inside. -/
theorem S_append_rows (d : Kd α) {w0 W : World} (hgd : o.guard = none) (s x : Operand) (t e : TypeId) (z : Value) (bytes : Nat)
    (ho : o.op = .call { callee := .builtin .append, args := #[s, x], argTypes := #[t, t] })
    (ht : P.underlying t = some (.slice e)) (hinfo : (P.info? e).map (fun i => (i.zero, i.size, i.bytes)) = some (some z, d.sz, bytes)) (hz : z.cells.size = d.sz) (hs0 : 0 < d.sz) (hb0 : 0 < bytes)
    (v : Value) (xs ys : List α) (A : Option Addr) (m c : Nat) (hs : a.eval s = v) (hx : a.eval x = .slice A m c) (hflat : ∀ x cs, d.K W x cs → d.M W N (fun _ => False) x cs)
    (HS : St N W (Row d e v xs :: L)) (HC : d.C W A m ys) (HB : Below N w0 W) (hl : (xs.length + m) * bytes ≤ 140737488355328)
    (h : ∀ v1 w1, St N w1 (Row d e v1 (xs ++ ys) :: L) → Below N w0 w1 → wpList P ops Q rest (a.put o.dst v1) w1) :
    wpList P ops Q (o :: rest) a W := by
  obtain ⟨G, g0, g1, g2⟩ := HS.own
  refine Kd.R_append_rows d N hgd s x t e z bytes ho ht hinfo hz hs0 hb0 v xs ys A m c (fun k => G k ∨ W.heap.size ≤ k) (fun _ => False) hs hx (Kd.R_mono g1 (fun k hk => .inl hk)) HC hflat (fun _ hk => hk.elim) (fun k hk => .inr hk) HB HS.size hl ?_
  intro v1 w1 hr hb hg _
  exact h v1 w1 (St.regrow HS.size (fun k hk => (g0 k hk).2) g1 g2 hr hg.size hg) hb
theorem S_append_rows_step (d : Kd α) {w0 W : World} (hw : Region.wanted o (yielded ops a.tmps) = true) (s x : Operand) (t e : TypeId) (z : Value) (bytes : Nat)
    (ho : o.op = .call { callee := .builtin .append, args := #[s, x], argTypes := #[t, t] })
    (ht : P.underlying t = some (.slice e)) (hinfo : (P.info? e).map (fun i => (i.zero, i.size, i.bytes)) = some (some z, d.sz, bytes)) (hz : z.cells.size = d.sz) (hs0 : 0 < d.sz) (hb0 : 0 < bytes)
    (v : Value) (xs ys : List α) (A : Option Addr) (m c : Nat) (hs : a.eval s = v) (hx : a.eval x = .slice A m c) (hflat : ∀ x cs, d.K W x cs → d.M W N (fun _ => False) x cs)
    (HS : St N W (Row d e v xs :: L)) (HC : d.C W A m ys) (HB : Below N w0 W) (hl : (xs.length + m) * bytes ≤ 140737488355328)
    (h : ∀ v1 w1, St N w1 (Row d e v1 (xs ++ ys) :: L) → Below N w0 w1 → Kc (a.put o.dst v1) w1) :
    if Region.wanted o (yielded ops a.tmps) = true then Oper.wp P o a W Kc Q else Kc (a.put o.dst undef) W := by
  obtain ⟨G, g0, g1, g2⟩ := HS.own
  refine Kd.R_append_rows_step d N hw s x t e z bytes ho ht hinfo hz hs0 hb0 v xs ys A m c (fun k => G k ∨ W.heap.size ≤ k) (fun _ => False) hs hx (Kd.R_mono g1 (fun k hk => .inl hk)) HC hflat (fun _ hk => hk.elim) (fun k hk => .inr hk) HB HS.size hl ?_
  intro v1 w1 hr hb hg _
  exact h v1 w1 (St.regrow HS.size (fun k hk => (g0 k hk).2) g1 g2 hr hg.size hg) hb
end
/-! ### a call of a function value -/
section
variable {P : Program} {ops : Array Oper} {rest : List Oper} {Q : Exit → Act → World → Prop}
theorem goesV_ {oi : Oper} {N : Option Tmp} {a : Act} {w : World} {K : Act → World → Prop} {f : FuncId} {fn : Func} {as : Array Operand} {ts : Array TypeId} {t : Tmp} (caps : Array Value) (hf : P.funcs[f]? = some fn) (hname : (fn.name == "runtime.NumGoroutine") = false) (hb : fn.body.isSome = true) (args : Array Value)
    (hw : Region.wanted oi (yielded ops a.tmps) = true) (hN : oi.dst = N) (hop : oi.op = .call { callee := .value (.tmp t), args := as, argTypes := ts }) (hv : a.eval (.tmp t) = .func (.func f) #[] caps) (hargs : as.map a.eval ++ caps = args)
    (h : Calls P f args w fun e w' => ∃ v, e = .returned v ∧ K (a.put N v) w') : if Region.wanted oi (yielded ops a.tmps) = true then Oper.wp P oi a w K Q else K (a.put N undef) w := by
  refine call_ f args hw hN ?_ h
  have he := enters_ hf hname hb args w
  unfold execOp
  simp [hop, resolve, Deferred.ofValue, invoke, hv, hargs, he]
theorem goesVL_ {oi : Oper} {a : Act} {w : World} (N : Option Tmp) (hd : oi.dst = N) (hg : oi.guard = none) {f : FuncId} {fn : Func} {as : Array Operand} {ts : Array TypeId} {t : Tmp} (caps : Array Value) (hf : P.funcs[f]? = some fn) (hname : (fn.name == "runtime.NumGoroutine") = false) (hb : fn.body.isSome = true) (args : Array Value)
    (hop : oi.op = .call { callee := .value (.tmp t), args := as, argTypes := ts }) (hv : a.eval (.tmp t) = .func (.func f) #[] caps) (hargs : as.map a.eval ++ caps = args)
    (h : Calls P f args w fun e w' => ∃ v, e = .returned v ∧ wpList P ops Q rest (a.put N v) w') : wpList P ops Q (oi :: rest) a w := by
  refine wpList_plain hg fun K hK => ?_
  have he := enters_ hf hname hb args w
  have hrun : (execOp a.eval oi).run P w = .ok (.enter f args) w := by
    unfold execOp
    simp [hop, resolve, Deferred.ofValue, invoke, hv, hargs, he]
  unfold Oper.wp
  rw [hrun, Oper.upon_enter]
  refine h.mono fun e w'' hh => ?_
  obtain ⟨v, rfl, hk⟩ := hh
  subst hd
  exact hK _ _ hk
end
/-! ### the steps of a drawn region, in few words -/
theorem p_put (a : Act) (n : Nat) (v : Value) : a.put (some n) v = ⟨a.tmps.setIfInBounds n v, a.defers⟩ := rfl
theorem p_none (a : Act) (v : Value) : a.put none v = a := rfl
theorem p_arr {α : Type} (l : List α) (i : Nat) (x : α) : l.toArray.setIfInBounds i x = (l.set i x).toArray := List.setIfInBounds_toArray l i x
theorem p_zero {α : Type} (x y : α) (l : List α) : (x :: l).set 0 y = y :: l := rfl
theorem p_succ {α : Type} (x y : α) (l : List α) (i : Nat) : (x :: l).set (i + 1) y = x :: l.set i y := rfl
section
variable {P : Program} {ops : Array Oper} {Q : Exit → Act → World → Prop} {md : Region.Mode} {S : World → Prop} {ds : List Nat} {T : Bool × List (List Nat × List Nat)} {B : List Nat}
theorem pU (i N : Nat) (l' : Array Bool) {oi : Oper} {fuel : Nat} {l : Array Bool} {a : Act} {w : World} (hi : ops[i]? = some oi) (hN : oi.dst = some N) (HT : Aside0 (rtab md ops = T))
    {v : Value} {a' : Act} (h : wpAnyLast P md ops Q S ds fuel l' a' w) (hc : anyT T l.toList l'.toList i = true := by kernel_rfl) (hw : Region.wanted oi (yielded ops a.tmps) = true := by rfl)
    (hy : ∀ w, (execOp a.eval oi).run P w = .ok (.value v) w := by intro w'; go_simp; with_reducible rfl) (ha : a.put (some N) v = a' := by simp only [p_put, p_arr, p_zero, p_succ, i64_w, i32_w]; rfl)
    (hQ : ∀ c a w, Q (.panic c) (a.put oi.dst v) w → Q (.panic c) a w := by exact fun _ _ _ h => h) : wpAnyLast P md ops Q S ds (fuel + 1) l a w :=
  pure_ l' hi hN (any_of HT.out hc) hQ (Or.inl ⟨hw, hy⟩) ha h
theorem pO (i : Nat) (N : Option Tmp) (l' : Array Bool) {oi : Oper} {fuel : Nat} {l : Array Bool} {a : Act} {w : World} (hi : ops[i]? = some oi) (hN : oi.dst = N) (HT : Aside0 (rtab md ops = T))
    {a' : Act} (h : wpAnyLast P md ops Q S ds fuel l' a' w) (hc : anyT T l.toList l'.toList i = true := by kernel_rfl) (hw : Region.wanted oi (yielded ops a.tmps) = false := by rfl)
    (ha : a.put N undef = a' := by first | (simp only [p_put, p_arr, p_zero, p_succ, i64_w, i32_w]; rfl) | (rw [p_none]))
    (hQ : ∀ c a w, Q (.panic c) (a.put oi.dst undef) w → Q (.panic c) a w := by exact fun _ _ _ h => h) : wpAnyLast P md ops Q S ds (fuel + 1) l a w :=
  pure_ l' hi hN (any_of HT.out hc) hQ (Or.inr ⟨hw, rfl⟩) ha h
theorem tK (i N : Nat) (l' : Array Bool) {oi : Oper} {fuel : Nat} {l : Array Bool} {a : Act} {w : World} (hi : ops[i]? = some oi) (hN : oi.dst = some N) (HT : Aside0 (rtab md ops = T)) (HW : Aside0 (waitsOk T.2 B = true)) (hS : S w)
    {v : Value} {a' : Act} (h : wpAnyLast P md ops Q S ds fuel l' a' w) (hy : ∀ w, S w → (execOp a.eval oi).run P w = .ok (.value v) w) (hc : takeW T B ds l.toList l'.toList i = true := by kernel_rfl)
    (hw : Region.wanted oi (yielded ops a.tmps) = true := by rfl) (ha : a.put (some N) v = a' := by simp only [p_put, p_arr, p_zero, p_succ, i64_w, i32_w]; rfl)
    (hQ : ∀ c a w, Q (.panic c) (a.put oi.dst v) w → Q (.panic c) a w := by exact fun _ _ _ h => h) : wpAnyLast P md ops Q S ds (fuel + 1) l a w :=
  take_ l' hi hN (take_ofW HT.out HW.out hc) hQ (Or.inl ⟨hw, hy⟩) hS ha h
end
end Go.Proofs.YtcjfgejiknlpfaaGreat.Sep
end

/-! # Sep3 -/
section
namespace Go.Proofs.YtcjfgejiknlpfaaGreat.Sep
open Go.RowKit Go.Proofs.YtcjfgejiknlpfaaGreatW.PrintWords Go.Proofs.YtcjfgejiknlpfaaGreatW.PrintLast
set_option linter.unusedVariables false
variable {N : Nat} {w w0 w1 : World} {L : List Res} {g : Nat} {t : TypeId}
theorem St.set2 {x y a b : Value} (h : St N w (Blk g #[x, y] t :: L)) (e : w1 = (w.setCell ⟨g, 0, none⟩ a).setCell ⟨g, 1, none⟩ b) : St N w1 (Blk g #[a, b] t :: L) := by
  subst e; exact (h.set 0 a #[a, y] rfl).set 1 b #[a, b] rfl
theorem St.below_set2 {x y a b : Value} (h : St N w (Blk g #[x, y] t :: L)) (hb : Below N w0 w) (e : w1 = (w.setCell ⟨g, 0, none⟩ a).setCell ⟨g, 1, none⟩ b) : Below N w0 w1 := by
  subst e; exact (h.set 0 a #[a, y] rfl).below_set (h.below_set hb)
theorem St.set3 {x y z a b c : Value} (h : St N w (Blk g #[x, y, z] t :: L)) (e : w1 = ((w.setCell ⟨g, 0, none⟩ a).setCell ⟨g, 1, none⟩ b).setCell ⟨g, 2, none⟩ c) : St N w1 (Blk g #[a, b, c] t :: L) := by
  subst e; exact ((h.set 0 a #[a, y, z] rfl).set 1 b #[a, b, z] rfl).set 2 c #[a, b, c] rfl
theorem St.below_set3 {x y z a b c : Value} (h : St N w (Blk g #[x, y, z] t :: L)) (hb : Below N w0 w) (e : w1 = ((w.setCell ⟨g, 0, none⟩ a).setCell ⟨g, 1, none⟩ b).setCell ⟨g, 2, none⟩ c) : Below N w0 w1 := by
  subst e; exact ((h.set 0 a #[a, y, z] rfl).set 1 b #[a, b, z] rfl).below_set ((h.set 0 a #[a, y, z] rfl).below_set (h.below_set hb))
end Go.Proofs.YtcjfgejiknlpfaaGreat.Sep
end

/-! # Sep4 -/
section
namespace Go.Proofs.YtcjfgejiknlpfaaGreat.Sep
open Go.RowKit Go.Sort Go.Proofs.YtcjfgejiknlpfaaGreatW.PrintWords Go.Proofs.YtcjfgejiknlpfaaGreatW.PrintLast
set_option linter.unusedVariables false

structure GD (W w : World) : Prop where mk :: (out : ∃ q os, w = grow (W.drewN q) os)
theorem GD.refl (W : World) : GD W W := ⟨⟨0, #[], by rw [grow_empty]; rfl⟩⟩
theorem GD.drew {W w : World} (h : GD W w) : GD W w.drew := by
  obtain ⟨q, os, rfl⟩ := h.out
  exact ⟨⟨q + 1, os, rfl⟩⟩
theorem GD.drewN {W w : World} (h : GD W w) (n : Nat) : GD W (w.drewN n) := by
  obtain ⟨q, os, rfl⟩ := h.out
  refine ⟨⟨q + n, os, ?_⟩⟩
  show grow ((W.drewN q).drewN n) os = _
  rw [World.drewN_drewN]
theorem GD.drawn {W w w1 : World} (h : GD W w) (hd : Drawn0 w w1) : GD W w1 := by
  obtain ⟨n, rfl⟩ := hd.out
  exact h.drewN n
theorem GD.alloc {W w : World} (h : GD W w) (o : Obj) : GD W (w.alloc o) := by
  obtain ⟨q, os, rfl⟩ := h.out
  exact ⟨⟨q, os ++ #[o], by rw [alloc_eq_grow, grow_grow]⟩⟩
theorem GD.trans {W w w1 : World} (h : GD W w) (k : GD w w1) : GD W w1 := by
  obtain ⟨q, os, rfl⟩ := h.out
  obtain ⟨q2, os2, rfl⟩ := k.out
  exact ⟨⟨q + q2, os ++ os2, by show grow (grow ((W.drewN q).drewN q2) os) os2 = _; rw [grow_grow, World.drewN_drewN]⟩⟩
section
variable {P : Program} {ops : Array Oper} {rest : List Oper} {o : Oper} {a : Act} {Q : Exit → Act → World → Prop} {Kc : Act → World → Prop} {α : Type} {N : Nat} {L : List Res}
theorem S_litD_step (d : Kd α) {W : World} (e : Nat) (hw : Region.wanted o (yielded ops a.tmps) = true) {Nt : Tmp} (hd : o.dst = some Nt) {xs : List α} {inner : List Value}
    (hrun : (execOp a.eval o).run P W = .ok (.value (.slice (some ⟨W.heap.size, 0, none⟩) xs.length xs.length)) (W.alloc (.cells inner.toArray e)))
    (hrep : Reps (d.M W W.heap.size (fun _ => True)) d.sz xs inner) (HS : St N W L) (hm : xs.length ≤ 9223372036854775807)
    (h : ∀ v1 w1, St N w1 (Row d e v1 xs :: L) → Below W.heap.size W w1 → w1 = W.alloc (.cells inner.toArray e) → Kc (a.put o.dst v1) w1) : if Region.wanted o (yielded ops a.tmps) = true then Oper.wp P o a W Kc Q else Kc (a.put o.dst undef) W := by
  have hb : Below W.heap.size W (W.alloc (.cells inner.toArray e)) := (Below.refl _ _).alloc (Nat.le_refl _) _
  refine event_step hw hrun (h _ _ (HS.made (ok := fun _ => True) ⟨fun k hk => trivial, inner, ?_, ?_⟩ hb) hb rfl)
  · have h2 := World.ownsRow_lit (base := W.heap.size) (e := e) (size := d.sz) W inner.toArray xs.length (Nat.le_refl _) (by simpa [maxLen] using hm) (by simpa using hrep.1)
    simpa using h2
  · refine hrep.imp_ (fun p c hp => d.M_mono (fun k hk => ⟨trivial, fun he => ?_⟩) (Kd.M_below (d.M_bound hp) (below_alloc (Below.refl _ _) _)))
    have h3 : k = W.heap.size := by simpa [Value.ownBlock] using he
    have := hk.2.2
    omega
end
end Go.Proofs.YtcjfgejiknlpfaaGreat.Sep
end

/-! # Sep2 -/
section
namespace Go.Proofs.YtcjfgejiknlpfaaGreat.Sep
open Go.RowKit Go.Proofs.YtcjfgejiknlpfaaGreatW.PrintWords Go.Proofs.YtcjfgejiknlpfaaGreatW.PrintLast
set_option linter.unusedVariables false
set_option linter.unusedSectionVars false
/-- Elements that are their cells: enc. -/
structure Flat {α : Type} (d : Kd α) (enc : α → List Value) : Prop where
  K : ∀ {w x cs}, d.K w x cs → cs = enc x
  M : ∀ w base ok x, d.M w base ok x (enc x)
  sz : ∀ x, (enc x).length = d.sz
  one : ∀ x v, v ∈ enc x → v.oneCell' = true
def encs {α : Type} (enc : α → List Value) : List α → List Value
  | [] => []
  | x :: xs => enc x ++ encs enc xs
section
variable {α : Type} {d : Kd α} {enc : α → List Value} (F : Flat d enc)
include F
theorem encs_len : ∀ xs : List α, (encs enc xs).length = xs.length * d.sz
  | [] => by simp [encs]
  | x :: xs => by rw [encs, List.length_append, F.sz, encs_len xs, List.length_cons, Nat.succ_mul, Nat.add_comm]
theorem encs_append : ∀ xs ys : List α, encs enc (xs ++ ys) = encs enc xs ++ encs enc ys
  | [], _ => rfl
  | x :: xs, ys => by rw [List.cons_append, encs, encs, encs_append xs ys, List.append_assoc]
theorem encs_one : ∀ (xs : List α) v, v ∈ encs enc xs → v.oneCell' = true
  | [], v, h => by simp [encs] at h
  | x :: xs, v, h => by
    rcases List.mem_append.mp h with h | h
    · exact F.one x v h
    · exact encs_one xs v h
theorem encs_take (xs : List α) (i : Nat) (hi : i ≤ xs.length) : (encs enc xs).take (i * d.sz) = encs enc (xs.take i) := by
  have h : encs enc xs = encs enc (xs.take i) ++ encs enc (xs.drop i) := by rw [← encs_append F, List.take_append_drop]
  rw [h, List.take_left' (by rw [encs_len F, List.length_take]; congr 1; omega)]
theorem encs_drop (xs : List α) (i : Nat) (hi : i ≤ xs.length) : (encs enc xs).drop (i * d.sz) = encs enc (xs.drop i) := by
  have h : encs enc xs = encs enc (xs.take i) ++ encs enc (xs.drop i) := by rw [← encs_append F, List.take_append_drop]
  rw [h, List.drop_left' (by rw [encs_len F, List.length_take]; congr 1; omega)]
theorem reps_encs {R : α → List Value → Prop} (hR : ∀ x, R x (enc x)) : ∀ xs : List α, Reps R d.sz xs (encs enc xs)
  | [] => Reps.none _ _
  | x :: xs => by
    have ih := reps_encs hR xs
    refine ⟨by rw [encs_len F], fun j p hj => ?_⟩
    cases j with
    | zero =>
      simp at hj
      subst hj
      rw [Nat.zero_mul, List.drop_zero, encs, List.take_left' (F.sz x)]
      exact hR x
    | succ j =>
      have h2 := ih.2 j p (by simpa using hj)
      rw [encs, Nat.succ_mul, Nat.add_comm, ← List.drop_drop, List.drop_left' (F.sz x)]
      exact h2
theorem inner_encs {R : α → List Value → Prop} (hR : ∀ x cs, R x cs → cs = enc x) : ∀ (xs : List α) (inner : List Value), Reps R d.sz xs inner → inner = encs enc xs
  | [], inner, h => by
    have := h.1
    simp at this
    rw [this]; rfl
  | x :: xs, inner, h => by
    have h0 := hR x _ (h.2 0 x rfl)
    rw [Nat.zero_mul, List.drop_zero] at h0
    have h1 : Reps R d.sz xs (inner.drop d.sz) := by
      refine ⟨by rw [List.length_drop, h.1, List.length_cons, Nat.succ_mul]; omega, fun j p hj => ?_⟩
      have := h.2 (j + 1) p (by simpa using hj)
      rw [List.drop_drop, Nat.add_comm]
      rwa [Nat.succ_mul] at this
    rw [encs, ← inner_encs hR xs _ h1, ← h0, List.take_append_drop]
variable {N : Nat} {w w1 w0 : World} {L : List Res} {e : Nat} {v : Value} {xs : List α}
theorem St.open_row (h : St N w (Row d e v xs :: L)) : (v = .slice none 0 0 ∧ xs = []) ∨ ∃ (g cap : Nat) (cur : List Value), v = .slice (some ⟨g, 0, none⟩) xs.length cap ∧ xs.length ≤ cap ∧ cap ≤ maxLen ∧ cur.length = cap * d.sz ∧ cur.take (xs.length * d.sz) = encs enc xs ∧ St N w (Blk g cur.toArray e :: L) := by
  obtain ⟨G, g0, g1, g2⟩ := h.own
  obtain ⟨hk, inner, ⟨hl, ho⟩, hr⟩ := g1
  have hi := inner_encs F (fun x cs hm => F.K (d.K_of_M hm)) xs inner hr
  rcases ho with ⟨rfl, hn⟩ | ⟨g, cap, cur, rfl, hg, hh, hc, hc2, hsz, ht⟩
  · exact .inl ⟨rfl, List.eq_nil_of_length_eq_zero hn⟩
  · exact .inr ⟨g, cap, cur.toList, rfl, hc, hc2, by simpa using hsz, by rw [ht, hi], h.size, G, g0, ⟨hk g (by simp [Value.ownBlock]), by simpa using hh⟩, g2⟩
theorem St.shut_row {g cap : Nat} {cur : List Value} (h : St N w (Blk g cur.toArray e :: L)) (hc : xs.length ≤ cap) (hc2 : cap ≤ maxLen) (hsz : cur.length = cap * d.sz) (ht : cur.take (xs.length * d.sz) = encs enc xs) : St N w (Row d e (.slice (some ⟨g, 0, none⟩) xs.length cap) xs :: L) := by
  obtain ⟨G, g0, g1, g2⟩ := h.own
  refine ⟨h.size, G, g0, ⟨fun k hk => ?_, encs enc xs, ⟨encs_len F xs, .inr ⟨g, cap, cur.toArray, rfl, (g0 g g1.1).2.1, g1.2, hc, hc2, by simpa using hsz, by simpa using ht⟩⟩, reps_encs F (fun x => F.M _ _ _ x) xs⟩, g2⟩
  have : g = k := by simpa [Value.ownBlock] using hk
  exact this ▸ g1.1
end
theorem St.rowC {α : Type} {d : Kd α} {N : Nat} {w : World} {L : List Res} {e : Nat} {A : Option Addr} {n c : Nat} {xs : List α} (h : St N w (Row d e (.slice A n c) xs :: L)) : n = xs.length ∧ xs.length ≤ c ∧ d.C w A xs.length xs := by
  obtain ⟨A1, c1, e1, h1, h2⟩ := h.reads
  simp at e1
  obtain ⟨rfl, rfl, rfl⟩ := e1
  exact ⟨rfl, h1, h2⟩
theorem St.cutRow {α : Type} {d : Kd α} {enc : α → List Value} (F : Flat d enc) {N : Nat} {w : World} {L : List Res} {e : Nat} {A : Option Addr} {n c : Nat} {xs : List α} (h : St N w (Row d e (.slice A n c) xs :: L)) (k : Nat) (hk : k ≤ xs.length) : St N w (Row d e (.slice A k c) (xs.take k) :: L) := by
  rcases St.open_row F h with ⟨e1, h1⟩ | ⟨g, cap, cur, e1, h1, h2, h3, h4, h5⟩
  · subst h1
    simp at e1 hk
    obtain ⟨rfl, rfl, rfl⟩ := e1
    subst hk
    exact h
  · simp at e1
    obtain ⟨rfl, rfl, rfl⟩ := e1
    have hl : (xs.take k).length = k := by rw [List.length_take]; omega
    have := St.shut_row F (xs := xs.take k) h5 (by rw [hl]; omega) h2 h3 (by
      rw [hl, ← encs_take F xs k hk, ← h4, List.take_take, Nat.min_eq_left (Nat.mul_le_mul_right _ hk)])
    rwa [hl] at this
variable {N : Nat} {w w1 w0 : World} {L : List Res}
theorem St.ne {g g' : Nat} {cs cs' : Array Value} {t t' : TypeId} (h : St N w (Blk g cs t :: Blk g' cs' t' :: L)) : g ≠ g' := by
  obtain ⟨G, g0, g1, G2, h0, h1, _⟩ := h.own
  intro e
  exact (h0 g' h1.1).1.2 (e ▸ g1.1)
theorem shape_of {g : Nat} {cs : Array Value} {t : TypeId} (h : w.heap[g]? = some (.cells cs t (0, 0))) : w.shape? g = some (t, cs.size) := by simp [World.shape?, h]
theorem St.setRow {g : Nat} {cs : Array Value} {t : TypeId} (h : St N w (Blk g cs t :: L)) (cs' : Array Value) : St N (w.setRow g cs') (Blk g cs' t :: L) := by
  have hs : (w.setRow g cs').heap.size = w.heap.size := by simp [World.setRow]
  exact h.upd (Nat.le_of_eq hs.symm) (fun G g0 hg => ⟨fun k hk hn => setRow_other w g k cs' (fun e => hn (e ▸ hg.1)), G, fun k hk => ⟨.inl hk, by rw [hs]; exact (g0 k hk).2⟩, hg.1, setRow_heap w g _ _ t _ hg.2⟩)
section
variable {P : Program} {ops : Array Oper} {rest : List Oper} {o : Oper} {a : Act} {Q : Exit → Act → World → Prop} {K : Act → World → Prop}
theorem run_copy_row_k (w : World) (dT sT ty elem : TypeId) (g o dLen dCap : Nat) (a : Addr) (sLen sCap k : Nat) (cur : Array Value) (t : TypeId) (cs : List Value)
    (hu : P.underlying dT = some (.slice elem)) (hs : (P.info? elem).map (·.size) = some k)
    (hg : w.heap[g]? = some (.cells cur t (0, 0))) (hn : cs.length = Nat.min sLen dLen * k)
    (hsrc : ∀ j v, cs[j]? = some v → w.cell? (a.add j) = some v) (hfit : o + cs.length ≤ cur.size) (h1 : ∀ v ∈ cs, v.oneCell' = true) :
    (Builtin.copy_ #[dT, sT] ty #[.slice (some ⟨g, o, none⟩) dLen dCap, .slice (some a) sLen sCap]).run P w =
      .ok (goInt (Nat.min sLen dLen)) (w.setRow g (cur.toList.take o ++ cs ++ cur.toList.drop (o + cs.length)).toArray) := by
  have hl := run_loadCells_list (P := P) w a cs hsrc
  have hst := run_storeCells_at P g o t cs 0 cur w hg (by simpa using hfit) h1
  cases hq : P.info? elem with
  | none => simp [hq] at hs
  | some i =>
    have hi : i.size = k := by simpa [hq] using hs
    simp [Builtin.copy_, run_underlying hu, Builtin.lenOf, Builtin.firstCells, sizeOf, typeInfo, hq, hi, ← hn, hl, hst]
theorem S_copy {W : World} (hgd : o.guard = none) (d s : Operand) (dT sT : TypeId)
    (ho : o.op = .call { callee := .builtin .copy, args := #[d, s], argTypes := #[dT, sT] }) (elem : TypeId) (hu : P.underlying dT = some (.slice elem)) (k : Nat) (hsz : (P.info? elem).map (·.size) = some k)
    (g off0 off dLen dCap gs so0 so sLen sCap : Nat) (hd : a.eval d = .slice (some ⟨g, off0, none⟩) dLen dCap) (hs : a.eval s = .slice (some ⟨gs, so0, none⟩) sLen sCap)
    (cur : List Value) (t : TypeId) (cs : List Value) (ho1 : off0 = off) (ho2 : so0 = so) (hn : cs.length = Nat.min sLen dLen * k)
    (hsrc : ∀ j v, cs[j]? = some v → W.cell? ⟨gs, so + j, none⟩ = some v) (hfit : off + cs.length ≤ cur.length) (h1 : ∀ v ∈ cs, v.oneCell' = true)
    (HS : St N W (Blk g cur.toArray t :: L)) (HB : Below N w0 W)
    (h : ∀ w1, St N w1 (Blk g (splice cur off cs).toArray t :: L) → Below N w0 w1 → wpList P ops Q rest (a.put o.dst (goInt (Nat.min sLen dLen))) w1) : wpList P ops Q (o :: rest) a W := by
  subst ho1 ho2
  refine wpList_plain hgd fun K hK => ?_
  have hrun := run_copy_row_k (P := P) W dT sT o.type elem g off0 dLen dCap ⟨gs, so0, none⟩ sLen sCap k cur.toArray t cs hu hsz HS.blk hn (fun j v hj => by rw [Addr.add_lit]; exact hsrc j v hj) (by simpa using hfit) h1
  unfold Oper.wp
  simp [execOp, ho, resolve, invoke, builtin, hd, hs, hrun, Result.andThen]
  refine hK _ _ (h _ ?_ (below_setRow HB HS.ge _))
  have := HS.setRow (splice cur off0 cs).toArray
  simpa [splice] using this
theorem S_copy_step {W : World} (hw : Region.wanted o (yielded ops a.tmps) = true) (d s : Operand) (dT sT : TypeId)
    (ho : o.op = .call { callee := .builtin .copy, args := #[d, s], argTypes := #[dT, sT] }) (elem : TypeId) (hu : P.underlying dT = some (.slice elem)) (k : Nat) (hsz : (P.info? elem).map (·.size) = some k)
    (g off0 off dLen dCap gs so0 so sLen sCap : Nat) (hd : a.eval d = .slice (some ⟨g, off0, none⟩) dLen dCap) (hs : a.eval s = .slice (some ⟨gs, so0, none⟩) sLen sCap)
    (cur : List Value) (t : TypeId) (cs : List Value) (ho1 : off0 = off) (ho2 : so0 = so) (hn : cs.length = Nat.min sLen dLen * k)
    (hsrc : ∀ j v, cs[j]? = some v → W.cell? ⟨gs, so + j, none⟩ = some v) (hfit : off + cs.length ≤ cur.length) (h1 : ∀ v ∈ cs, v.oneCell' = true)
    (HS : St N W (Blk g cur.toArray t :: L)) (HB : Below N w0 W)
    (h : ∀ w1, St N w1 (Blk g (splice cur off cs).toArray t :: L) → Below N w0 w1 → K (a.put o.dst (goInt (Nat.min sLen dLen))) w1) : if Region.wanted o (yielded ops a.tmps) = true then Oper.wp P o a W K Q else K (a.put o.dst undef) W := by
  subst ho1 ho2
  rw [if_pos hw]
  have hrun := run_copy_row_k (P := P) W dT sT o.type elem g off0 dLen dCap ⟨gs, so0, none⟩ sLen sCap k cur.toArray t cs hu hsz HS.blk hn (fun j v hj => by rw [Addr.add_lit]; exact hsrc j v hj) (by simpa using hfit) h1
  unfold Oper.wp
  simp [execOp, ho, resolve, invoke, builtin, hd, hs, hrun, Result.andThen]
  refine h _ ?_ (below_setRow HB HS.ge _)
  have := HS.setRow (splice cur off0 cs).toArray
  simpa [splice] using this
/-- append(v[:i], make([]T, k)...) where there is no room: a new row beside the old. -/
theorem S_append_zeros {w0 W : World} (size : Nat) (hgd : o.guard = none) (s x : Operand) (t tn e : TypeId) (z : Value) (bytes : Nat)
    (ho : o.op = .call { callee := .builtin .append, args := #[s, x], argTypes := #[t, tn] }) (ht : P.underlying t = some (.slice e)) (htn : P.underlying tn = some (.int .i64))
    (hinfo : (P.info? e).map (fun i => (i.zero, i.size, i.bytes)) = some (some z, size, bytes)) (hz : z.cells.size = size) (hs0 : 0 < size) (hb0 : 0 < bytes)
    (g i c k len : Nat) (hlen : i + k = len) (kv : Int) (hs : a.eval s = .slice (some ⟨g, 0, none⟩) i c) (hx : a.eval x = .int .i64 kv) (hkv : kv = (k : Nat)) (cur : List Value) (hi : i * size ≤ cur.length) (hk : 0 < k) (hg : c < i + k) (hbig : (i + k) * bytes ≤ 140737488355328)
    (HS : St N W (Blk g cur.toArray e :: L)) (HB : Below N w0 W)
    (h : ∀ (g1 G : Nat) (zs : List Value) (w1 : World), len ≤ G → G ≤ maxLen → zs.length = (G - i) * size → St N w1 (Blk g1 (cur.take (i * size) ++ zs).toArray e :: Blk g cur.toArray e :: L) → Below N w0 w1 → wpList P ops Q rest (a.put o.dst (.slice (some ⟨g1, 0, none⟩) len G)) w1) :
    wpList P ops Q (o :: rest) a W := by
  subst hkv hlen
  obtain ⟨i0, hi0, hz0, hzs, hzb⟩ := info_parts hinfo
  have h63 : i + k ≤ 140737488355328 := Nat.le_trans (Nat.le_mul_of_pos_right _ hb0) hbig
  have hkb : k * bytes ≤ (i + k) * bytes := Nat.mul_le_mul_right _ (by omega)
  have hold : (Builtin.firstCells i0.size i (.slice (some ⟨g, 0, none⟩) i c)).run P W.drew = .ok (cur.take (i * size)).toArray W.drew := by
    rw [hzs]
    refine run_firstCells_some W.drew size i ⟨g, 0, none⟩ i c (cur.take (i * size)) (by rw [List.length_take]; omega) (fun j v hj => ?_)
    have h1 := HS.drew.cell (i := j)
    rw [List.getElem?_take] at hj
    split at hj
    · rw [Addr.add_lit, Nat.zero_add, h1]; simpa using hj
    · cases hj
  have hrun := Lib.run_append_grow_zeros W t tn o.type e i0 z .i64 .i64 ht htn hi0 hz0 (some ⟨g, 0, none⟩) i c (cur.take (i * size)) hold k hk (by omega) hg (by omega) (by rw [hzb]; omega) (by rw [hzb]; exact growslice_fits hg hbig)
  refine Lib.wpList_append_run W hgd s x t tn ho _ _ hs hx _ _ hrun ?_
  have hG := grownCap_ge W (i + k) c e
  have hGm := grownCap_le_maxLen W (i + k) c e (by unfold maxLen; omega)
  generalize grownCap W (i + k) c e = G at hG hGm ⊢
  refine h W.heap.size G ((Builtin.zeroCells z.cells k).toList ++ (Builtin.zeroCells z.cells (G - (i + k))).toList) _ hG hGm ?_ ?_ ?_
  · rw [List.length_append, Array.length_toList, Array.length_toList, size_zeroCells, size_zeroCells, hz, ← Nat.add_mul]; congr 1; omega
  · have hd := HS.drew
    refine hd.box (g := W.heap.size) rfl ?_ ((Below.refl _ _).alloc (Nat.le_refl _) _)
    have e1 : (cur.take (i * size) ++ ((Builtin.zeroCells z.cells k).toList ++ (Builtin.zeroCells z.cells (G - (i + k))).toList)).toArray = (cur.take (i * size)).toArray ++ Builtin.zeroCells z.cells k ++ Builtin.zeroCells z.cells (G - (i + k)) := by
      apply Array.ext'; simp
    rw [e1]
    exact blk_new W.drew _
  · exact (below_drew1 HB).alloc HS.size _
end
theorem splice_mid {α : Type} (A X B Y : List α) (h : X.length = Y.length) : splice (A ++ (X ++ B)) A.length Y = A ++ (Y ++ B) := by
  unfold splice
  rw [List.take_left' rfl, ← h, ← List.append_assoc A X B, List.drop_left' (by rw [List.length_append])]
theorem take3 {α : Type} (A X B D : List α) (n : Nat) (h : n = A.length + X.length + B.length) : (A ++ (X ++ (B ++ D))).take n = A ++ (X ++ B) := by
  rw [show A ++ (X ++ (B ++ D)) = (A ++ (X ++ B)) ++ D by simp, List.take_left' (by simp; omega)]
theorem ins_room {α : Type} (cur A B C X : List α) (p q n : Nat) (hc : cur = A ++ (B ++ C)) (hp : p = A.length) (hq : q = p + X.length) (hn : n = q + B.length) (h : X.length ≤ C.length) : (splice (splice cur q B) p X).take n = A ++ (X ++ B) := by
  subst hc hp hq hn
  have e : splice (A ++ (B ++ C)) (A.length + X.length) B = A ++ ((B ++ C).take X.length ++ (B ++ (A ++ (B ++ C)).drop (A.length + X.length + B.length))) := by
    unfold splice
    rw [List.take_append, List.take_of_length_le (by omega), show A.length + X.length - A.length = X.length by omega, List.append_assoc]
  rw [e, splice_mid _ _ _ _ (by rw [List.length_take, List.length_append]; omega), take3 _ _ _ _ _ rfl]
theorem ins_grow {α : Type} (A zs X B : List α) (p q n : Nat) (hp : p = A.length) (hq : q = p + X.length) (hn : n = q + B.length) (h : X.length + B.length ≤ zs.length) : (splice (splice (A ++ zs) p X) q B).take n = A ++ (X ++ B) := by
  subst hp hq hn
  have e : zs = zs.take X.length ++ ((zs.drop X.length).take B.length ++ (zs.drop X.length).drop B.length) := by rw [List.take_append_drop, List.take_append_drop]
  rw [e, splice_mid _ _ _ _ (by rw [List.length_take]; omega), ← List.append_assoc A X, show A.length + X.length = (A ++ X).length by simp, splice_mid _ _ _ _ (by rw [List.length_take, List.length_drop]; omega), List.append_assoc, take3 _ _ _ _ _ (by simp)]
end Go.Proofs.YtcjfgejiknlpfaaGreat.Sep
end

/-! # Fld -/
section
namespace Go.Proofs.YtcjfgejiknlpfaaGreat.Sep
open Go.RowKit Go.Proofs.YtcjfgejiknlpfaaGreatW.PrintWords Go.Proofs.YtcjfgejiknlpfaaGreatW.PrintLast
set_option linter.unusedVariables false
set_option linter.unusedSectionVars false
section
variable {α : Type} {d : Kd α} {enc : α → List Value} (F : Flat d enc)
include F
theorem encs_field (j : Nat) (u : Value) (x' : α) : ∀ (l : List α) (i : Nat) (hi : i < l.length), j < d.sz → (enc l[i]).set j u = enc x' → Sep.encs enc (l.set i x') = (Sep.encs enc l).set (i * d.sz + j) u
  | [], i, hi, _, _ => absurd hi (Nat.not_lt_zero i)
  | y :: l, 0, hi, hj, he => by
    simp only [List.getElem_cons_zero] at he
    rw [List.set_cons_zero, Sep.encs, Sep.encs, Nat.zero_mul, Nat.zero_add, List.set_append_left _ _ (by rw [F.sz]; exact hj), he]
  | y :: l, i + 1, hi, hj, he => by
    simp only [List.getElem_cons_succ] at he
    have ih := encs_field j u x' l i (by simpa using hi) hj he
    have e1 : (i + 1) * d.sz + j - (enc y).length = i * d.sz + j := by rw [F.sz, Nat.succ_mul]; omega
    rw [List.set_cons_succ, Sep.encs, Sep.encs, ih, List.set_append_right _ _ (by rw [F.sz, Nat.succ_mul]; omega), e1]
variable {N : Nat} {w w0 w1 : World} {L : List Res} {e : Nat} {v : Value} {l : List α}
theorem St.row_some (h : St N w (Row d e v l :: L)) (hl : 0 < l.length) : ∃ g cap, v = .slice (some ⟨g, 0, none⟩) l.length cap ∧ ∀ i, w.frozen? ⟨g, i, none⟩ = false := by
  rcases St.open_row F h with ⟨_, h1⟩ | ⟨g, cap, cur, e1, _, _, _, _, h5⟩
  · rw [h1] at hl; simp at hl
  · exact ⟨g, cap, e1, fun i => h5.frozen i⟩
theorem St.field {g n cap : Nat} (h : St N w (Row d e (.slice (some ⟨g, 0, none⟩) n cap) l :: L)) (i j : Nat) (u : Value) (x' : α) (hi : i < l.length) (hj : j < d.sz) (he : (enc l[i]).set j u = enc x') (hb : Below N w0 w) :
    St N (w.setCell ⟨g, i * d.sz + j, none⟩ u) (Row d e (.slice (some ⟨g, 0, none⟩) n cap) (l.set i x') :: L) ∧ Below N w0 (w.setCell ⟨g, i * d.sz + j, none⟩ u) := by
  rcases St.open_row F h with ⟨e1, _⟩ | ⟨g', cap', cur, e1, h1, h2, h3, h4, h5⟩
  · cases e1
  · cases e1
    refine ⟨?_, hb.setCell h5.ge _⟩
    have h6 := h5.set (i * d.sz + j) u (cur.set (i * d.sz + j) u).toArray (by simp)
    have := St.shut_row F (xs := l.set i x') h6 (by simpa using h1) h2 (by rw [List.length_set]; exact h3) (by
      rw [List.length_set, List.take_set, h4, encs_field F j u x' l i hi hj he])
    rwa [List.length_set] at this
end
end Go.Proofs.YtcjfgejiknlpfaaGreat.Sep
end

/-! # Nine -/
section
namespace Go.Proofs.YtcjfgejiknlpfaaGreat.PI
open Go.RowKit Go.Proofs.YtcjfgejiknlpfaaGreatW.PrintWords Go.Proofs.YtcjfgejiknlpfaaGreatW.PrintLast Go.Proofs.YtcjfgejiknlpfaaGreatW.PrintMore Go.Proofs.YtcjfgejiknlpfaaGreat.Sep
set_option linter.unusedVariables false
section
variable {N : Nat} {w w0 : World} {L : List Res} {g : Nat} {t : TypeId}
theorem set9 {o0 o1 o2 o3 o4 o5 o6 o7 o8 : Value} (n0 n1 n2 n3 n4 n5 n6 n7 n8 : Value) (h : St N w (Blk g #[o0, o1, o2, o3, o4, o5, o6, o7, o8] t :: L)) (hb : Below N w0 w) :
    St N (((((((((w.setCell ⟨g, 0, none⟩ n0).setCell ⟨g, 1, none⟩ n1).setCell ⟨g, 2, none⟩ n2).setCell ⟨g, 3, none⟩ n3).setCell ⟨g, 4, none⟩ n4).setCell ⟨g, 5, none⟩ n5).setCell ⟨g, 6, none⟩ n6).setCell ⟨g, 7, none⟩ n7).setCell ⟨g, 8, none⟩ n8) (Blk g #[n0, n1, n2, n3, n4, n5, n6, n7, n8] t :: L) ∧ Below N w0 (((((((((w.setCell ⟨g, 0, none⟩ n0).setCell ⟨g, 1, none⟩ n1).setCell ⟨g, 2, none⟩ n2).setCell ⟨g, 3, none⟩ n3).setCell ⟨g, 4, none⟩ n4).setCell ⟨g, 5, none⟩ n5).setCell ⟨g, 6, none⟩ n6).setCell ⟨g, 7, none⟩ n7).setCell ⟨g, 8, none⟩ n8) := by
  have s0 := h.set 0 n0 #[n0, o1, o2, o3, o4, o5, o6, o7, o8] rfl
  have b0 := h.below_set (i := 0) (u := n0) hb
  have s1 := s0.set 1 n1 #[n0, n1, o2, o3, o4, o5, o6, o7, o8] rfl
  have b1 := s0.below_set (i := 1) (u := n1) b0
  have s2 := s1.set 2 n2 #[n0, n1, n2, o3, o4, o5, o6, o7, o8] rfl
  have b2 := s1.below_set (i := 2) (u := n2) b1
  have s3 := s2.set 3 n3 #[n0, n1, n2, n3, o4, o5, o6, o7, o8] rfl
  have b3 := s2.below_set (i := 3) (u := n3) b2
  have s4 := s3.set 4 n4 #[n0, n1, n2, n3, n4, o5, o6, o7, o8] rfl
  have b4 := s3.below_set (i := 4) (u := n4) b3
  have s5 := s4.set 5 n5 #[n0, n1, n2, n3, n4, n5, o6, o7, o8] rfl
  have b5 := s4.below_set (i := 5) (u := n5) b4
  have s6 := s5.set 6 n6 #[n0, n1, n2, n3, n4, n5, n6, o7, o8] rfl
  have b6 := s5.below_set (i := 6) (u := n6) b5
  have s7 := s6.set 7 n7 #[n0, n1, n2, n3, n4, n5, n6, n7, o8] rfl
  have b7 := s6.below_set (i := 7) (u := n7) b6
  have s8 := s7.set 8 n8 #[n0, n1, n2, n3, n4, n5, n6, n7, n8] rfl
  have b8 := s7.below_set (i := 8) (u := n8) b7
  exact ⟨s8, b8⟩
theorem cells9 {c0 c1 c2 c3 c4 c5 c6 c7 c8 : Value} (h : St N w (Blk g #[c0, c1, c2, c3, c4, c5, c6, c7, c8] t :: L)) : w.cell? ⟨g, 0, none⟩ = some c0 ∧ w.cell? ⟨g, 1, none⟩ = some c1 ∧ w.cell? ⟨g, 2, none⟩ = some c2 ∧ w.cell? ⟨g, 3, none⟩ = some c3 ∧ w.cell? ⟨g, 4, none⟩ = some c4 ∧ w.cell? ⟨g, 5, none⟩ = some c5 ∧ w.cell? ⟨g, 6, none⟩ = some c6 ∧ w.cell? ⟨g, 7, none⟩ = some c7 ∧ w.cell? ⟨g, 8, none⟩ = some c8 :=
  ⟨(h.cell 0).trans rfl, (h.cell 1).trans rfl, (h.cell 2).trans rfl, (h.cell 3).trans rfl, (h.cell 4).trans rfl, (h.cell 5).trans rfl, (h.cell 6).trans rfl, (h.cell 7).trans rfl, (h.cell 8).trans rfl⟩
theorem frozen9 {cs : Array Value} (h : St N w (Blk g cs t :: L)) : w.frozen? ⟨g, 0, none⟩ = false ∧ w.frozen? ⟨g, 1, none⟩ = false ∧ w.frozen? ⟨g, 2, none⟩ = false ∧ w.frozen? ⟨g, 3, none⟩ = false ∧ w.frozen? ⟨g, 4, none⟩ = false ∧ w.frozen? ⟨g, 5, none⟩ = false ∧ w.frozen? ⟨g, 6, none⟩ = false ∧ w.frozen? ⟨g, 7, none⟩ = false ∧ w.frozen? ⟨g, 8, none⟩ = false :=
  ⟨h.frozen 0, h.frozen 1, h.frozen 2, h.frozen 3, h.frozen 4, h.frozen 5, h.frozen 6, h.frozen 7, h.frozen 8⟩
end
end Go.Proofs.YtcjfgejiknlpfaaGreat.PI
end

/-! # Sep5 -/
section
namespace Go.Proofs.YtcjfgejiknlpfaaGreat.Sep
open Go.RowKit Go.Proofs.YtcjfgejiknlpfaaGreatW.PrintWords Go.Proofs.YtcjfgejiknlpfaaGreatW.PrintLast
set_option linter.unusedVariables false
section
variable {P : Program} {ops : Array Oper} {rest : List Oper} {o : Oper} {a : Act} {Q : Exit → Act → World → Prop} {α : Type} {N : Nat} {L : List Res}
theorem S_append_zs (d : Kd α) {w0 W : World} (hgd : o.guard = none) (s x : Operand) (t ti e : TypeId) (z : Value) (bytes : Nat)
    (ho : o.op = .call { callee := .builtin .append, args := #[s, x], argTypes := #[t, ti] })
    (ht : P.underlying t = some (.slice e)) {k : IntKind} (hti : P.underlying ti = some (.int k)) (hinfo : (P.info? e).map (fun i => (i.zero, i.size, i.bytes)) = some (some z, d.sz, bytes)) (hz : z.cells.size = d.sz) (hs0 : 0 < d.sz) (hb0 : 0 < bytes)
    (v : Value) (xs : List α) (z0 : α) {kx : IntKind} (n : Int) (hs : a.eval s = v) (hx : a.eval x = .int kx n) (hzero : d.M W N (fun _ => False) z0 z.cells.toList)
    (HS : St N W (Row d e v xs :: L)) (h0 : 0 ≤ n) (HB : Below N w0 W) (hl : (xs.length + n.toNat) * bytes ≤ 140737488355328)
    (h : ∀ v1 w1, St N w1 (Row d e v1 (xs ++ List.replicate n.toNat z0) :: L) → Below N w0 w1 → wpList P ops Q rest (a.put o.dst v1) w1) :
    wpList P ops Q (o :: rest) a W := by
  obtain ⟨G, g0, g1, g2⟩ := HS.own
  refine Kd.R_append_zeros d N hgd s x t ti e z bytes ho ht hti hinfo hz hs0 hb0 v xs z0 n (fun k => G k ∨ W.heap.size ≤ k) hs hx hzero (fun k hk => .inr hk) (Kd.R_mono g1 (fun k hk => .inl hk)) h0 HB HS.size hl ?_
  intro v1 w1 hr hb hg _
  exact h v1 w1 (St.regrow HS.size (fun k hk => (g0 k hk).2) g1 g2 hr hg.size hg) hb
theorem lit_event {W : World} (hgd : o.guard = none) {Nt : Tmp} (_hd : o.dst = some Nt) {cs : Array Value} {t : TypeId} {n : Nat}
    (hrun : (execOp a.eval o).run P W = .ok (.value (.slice (some ⟨W.heap.size, 0, none⟩) n n)) (W.alloc (.cells cs t (0, 0))))
    (h : ∀ g, g = W.heap.size → ∀ w1, w1.heap[g]? = some (.cells cs t (0, 0)) → Below W.heap.size W w1 → wpList P ops Q rest (a.put o.dst (.slice (some ⟨g, 0, none⟩) n n)) w1) : wpList P ops Q (o :: rest) a W :=
  Kd.event_run hgd hrun (h _ rfl _ (blk_new W _) (below_alloc (Below.refl _ _) _))
theorem box_step {Kc : Act → World → Prop} {W : World} (hw : Region.wanted o (yielded ops a.tmps) = true) {Nt : Tmp} (_hd : o.dst = some Nt) {cs : Array Value} {t : TypeId}
    (hrun : (execOp a.eval o).run P W = .ok (.value (.pointer (some ⟨W.heap.size, 0, none⟩))) (W.alloc (.cells cs t (0, 0))))
    (h : ∀ g, g = W.heap.size → ∀ w1, w1.heap[g]? = some (.cells cs t (0, 0)) → Below W.heap.size W w1 → Kc (a.put o.dst (.pointer (some ⟨g, 0, none⟩))) w1) : if Region.wanted o (yielded ops a.tmps) = true then Oper.wp P o a W Kc Q else Kc (a.put o.dst undef) W :=
  event_step hw hrun (h _ rfl _ (blk_new W _) (below_alloc (Below.refl _ _) _))
end
end Go.Proofs.YtcjfgejiknlpfaaGreat.Sep
end
