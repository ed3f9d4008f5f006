/- Memory told in pieces: a list of things that the call owns, each in blocks of its own; whatever one piece's blocks suffer leaves the others as they are. -/
import Derived.Test.YtcjfgejiknlpfaaV0
namespace Go.Proofs.Ytcjfgejiknlpfaa.Sep
open Go.RowKit Go.Proofs.YtcjfgejiknlpfaaW.PrintWords Go.Proofs.YtcjfgejiknlpfaaW.PrintLast
set_option linter.unusedVariables false

/-- A piece of memory: what it says of a world, its blocks being those of F (from block N on). -/
structure Res where
  sat : Nat → World → (Nat → Prop) → Prop
  move : ∀ {N : Nat} {w w1 : World} {F : Nat → Prop}, (∀ k, F k → k < w.heap.size → w1.heap[k]? = w.heap[k]?) → sat N w F → sat N w1 F
  mono : ∀ {N : Nat} {w : World} {F G : Nat → Prop}, (∀ k, F k → G k) → sat N w F → sat N w G

/-- A block that is known whole. -/
def Blk (g : Nat) (cs : Array Value) (t : TypeId) : Res where
  sat := fun _ w F => F g ∧ w.heap[g]? = some (.cells cs t (0, 0))
  move := fun hm h => ⟨h.1, (hm g h.1 (blk_lt h.2)).trans h.2⟩
  mono := fun hm h => ⟨hm _ h.1, h.2⟩
/-- A row of elements, with the rows inside them. -/
def Row {α : Type} (d : Kd α) (e : Nat) (v : Value) (xs : List α) : Res where
  sat := fun N w F => d.R e w N F v xs
  move := fun hm h => Kd.R_step h hm
  mono := fun hm h => Kd.R_mono h hm
/-- Nothing. -/
def Nil : Res where
  sat := fun _ _ _ => True
  move := fun _ h => h
  mono := fun _ h => h
/-- Two pieces as one. -/
def Two (a b : Res) : Res where
  sat := fun N w F => ∃ G : Nat → Prop, (∀ k, G k → F k) ∧ a.sat N w G ∧ b.sat N w (fun k => F k ∧ ¬ G k)
  move := fun hm ⟨G, h0, h1, h2⟩ => ⟨G, h0, a.move (fun k hk => hm k (h0 k hk)) h1, b.move (fun k hk => hm k hk.1) h2⟩
  mono := fun hm ⟨G, h0, h1, h2⟩ => ⟨G, fun k hk => hm k (h0 k hk), h1, b.mono (fun k hk => ⟨hm k hk.1, hk.2⟩) h2⟩
/-- There is a value .. -/
def Some_ {σ : Type} (f : σ → Res) : Res where
  sat := fun N w F => ∃ s, (f s).sat N w F
  move := fun hm ⟨s, h⟩ => ⟨s, (f s).move hm h⟩
  mono := fun hm ⟨s, h⟩ => ⟨s, (f s).mono hm h⟩
/-- A plain fact beside a piece. -/
def And_ (p : Prop) (r : Res) : Res where
  sat := fun N w F => p ∧ r.sat N w F
  move := fun hm h => ⟨h.1, r.move hm h.2⟩
  mono := fun hm h => ⟨h.1, r.mono hm h.2⟩

def Own (N : Nat) (w : World) : List Res → (Nat → Prop) → Prop
  | [], _ => True
  | r :: L, F => ∃ G : Nat → Prop, (∀ k, G k → F k ∧ N ≤ k ∧ k < w.heap.size) ∧ r.sat N w G ∧ Own N w L (fun k => F k ∧ ¬ G k)
/-- The call owns these pieces, all of them at or beyond block N. -/
structure St (N : Nat) (w : World) (L : List Res) : Prop where
  mk :: (size : N ≤ w.heap.size) (own : Own N w L (fun _ => True))

variable {N : Nat} {w w1 : World} {L M : List Res} {r s : Res}

theorem Own.imp : ∀ {L : List Res} {F G : Nat → Prop}, (∀ k, F k → G k) → Own N w L F → Own N w L G
  | [], _, _, _, _ => trivial
  | _ :: _, _, _, hi, ⟨H, h0, h1, h2⟩ => ⟨H, fun k hk => ⟨hi k (h0 k hk).1, (h0 k hk).2⟩, h1, h2.imp (fun k hk => ⟨hi k hk.1, hk.2⟩)⟩
theorem Own.move : ∀ {L : List Res} {F : Nat → Prop}, w.heap.size ≤ w1.heap.size → (∀ k, F k → k < w.heap.size → w1.heap[k]? = w.heap[k]?) → Own N w L F → Own N w1 L F
  | [], _, _, _, _ => trivial
  | r :: _, _, hs, hm, ⟨H, h0, h1, h2⟩ => ⟨H, fun k hk => ⟨(h0 k hk).1, (h0 k hk).2.1, Nat.lt_of_lt_of_le (h0 k hk).2.2 hs⟩, r.move (fun k hk => hm k (h0 k hk).1) h1, h2.move hs (fun k hk => hm k hk.1)⟩
theorem Own.bound : ∀ {L : List Res} {F : Nat → Prop}, Own N w L F → Own N w L (fun k => F k ∧ N ≤ k ∧ k < w.heap.size)
  | [], _, _ => trivial
  | r :: _, _, ⟨H, h0, h1, h2⟩ => ⟨H, fun k hk => ⟨h0 k hk, (h0 k hk).2⟩, h1, h2.bound.imp (fun k hk => ⟨⟨hk.1.1, hk.2⟩, hk.1.2⟩)⟩
theorem Own.swap {F : Nat → Prop} : Own N w (r :: s :: L) F → Own N w (s :: r :: L) F := by
  rintro ⟨G, g0, g1, H, h0, h1, h2⟩
  refine ⟨H, fun k hk => ⟨(h0 k hk).1.1, (h0 k hk).2⟩, h1, G, fun k hk => ⟨⟨(g0 k hk).1, fun hh => (h0 k hh).1.2 hk⟩, (g0 k hk).2⟩, g1, h2.imp (fun k hk => ⟨⟨hk.1.1, hk.2⟩, hk.1.2⟩)⟩
theorem Own.perm {L M : List Res} (p : L.Perm M) : ∀ {F : Nat → Prop}, Own N w L F → Own N w M F := by
  induction p with
  | nil => exact fun h => h
  | cons x _ ih => exact fun ⟨G, g0, g1, g2⟩ => ⟨G, g0, g1, ih g2⟩
  | swap x y l => exact fun h => h.swap
  | trans _ _ ih1 ih2 => exact fun h => ih2 (ih1 h)
theorem St.perm (h : St N w L) (p : L.Perm M) : St N w M := ⟨h.size, h.own.perm p⟩
theorem St.swap (h : St N w (r :: s :: L)) : St N w (s :: r :: L) := ⟨h.size, h.own.swap⟩
theorem St.drop (h : St N w (r :: L)) : St N w L := ⟨h.size, by obtain ⟨_, _, _, h2⟩ := h.own; exact h2.imp (fun _ _ => trivial)⟩
theorem St.none_ (h : N ≤ w.heap.size) : St N w [] := ⟨h, trivial⟩
/-- Whatever lies there has been left as it was. -/
theorem St.step (h : St N w L) (hb : Below w.heap.size w w1) : St N w1 L := ⟨Nat.le_trans h.size hb.size, h.own.move hb.size (fun k _ hk => hb.block k hk)⟩
theorem St.drewN (h : St N w L) (n : Nat) : St N (w.drewN n) L := h.step (pw_below_drewN (Below.refl _ _) n)
theorem St.drew (h : St N w L) : St N w.drew L := h.step (below_drew1 (Below.refl _ _))
/-- One piece's blocks, and new ones, have turned. -/
theorem St.upd (h : St N w (r :: L)) (hs : w.heap.size ≤ w1.heap.size) (hn : ∀ G : Nat → Prop, (∀ k, G k → N ≤ k ∧ k < w.heap.size) → r.sat N w G → (∀ k, k < w.heap.size → ¬ G k → w1.heap[k]? = w.heap[k]?) ∧ ∃ G' : Nat → Prop, (∀ k, G' k → (G k ∨ w.heap.size ≤ k) ∧ k < w1.heap.size) ∧ s.sat N w1 G') : St N w1 (s :: L) := by
  obtain ⟨G, g0, g1, g2⟩ := h.own
  obtain ⟨hm, G', h0, h1⟩ := hn G (fun k hk => (g0 k hk).2) g1
  refine ⟨Nat.le_trans h.size hs, G', fun k hk => ⟨trivial, ?_, (h0 k hk).2⟩, h1, (g2.bound.move hs (fun k hk hl => hm k hl hk.1.2)).imp (fun k hk => ⟨trivial, fun hg => ?_⟩)⟩
  · rcases (h0 k hk).1 with h2 | h2
    · exact (g0 k h2).2.1
    · exact Nat.le_trans h.size h2
  · rcases (h0 k hg).1 with h2 | h2
    · exact hk.1.2 h2
    · have := hk.2.2; omega
/-- A piece has been made. -/
theorem St.add (h : St N w L) (hb : Below w.heap.size w w1) (hn : ∃ G : Nat → Prop, (∀ k, G k → w.heap.size ≤ k ∧ k < w1.heap.size) ∧ s.sat N w1 G) : St N w1 (s :: L) := by
  have h1 : St N w (Nil :: L) := ⟨h.size, fun _ => False, fun _ hk => hk.elim, trivial, h.own.imp (fun _ _ => ⟨trivial, fun h => h⟩)⟩
  obtain ⟨G, g0, g1⟩ := hn
  exact h1.upd hb.size (fun G0 _ _ => ⟨fun k hk _ => hb.block k hk, G, fun k hk => ⟨.inr (g0 k hk).1, (g0 k hk).2⟩, g1⟩)
/-- The same piece told otherwise. -/
theorem St.imp (h : St N w (r :: L)) (hi : ∀ G : Nat → Prop, (∀ k, G k → N ≤ k ∧ k < w.heap.size) → r.sat N w G → s.sat N w G) : St N w (s :: L) := by
  obtain ⟨G, g0, g1, g2⟩ := h.own
  exact ⟨h.size, G, g0, hi G (fun k hk => (g0 k hk).2) g1, g2⟩
theorem St.two (h : St N w (Two r s :: L)) : St N w (r :: s :: L) := by
  obtain ⟨F, f0, ⟨G, g0, g1, g2⟩, f2⟩ := h.own
  refine ⟨h.size, G, fun k hk => f0 k (g0 k hk), g1, fun k => F k ∧ ¬ G k, fun k hk => ⟨⟨(f0 k hk.1).1, hk.2⟩, (f0 k hk.1).2⟩, g2, f2.imp (fun k hk => ⟨⟨trivial, fun hg => hk.2 (g0 k hg)⟩, fun hh => hk.2 hh.1⟩)⟩
theorem St.one (h : St N w (r :: s :: L)) : St N w (Two r s :: L) := by
  obtain ⟨G, g0, g1, H, h0, h1, h2⟩ := h.own
  refine ⟨h.size, fun k => G k ∨ H k, fun k hk => hk.elim (fun hg => ⟨trivial, (g0 k hg).2⟩) (fun hh => ⟨trivial, (h0 k hh).2⟩), ⟨G, fun k hk => .inl hk, g1, s.mono (fun k hk => ⟨.inr hk, (h0 k hk).1.2⟩) h1⟩, h2.imp (fun k hk => ⟨trivial, fun hg => hg.elim hk.1.2 hk.2⟩)⟩
theorem St.ex {σ : Type} {f : σ → Res} (h : St N w (Some_ f :: L)) : ∃ x, St N w (f x :: L) := by
  obtain ⟨G, g0, ⟨x, g1⟩, g2⟩ := h.own
  exact ⟨x, h.size, G, g0, g1, g2⟩
theorem St.hide {σ : Type} {f : σ → Res} (x : σ) (h : St N w (f x :: L)) : St N w (Some_ f :: L) := h.imp (fun G _ hg => ⟨x, hg⟩)
theorem St.and {p : Prop} (h : St N w (And_ p r :: L)) : p ∧ St N w (r :: L) := by
  obtain ⟨G, g0, ⟨x, g1⟩, g2⟩ := h.own
  exact ⟨x, h.size, G, g0, g1, g2⟩
theorem St.fact {p : Prop} (hp : p) (h : St N w (r :: L)) : St N w (And_ p r :: L) := h.imp (fun G _ hg => ⟨hp, hg⟩)
theorem perm_pick {α : Type _} : ∀ (L : List α) (k : Nat) (r : α), L[k]? = some r → L.Perm (r :: L.eraseIdx k)
  | [], _, _, h => by simp at h
  | x :: L, 0, r, h => by
    simp at h
    subst h
    exact List.Perm.refl _
  | x :: L, k + 1, r, h => by
    simp at h
    exact ((perm_pick L k r h).cons x).trans (List.Perm.swap _ _ _)
theorem St.pick (h : St N w L) (k : Nat) (hk : L[k]? = some r) : St N w (r :: L.eraseIdx k) := h.perm (perm_pick L k r hk)
/-! ### blocks -/
theorem St.blk {g : Nat} {cs : Array Value} {t : TypeId} (h : St N w (Blk g cs t :: L)) : w.heap[g]? = some (.cells cs t (0, 0)) := by
  obtain ⟨_, _, g1, _⟩ := h.own
  exact g1.2
theorem St.ge {g : Nat} {cs : Array Value} {t : TypeId} (h : St N w (Blk g cs t :: L)) : N ≤ g := by
  obtain ⟨_, g0, g1, _⟩ := h.own
  exact (g0 _ g1.1).2.1
theorem St.cell {g : Nat} {cs : Array Value} {t : TypeId} (h : St N w (Blk g cs t :: L)) (i : Nat) : w.cell? ⟨g, i, none⟩ = cs[i]? := blk_cell h.blk i
theorem St.frozen {g : Nat} {cs : Array Value} {t : TypeId} (h : St N w (Blk g cs t :: L)) (i : Nat) : w.frozen? ⟨g, i, none⟩ = false := blk_frozen h.blk i
theorem St.box {g : Nat} {cs : Array Value} {t : TypeId} (h : St N w L) (hg : g = w.heap.size) (hb : w1.heap[g]? = some (.cells cs t (0, 0))) (hw : Below w.heap.size w w1) : St N w1 (Blk g cs t :: L) :=
  h.add hw ⟨fun k => k = g, fun k hk => by subst hk; exact ⟨Nat.le_of_eq hg.symm, blk_lt hb⟩, rfl, hb⟩
theorem size_setCell (w : World) (a : Addr) (u : Value) : (w.setCell a u).heap.size = w.heap.size := by simp [World.setCell]
theorem St.set {g : Nat} {cs : Array Value} {t : TypeId} (h : St N w (Blk g cs t :: L)) (i : Nat) (u : Value) (cs' : Array Value) (e : cs.setIfInBounds i u = cs') : St N (w.setCell ⟨g, i, none⟩ u) (Blk g cs' t :: L) :=
  h.upd (Nat.le_of_eq (size_setCell _ _ _).symm) (fun G g0 hg => ⟨fun k hk hn => Below.heap_setCell w _ u k (fun e => hn (by rw [e]; exact hg.1)), G, fun k hk => ⟨.inl hk, by rw [size_setCell]; exact (g0 k hk).2⟩, hg.1, blk_put hg.2 i u e⟩)
theorem St.below_set {g i : Nat} {cs : Array Value} {t : TypeId} {u : Value} {w0 : World} (h : St N w (Blk g cs t :: L)) (hb : Below N w0 w) : Below N w0 (w.setCell ⟨g, i, none⟩ u) := hb.setCell h.ge _
theorem below_step' {w0 : World} (h : Below N w0 w) (hn : N ≤ w.heap.size) (k : Below w.heap.size w w1) : Below N w0 w1 := h.trans (k.mono hn)
/-! ### rows -/
section
variable {α : Type} {d : Kd α} {e : Nat} {v : Value} {xs : List α}
theorem St.row (h : St N w (Row d e v xs :: L)) : d.R e w N (fun _ => True) v xs := by
  obtain ⟨G, _, g1, _⟩ := h.own
  exact Kd.R_mono g1 (fun _ _ => trivial)
theorem St.reads (h : St N w (Row d e v xs :: L)) : ∃ A c, v = .slice A xs.length c ∧ xs.length ≤ c ∧ d.C w A xs.length xs := Kd.R_reads h.row
/-- What a contract of the print has made. -/
theorem St.made {ok : Nat → Prop} (h : St N w L) (hr : d.R e w1 w.heap.size ok v xs) (hb : Below w.heap.size w w1) : St N w1 (Row d e v xs :: L) :=
  h.add hb ⟨fun k => ok k ∧ w.heap.size ≤ k ∧ k < w1.heap.size, fun k hk => hk.2, Kd.R_lower (Kd.R_mono (Kd.R_bound hr) (fun k hk => ⟨hk.1, hk.2.1, hk.2.2.1⟩)) h.size⟩
theorem St.rowNil (h : St N w L) : St N w (Row d e (.slice none 0 0) [] :: L) :=
  ⟨h.size, fun _ => False, fun _ hk => hk.elim, Kd.R_nil _ _ _ _ _, h.own.imp (fun _ _ => ⟨trivial, fun h => h⟩)⟩
end
/-! ### what a call of append, and a literal, leave -/
section
variable {α : Type} {d : Kd α} {e : Nat} {v v1 : Value} {xs ys : List α}
theorem St.regrow {G : Nat → Prop} (hs : N ≤ w.heap.size) (g0 : ∀ k, G k → N ≤ k ∧ k < w.heap.size) (g1 : d.R e w N G v xs) (g2 : Own N w L (fun k => True ∧ ¬ G k)) (ho : d.R e w1 N (fun k => G k ∨ w.heap.size ≤ k) v1 ys) (hsz : w.heap.size ≤ w1.heap.size) (hg : w.grownBy w1 v.ownBlock) : St N w1 (Row d e v1 ys :: L) := by
  refine ⟨Nat.le_trans hs hsz, fun k => (G k ∨ w.heap.size ≤ k) ∧ N ≤ k ∧ k < w1.heap.size, fun k hk => ⟨trivial, hk.2⟩, Kd.R_mono (Kd.R_bound ho) (fun k hk => ⟨hk.1, hk.2.1, hk.2.2.1⟩), ?_⟩
  refine (g2.bound.move hsz (fun k hk hl => hg.block k hl (fun he => hk.1.2 (g1.1 k he.symm)))).imp (fun k hk => ⟨trivial, fun hq => ?_⟩)
  rcases hq.1 with h | h
  · exact hk.1.2 h
  · have := hk.2.2; omega
end
section
variable {P : Program} {ops : Array Oper} {rest : List Oper} {o : Oper} {a : Act} {Q : Exit → Act → World → Prop} {Kc : Act → World → Prop} {α : Type}
theorem S_lit (d : Kd α) {W : World} (e : Nat) (hgd : o.guard = none) {Nt : Tmp} (hd : o.dst = some Nt) {xs : List α} {inner : List Value}
    (hrun : (execOp a.eval o).run P W = .ok (.value (.slice (some ⟨W.heap.size, 0, none⟩) xs.length xs.length)) (W.alloc (.cells inner.toArray e)))
    (hrep : Reps (d.M W W.heap.size (fun _ => True)) d.sz xs inner) (HS : St N W L) (hm : xs.length ≤ 9223372036854775807)
    (h : ∀ v1 w1, St N w1 (Row d e v1 xs :: L) → Below W.heap.size W w1 → wpList P ops Q rest (a.put o.dst v1) w1) : wpList P ops Q (o :: rest) a W := by
  refine Kd.R_lit d (w0 := W) W.heap.size e hgd hd (ok := fun _ => True) hrun hrep (fun _ _ => trivial) trivial (Below.refl _ _) (Nat.le_refl _) hm ?_
  intro v1 w1 ho hb hg _
  exact h v1 w1 (HS.made ho hb) hb
theorem S_lit_step (d : Kd α) {W : World} (e : Nat) (hw : Region.wanted o (yielded ops a.tmps) = true) {Nt : Tmp} (hd : o.dst = some Nt) {xs : List α} {inner : List Value}
    (hrun : (execOp a.eval o).run P W = .ok (.value (.slice (some ⟨W.heap.size, 0, none⟩) xs.length xs.length)) (W.alloc (.cells inner.toArray e)))
    (hrep : Reps (d.M W W.heap.size (fun _ => True)) d.sz xs inner) (HS : St N W L) (hm : xs.length ≤ 9223372036854775807)
    (h : ∀ v1 w1, St N w1 (Row d e v1 xs :: L) → Below W.heap.size W w1 → Kc (a.put o.dst v1) w1) : if Region.wanted o (yielded ops a.tmps) = true then Oper.wp P o a W Kc Q else Kc (a.put o.dst undef) W := by
  refine Kd.R_lit_step d (w0 := W) W.heap.size e hw hd (ok := fun _ => True) hrun hrep (fun _ _ => trivial) trivial (Below.refl _ _) (Nat.le_refl _) hm ?_
  intro v1 w1 ho hb hg _
  exact h v1 w1 (HS.made ho hb) hb
/-- append(v, x): the goal's world is 'W.alloc' of the variadic's box. -/
theorem S_append (d : Kd α) {w0 W : World} (hgd : o.guard = none) (s x : Operand) (t e : TypeId) (z : Value) (bytes : Nat)
    (ho : o.op = .call { callee := .builtin .append, args := #[s, x], argTypes := #[t, t] })
    (ht : P.underlying t = some (.slice e)) (hinfo : (P.info? e).map (fun i => (i.zero, i.size, i.bytes)) = some (some z, d.sz, bytes)) (hz : z.cells.size = d.sz) (hs0 : 0 < d.sz) (hb0 : 0 < bytes)
    (v : Value) (xs : List α) (p : α) (cs : List Value) (hs : a.eval s = v) (hx : a.eval x = .slice (some ⟨W.heap.size, 0, none⟩) 1 1) (hp : d.M W N (fun _ => False) p cs)
    (HS : St N W (Row d e v xs :: L)) (HB : Below N w0 W) (hl : (xs.length + 1) * bytes ≤ 140737488355328)
    (h : ∀ v1 w1, St N w1 (Row d e v1 (xs ++ [p]) :: L) → Below N w0 w1 → wpList P ops Q rest (a.put o.dst v1) w1) :
    wpList P ops Q (o :: rest) a (W.alloc (.cells cs.toArray e)) := by
  obtain ⟨G, g0, g1, g2⟩ := HS.own
  refine Kd.R_append d N hgd s x t e z bytes ho ht hinfo hz hs0 hb0 v xs p cs (fun k => G k ∨ W.heap.size ≤ k) (fun _ => False) hs hx hp (fun _ hk => hk.elim) (fun k hk => .inr hk) (Kd.R_mono g1 (fun k hk => .inl hk)) HB HS.size hl ?_
  intro v1 w1 hr hb hg _
  exact h v1 w1 (St.regrow HS.size (fun k hk => (g0 k hk).2) g1 g2 hr hg.size hg) hb
theorem S_append_step (d : Kd α) {w0 W : World} (hw : Region.wanted o (yielded ops a.tmps) = true) (s x : Operand) (t e : TypeId) (z : Value) (bytes : Nat)
    (ho : o.op = .call { callee := .builtin .append, args := #[s, x], argTypes := #[t, t] })
    (ht : P.underlying t = some (.slice e)) (hinfo : (P.info? e).map (fun i => (i.zero, i.size, i.bytes)) = some (some z, d.sz, bytes)) (hz : z.cells.size = d.sz) (hs0 : 0 < d.sz) (hb0 : 0 < bytes)
    (v : Value) (xs : List α) (p : α) (cs : List Value) (hs : a.eval s = v) (hx : a.eval x = .slice (some ⟨W.heap.size, 0, none⟩) 1 1) (hp : d.M W N (fun _ => False) p cs)
    (HS : St N W (Row d e v xs :: L)) (HB : Below N w0 W) (hl : (xs.length + 1) * bytes ≤ 140737488355328)
    (h : ∀ v1 w1, St N w1 (Row d e v1 (xs ++ [p]) :: L) → Below N w0 w1 → Kc (a.put o.dst v1) w1) :
    if Region.wanted o (yielded ops a.tmps) = true then Oper.wp P o a (W.alloc (.cells cs.toArray e)) Kc Q else Kc (a.put o.dst undef) (W.alloc (.cells cs.toArray e)) := by
  obtain ⟨G, g0, g1, g2⟩ := HS.own
  refine Kd.R_append_step d N hw s x t e z bytes ho ht hinfo hz hs0 hb0 v xs p cs (fun k => G k ∨ W.heap.size ≤ k) (fun _ => False) hs hx hp (fun _ hk => hk.elim) (fun k hk => .inr hk) (Kd.R_mono g1 (fun k hk => .inl hk)) HB HS.size hl ?_
  intro v1 w1 hr hb hg _
  exact h v1 w1 (St.regrow HS.size (fun k hk => (g0 k hk).2) g1 g2 hr hg.size hg) hb
/-- append(v, ys...), of elements without rows inside. -/
theorem S_append_rows (d : Kd α) {w0 W : World} (hgd : o.guard = none) (s x : Operand) (t e : TypeId) (z : Value) (bytes : Nat)
    (ho : o.op = .call { callee := .builtin .append, args := #[s, x], argTypes := #[t, t] })
    (ht : P.underlying t = some (.slice e)) (hinfo : (P.info? e).map (fun i => (i.zero, i.size, i.bytes)) = some (some z, d.sz, bytes)) (hz : z.cells.size = d.sz) (hs0 : 0 < d.sz) (hb0 : 0 < bytes)
    (v : Value) (xs ys : List α) (A : Option Addr) (m c : Nat) (hs : a.eval s = v) (hx : a.eval x = .slice A m c) (hflat : ∀ x cs, d.K W x cs → d.M W N (fun _ => False) x cs)
    (HS : St N W (Row d e v xs :: L)) (HC : d.C W A m ys) (HB : Below N w0 W) (hl : (xs.length + m) * bytes ≤ 140737488355328)
    (h : ∀ v1 w1, St N w1 (Row d e v1 (xs ++ ys) :: L) → Below N w0 w1 → wpList P ops Q rest (a.put o.dst v1) w1) :
    wpList P ops Q (o :: rest) a W := by
  obtain ⟨G, g0, g1, g2⟩ := HS.own
  refine Kd.R_append_rows d N hgd s x t e z bytes ho ht hinfo hz hs0 hb0 v xs ys A m c (fun k => G k ∨ W.heap.size ≤ k) (fun _ => False) hs hx (Kd.R_mono g1 (fun k hk => .inl hk)) HC hflat (fun _ hk => hk.elim) (fun k hk => .inr hk) HB HS.size hl ?_
  intro v1 w1 hr hb hg _
  exact h v1 w1 (St.regrow HS.size (fun k hk => (g0 k hk).2) g1 g2 hr hg.size hg) hb
theorem S_append_rows_step (d : Kd α) {w0 W : World} (hw : Region.wanted o (yielded ops a.tmps) = true) (s x : Operand) (t e : TypeId) (z : Value) (bytes : Nat)
    (ho : o.op = .call { callee := .builtin .append, args := #[s, x], argTypes := #[t, t] })
    (ht : P.underlying t = some (.slice e)) (hinfo : (P.info? e).map (fun i => (i.zero, i.size, i.bytes)) = some (some z, d.sz, bytes)) (hz : z.cells.size = d.sz) (hs0 : 0 < d.sz) (hb0 : 0 < bytes)
    (v : Value) (xs ys : List α) (A : Option Addr) (m c : Nat) (hs : a.eval s = v) (hx : a.eval x = .slice A m c) (hflat : ∀ x cs, d.K W x cs → d.M W N (fun _ => False) x cs)
    (HS : St N W (Row d e v xs :: L)) (HC : d.C W A m ys) (HB : Below N w0 W) (hl : (xs.length + m) * bytes ≤ 140737488355328)
    (h : ∀ v1 w1, St N w1 (Row d e v1 (xs ++ ys) :: L) → Below N w0 w1 → Kc (a.put o.dst v1) w1) :
    if Region.wanted o (yielded ops a.tmps) = true then Oper.wp P o a W Kc Q else Kc (a.put o.dst undef) W := by
  obtain ⟨G, g0, g1, g2⟩ := HS.own
  refine Kd.R_append_rows_step d N hw s x t e z bytes ho ht hinfo hz hs0 hb0 v xs ys A m c (fun k => G k ∨ W.heap.size ≤ k) (fun _ => False) hs hx (Kd.R_mono g1 (fun k hk => .inl hk)) HC hflat (fun _ hk => hk.elim) (fun k hk => .inr hk) HB HS.size hl ?_
  intro v1 w1 hr hb hg _
  exact h v1 w1 (St.regrow HS.size (fun k hk => (g0 k hk).2) g1 g2 hr hg.size hg) hb
end
/-! ### a call of a function value -/
section
variable {P : Program} {ops : Array Oper} {rest : List Oper} {Q : Exit → Act → World → Prop}
theorem goesV_ {oi : Oper} {N : Option Tmp} {a : Act} {w : World} {K : Act → World → Prop} {f : FuncId} {fn : Func} {as : Array Operand} {ts : Array TypeId} {t : Tmp} (caps : Array Value) (hf : P.funcs[f]? = some fn) (hname : (fn.name == "runtime.NumGoroutine") = false) (hb : fn.body.isSome = true) (args : Array Value)
    (hw : Region.wanted oi (yielded ops a.tmps) = true) (hN : oi.dst = N) (hop : oi.op = .call { callee := .value (.tmp t), args := as, argTypes := ts }) (hv : a.eval (.tmp t) = .func (.func f) #[] caps) (hargs : as.map a.eval ++ caps = args)
    (h : Calls P f args w fun e w' => ∃ v, e = .returned v ∧ K (a.put N v) w') : if Region.wanted oi (yielded ops a.tmps) = true then Oper.wp P oi a w K Q else K (a.put N undef) w := by
  refine call_ f args hw hN ?_ h
  have he := enters_ hf hname hb args w
  unfold execOp
  simp [hop, resolve, Deferred.ofValue, invoke, hv, hargs, he]
theorem goesVL_ {oi : Oper} {a : Act} {w : World} (N : Option Tmp) (hd : oi.dst = N) (hg : oi.guard = none) {f : FuncId} {fn : Func} {as : Array Operand} {ts : Array TypeId} {t : Tmp} (caps : Array Value) (hf : P.funcs[f]? = some fn) (hname : (fn.name == "runtime.NumGoroutine") = false) (hb : fn.body.isSome = true) (args : Array Value)
    (hop : oi.op = .call { callee := .value (.tmp t), args := as, argTypes := ts }) (hv : a.eval (.tmp t) = .func (.func f) #[] caps) (hargs : as.map a.eval ++ caps = args)
    (h : Calls P f args w fun e w' => ∃ v, e = .returned v ∧ wpList P ops Q rest (a.put N v) w') : wpList P ops Q (oi :: rest) a w := by
  refine wpList_plain hg fun K hK => ?_
  have he := enters_ hf hname hb args w
  have hrun : (execOp a.eval oi).run P w = .ok (.enter f args) w := by
    unfold execOp
    simp [hop, resolve, Deferred.ofValue, invoke, hv, hargs, he]
  unfold Oper.wp
  rw [hrun, Oper.upon_enter]
  refine h.mono fun e w'' hh => ?_
  obtain ⟨v, rfl, hk⟩ := hh
  subst hd
  exact hK _ _ hk
end
/-! ### the steps of a drawn region, in few words -/
theorem p_put (a : Act) (n : Nat) (v : Value) : a.put (some n) v = ⟨a.tmps.setIfInBounds n v, a.defers⟩ := rfl
theorem p_none (a : Act) (v : Value) : a.put none v = a := rfl
theorem p_arr {α : Type} (l : List α) (i : Nat) (x : α) : l.toArray.setIfInBounds i x = (l.set i x).toArray := List.setIfInBounds_toArray l i x
theorem p_zero {α : Type} (x y : α) (l : List α) : (x :: l).set 0 y = y :: l := rfl
theorem p_succ {α : Type} (x y : α) (l : List α) (i : Nat) : (x :: l).set (i + 1) y = x :: l.set i y := rfl
section
variable {P : Program} {ops : Array Oper} {Q : Exit → Act → World → Prop} {md : Region.Mode} {S : World → Prop} {ds : List Nat} {T : Bool × List (List Nat × List Nat)} {B : List Nat}
theorem pU (i N : Nat) (l' : Array Bool) {oi : Oper} {fuel : Nat} {l : Array Bool} {a : Act} {w : World} (hi : ops[i]? = some oi) (hN : oi.dst = some N) (HT : Aside0 (rtab md ops = T))
    {v : Value} {a' : Act} (h : wpAnyLast P md ops Q S ds fuel l' a' w) (hc : anyT T l.toList l'.toList i = true := by kernel_rfl) (hw : Region.wanted oi (yielded ops a.tmps) = true := by rfl)
    (hy : ∀ w, (execOp a.eval oi).run P w = .ok (.value v) w := by intro w'; go_simp; with_reducible rfl) (ha : a.put (some N) v = a' := by simp only [p_put, p_arr, p_zero, p_succ, i64_w, i32_w]; rfl)
    (hQ : ∀ c a w, Q (.panic c) (a.put oi.dst v) w → Q (.panic c) a w := by exact fun _ _ _ h => h) : wpAnyLast P md ops Q S ds (fuel + 1) l a w :=
  pure_ l' hi hN (any_of HT.out hc) hQ (Or.inl ⟨hw, hy⟩) ha h
theorem pO (i : Nat) (N : Option Tmp) (l' : Array Bool) {oi : Oper} {fuel : Nat} {l : Array Bool} {a : Act} {w : World} (hi : ops[i]? = some oi) (hN : oi.dst = N) (HT : Aside0 (rtab md ops = T))
    {a' : Act} (h : wpAnyLast P md ops Q S ds fuel l' a' w) (hc : anyT T l.toList l'.toList i = true := by kernel_rfl) (hw : Region.wanted oi (yielded ops a.tmps) = false := by rfl)
    (ha : a.put N undef = a' := by first | (simp only [p_put, p_arr, p_zero, p_succ, i64_w, i32_w]; rfl) | (rw [p_none]))
    (hQ : ∀ c a w, Q (.panic c) (a.put oi.dst undef) w → Q (.panic c) a w := by exact fun _ _ _ h => h) : wpAnyLast P md ops Q S ds (fuel + 1) l a w :=
  pure_ l' hi hN (any_of HT.out hc) hQ (Or.inr ⟨hw, rfl⟩) ha h
theorem tK (i N : Nat) (l' : Array Bool) {oi : Oper} {fuel : Nat} {l : Array Bool} {a : Act} {w : World} (hi : ops[i]? = some oi) (hN : oi.dst = some N) (HT : Aside0 (rtab md ops = T)) (HW : Aside0 (waitsOk T.2 B = true)) (hS : S w)
    {v : Value} {a' : Act} (h : wpAnyLast P md ops Q S ds fuel l' a' w) (hy : ∀ w, S w → (execOp a.eval oi).run P w = .ok (.value v) w) (hc : takeW T B ds l.toList l'.toList i = true := by kernel_rfl)
    (hw : Region.wanted oi (yielded ops a.tmps) = true := by rfl) (ha : a.put (some N) v = a' := by simp only [p_put, p_arr, p_zero, p_succ, i64_w, i32_w]; rfl)
    (hQ : ∀ c a w, Q (.panic c) (a.put oi.dst v) w → Q (.panic c) a w := by exact fun _ _ _ h => h) : wpAnyLast P md ops Q S ds (fuel + 1) l a w :=
  take_ l' hi hN (take_ofW HT.out HW.out hc) hQ (Or.inl ⟨hw, hy⟩) hS ha h
end
end Go.Proofs.Ytcjfgejiknlpfaa.Sep
