/- Texts of this claim, taken together: CMap, RngK, SortLayK, KSort. -/
import Derived.Test.YtcjfgejiknlpfaaGreatJ2
import Derived.Maps.RangeRun
import Derived.Shelf.SlSortCmp.WholeK
import Derived.Test.YtcjfgejiknlpfaaGreatProg
import Derived.Shelf.SlSortCmp.NoneTotal
import Derived.Shelf.GgSortFunc.InsertionK
/-! # CMap -/
section
namespace Go.Proofs.YtcjfgejiknlpfaaGreat.PI
open Go.RowKit Go.Proofs.YtcjfgejiknlpfaaGreatW.PrintWords Go.Proofs.YtcjfgejiknlpfaaGreatW.PrintLast Go.Proofs.YtcjfgejiknlpfaaGreatW.PrintMore Go.Proofs.YtcjfgejiknlpfaaGreat.Sep
open Go.ChangeMaps (setBlock)
set_option linter.unusedVariables false
set_option linter.unusedSimpArgs false
set_option maxRecDepth 100000
theorem find_askJ (k : S33) (w : World) : ∀ (es : List MapEntry), (∀ e ∈ es, ∃ k', e.key = keyV k') → ∀ i,
    ((Instr.findAsking 33 (keyV k) es i).run Tryz.prog w = .ok none w ∧ ∀ e ∈ es, e.key ≠ keyV k) ∨ ∃ j e, (Instr.findAsking 33 (keyV k) es i).run Tryz.prog w = .ok (some (i + j, e.val)) w ∧ es[j]? = some e ∧ e.key = keyV k
  | [], _, i => .inl ⟨by simp [Instr.findAsking], by simp⟩
  | e :: es, h, i => by
    obtain ⟨k', hk⟩ := h e List.mem_cons_self
    have hq := equal33 k k' w
    by_cases he : k = k'
    · subst he
      refine .inr ⟨0, e, ?_, rfl, hk⟩
      simp [Instr.findAsking, hk, hq]
    · have hd : decide (k = k') = false := decide_eq_false he
      rw [hd] at hq
      rcases find_askJ k w es (fun e' h' => h e' (List.mem_cons_of_mem _ h')) (i + 1) with ⟨h1, h2⟩ | ⟨j, e', h1, h2, h3⟩
      · refine .inl ⟨by simp [Instr.findAsking, hk, hq, h1], fun e' h' => ?_⟩
        rcases List.mem_cons.mp h' with rfl | h'
        · rw [hk]; exact fun h => he (keyV_inj h).symm
        · exact h2 e' h'
      · rw [show i + 1 + j = i + (j + 1) by omega] at h1
        exact .inr ⟨j + 1, e', by simp [Instr.findAsking, hk, hq, h1], h2, h3⟩
theorem find_keyJ (k : S33) (w : World) (es : List MapEntry) (h : ∀ e ∈ es, ∃ k', e.key = keyV k') :
    ((Instr.findKey 33 (keyV k) es).run Tryz.prog w = .ok none w ∧ ∀ e ∈ es, e.key ≠ keyV k) ∨ ∃ j e, (Instr.findKey 33 (keyV k) es).run Tryz.prog w = .ok (some (j, e.val)) w ∧ es[j]? = some e ∧ e.key = keyV k := by
  cases es with
  | nil => exact .inl ⟨by simp [Instr.findKey, run_underlying Tryz.underlying33, Instr.findNow], by simp⟩
  | cons e es =>
    have hn : Instr.findNow (.struct #[{ name := "Author", type := 9, offset := 0, embedded := false, tag := "", pkgPath := "", byteOffset := 0 }, { name := "Seq", type := 3, offset := 1, embedded := false, tag := "", pkgPath := "", byteOffset := 16 }]) (keyV k) (e :: es) 0 = none := by
      obtain ⟨k', hk⟩ := h e List.mem_cons_self
      simp [Instr.findNow, Instr.sameNow, keyV]
    have hf : ∀ r, (Instr.findAsking 33 (keyV k) (e :: es)).run Tryz.prog w = r → (Instr.findKey 33 (keyV k) (e :: es)).run Tryz.prog w = r := by
      intro r hr
      simp [Instr.findKey, run_underlying Tryz.underlying33, hn, hr]
    rcases find_askJ k w (e :: es) h 0 with ⟨h1, h2⟩ | ⟨j, e', h1, h2, h3⟩
    · exact .inl ⟨hf _ h1, h2⟩
    · rw [Nat.zero_add] at h1
      exact .inr ⟨j, e', hf _ h1, h2, h3⟩
theorem same_key (k : S33) (n : Nat) : Instr.sameBits (n + 1) (keyV k) (keyV k) = true := by
  simp [keyV, Instr.sameBits, MapKept.bytes_beq]
theorem stays_key (k : S33) (w : World) : (Instr.keyThatStays (keyV k) (keyV k)).run Tryz.prog w = .ok (keyV k) w := by
  simp [Instr.keyThatStays, same_key k 9999]
/-! ### the pieces -/
/-- Stamps below the clock, each once; keys each once. -/
def Wel (es : List MapEntry) (clock : Nat) : Prop := (es.map (·.born)).Nodup ∧ (∀ e ∈ es, e.born < clock) ∧ (es.map (·.key)).Nodup
def CAt (b : Nat) (ks : List S33) (w : World) : Prop :=
  ∃ es clock, w.heap[b]? = some (.map es clock) ∧ Wel es.toList clock ∧ (∀ e ∈ es.toList, ∃ k, k ∈ ks ∧ e.key = keyV k ∧ e.val = .int .i64 (ks.count k)) ∧ ∀ k ∈ ks, ∃ e ∈ es.toList, e.key = keyV k
def CM (b : Nat) (ks : List S33) : Res where
  sat := fun _ w F => F b ∧ CAt b ks w
  move := fun hm ⟨hf, es, clock, h, h1⟩ => ⟨hf, es, clock, (hm b hf (Array.getElem?_eq_some_iff.1 h).1).trans h, h1⟩
  mono := fun hm h => ⟨hm _ h.1, h.2⟩
/-- An entry of the key is there, under this stamp; the others are as they were. -/
def CMidAt (b : Nat) (ks : List S33) (k : S33) (bn : Nat) (w : World) : Prop :=
  ∃ es clock, w.heap[b]? = some (.map es clock) ∧ Wel es.toList clock ∧ (∃ e ∈ es.toList, e.born = bn ∧ e.key = keyV k ∧ e.val = .int .i64 (ks.count k)) ∧ (∀ e ∈ es.toList, e.born ≠ bn → ∃ k', k' ∈ ks ∧ k' ≠ k ∧ e.key = keyV k' ∧ e.val = .int .i64 (ks.count k')) ∧ ∀ k' ∈ ks, ∃ e ∈ es.toList, e.key = keyV k'
def CMid (b : Nat) (ks : List S33) (k : S33) (bn : Nat) : Res where
  sat := fun _ w F => F b ∧ CMidAt b ks k bn w
  move := fun hm ⟨hf, es, clock, h, h1⟩ => ⟨hf, es, clock, (hm b hf (Array.getElem?_eq_some_iff.1 h).1).trans h, h1⟩
  mono := fun hm h => ⟨hm _ h.1, h.2⟩
theorem map_ndp_inj {α β : Type} {f : α → β} : ∀ {l : List α}, (l.map f).Nodup → ∀ {x y : α}, x ∈ l → y ∈ l → f x = f y → x = y
  | [], _, x, y, hx, _, _ => by cases hx
  | a :: l, h, x, y, hx, hy, e => by
    rw [List.map_cons, List.nodup_cons] at h
    rcases List.mem_cons.mp hx with rfl | hx2 <;> rcases List.mem_cons.mp hy with rfl | hy2
    · rfl
    · exact absurd (List.mem_map.mpr ⟨y, hy2, e.symm⟩) h.1
    · exact absurd (List.mem_map.mpr ⟨x, hx2, e⟩) h.1
    · exact map_ndp_inj h.2 hx2 hy2 e
section
variable {N : Nat} {w w0 : World} {L : List Res} {b : Nat} {ks : List S33}
theorem cm_at (h : St N w (CM b ks :: L)) : CAt b ks w := by
  obtain ⟨_, _, g1, _⟩ := h.own
  exact g1.2
theorem cmid_at {k : S33} {bn : Nat} (h : St N w (CMid b ks k bn :: L)) : CMidAt b ks k bn w := by
  obtain ⟨_, _, g1, _⟩ := h.own
  exact g1.2
theorem cm_new (h : St N w L) : St N (w.alloc (.map #[] 0)) (CM w.heap.size [] :: L) ∧ Below N w (w.alloc (.map #[] 0)) := by
  have hb : Below w.heap.size w (w.alloc (.map #[] 0)) := (Below.refl _ _).alloc (Nat.le_refl _) _
  refine ⟨h.add hb ⟨fun k => k = w.heap.size, fun k hk => ?_, rfl, #[], 0, heap_new w _, ⟨by simp, by simp, by simp⟩, by simp, by simp⟩, hb.mono h.size⟩
  subst hk
  exact ⟨Nat.le_refl _, by simp⟩
theorem lookup_cm (k : S33) (h : CAt b ks w) : (Instr.lookup 72 (.map (some b)) (keyV k) false).run Tryz.prog w = .ok (.int .i64 (ks.count k)) w := by
  obtain ⟨es, clock, hb, _, h1, h2⟩ := h
  rcases find_keyJ k w es.toList (fun e he => by obtain ⟨k', _, h3, _⟩ := h1 e he; exact ⟨k', h3⟩) with ⟨h3, h4⟩ | ⟨j, e, h3, h4, h5⟩
  · have hn : k ∉ ks := fun hk => by obtain ⟨e, he, hk⟩ := h2 k hk; exact h4 e he hk
    rw [List.count_eq_zero_of_not_mem hn]
    simp [Instr.lookup, run_underlying Tryz.underlying72, MapKept.run_getObj_map hb, check33, h3, Tryz.zeroValue3, Result.andThen]
  · obtain ⟨k', hk', h6, h7⟩ := h1 e (List.mem_of_getElem? h4)
    have : k = k' := keyV_inj (h5.symm.trans h6)
    subst this
    simp [Instr.lookup, run_underlying Tryz.underlying72, MapKept.run_getObj_map hb, check33, h3, h7, Result.andThen]
theorem lookup_cmid {bn : Nat} (k : S33) (h : CMidAt b ks k bn w) : (Instr.lookup 72 (.map (some b)) (keyV k) false).run Tryz.prog w = .ok (.int .i64 (ks.count k)) w := by
  obtain ⟨es, clock, hb, ⟨n1, n2, n3⟩, ⟨e0, he0, hb0, hk0, hv0⟩, h1, h2⟩ := h
  have hks : ∀ e ∈ es.toList, ∃ k', e.key = keyV k' := fun e he => by
    by_cases hbe : e.born = bn
    · exact ⟨k, by rw [map_ndp_inj n1 he he0 (by show e.born = e0.born; rw [hbe, hb0])]; exact hk0⟩
    · obtain ⟨k', _, _, h5, _⟩ := h1 e he hbe; exact ⟨k', h5⟩
  rcases find_keyJ k w es.toList hks with ⟨h3, h4⟩ | ⟨j, e, h3, h4, h5⟩
  · exact absurd hk0 (h4 e0 he0)
  · have hm := List.mem_of_getElem? h4
    have he : e = e0 := map_ndp_inj n3 hm he0 (by show e.key = e0.key; rw [h5, hk0])
    subst he
    simp [Instr.lookup, run_underlying Tryz.underlying72, MapKept.run_getObj_map hb, check33, h3, hv0, Result.andThen]
theorem modify_same {es : Array MapEntry} {j : Nat} {e : MapEntry} {f : MapEntry → MapEntry} (h : es[j]? = some e) (hf : f e = e) : es.modify j f = es := by
  apply Array.ext_getElem?
  intro m
  rw [Array.getElem?_modify]
  by_cases hj : j = m
  · subst hj; rw [if_pos rfl, h, Option.map_some, hf]
  · rw [if_neg hj]
theorem set_same {es : Array MapEntry} {clock : Nat} (o : Obj) (hb : w.heap[b]? = some (.map es clock)) : (setBlock w b o).heap[b]? = some o := by
  show (w.heap.setIfInBounds b _)[b]? = _
  rw [Array.getElem?_setIfInBounds_self_of_lt (Array.getElem?_eq_some_iff.1 hb).1]
theorem entry_cm (k : S33) (h : CAt b ks w) : ∃ (o : Obj) (v : Value) (bn : Nat), (Instr.mapEntry 72 (.map (some b)) (keyV k)).run Tryz.prog w = .ok (.tuple #[v, .int .i64 bn]) (setBlock w b o) ∧ CMidAt b ks k bn (setBlock w b o) := by
  obtain ⟨es, clock, hb, ⟨n1, n2, n3⟩, h1, h2⟩ := h
  have hks : ∀ e ∈ es.toList, ∃ k', e.key = keyV k' := fun e he => by obtain ⟨k', _, h3, _⟩ := h1 e he; exact ⟨k', h3⟩
  rcases find_keyJ k w es.toList hks with ⟨h3, h4⟩ | ⟨j, e, h3, h4, h5⟩
  · refine ⟨.map (es.push ⟨keyV k, .int .i64 0, clock⟩) (clock + 1), .int .i64 0, clock, ?_, es.push ⟨keyV k, .int .i64 0, clock⟩, clock + 1, set_same _ hb, ⟨?_, ?_, ?_⟩, ⟨⟨keyV k, .int .i64 0, clock⟩, by simp, rfl, rfl, by rw [List.count_eq_zero_of_not_mem (fun hk => by obtain ⟨e, he, hk⟩ := h2 k hk; exact h4 e he hk)]; rfl⟩, ?_, ?_⟩
    · simp [Instr.mapEntry, run_underlying Tryz.underlying72, MapKept.run_getObj_map hb, check33, h3, Tryz.zeroValue3, MapKept.run_setObj_map _ hb, Result.andThen, setBlock, goInt]
    · rw [Array.toList_push, List.map_append, List.nodup_append]
      refine ⟨n1, by simp, fun a ha c hc => ?_⟩
      obtain ⟨e, he, rfl⟩ := List.mem_map.mp ha
      have := n2 e he
      simp at hc
      omega
    · intro e he
      simp only [Array.toList_push, List.mem_append, List.mem_singleton] at he
      rcases he with he | rfl
      · have := n2 e he; omega
      · exact Nat.lt_succ_self _
    · rw [Array.toList_push, List.map_append, List.nodup_append]
      refine ⟨n3, by simp, fun a ha c hc => ?_⟩
      obtain ⟨e, he, rfl⟩ := List.mem_map.mp ha
      simp at hc
      subst hc
      exact h4 e he
    · intro e he hne
      simp only [Array.toList_push, List.mem_append, List.mem_singleton] at he
      rcases he with he | rfl
      · obtain ⟨k', h5, h6, h7⟩ := h1 e he
        exact ⟨k', h5, fun hk => h4 e he (by rw [h6, hk]), h6, h7⟩
      · exact absurd rfl hne
    · intro k' hk'
      obtain ⟨e, he, h5⟩ := h2 k' hk'
      exact ⟨e, by simp [he], h5⟩
  · have h4' : es[j]? = some e := by rw [← Array.getElem?_toList]; exact h4
    have hm : e ∈ es.toList := List.mem_of_getElem? h4
    have hmod : es.modify j (fun e => { e with key := keyV k }) = es := modify_same h4' (by rw [← h5])
    refine ⟨.map es clock, e.val, e.born, ?_, es, clock, set_same _ hb, ⟨n1, n2, n3⟩, ⟨e, hm, rfl, h5, by obtain ⟨k', _, h7, h8⟩ := h1 e hm; rw [h8, keyV_inj (h7.symm.trans h5)]⟩, ?_, h2⟩
    · simp [Instr.mapEntry, run_underlying Tryz.underlying72, MapKept.run_getObj_map hb, check33, h3, h4', h5, stays_key, hmod, MapKept.run_setObj_map _ hb, Result.andThen, setBlock, goInt]
    · intro e' he' hne
      obtain ⟨k', h6, h7, h8⟩ := h1 e' he'
      refine ⟨k', h6, fun hk => hne ?_, h7, h8⟩
      rw [map_ndp_inj n3 he' hm (by show e'.key = e.key; rw [h7, h5, hk])]
theorem findIdx_born : ∀ {l : List MapEntry} {e : MapEntry} (bn : Nat), e ∈ l → e.born = bn → ∃ i e', l.findIdx? (fun e => (e.born : Int) == (bn : Int)) = some i ∧ l[i]? = some e' ∧ e'.born = bn
  | [], e, bn, h, _ => by cases h
  | a :: l, e, bn, h, he => by
    by_cases ha : a.born = bn
    · exact ⟨0, a, by simp [List.findIdx?_cons, ha], rfl, ha⟩
    · rcases List.mem_cons.mp h with rfl | h
      · exact absurd he ha
      · obtain ⟨i, e', h1, h2, h3⟩ := findIdx_born bn h he
        refine ⟨i + 1, e', ?_, h2, h3⟩
        rw [List.findIdx?_cons, h1]
        have : ((a.born : Int) == (bn : Int)) = false := by simp; omega
        rw [this]
        rfl
/-- The entry under a stamp is given a value. -/
def putV (bn : Nat) (v : Value) (e : MapEntry) : MapEntry := if e.born = bn then { e with val := v } else e
theorem putV_key (bn : Nat) (v : Value) (e : MapEntry) : (putV bn v e).key = e.key := by unfold putV; split <;> rfl
theorem putV_born (bn : Nat) (v : Value) (e : MapEntry) : (putV bn v e).born = e.born := by unfold putV; split <;> rfl
theorem modify_put {es : Array MapEntry} {i bn : Nat} {e : MapEntry} (v : Value) (hn : (es.toList.map (·.born)).Nodup) (h : es[i]? = some e) (he : e.born = bn) : (es.modify i fun e => { e with val := v }).toList = es.toList.map (putV bn v) := by
  apply List.ext_getElem?
  intro m
  rw [Array.getElem?_toList, Array.getElem?_modify, List.getElem?_map, Array.getElem?_toList]
  by_cases hj : i = m
  · subst hj
    rw [if_pos rfl, h, Option.map_some, Option.map_some]
    unfold putV
    rw [if_pos he]
  · rw [if_neg hj]
    cases hm : es[m]? with
    | none => rfl
    | some e' =>
      rw [Option.map_some]
      unfold putV
      by_cases hb : e'.born = bn
      · exfalso
        apply hj
        have hi := (Array.getElem?_eq_some_iff.1 h).1
        have hm2 := (Array.getElem?_eq_some_iff.1 hm).1
        have h1 : (es.toList.map (·.born))[i]? = some bn := by rw [List.getElem?_map, Array.getElem?_toList, h, Option.map_some, he]
        have h2 : (es.toList.map (·.born))[m]? = some bn := by rw [List.getElem?_map, Array.getElem?_toList, hm, Option.map_some, hb]
        obtain ⟨a1, a2⟩ := List.getElem?_eq_some_iff.mp h1
        obtain ⟨c1, c2⟩ := List.getElem?_eq_some_iff.mp h2
        rcases Nat.lt_trichotomy i m with hlt | heq | hgt
        · exact absurd (a2.trans c2.symm) (List.pairwise_iff_getElem.mp hn i m a1 c1 hlt)
        · exact heq
        · exact absurd (c2.trans a2.symm) (List.pairwise_iff_getElem.mp hn m i c1 a1 hgt)
      · rw [if_neg hb]
theorem store_cm (k : S33) (bn : Nat) (h : CMidAt b ks k bn w) : ∃ o, (Instr.entryStore 72 (.map (some b)) (.int .i64 bn) (.int .i64 ((ks.count k : Int) + 1))).run Tryz.prog w = .ok () (setBlock w b o) ∧ CAt b (ks ++ [k]) (setBlock w b o) := by
  obtain ⟨es, clock, hb, ⟨n1, n2, n3⟩, ⟨e0, he0, hb0, hk0, _⟩, h1, h2⟩ := h
  obtain ⟨i, e', hi, he', hbn⟩ := findIdx_born bn he0 hb0
  have hi2 : es.findIdx? (fun e => (e.born : Int) == (bn : Int)) = some i := by rw [← hi]; cases es; simp
  have hei : es[i]? = some e' := by rw [← Array.getElem?_toList]; exact he'
  have hmod := modify_put (.int .i64 ((ks.count k : Int) + 1)) n1 hei hbn
  refine ⟨.map (es.modify i fun e => { e with val := .int .i64 ((ks.count k : Int) + 1) }) clock, ?_, _, clock, set_same _ hb, ?_, ?_, ?_⟩
  · simp [Instr.entryStore, MapKept.run_getObj_map hb, asInt, asIntOf, hi2, MapKept.run_setObj_map _ hb, Result.andThen, setBlock]
  · rw [hmod]
    refine ⟨?_, ?_, ?_⟩
    · rw [List.map_map, show ((·.born) ∘ putV bn (.int .i64 ((ks.count k : Int) + 1))) = (·.born) from funext fun e => putV_born _ _ e]; exact n1
    · intro e he
      obtain ⟨x, hx, rfl⟩ := List.mem_map.mp he
      rw [putV_born]; exact n2 x hx
    · rw [List.map_map, show ((·.key) ∘ putV bn (.int .i64 ((ks.count k : Int) + 1))) = (·.key) from funext fun e => putV_key _ _ e]; exact n3
  · rw [hmod]
    intro e he
    obtain ⟨x, hx, rfl⟩ := List.mem_map.mp he
    rw [putV_key]
    by_cases hxb : x.born = bn
    · refine ⟨k, by simp, ?_, ?_⟩
      · rw [map_ndp_inj n1 hx he0 (by show x.born = e0.born; rw [hxb, hb0])]; exact hk0
      · unfold putV
        rw [if_pos hxb]
        simp [List.count_append]
    · obtain ⟨k', h3, h4, h5, h6⟩ := h1 x hx hxb
      refine ⟨k', by simp [h3], h5, ?_⟩
      unfold putV
      rw [if_neg hxb, h6, List.count_append, List.count_singleton, if_neg (by simpa using fun h => h4 h.symm), Nat.add_zero]
  · rw [hmod]
    intro k' hk'
    rcases List.mem_append.mp hk' with hk' | hk'
    · obtain ⟨e, he, h5⟩ := h2 k' hk'
      exact ⟨putV bn _ e, List.mem_map.mpr ⟨e, he, rfl⟩, by rw [putV_key]; exact h5⟩
    · simp at hk'
      subst hk'
      exact ⟨putV bn _ e0, List.mem_map.mpr ⟨e0, he0, rfl⟩, by rw [putV_key]; exact hk0⟩
theorem put_piece {r s : Res} {o : Obj} (h : St N w (r :: L)) (hr : ∀ G, r.sat N w G → G b) (hs : ∀ G, r.sat N w G → G b → s.sat N (setBlock w b o) G) : St N (setBlock w b o) (s :: L) ∧ Below N w (setBlock w b o) := by
  have hsz : (setBlock w b o).heap.size = w.heap.size := by simp [setBlock]
  have hoth : ∀ k, k ≠ b → (setBlock w b o).heap[k]? = w.heap[k]? := fun k hk => by
    show (w.heap.setIfInBounds b o)[k]? = _
    rw [Array.getElem?_setIfInBounds_ne (fun e => hk e.symm)]
  have hge : N ≤ b := by
    obtain ⟨G, g0, g1, _⟩ := h.own
    exact (g0 _ (hr G g1)).2.1
  exact ⟨h.upd (Nat.le_of_eq hsz.symm) (fun G g0 hg => ⟨fun k hk hn => hoth k (fun e => hn (e ▸ hr G hg)), G, fun k hk => ⟨.inl hk, by rw [hsz]; exact (g0 k hk).2⟩, hs G hg (hr G hg)⟩),
    rfl, rfl, rfl, Nat.le_of_eq hsz.symm, fun k hk => hoth k (by omega)⟩
end
end Go.Proofs.YtcjfgejiknlpfaaGreat.PI
end

/-! # RngK -/
section
namespace Go.Proofs.YtcjfgejiknlpfaaGreat.PI
open Go.RowKit Go.Proofs.YtcjfgejiknlpfaaGreatW.PrintWords Go.Proofs.YtcjfgejiknlpfaaGreatW.PrintLast Go.Proofs.YtcjfgejiknlpfaaGreatW.PrintMore Go.Proofs.YtcjfgejiknlpfaaGreat.Sep
open Go.ChangeMaps (setBlock)
set_option linter.unusedVariables false
set_option linter.unusedSimpArgs false
set_option maxRecDepth 100000
def prE (e : MapEntry) : Value × Value := (e.key, e.val)
def prX (x : S33 × Int) : Value × Value := (keyV x.1, .int .i64 x.2)
/-- These entries are still to come. -/
def RgAt (b r : Nat) (left : List (S33 × Int)) (w : World) : Prop :=
  ∃ es clock since seen c0, w.heap[b]? = some (.map es clock) ∧ w.heap[r]? = some (.mapIter (some b) since seen c0) ∧ (∀ x ∈ es.toList, x.born < since) ∧ since ≤ c0 ∧ since ≤ clock ∧ (es.toList.map (·.born)).Nodup ∧ (leftOf es seen).toList.map prE = left.map prX
def Rg (b r : Nat) (left : List (S33 × Int)) : Res where
  sat := fun _ w F => F b ∧ F r ∧ RgAt b r left w
  move := fun hm ⟨hb, hr, es, clock, since, seen, c0, h1, h2, h3⟩ => ⟨hb, hr, es, clock, since, seen, c0, (hm b hb (Array.getElem?_eq_some_iff.1 h1).1).trans h1, (hm r hr (Array.getElem?_eq_some_iff.1 h2).1).trans h2, h3⟩
  mono := fun hm h => ⟨hm _ h.1, hm _ h.2.1, h.2.2⟩
/-- This entry has just come. -/
def RgEAt (b r : Nat) (x : S33 × Int) (left : List (S33 × Int)) (w : World) : Prop :=
  ∃ (es : Array MapEntry) (clock since : Nat) (seen : Array Nat) (e : MapEntry), w.heap[b]? = some (.map es clock) ∧ w.heap[r]? = some (.mapIter (some b) since (seen.push e.born) clock) ∧ (∀ x ∈ es.toList, x.born < since) ∧ since ≤ clock ∧ (es.toList.map (·.born)).Nodup ∧ e ∈ es.toList ∧ prE e = prX x ∧ (leftOf es (seen.push e.born)).toList.map prE = left.map prX
def RgE (b r : Nat) (x : S33 × Int) (left : List (S33 × Int)) : Res where
  sat := fun _ w F => F b ∧ F r ∧ RgEAt b r x left w
  move := fun hm ⟨hb, hr, es, clock, since, seen, e, h1, h2, h3⟩ => ⟨hb, hr, es, clock, since, seen, e, (hm b hb (Array.getElem?_eq_some_iff.1 h1).1).trans h1, (hm r hr (Array.getElem?_eq_some_iff.1 h2).1).trans h2, h3⟩
  mono := fun hm h => ⟨hm _ h.1, hm _ h.2.1, h.2.2⟩
theorem rg_of_e {b r : Nat} {x : S33 × Int} {left : List (S33 × Int)} {w : World} : RgEAt b r x left w → RgAt b r left w := fun ⟨es, clock, since, seen, e, h1, h2, h3, h4, h5, _, _, h6⟩ => ⟨es, clock, since, seen.push e.born, clock, h1, h2, h3, h4, h4, h5, h6⟩
/-- How many are still to come: read off the memory. -/
def lfN (b r : Nat) (w : World) : Nat := match w.heap[b]?, w.heap[r]? with
  | some (.map es _), some (.mapIter _ _ seen _) => (leftOf es seen).size
  | _, _ => 0
theorem lf_at {b r : Nat} {left : List (S33 × Int)} {w : World} (h : RgAt b r left w) : lfN b r w = left.length := by
  obtain ⟨es, clock, since, seen, c0, h1, h2, _, _, _, _, h3⟩ := h
  unfold lfN
  rw [h1, h2]
  have := congrArg List.length h3
  simpa using this
theorem filter_erase : ∀ (l : List MapEntry) (i : Nat) (e : MapEntry), (l.map (·.born)).Nodup → l[i]? = some e → l.filter (fun y => y.born != e.born) = l.eraseIdx i
  | [], _, e, _, h => by simp at h
  | a :: l, 0, e, hn, h => by
    simp at h
    subst h
    rw [List.map_cons, List.nodup_cons] at hn
    rw [List.filter_cons, if_neg (by simp), List.eraseIdx_cons_zero, List.filter_eq_self]
    intro y hy
    have : y.born ≠ a.born := fun he => hn.1 (he ▸ List.mem_map.mpr ⟨y, hy, rfl⟩)
    simpa using this
  | a :: l, i + 1, e, hn, h => by
    rw [List.getElem?_cons_succ] at h
    rw [List.map_cons, List.nodup_cons] at hn
    have hm := List.mem_of_getElem? h
    have : a.born ≠ e.born := fun he => hn.1 (he ▸ List.mem_map.mpr ⟨e, hm, rfl⟩)
    rw [List.filter_cons, if_pos (by simpa using this), List.eraseIdx_cons_succ, filter_erase l i e hn.2 h]
theorem left_push (es : Array MapEntry) (seen : Array Nat) (bn : Nat) : (leftOf es (seen.push bn)).toList = (leftOf es seen).toList.filter (fun y => y.born != bn) := by
  unfold leftOf
  rw [Array.toList_filter, Array.toList_filter, List.filter_filter]
  congr 1
  funext y
  rw [Array.contains_push]
  cases h1 : seen.contains y.born <;> by_cases h2 : y.born = bn <;> simp [h1, h2, bne]
theorem map_eraseIdx {α β : Type} (f : α → β) : ∀ (l : List α) (i : Nat), (l.eraseIdx i).map f = (l.map f).eraseIdx i
  | [], i => by simp
  | a :: l, 0 => by simp
  | a :: l, i + 1 => by simp [map_eraseIdx f l i]
section
variable {N : Nat} {w w0 : World} {L : List Res} {b r : Nat} {left : List (S33 × Int)}
theorem rg_at (h : St N w (Rg b r left :: L)) : RgAt b r left w := by
  obtain ⟨_, _, g1, _⟩ := h.own
  exact g1.2.2
theorem rge_at {x : S33 × Int} (h : St N w (RgE b r x left :: L)) : RgEAt b r x left w := by
  obtain ⟨_, _, g1, _⟩ := h.own
  exact g1.2.2
theorem rg_back {x : S33 × Int} (h : St N w (RgE b r x left :: L)) : St N w (Rg b r left :: L) := h.imp (fun G _ hg => ⟨hg.1, hg.2.1, rg_of_e hg.2.2⟩)
theorem pairs_of (ks : List S33) : ∀ l : List MapEntry, (∀ e ∈ l, ∃ k, k ∈ ks ∧ e.key = keyV k ∧ e.val = .int .i64 (ks.count k)) → ∃ left : List (S33 × Int), l.map prE = left.map prX ∧ (∀ x ∈ left, x.1 ∈ ks ∧ x.2 = (ks.count x.1 : Int))
  | [], _ => ⟨[], rfl, by simp⟩
  | e :: l, h => by
    obtain ⟨left, h1, h2⟩ := pairs_of ks l (fun e he => h e (List.mem_cons_of_mem _ he))
    obtain ⟨k, hk, h3, h4⟩ := h e List.mem_cons_self
    refine ⟨(k, (ks.count k : Int)) :: left, by rw [List.map_cons, List.map_cons, h1]; unfold prE prX; rw [h3, h4], fun x hx => ?_⟩
    rcases List.mem_cons.mp hx with rfl | hx
    · exact ⟨hk, rfl⟩
    · exact h2 x hx
theorem range_cm {ks : List S33} (h : St N w (CM b ks :: L)) (HB : Below N w0 w) : ∃ r left w1, (Instr.range 72 (.map (some b))).run Tryz.prog w = .ok (.pointer (some ⟨r, 0, none⟩)) w1 ∧ St N w1 (Rg b r left :: L) ∧ Below N w0 w1 ∧ (∀ x ∈ left, x.1 ∈ ks ∧ x.2 = (ks.count x.1 : Int)) ∧ (left.map (·.1)).Nodup ∧ ∀ k ∈ ks, ∃ x ∈ left, x.1 = k := by
  obtain ⟨es, clock, hb, ⟨n1, n2, n3⟩, h1, h2⟩ := cm_at h
  obtain ⟨left, e1, e2⟩ := pairs_of ks es.toList h1
  have hrun := run_range_map (P := Tryz.prog) w 72 33 3 b es clock Tryz.underlying72 hb
  have hbl : Below w.heap.size w (w.alloc (.mapIter (some b) clock #[] clock)) := (Below.refl _ _).alloc (Nat.le_refl _) _
  have hlt := (Array.getElem?_eq_some_iff.1 hb).1
  have hsz : (w.alloc (.mapIter (some b) clock #[] clock)).heap.size = w.heap.size + 1 := Array.size_push _
  refine ⟨w.heap.size, left, _, hrun, ?_, HB.trans (hbl.mono h.size), e2, ?_, ?_⟩
  · refine h.upd (by rw [hsz]; omega) (fun G g0 hg => ⟨fun k hk _ => heap_alloc_old w _ hk, fun k => G k ∨ k = w.heap.size, fun k hk => ?_, .inl hg.1, .inr rfl, es, clock, clock, #[], clock, (heap_alloc_old w _ hlt).trans hb, heap_alloc_new w _, n2, Nat.le_refl _, Nat.le_refl _, n1, ?_⟩)
    · rw [hsz]
      rcases hk with hk | rfl
      · exact ⟨.inl hk, by have := (g0 k hk).2; omega⟩
      · exact ⟨.inr (Nat.le_refl _), by omega⟩
    · rw [← e1]
      congr 1
      unfold leftOf
      simp
  · have e3 : es.toList.map (·.key) = left.map (fun x => keyV x.1) := by
      have := congrArg (List.map (·.1)) e1
      rw [List.map_map, List.map_map] at this
      exact this
    rw [e3] at n3
    unfold List.Nodup at n3 ⊢
    rw [List.pairwise_map] at n3 ⊢
    exact n3.imp (fun hne he => hne (by rw [he]))
  · intro k hk
    obtain ⟨e, he, hk2⟩ := h2 k hk
    have hm : prE e ∈ es.toList.map prE := List.mem_map.mpr ⟨e, he, rfl⟩
    rw [e1] at hm
    obtain ⟨x, hx, hx2⟩ := List.mem_map.mp hm
    refine ⟨x, hx, keyV_inj ?_⟩
    have := congrArg Prod.fst hx2
    exact this.trans hk2
theorem next_done {ty : TypeId} (h : RgAt b r [] w) : (Instr.next (.pointer (some ⟨r, 0, none⟩)) false ty).run Tryz.prog w = .ok (.tuple #[.bool false]) w := by
  obtain ⟨es, clock, since, seen, c0, h1, h2, h3, h4, h5, h6, h7⟩ := h
  rcases run_next_at (P := Tryz.prog) w ty r b since c0 seen es clock h2 h1 h3 h4 with ⟨_, hr⟩ | ⟨e, he, _⟩
  · exact hr
  · rw [List.map_nil, List.map_eq_nil_iff] at h7
    rw [h7] at he
    cases he
theorem next_more {ty : TypeId} {y : S33 × Int} (h : St N w (Rg b r (y :: left) :: L)) (HB : Below N w0 w) : ∃ x left' w1, (y :: left).Perm (x :: left') ∧ (Instr.next (.pointer (some ⟨r, 0, none⟩)) false ty).run Tryz.prog w = .ok (.tuple #[.bool true, keyV x.1, .int .i64 x.2]) w1 ∧ St N w1 (RgE b r x left' :: L) ∧ Below N w0 w1 := by
  obtain ⟨es, clock, since, seen, c0, h1, h2, h3, h4, h5, h6, h7⟩ := rg_at h
  rcases run_next_at (P := Tryz.prog) w ty r b since c0 seen es clock h2 h1 h3 h4 with ⟨hz, hr⟩ | ⟨e, he, w1, hw1, hr⟩
  · have : (leftOf es seen).toList.length = 0 := by simpa using hz
    have h8 := congrArg List.length h7
    simp at h8
    simp at this
    omega
  · obtain ⟨i, hi⟩ := List.mem_iff_getElem?.mp he
    have hes : e ∈ es.toList := by
      unfold leftOf at he
      rw [Array.toList_filter] at he
      exact (List.mem_filter.mp he).1
    have hnl : ((leftOf es seen).toList.map (·.born)).Nodup := by
      unfold leftOf
      rw [Array.toList_filter]
      exact h6.sublist (List.filter_sublist.map _)
    have h9 : ((y :: left).map prX)[i]? = some (prE e) := by rw [← h7, List.getElem?_map, hi, Option.map_some]
    rw [List.getElem?_map] at h9
    obtain ⟨x, hx, hx2⟩ := Option.map_eq_some_iff.mp h9
    have hleft : (leftOf es (seen.push e.born)).toList.map prE = ((y :: left).eraseIdx i).map prX := by
      rw [left_push, filter_erase _ i e hnl hi, map_eraseIdx, h7, map_eraseIdx]
    have hval : e.key = keyV x.1 ∧ e.val = .int .i64 x.2 := ⟨(congrArg Prod.fst hx2).symm, (congrArg Prod.snd hx2).symm⟩
    rw [hval.1, hval.2] at hr
    refine ⟨x, (y :: left).eraseIdx i, _, perm_pick _ i x hx, hr, ?_⟩
    have hne : r ≠ b := fun hh => by rw [hh, h1] at h2; cases h2
    have hS1 : St N w1 (Rg b r (y :: left) :: L) ∧ Below N w0 w1 ∧ w1.heap = w.heap := by
      rcases hw1 with rfl | rfl
      · exact ⟨h, HB, rfl⟩
      · exact ⟨h.drew, HB.drew, rfl⟩
    obtain ⟨hs, hb, hh⟩ := hS1
    obtain ⟨p1, p2⟩ := put_piece (b := r) (o := .mapIter (some b) since (seen.push e.born) clock) (s := RgE b r x ((y :: left).eraseIdx i)) hs (fun G hg => hg.2.1) (fun G hg hgr => by
      refine ⟨hg.1, hgr, es, clock, since, seen, e, ?_, ?_, h3, h5, h6, hes, hx2.symm, hleft⟩
      · show (w1.heap.setIfInBounds r _)[b]? = _
        rw [Array.getElem?_setIfInBounds_ne hne, hh]
        exact h1
      · show (w1.heap.setIfInBounds r _)[r]? = _
        rw [Array.getElem?_setIfInBounds_self_of_lt (by rw [hh]; exact (Array.getElem?_eq_some_iff.1 h2).1)])
    exact ⟨p1, hb.trans p2⟩
theorem entry_rg {x : S33 × Int} (h : RgEAt b r x left w) : (Instr.entry (.pointer (some ⟨r, 0, none⟩))).run Tryz.prog w = .ok (.tuple #[keyV x.1, .int .i64 x.2]) w := by
  obtain ⟨es, clock, since, seen, e, h1, h2, h3, h4, h5, h6, h7, _⟩ := h
  have := run_entry_at (P := Tryz.prog) w r b since seen es clock e h2 h1 h6 h5
  rw [this]
  have e1 : e.key = keyV x.1 := congrArg Prod.fst h7
  have e2 : e.val = .int .i64 x.2 := congrArg Prod.snd h7
  rw [e1, e2]
end
/-! ### the operations, in a walk -/
section
variable {ops : Array Oper} {rest : List Oper} {o : Oper} {a : Act} {Q : Exit → Act → World → Prop} {N : Nat} {L : List Res} {w0 W : World}
theorem gate_opc {p : Op} (_h : o.op = p) (h : wpList Tryz.prog ops Q (o :: rest) a W) : wpList Tryz.prog ops Q (o :: rest) a W := h
theorem S_makeCM (hgd : o.guard = none) (hop : o.op = Op.makeMap 72 none) (HS : St N W L) (HB : Below N w0 W)
    (h : ∀ b w1, St N w1 (CM b [] :: L) → Below N w0 w1 → wpList Tryz.prog ops Q rest (a.put o.dst (.map (some b))) w1) : wpList Tryz.prog ops Q (o :: rest) a W := by
  refine wpList_plain hgd fun K' hK' => ?_
  have hrun := @run_makeMap Tryz.prog 72 W
  unfold Oper.wp
  simp [execOp, hop, hrun, Result.andThen]
  obtain ⟨h1, h2⟩ := cm_new HS
  exact hK' _ _ (h _ _ h1 (HB.trans h2))
theorem S_range (hgd : o.guard = none) (m : Operand) (hop : o.op = Op.range 72 m) (b : Nat) (ks : List S33) (hm : a.eval m = .map (some b)) (HS : St N W (CM b ks :: L)) (HB : Below N w0 W)
    (h : ∀ (r : Nat) (left : List (S33 × Int)) (w1 : World), (∀ x ∈ left, x.1 ∈ ks ∧ x.2 = (ks.count x.1 : Int)) → (left.map (·.1)).Nodup → (∀ k ∈ ks, ∃ x ∈ left, x.1 = k) → St N w1 (Rg b r left :: L) → Below N w0 w1 → wpList Tryz.prog ops Q rest (a.put o.dst (.pointer (some ⟨r, 0, none⟩))) w1) : wpList Tryz.prog ops Q (o :: rest) a W := by
  obtain ⟨r, left, w1, hrun, hs, hb, h1, h2, h3⟩ := range_cm HS HB
  refine wpList_plain hgd fun K' hK' => ?_
  unfold Oper.wp
  simp [execOp, hop, hm, hrun, Result.andThen]
  exact hK' _ _ (h r left w1 h1 h2 h3 hs hb)
theorem S_next_done (hgd : o.guard = none) (it : Operand) (hop : o.op = Op.next it false) (b r : Nat) (hit : a.eval it = .pointer (some ⟨r, 0, none⟩)) (HS : St N W (Rg b r [] :: L))
    (h : wpList Tryz.prog ops Q rest (a.put o.dst (.tuple #[.bool false])) W) : wpList Tryz.prog ops Q (o :: rest) a W := by
  have hrun := next_done (ty := o.type) (rg_at HS)
  refine wpList_plain hgd fun K' hK' => ?_
  unfold Oper.wp
  simp [execOp, hop, hit, hrun, Result.andThen]
  exact hK' _ _ h
theorem S_next_more (hgd : o.guard = none) (it : Operand) (hop : o.op = Op.next it false) (b r : Nat) (y : S33 × Int) (left : List (S33 × Int)) (hit : a.eval it = .pointer (some ⟨r, 0, none⟩)) (HS : St N W (Rg b r (y :: left) :: L)) (HB : Below N w0 W)
    (h : ∀ (k : S33) (n : Int) left' w1, (y :: left).Perm ((k, n) :: left') → St N w1 (RgE b r (k, n) left' :: L) → Below N w0 w1 → wpList Tryz.prog ops Q rest (a.put o.dst (.tuple #[.bool true, .agg #[.string k.f0, .int .i64 k.f1], .int .i64 n])) w1) : wpList Tryz.prog ops Q (o :: rest) a W := by
  obtain ⟨x, left', w1, hp, hrun, hs, hb⟩ := next_more (ty := o.type) HS HB
  refine wpList_plain hgd fun K' hK' => ?_
  unfold Oper.wp
  simp [execOp, hop, hit, hrun, Result.andThen]
  exact hK' _ _ (h x.1 x.2 left' w1 hp hs hb)
theorem S_entry (hgd : o.guard = none) (it : Operand) (hop : o.op = Op.entry it) (b r : Nat) (k : S33) (n : Int) (left : List (S33 × Int)) (hit : a.eval it = .pointer (some ⟨r, 0, none⟩)) (HS : St N W (RgE b r (k, n) left :: L))
    (h : St N W (Rg b r left :: L) → wpList Tryz.prog ops Q rest (a.put o.dst (.tuple #[.agg #[.string k.f0, .int .i64 k.f1], .int .i64 n])) W) : wpList Tryz.prog ops Q (o :: rest) a W := by
  have hrun := entry_rg (rge_at HS)
  refine wpList_plain hgd fun K' hK' => ?_
  unfold Oper.wp
  simp [execOp, hop, hit, hrun, Result.andThen]
  exact hK' _ _ (h (rg_back HS))
end
theorem value_step {P : Program} {ops : Array Oper} {o : Oper} {a : Act} {Q : Exit → Act → World → Prop} {Kc : Act → World → Prop} {W W1 : World} {v : Value} (hw : Region.wanted o (yielded ops a.tmps) = true) (hrun : (execOp a.eval o).run P W = .ok (.value v) W1) (h : Kc (a.put o.dst v) W1) : if Region.wanted o (yielded ops a.tmps) = true then Oper.wp P o a W Kc Q else Kc (a.put o.dst undef) W := by
  rw [if_pos hw]
  unfold Oper.wp
  rw [hrun]
  exact h
end Go.Proofs.YtcjfgejiknlpfaaGreat.PI
end

/-! # SortLayK -/
section
-- Written by the kit's tools (lay-plain) for this program: the contract of slices.SortFunc laid at it.
namespace Go.Proofs
open Go.Shelf
def Tryz.sort34_ren : Go.Shelf.Ren := ⟨fun | 6 => 34 | 15 => 62 | 14 => 61 | 28 => 83 | 29 => 84 | 20 => 75 | 21 => 76 | 22 => 77 | 23 => 78 | 24 => 79 | 25 => 80 | 26 => 81 | 27 => 82 | 46 => 111 | 47 => 112 | 48 => 113 | 49 => 114 | 50 => 115 | 57 => 123 | n => n, fun | 22 => 45 | 24 => 33 | 25 => 74 | 3 => 3 | 39 => 102 | 0 => 0 | 53 => 125 | 55 => 127 | 4 => 4 | 46 => 118 | 45 => 117 | 50 => 122 | 5 => 5 | 9 => 9 | 66 => 140 | 70 => 144 | 76 => 152 | 77 => 153 | n => n, fun | n => n⟩
theorem Tryz.sort34 : Go.Proofs.SlLaysF0.n6 Tryz.prog Tryz.sort34_ren := {
  mixed := by kernel_rfl
  f6 := ⟨Tryz.f34.name, by decide, Tryz.func34.trans (congrArg some (by kernel_rfl))⟩
  f14 := ⟨Tryz.f61.name, by decide, Tryz.func61.trans (congrArg some (by kernel_rfl))⟩
  f15 := Tryz.func62.trans (congrArg some (by kernel_rfl))
  f20 := ⟨Tryz.f75.name, by decide, Tryz.func75.trans (congrArg some (by kernel_rfl))⟩
  f21 := ⟨Tryz.f76.name, by decide, Tryz.func76.trans (congrArg some (by kernel_rfl))⟩
  f22 := ⟨Tryz.f77.name, by decide, Tryz.func77.trans (congrArg some (by kernel_rfl))⟩
  f23 := ⟨Tryz.f78.name, by decide, Tryz.func78.trans (congrArg some (by kernel_rfl))⟩
  f24 := ⟨Tryz.f79.name, by decide, Tryz.func79.trans (congrArg some (by kernel_rfl))⟩
  f25 := ⟨Tryz.f80.name, by decide, Tryz.func80.trans (congrArg some (by kernel_rfl))⟩
  f26 := ⟨Tryz.f81.name, by decide, Tryz.func81.trans (congrArg some (by kernel_rfl))⟩
  f27 := ⟨Tryz.f82.name, by decide, Tryz.func82.trans (congrArg some (by kernel_rfl))⟩
  f28 := Tryz.func83.trans (congrArg some (by kernel_rfl))
  f29 := Tryz.func84.trans (congrArg some (by kernel_rfl))
  f46 := ⟨Tryz.f111.name, by decide, Tryz.func111.trans (congrArg some (by kernel_rfl))⟩
  f47 := Tryz.func112.trans (congrArg some (by kernel_rfl))
  f48 := Tryz.func113.trans (congrArg some (by kernel_rfl))
  f49 := ⟨Tryz.f114.name, by decide, Tryz.func114.trans (congrArg some (by kernel_rfl))⟩
  f50 := ⟨Tryz.f115.name, by decide, Tryz.func115.trans (congrArg some (by kernel_rfl))⟩
  f57 := ⟨Tryz.f123.name, by decide, Tryz.func123.trans (congrArg some (by kernel_rfl))⟩
  t0 := Tryz.underlying0
  a0 := Tryz.isAgg0
  z0 := Tryz.sizeOf0
  v0 := Tryz.zeroValue0
  t3 := Tryz.underlying3
  a3 := Tryz.isAgg3
  z3 := Tryz.sizeOf3
  v3 := Tryz.zeroValue3
  t4 := Tryz.underlying4
  a4 := Tryz.isAgg4
  z4 := Tryz.sizeOf4
  v4 := Tryz.zeroValue4
  t5 := Tryz.underlying5
  a5 := Tryz.isAgg5
  z5 := Tryz.sizeOf5
  v5 := Tryz.zeroValue5
  t9 := Tryz.underlying9
  a9 := Tryz.isAgg9
  z9 := Tryz.sizeOf9
  v9 := Tryz.zeroValue9
  t22 := Tryz.underlying45
  a22 := Tryz.isAgg45
  z22 := Tryz.sizeOf45
  v22 := Tryz.zeroValue45
  t25 := Tryz.underlying74
  a25 := Tryz.isAgg74
  z25 := Tryz.sizeOf74
  v25 := Tryz.zeroValue74
  t39 := Tryz.underlying102
  a39 := Tryz.isAgg102
  z39 := Tryz.sizeOf102
  v39 := Tryz.zeroValue102
  t45 := Tryz.underlying117
  a45 := Tryz.isAgg117
  z45 := Tryz.sizeOf117
  v45 := Tryz.zeroValue117
  t46 := Tryz.underlying118
  a46 := Tryz.isAgg118
  z46 := Tryz.sizeOf118
  v46 := Tryz.zeroValue118
  t50 := Tryz.underlying122
  a50 := Tryz.isAgg122
  z50 := Tryz.sizeOf122
  v50 := Tryz.zeroValue122
  t53 := Tryz.underlying125
  a53 := Tryz.isAgg125
  z53 := Tryz.sizeOf125
  v53 := Tryz.zeroValue125
  t55 := Tryz.underlying127
  a55 := Tryz.isAgg127
  z55 := Tryz.sizeOf127
  v55 := Tryz.zeroValue127
  t66 := Tryz.underlying140
  a66 := Tryz.isAgg140
  z66 := Tryz.sizeOf140
  v66 := Tryz.zeroValue140
  t70 := Tryz.underlying144
  a70 := Tryz.isAgg144
  z70 := Tryz.sizeOf144
  v70 := Tryz.zeroValue144
  t76 := Tryz.underlying152
  a76 := Tryz.isAgg152
  z76 := Tryz.sizeOf152
  v76 := Tryz.zeroValue152
  t77 := Tryz.underlying153
  a77 := Tryz.isAgg153
  z77 := Tryz.sizeOf153
  v77 := Tryz.zeroValue153 }
end Go.Proofs
end

/-! # KSort -/
section
namespace Go.Proofs.YtcjfgejiknlpfaaGreat.PI
open Go.RowKit Go.Proofs.YtcjfgejiknlpfaaGreatW.PrintWords Go.Proofs.YtcjfgejiknlpfaaGreatW.PrintLast Go.Proofs.YtcjfgejiknlpfaaGreatW.PrintMore Go.Proofs.YtcjfgejiknlpfaaGreat.Sep
set_option linter.unusedVariables false
set_option linter.unusedSimpArgs false
set_option maxRecDepth 100000
def BfK (x y : S33) : Prop := kcmp x y < 0
instance (x y : S33) : Decidable (BfK x y) := inferInstanceAs (Decidable (kcmp x y < 0))
theorem bf_irreflK (x : S33) : ¬ BfK x x := by unfold BfK; rw [cm_key.self]; omega
theorem bf_transK {x y z : S33} (h1 : BfK x y) (h2 : BfK y z) : BfK x z := by
  unfold BfK at *
  have h3 := cm_key.tr x y z (by omega) (by omega)
  by_cases h0 : kcmp x z = 0
  · rw [(kcmp_zero_iff x z).mp h0] at h1
    have := cm_key.neg y z
    omega
  · omega
theorem bf_asymmK {x y : S33} (h1 : BfK x y) (h2 : BfK y x) : False := bf_irreflK x (bf_transK h1 h2)
theorem bf_triK {x y : S33} (h1 : ¬ BfK x y) (h2 : ¬ x = y) : BfK y x := by
  unfold BfK at *
  have h3 : kcmp x y ≠ 0 := fun h => h2 ((kcmp_zero_iff x y).mp h)
  have := cm_key.neg x y
  omega
def enc33 (x : S33) : List Value := [.string x.f0, .int .i64 x.f1]
theorem flat33 : Flat k33 enc33 where
  K := k33_open
  M := fun w base ok x => k33_mkM w base ok x
  sz := fun _ => rfl
  one := fun x v h => by
    simp only [enc33, List.mem_cons, List.not_mem_nil, or_false] at h
    rcases h with rfl | rfl <;> rfl
instance inhS33K : Inhabited S33 := ⟨z33⟩
theorem encs_len9K (l : List S33) : (encs enc33 l).length = l.length * 2 := encs_len flat33 l
theorem encs_atK : ∀ (l : List S33) (t : Nat), t < l.length * 2 → (encs enc33 l)[t]? = some ((enc33 l[t / 2]!)[t % 2]!)
  | [], t, h => by simp at h
  | x :: xs, t, h => by
    have hl : (enc33 x).length = 2 := rfl
    by_cases ht : t < 2
    · have e1 : t / 2 = 0 := by omega
      have e2 : t % 2 = t := by omega
      rw [Sep.encs, List.getElem?_append_left (by rw [hl]; exact ht), e1, e2]
      show (enc33 x)[t]? = some (enc33 x)[t]!
      rw [List.getElem?_eq_getElem (by rw [hl]; exact ht), getElem!_pos _ t (by rw [hl]; exact ht)]
    · have e1 : t / 2 = (t - 2) / 2 + 1 := by omega
      have e2 : t % 2 = (t - 2) % 2 := by omega
      rw [Sep.encs, List.getElem?_append_right (by rw [hl]; omega), hl, encs_atK xs (t - 2) (by simp at h; omega), e1, e2]
      rfl
theorem flat_atK (l : List S33) (t : Nat) (h : t < l.length * 2) : (Go.Sort.flatK enc33 2 l.toArray)[t]? = (encs enc33 l)[t]? := by
  rw [encs_atK l t h]
  unfold Go.Sort.flatK
  rw [Array.getElem?_map, Array.getElem?_range]
  simp [h]
theorem flat_sizeK (l : List S33) : (Go.Sort.flatK enc33 2 l.toArray).size = l.length * 2 := by rw [Go.Sort.size_flatK]; simp
section
variable {N : Nat} {w : World} {L : List Res} {g cap : Nat} {cur : List Value} {l l' : List S33}
theorem holds_rowK (h : St N w (Blk g cur.toArray 33 :: L)) (ht : cur.take (l.length * 2) = encs enc33 l) : Go.Sort.HoldsK enc33 2 w g 0 l.toArray := by
  intro t ht2
  rw [flat_sizeK] at ht2
  refine ⟨?_, by rw [Nat.zero_add]; exact h.frozen t⟩
  rw [Nat.zero_add, h.cell t]
  have e : cur[t]? = (encs enc33 l)[t]? := by rw [← ht, List.getElem?_take_of_lt ht2]
  rw [List.getElem?_toArray, e, ← flat_atK l t ht2]
  rw [getElem!_pos _ t (by rw [flat_sizeK]; exact ht2), Array.getElem?_eq_getElem (by rw [flat_sizeK]; exact ht2)]
  rfl
theorem put_cellsK (hl : l.length * 2 ≤ cur.length) : Go.Sort.putCells id 0 (Go.Sort.flatK enc33 2 l.toArray) cur.toArray = (encs enc33 l ++ cur.drop (l.length * 2)).toArray := by
  apply Array.ext_getElem?
  intro t
  unfold Go.Sort.putCells
  rw [Array.getElem?_mapIdx, List.getElem?_toArray, List.getElem?_toArray, flat_sizeK]
  by_cases h : t < l.length * 2
  · rw [List.getElem?_eq_getElem (by omega : t < cur.length), Option.map_some, if_pos ⟨Nat.zero_le _, by omega⟩, List.getElem?_append_left (by rw [encs_len9K]; exact h), ← flat_atK l t h, Nat.sub_zero]
    rw [getElem!_pos _ t (by rw [flat_sizeK]; exact h), Array.getElem?_eq_getElem (by rw [flat_sizeK]; exact h)]
    rfl
  · rw [List.getElem?_append_right (by rw [encs_len9K]; omega), encs_len9K, List.getElem?_drop, show l.length * 2 + (t - l.length * 2) = t by omega]
    cases cur[t]? with
    | none => rfl
    | some v => rw [Option.map_some, if_neg (by omega)]
/-- The row behind the sort. -/
theorem sorted_pieceK (h : St N w (Blk g cur.toArray 33 :: L)) (hl : l.length * 2 ≤ cur.length) (n : Nat) (os : Array Obj) :
    St N (sortWorldK enc33 2 w g 0 n l.toArray os) (Blk g (encs enc33 l ++ cur.drop (l.length * 2)).toArray 33 :: L) ∧ Below N w (sortWorldK enc33 2 w g 0 n l.toArray os) := by
  have hb := h.blk
  have hg := h.ge
  have hlt : g < w.heap.size := blk_lt hb
  have hsz : (sortWorldK enc33 2 w g 0 n l.toArray os).heap.size = w.heap.size + os.size := by
    show (w.heap.modify g _ ++ os).size = _
    rw [Array.size_append, Array.size_modify]
  have hold : ∀ k, k < w.heap.size → (sortWorldK enc33 2 w g 0 n l.toArray os).heap[k]? = (w.heap.modify g (Go.Sort.onCells (Go.Sort.putCells id 0 (Go.Sort.flatK enc33 2 l.toArray))))[k]? := by
    intro k hk
    show (w.heap.modify g _ ++ os)[k]? = _
    rw [Array.getElem?_append_left (by rw [Array.size_modify]; exact hk)]
  have hoth : ∀ k, k < w.heap.size → k ≠ g → (sortWorldK enc33 2 w g 0 n l.toArray os).heap[k]? = w.heap[k]? := by
    intro k hk hne
    rw [hold k hk, Array.getElem?_modify, if_neg (fun e => hne e.symm)]
  have hat : (sortWorldK enc33 2 w g 0 n l.toArray os).heap[g]? = some (.cells (encs enc33 l ++ cur.drop (l.length * 2)).toArray 33 (0, 0)) := by
    rw [hold g hlt, Array.getElem?_modify, if_pos rfl, hb, Option.map_some]
    show some (Obj.cells (Go.Sort.putCells id 0 (Go.Sort.flatK enc33 2 l.toArray) cur.toArray) 33 (0, 0)) = _
    rw [put_cellsK hl]
  refine ⟨h.upd (by rw [hsz]; omega) (fun G hG hr => ⟨fun k hk hnk => hoth k hk (fun e => hnk (e ▸ hr.1)), G, fun k hk => ⟨.inl hk, by rw [hsz]; have := (hG k hk).2; omega⟩, hr.1, hat⟩), rfl, rfl, rfl, by rw [hsz]; omega, fun k hk => hoth k (Nat.lt_of_lt_of_le hk h.size) (by omega)⟩
end
/-! ### the one list in order -/
/-- In order, equal ones side by side. -/
def OrdK (l : List S33) : Prop := l.Pairwise fun x y => ¬ BfK y x
theorem ord_uniqueK : ∀ (l m : List S33), l.Perm m → OrdK l → OrdK m → l = m
  | [], m, h, _, _ => (List.nil_perm.mp h).symm
  | x :: l, m, h, h1, h2 => by
    cases m with
    | nil => exact absurd h.length_eq (by simp)
    | cons y m =>
      obtain ⟨hx, hl⟩ := List.pairwise_cons.mp h1
      obtain ⟨hy, hm⟩ := List.pairwise_cons.mp h2
      have e : x = y := by
        by_cases e : x = y
        · exact e
        · have a1 : y ∈ l := by
            rcases List.mem_cons.mp (h.symm.subset List.mem_cons_self) with h3 | h3
            · exact absurd h3.symm e
            · exact h3
          have a2 : x ∈ m := by
            rcases List.mem_cons.mp (h.subset List.mem_cons_self) with h3 | h3
            · exact absurd h3 e
            · exact h3
          exact absurd (bf_triK (hy x a2) e) (hx y a1)
      subst e
      rw [ord_uniqueK l m (List.perm_cons x |>.mp h) hl hm]
/-- An event put in its place, behind its equals. -/
def insEK (x : S33) : List S33 → List S33
  | [] => [x]
  | y :: l => if BfK x y then x :: y :: l else y :: insEK x l
def srtK : List S33 → List S33
  | [] => []
  | x :: l => insEK x (srtK l)
theorem insE_permK (x : S33) : ∀ l : List S33, (insEK x l).Perm (x :: l)
  | [] => List.Perm.refl _
  | y :: l => by
    unfold insEK
    split
    · exact List.Perm.refl _
    · exact ((insE_permK x l).cons y).trans (List.Perm.swap x y l)
theorem srt_permK : ∀ l : List S33, (srtK l).Perm l
  | [] => List.Perm.refl _
  | x :: l => (insE_permK x (srtK l)).trans ((srt_permK l).cons x)
theorem insE_ordK (x : S33) : ∀ l : List S33, OrdK l → OrdK (insEK x l)
  | [], _ => List.pairwise_singleton _ _
  | y :: l, h => by
    obtain ⟨hy, hl⟩ := List.pairwise_cons.mp h
    unfold insEK
    split
    · rename_i hb
      refine List.pairwise_cons.mpr ⟨fun z hz hbz => ?_, h⟩
      rcases List.mem_cons.mp hz with rfl | hz
      · exact bf_asymmK hb hbz
      · exact hy z hz (bf_transK hbz hb)
    · rename_i hb
      refine List.pairwise_cons.mpr ⟨fun z hz => ?_, insE_ordK x l hl⟩
      rcases List.mem_cons.mp ((insE_permK x l).subset hz) with rfl | hz
      · exact hb
      · exact hy z hz
theorem srt_ordK : ∀ l : List S33, OrdK (srtK l)
  | [] => List.Pairwise.nil
  | x :: l => insE_ordK x (srtK l) (srt_ordK l)
theorem srt_uniqueK {l m : List S33} (hp : m.Perm l) (ho : OrdK m) : m = srtK l := ord_uniqueK _ _ (hp.trans (srt_permK l).symm) ho (srt_ordK l)
theorem srt_perm_eqK {l m : List S33} (h : l.Perm m) : srtK l = srtK m := srt_uniqueK ((srt_permK l).trans h) (srt_ordK l)
theorem srt_lengthK (l : List S33) : (srtK l).length = l.length := (srt_permK l).length_eq
theorem swo_eK : Go.Sort.SWO (ltOf kcmp) where
  irrefl x := by
    unfold ltOf
    rw [decide_eq_false]
    exact bf_irreflK x
  trans x y z h1 h2 := by
    unfold ltOf at *
    exact decide_eq_true (bf_transK (of_decide_eq_true h1) (of_decide_eq_true h2))
  ntrans x y z h1 h2 := by
    unfold ltOf at *
    have h1 : ¬ BfK x y := of_decide_eq_false h1
    have h2 : ¬ BfK y z := of_decide_eq_false h2
    refine decide_eq_false (fun h3 : BfK x z => ?_)
    by_cases e : x = y
    · subst e; exact h2 h3
    · exact h2 (bf_transK (bf_triK h1 e) h3)
theorem cmp_laysK (blk off size : Nat) (w : World) : CmpLays Tryz.prog 35 #[] enc33 2 kcmp blk off size w := fun _ _ _ _ x y => (keys_grown x y _).mono fun e w' h => ⟨h.1, h.2.out⟩
theorem get_rdK (l : List S33) (i : Nat) : l.toArray[i]! = rd_T33 l (i : Int) := by
  unfold rd_T33
  rw [Int.toNat_natCast, List.getD_eq_getElem?_getD]
  by_cases h : i < l.length
  · rw [getElem!_pos _ i (by simpa using h), List.getElem?_eq_getElem h]; rfl
  · rw [getElem!_neg _ i (by simpa using h), List.getElem?_eq_none (by omega)]; rfl
theorem enters35 (args : Array Value) (w : World) : (callFunc 35 args).run Tryz.prog w = .ok (.enter 35 args) w := enters_of Tryz.func35 (by kernel_rfl) rfl args w
theorem sort_okK (l : List S33) (hl : l.length ≤ 1000000) (v : Value) {N : Nat} {w : World} {L : List Res} (HS : St N w (Row k33 33 v l :: L)) :
    Calls Tryz.prog 34 #[v, .func (.func 35) #[] #[]] w fun e w' => e = .returned (.tuple #[]) ∧ St N w' (Row k33 33 v (srtK l) :: L) ∧ Below N w w' := by
  rcases St.open_row flat33 HS with ⟨rfl, rfl⟩ | ⟨g, cap, cur, rfl, h1, h2, h3, h4, h5⟩
  · have := AnyF.slices_SortFunc_none Tryz.sort34 none 0 (.func (.func 35) #[] #[]) w
    refine Calls.mono (f := 34) this ?_
    rintro e w' ⟨rfl, rfl⟩
    exact ⟨rfl, HS, Below.refl _ _⟩
  · have hH := holds_rowK h5 h4
    have := AnyQ.slices_SortFunc Tryz.sort34 2 Tryz.isAgg33 Tryz.sizeOf33 enc33 (fun _ => rfl) flat33.one kcmp swo_eK 35 #[] g 0 cap l.toArray w enters35 (cmp_laysK g 0 _ w) hH (blk_lt h5.blk) (by simp; omega)
    change Calls Tryz.prog 34 _ _ _ at this
    rw [List.size_toArray] at this
    refine this.mono ?_
    rintro e w' ⟨rfl, d', n, os, ⟨hp1, _, hp3⟩, hs, rfl⟩
    obtain ⟨l', rfl⟩ : ∃ l' : List S33, d' = l'.toArray := ⟨d'.toList, by simp⟩
    have e1 : l'.length = l.length := by simpa using hp1
    have hp : l'.Perm l := by
      have := hp3
      simp only [e1, List.size_toArray, List.extract_toArray] at this
      simpa [List.take_of_length_le (show l'.length ≤ l.length by omega)] using this
    have ho : OrdK l' := by
      unfold OrdK
      rw [List.pairwise_iff_getElem]
      intro i j hi hj hij
      have h9 := hs i j (Nat.zero_le _) hij (by simpa using e1 ▸ hj)
      rw [get_rdK, get_rdK] at h9
      unfold ltOf at h9
      have h9 := of_decide_eq_false h9
      have ei : rd_T33 l' (i : Int) = l'[i] := by simp [rd_T33, hi]
      have ej : rd_T33 l' (j : Int) = l'[j] := by simp [rd_T33, hj]
      rw [ei, ej] at h9
      exact h9
    obtain rfl := srt_uniqueK hp ho
    have h3' : cur.length = cap * 2 := h3
    obtain ⟨hs1, hb1⟩ := sorted_pieceK (l := srtK l) h5 (by omega) n os
    have h4' : (encs enc33 (srtK l) ++ cur.drop ((srtK l).length * 2)).take ((srtK l).length * 2) = encs enc33 (srtK l) := List.take_left' (encs_len9K _)
    refine ⟨rfl, ?_, hb1⟩
    have := St.shut_row flat33 (xs := srtK l) hs1 (by omega) h2 (by rw [List.length_append, List.length_drop, encs_len9K]; show _ = cap * 2; omega) h4'
    rwa [e1] at this
end Go.Proofs.YtcjfgejiknlpfaaGreat.PI
end
