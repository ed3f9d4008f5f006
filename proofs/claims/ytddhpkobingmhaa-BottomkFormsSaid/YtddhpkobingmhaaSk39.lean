/- BottomkForms, walked. -/
import Derived.Test.YtddhpkobingmhaaFrmS

namespace Go.Proofs.Ytddhpkobingmhaa.PB
open Go.RowKit Go.Proofs.YtddhpkobingmhaaW.PrintWords Go.Proofs.YtddhpkobingmhaaW.PrintLast Go.Proofs.YtddhpkobingmhaaW.PrintMore Go.Proofs.Ytddhpkobingmhaa.Sep
set_option linter.unusedVariables false
set_option linter.unusedSimpArgs false
set_option maxHeartbeats 16000000
set_option maxRecDepth 100000

theorem share7 {T G : Prop} (main : Aside0 T → G) (key : T) : G := main ⟨key⟩
theorem lt_cast7 {i k : Nat} (h : i < k) : (i : Int) < (k : Int) := by omega
theorem inc_lt7 {k n : Nat} (h : k < n) (hn : n ≤ 1000) : wrap64 ((k : Int) + 1) = (k : Int) + 1 := wrap64_small _ (by omega) (by omega)
theorem dec_lt7 {i k : Nat} (h : i < k) : decide ((i : Int) < (k : Int)) = true := decide_eq_true (by omega)
theorem meas7 (i n : Nat) (h : i < n) : (n - intOf (.int .i64 ((i : Int) + 1))).toNat < ((n : Int) - intOf (.int .i64 (i : Int))).toNat := by
  simp only [intOf]; omega
theorem cast_inc7 (k : Nat) : Value.int .i64 ((k : Int) + 1) = Value.int .i64 ((k + 1 : Nat) : Int) := by rw [Int.natCast_add]; rfl

def fms.T13 : Bool × List (List Nat × List Nat) := (true, [([], []), ([0], [0]), ([], []), ([2], [2]), ([], []), ([4], [4]), ([], []), ([5, 6, 5], [5, 6]), ([1, 3, 7, 7], [1, 3, 7]), ([], []), ([9, 8, 8, 0, 1, 2, 3, 4, 5, 6, 7, 8, 9], [8, 9])])
def fms.B13 : List Nat := [0, 1, 0, 4, 0, 16, 0, 112, 255, 0, 1023]
theorem fms.tab13 : rtab .any (opsOf Try.f7 13) = fms.T13 := by kernel_rfl
theorem fms.bits13 : waitsOk fms.T13.2 fms.B13 = true := by kernel_rfl
def fms.T14 : Bool × List (List Nat × List Nat) := (true, [([], []), ([], []), ([0, 1], [0, 1]), ([2, 2], [2]), ([3], [3]), ([3], [3]), ([4, 5, 3, 3], [3, 4, 5]), ([3, 6], [3, 6]), ([7, 6], [7]), ([8], [8]), ([8], [8]), ([9, 10, 8, 8], [8, 9, 10]), ([8], [8]), ([12, 11, 8], [8, 12]), ([8], [8]), ([14, 13, 8], [8, 14]), ([13, 15, 8], [8, 13, 15]), ([11, 16, 8], [8, 11, 16]), ([8, 17], [8, 17]), ([18, 15, 0, 1, 2, 3, 4, 5, 6, 7, 8, 9, 10, 11, 12, 13, 14, 15, 16, 17, 18], [18])])
def fms.B14 : List Nat := [0, 0, 3, 7, 15, 15, 63, 127, 255, 511, 511, 2047, 511, 8191, 511, 32767, 65535, 131071, 262143, 524287]
theorem fms.tab14 : rtab .any (opsOf Try.f7 14) = fms.T14 := by kernel_rfl
theorem fms.bits14 : waitsOk fms.T14.2 fms.B14 = true := by kernel_rfl
theorem forms_walk (a : Int) (bn : Nat) (ha0 : 0 ≤ a) (ha1 : a ≤ 255) (hb0 : (0 : Int) ≤ bn) (hb1 : (bn : Int) ≤ 255) (Aa Ab : Option Addr) (ca cb : Nat) (dl em : List Int) (hca0 : dl.length ≤ ca) (hcb0 : em.length ≤ cb) (Kn : Nat) (hKn0 : 1 + a % 12 = (Kn : Int)) (k kb : Nat) (ts us : List ByteArray) (hk0 : sleuthlaw23_keys.f k dl = some ts) (hkb0 : sleuthlaw23_keys.f kb em = some us) (hts0 : ts.length ≤ 1000) (hus0 : us.length ≤ 1000) (hok : ∀ t ∈ ts, bottomk_check.f 5 t = some 0 ∧ checksum_Text.f 5 bn t = some (hashT bn t)) (hou : ∀ t ∈ us, bottomk_check.f 5 t = some 0 ∧ checksum_Text.f 5 bn t = some (hashT bn t)) (hc1 : ∀ t ∈ ts ++ us, t.size ≤ 4096 ∧ chk t = 0) (w : World) (HC0 : Kd.C (Kd.int .u8) w Aa dl.length dl) (HCb0 : Kd.C (Kd.int .u8) w Ab em.length em) :
    Calls Try.prog 7 #[.agg #[.int .u8 a, .int .u8 bn], .slice Aa dl.length ca, .slice Ab em.length cb] w fun e w' => e = .returned (.bool true) ∧ Below w.heap.size w w' := by
  have HS := Aside0.mk (St.none_ (N := w.heap.size) (w := w) (Nat.le_refl _))
  have HB := Aside0.mk (Below.refl w.heap.size w)
  have HC := Aside0.mk HC0
  have HCb := Aside0.mk HCb0
  have HOK := Aside0.mk hok
  have HOU := Aside0.mk hou
  have HOW : Aside0 (∀ t ∈ ts ++ us, checksum_Text.f 5 bn t = some (hashT bn t)) := ⟨fun t ht => (List.mem_append.mp ht).elim (fun h => (hok t h).2) (fun h => (hou t h).2)⟩
  have hk := Aside0.mk hk0
  have hkb := Aside0.mk hkb0
  have hca := Aside0.mk hca0
  have hcb := Aside0.mk hcb0
  have hts := Aside0.mk hts0
  have hus := Aside0.mk hus0
  have hlw : Aside0 ((ts ++ us).length ≤ 100000) := ⟨by rw [List.length_append]; omega⟩
  have hKn := Aside0.mk hKn0
  have hK1 : Aside0 (1 ≤ Kn) := ⟨by omega⟩
  have hK4 : Aside0 (Kn ≤ 1024) := ⟨by omega⟩
  have hbs : Aside0 (bn ≤ 1048576) := ⟨by omega⟩
  have hinc := Aside0.mk (inc_foldk (hashT (bn : Int)) ts)
  have hky : Aside0 (∀ k ∈ (foldk (hashT (bn : Int)) ts), k.f1.size ≤ 4096 ∧ chk k.f1 = 0 ∧ k = kyOf (bn : Int) k.f1) := ⟨foldk_all bn ts fun t ht => hc1 t (List.mem_append_left _ ht)⟩
  have hkw : Aside0 (∀ k ∈ (foldk (hashT (bn : Int)) (ts ++ us)), k.f1.size ≤ 4096 ∧ chk k.f1 = 0 ∧ k = kyOf (bn : Int) k.f1) := ⟨foldk_all bn (ts ++ us) hc1⟩
  have hsz : Aside0 (∀ k ∈ (foldk (hashT (bn : Int)) ts), k.f1.size ≤ 5000) := ⟨fun k hk => Nat.le_trans (hky.out k hk).1 (by decide)⟩
  have hszw : Aside0 (∀ k ∈ (foldk (hashT (bn : Int)) (ts ++ us)), k.f1.size ≤ 5000) := ⟨fun k hk => Nat.le_trans (hkw.out k hk).1 (by decide)⟩
  have hl0 : Aside0 (((foldk (hashT (bn : Int)) ts)).length ≤ 100000) := ⟨by have := lenk (hashT (bn : Int)) ts ts.length (by omega); rwa [List.take_length] at this⟩
  have hlw0 : Aside0 (((foldk (hashT (bn : Int)) (ts ++ us))).length ≤ 100000) := ⟨by have := lenk (hashT (bn : Int)) (ts ++ us) (ts ++ us).length (by rw [List.length_append]; omega); rwa [List.take_length] at this⟩
  have hl1 : Aside0 (((foldk (hashT (bn : Int)) ts)).length ≤ 1000000) := ⟨Nat.le_trans hl0.out (by decide)⟩
  have hlw1 : Aside0 (((foldk (hashT (bn : Int)) (ts ++ us))).length ≤ 1000000) := ⟨Nat.le_trans hlw0.out (by decide)⟩
  obtain ⟨fs, hfs⟩ : ∃ s, strOfNums (encF Kn bn (!(decide (Kn < ((foldk (hashT (bn : Int)) ts)).length))) (((foldk (hashT (bn : Int)) ts)).take Kn)) = s := ⟨_, rfl⟩
  obtain ⟨ft, hft⟩ : ∃ s, strOfNums (encF Kn bn (!(decide (Kn < ((foldk (hashT (bn : Int)) (ts ++ us))).length))) (((foldk (hashT (bn : Int)) (ts ++ us))).take Kn)) = s := ⟨_, rfl⟩
  have hfl : Aside0 (fs.size ≤ 140737488355328) := ⟨by rw [← hfs]; exact encF_len Kn bn _ _ hK4.out hbs.out (by rw [List.length_take]; omega) (fun k hk => hsz.out k (List.mem_of_mem_take hk))⟩
  have bne := str_ne fs
  replace hfs := Aside0.mk hfs
  replace hft := Aside0.mk hft
  clear HC0 HCb0 hok hou hk0 hkb0 hca0 hcb0 hts0 hus0 hKn0 hc1
  go_enter Try.func7, Try.ntmps7
  go_upto_region 6 with (first | ((with_reducible refine gate_dst (N := 3) rfl ?_); refine box_event ?hg (N := 3) ?hd (cs := #[.int .u8 a, .int .u8 bn]) (t := 23) ?hr ?_; (case hd => rfl); (case hg => rfl); (case hr => first | (go_simp; done) | (go_simp; rfl)); intro q hg w1 hbox hb; have n0_ := Aside0.mk (HS.out.box hg hbox hb); have n1_ := Aside0.mk (below_step' HB.out HS.out.size hb); clear HS HB; have HS := n0_; have HB := n1_; clear n0_ n1_; (try simp only [List.eraseIdx_cons_succ, List.eraseIdx_cons_zero] at HS); clear hb hbox hg; have hc0_0 := ((HS.out.pick 0 rfl).cell 0).trans (show _ = some (.int .u8 a) from rfl); have hc0_1 := ((HS.out.pick 0 rfl).cell 1).trans (show _ = some (.int .u8 bn) from rfl)) | ((with_reducible refine gate_callee (f := 12) rfl ?_); refine goesL_ (some 18) rfl rfl Try.func12 (by kernel_rfl) rfl #[.agg #[.int .u8 a, .int .u8 bn], .slice Aa dl.length ca] rfl (by (try simp only [List.map_toArray, List.map_cons, List.map_nil]); first | done | rfl | (simp only [List.length_drop, List.length_take]; rfl)) ?_; (with_reducible refine (made_ok a bn ha0 ha1 hb0 hb1 Aa ca dl hca.out Kn hKn.out k 5 5 (hashT (bn : Int)) ts hk.out hts.out HOK.out HC.out HB.out HS.out).mono ?_); rintro e w2 ⟨p, v, rfl, hs1, hb⟩; clear hc0_0 hc0_1; refine ⟨_, rfl, ?_⟩; have n0_ := Aside0.mk (hs1); have n1_ := Aside0.mk (hb); clear HS HB; have HS := n0_; have HB := n1_; clear n0_ n1_; (try simp only [List.eraseIdx_cons_succ, List.eraseIdx_cons_zero] at HS); clear hs1 hb; obtain ⟨A1, n1, c1, e_⟩ : ∃ (A : Option Addr) (n c : Nat), v = .slice A n c := (by obtain ⟨A, c, e, _, _⟩ := (HS.out.pick 0 rfl).reads; exact ⟨A, _, c, e⟩); subst e_) | ((with_reducible refine gate_dst (N := 8) rfl ?_); refine box_event ?hg (N := 8) ?hd (cs := #[.int .i64 0, .int .i64 0, .slice none 0 0]) (t := 28) ?hr ?_; (case hd => rfl); (case hg => rfl); (case hr => first | (go_simp; done) | (go_simp; rfl)); intro s hg w3 hbox hb; have n0_ := Aside0.mk (HS.out.box hg hbox hb); have n1_ := Aside0.mk (below_step' HB.out HS.out.size hb); clear HS HB; have HS := n0_; have HB := n1_; clear n0_ n1_; (try simp only [List.eraseIdx_cons_succ, List.eraseIdx_cons_zero] at HS); clear hb hbox hg; have hc0_0 := ((HS.out.pick 0 rfl).cell 0).trans (show _ = some (.int .i64 0) from rfl); have hc0_1 := ((HS.out.pick 0 rfl).cell 1).trans (show _ = some (.int .i64 0) from rfl); have hc0_2 := ((HS.out.pick 0 rfl).cell 2).trans (show _ = some (.slice none 0 0) from rfl); have hf0_0 := (HS.out.pick 0 rfl).frozen 0; have hf0_1 := (HS.out.pick 0 rfl).frozen 1; have hf0_2 := (HS.out.pick 0 rfl).frozen 2) | ((with_reducible refine gate_store (t := 28) (p := 8) rfl ?_); refine store_event (t := 28) (p := 8) (v := .tmp 20) (w1 := ?_) rfl rfl rfl ?_ ?_; rotate_left; (focus (first | (go_simp; done) | (go_simp; rfl))); intro w4 hw; have n0_ := Aside0.mk (HS.out.set3 hw); have n1_ := Aside0.mk (HS.out.below_set3 HB.out hw); clear HS HB; have HS := n0_; have HB := n1_; clear n0_ n1_; (try simp only [List.eraseIdx_cons_succ, List.eraseIdx_cons_zero] at HS); clear hw; clear hc0_0 hc0_1 hc0_2 hf0_0 hf0_1 hf0_2) | ((with_reducible refine gate_callee (f := 13) rfl ?_); refine goesL_ (some 21) rfl rfl Try.func13 (by kernel_rfl) rfl #[] rfl (by (try simp only [List.map_toArray, List.map_cons, List.map_nil]); first | done | rfl | (simp only [List.length_drop, List.length_take]; rfl)) ?_; (with_reducible refine (known_ok HS.out).mono ?_); rintro e w5 ⟨rfl, hs1, hb⟩; refine ⟨_, rfl, ?_⟩; have n0_ := Aside0.mk (hs1); have n1_ := Aside0.mk (HB.out.trans hb); clear HS HB; have HS := n0_; have HB := n1_; clear n0_ n1_; (try simp only [List.eraseIdx_cons_succ, List.eraseIdx_cons_zero] at HS); clear hs1 hb) | ((with_reducible refine gate_callee (f := 30) rfl ?_); refine goesL_ (some 28) rfl rfl Try.func30 (by kernel_rfl) rfl #[.pointer (some ⟨p, 0, none⟩)] rfl (by (try simp only [List.map_toArray, List.map_cons, List.map_nil]); first | done | rfl | (simp only [List.length_drop, List.length_take]; rfl)) ?_; (with_reducible refine (Encode_to p Kn bn hK4.out hbs.out (foldk (hashT (bn : Int)) ts) hsz.out fs hfs.out (HS.out.pick 2 rfl)).mono ?_); rintro e w6 ⟨rfl, hs1, hb⟩; refine ⟨_, rfl, ?_⟩; have n0_ := Aside0.mk (((((hs1.pick 3 rfl).pick 1 rfl).pick 3 rfl).pick 3 rfl)); have n1_ := Aside0.mk (HB.out.trans hb); clear HS HB; have HS := n0_; have HB := n1_; clear n0_ n1_; (try simp only [List.eraseIdx_cons_succ, List.eraseIdx_cons_zero] at HS); clear hs1 hb) | ((with_reducible refine gate_callee (f := 28) rfl ?_); refine goesL_ (some 31) rfl rfl Try.func28 (by kernel_rfl) rfl #[.string fs] rfl (by (try simp only [List.map_toArray, List.map_cons, List.map_nil]); first | done | rfl | (simp only [List.length_drop, List.length_take]; rfl)) ?_; (with_reducible refine (Dec_sk 0 Kn bn hK1.out hK4.out hbs.out (foldk (hashT (bn : Int)) ts) hinc.out hky.out fs hfs.out hfl.out HS.out).mono ?_); rintro e w7 ⟨o, rfl, hs1, hb⟩; refine ⟨_, rfl, ?_⟩; have n0_ := Aside0.mk (hs1); have n1_ := Aside0.mk (HB.out.trans hb); clear HS HB; have HS := n0_; have HB := n1_; clear n0_ n1_; (try simp only [List.eraseIdx_cons_succ, List.eraseIdx_cons_zero] at HS); clear hs1 hb; have hc1_0 := ((HS.out.pick 1 rfl).cell 0).trans (show _ = some (.int .i64 Kn) from rfl); have hc1_1 := ((HS.out.pick 1 rfl).cell 1).trans (show _ = some (.int .i64 bn) from rfl); have hc1_2 := ((HS.out.pick 1 rfl).cell 2).trans (show _ = some ((.slice A1 n1 c1)) from rfl)))
  go_wp2_with (first | (go_at_call 31; (with_reducible refine (form_to Kn bn hK4.out hbs.out (foldk (hashT (bn : Int)) ts) hl1.out hsz.out A1 n1 c1 fs hfs.out (HS.out.pick 2 rfl)).mono ?_); rintro e w8 ⟨rfl, hs1, hb⟩; clear hc1_0 hc1_1 hc1_2; have n0_ := Aside0.mk ((((((hs1.pick 4 rfl).pick 4 rfl).pick 2 rfl).pick 4 rfl).pick 4 rfl)); have n1_ := Aside0.mk (HB.out.trans hb); clear HS HB; have HS := n0_; have HB := n1_; clear n0_ n1_; (try simp only [List.eraseIdx_cons_succ, List.eraseIdx_cons_zero] at HS); clear hs1 hb; have hc1_0 := ((HS.out.pick 1 rfl).cell 0).trans (show _ = some (.int .i64 Kn) from rfl); have hc1_1 := ((HS.out.pick 1 rfl).cell 1).trans (show _ = some (.int .i64 bn) from rfl); have hc1_2 := ((HS.out.pick 1 rfl).cell 2).trans (show _ = some ((.slice A1 n1 c1)) from rfl)) | (go_at_call 21; (with_reducible refine (agrees_ok Kn hK4.out bn (foldk (hashT (bn : Int)) ts) hl0.out (.slice A1 n1 c1) o ((HS.out.pick 0 rfl).pick 2 rfl)).mono ?_); rintro e w9 ⟨rfl, hs1, hb⟩; clear hc1_0 hc1_1 hc1_2; have n0_ := Aside0.mk ((((((hs1.pick 4 rfl).pick 4 rfl).pick 2 rfl).pick 4 rfl).pick 4 rfl)); have n1_ := Aside0.mk (HB.out.trans hb); clear HS HB; have HS := n0_; have HB := n1_; clear n0_ n1_; (try simp only [List.eraseIdx_cons_succ, List.eraseIdx_cons_zero] at HS); clear hs1 hb; have hc1_0 := ((HS.out.pick 1 rfl).cell 0).trans (show _ = some (.int .i64 Kn) from rfl); have hc1_1 := ((HS.out.pick 1 rfl).cell 1).trans (show _ = some (.int .i64 bn) from rfl); have hc1_2 := ((HS.out.pick 1 rfl).cell 2).trans (show _ = some ((.slice A1 n1 c1)) from rfl)) | (go_at_call 27; (with_reducible refine (Equal_same o p Kn bn (foldk (hashT (bn : Int)) ts) hK4.out ((HS.out.pick 3 rfl).pick 1 rfl)).mono ?_); rintro e w10 ⟨rfl, hs1, hb⟩; clear hc1_0 hc1_1 hc1_2; have n0_ := Aside0.mk ((((((hs1.pick 4 rfl).pick 2 rfl).pick 4 rfl).pick 4 rfl).pick 4 rfl)); have n1_ := Aside0.mk (HB.out.trans hb); clear HS HB; have HS := n0_; have HB := n1_; clear n0_ n1_; (try simp only [List.eraseIdx_cons_succ, List.eraseIdx_cons_zero] at HS); clear hs1 hb; have hc1_0 := ((HS.out.pick 1 rfl).cell 0).trans (show _ = some (.int .i64 Kn) from rfl); have hc1_1 := ((HS.out.pick 1 rfl).cell 1).trans (show _ = some (.int .i64 bn) from rfl); have hc1_2 := ((HS.out.pick 1 rfl).cell 2).trans (show _ = some ((.slice A1 n1 c1)) from rfl)) | (go_at_call 27; (with_reducible refine (Equal_same p o Kn bn (foldk (hashT (bn : Int)) ts) hK4.out ((HS.out.pick 0 rfl).pick 3 rfl)).mono ?_); rintro e w11 ⟨rfl, hs1, hb⟩; clear hc1_0 hc1_1 hc1_2; have n0_ := Aside0.mk ((((((hs1.pick 4 rfl).pick 1 rfl).pick 4 rfl).pick 4 rfl).pick 4 rfl)); have n1_ := Aside0.mk (HB.out.trans hb); clear HS HB; have HS := n0_; have HB := n1_; clear n0_ n1_; (try simp only [List.eraseIdx_cons_succ, List.eraseIdx_cons_zero] at HS); clear hs1 hb; have hc1_0 := ((HS.out.pick 1 rfl).cell 0).trans (show _ = some (.int .i64 Kn) from rfl); have hc1_1 := ((HS.out.pick 1 rfl).cell 1).trans (show _ = some (.int .i64 bn) from rfl); have hc1_2 := ((HS.out.pick 1 rfl).cell 2).trans (show _ = some ((.slice A1 n1 c1)) from rfl)) | ((with_reducible refine gate_callee (f := 22) rfl ?_); refine goesL_ (some 61) rfl rfl Try.func22 (by kernel_rfl) rfl #[.slice Ab em.length cb] rfl (by (try simp only [List.map_toArray, List.map_cons, List.map_nil]); first | done | rfl | (simp only [List.length_drop, List.length_take]; rfl)) ?_; (with_reducible refine (sleuthlaw23_keys.calls kb Ab cb em us _ (Kd.C_below HCb.out HB.out) hcb.out hkb.out).mono ?_); rintro e w12 ⟨vt, rfl, ho, hb⟩; clear hc1_0 hc1_1 hc1_2; refine ⟨_, rfl, ?_⟩; have n0_ := Aside0.mk (HS.out.made ho hb); have n1_ := Aside0.mk (below_step' HB.out HS.out.size hb); clear HS HB; have HS := n0_; have HB := n1_; clear n0_ n1_; (try simp only [List.eraseIdx_cons_succ, List.eraseIdx_cons_zero] at HS); clear ho hb; obtain ⟨AU, cU, e2, _, _⟩ := HS.out.reads; subst e2))
  go_loopw [13] (fun v13 wc => ∃ j : Nat, j ≤ us.length ∧ v13 = .int .i64 j ∧ Aside0 (St w.heap.size wc (Row Kd.string 9 (.slice AU us.length cU) us :: Sk o Kn bn (foldk (hashT (bn : Int)) (ts ++ us.take j)) :: Blk s #[.int .i64 Kn, .int .i64 bn, (.slice A1 n1 c1)] 28 :: Row k52 52 (.slice A1 n1 c1) (foldk (hashT (bn : Int)) ts) :: Sk p Kn bn (foldk (hashT (bn : Int)) ts) :: Blk q #[.int .u8 a, .int .u8 bn] 23 :: [])) ∧ Aside0 (Below w.heap.size w wc)) (fun v13 _ => (us.length - intOf v13).toNat)
  case atStart =>
    refine ⟨0, Nat.zero_le _, rfl, ?_, HB⟩
    rw [List.take_zero, List.append_nil]
    exact HS
  case round =>
    clear HS HB
    obtain ⟨j, hj, rfl, HS, HB⟩ := hrel
    by_cases hlt : j < us.length
    · obtain ⟨t, ht⟩ : ∃ t, rdOf ByteArray.empty us (j : Int) = t := ⟨_, rfl⟩
      have hmem : t ∈ us := by rw [← ht, rdOf_at us j hlt]; exact List.getElem_mem _
      have hck := Aside0.mk (HOU.out _ hmem).1
      have htx := Aside0.mk (HOU.out _ hmem).2
      obtain ⟨ad, e, hx⟩ := Kd.at_string HS.out.rowC.2.2 (j : Int) (by omega) (by omega)
      cases e
      rw [Int.toNat_natCast, ht] at hx
      have i1 : (0 : Int) ≤ (j : Int) := Int.natCast_nonneg _
      have i2 := lt_cast7 hlt
      have i3 := dec_lt7 hlt
      have i4 := inc_lt7 hlt hus.out
      have hj4 := Aside0.mk hlt
      replace ht := Aside0.mk ht
      clear hlt hj hmem
      go_wp2_with (first | ((with_reducible refine gate_callee (f := 23) rfl ?_); refine goesL_ (some 73) rfl rfl Try.func23 (by kernel_rfl) rfl #[.pointer (some ⟨o, 0, none⟩), .string t] rfl (by (try simp only [List.map_toArray, List.map_cons, List.map_nil]); first | done | rfl | (simp only [List.length_drop, List.length_take]; rfl)) ?_; (with_reducible refine (bottomk_Add.ok 5 5 t hck.out ((hashT (bn : Int)) t) bn htx.out Kn hK4.out (foldk (hashT (bn : Int)) (ts ++ us.take j)) (inc_foldk _ _) o (HS.out.pick 1 rfl)).mono ?_); rintro e w13 ⟨rfl, hs1, hb⟩; rw [fold_next _ ts us j hj4.out t ht.out] at hs1; clear hx; refine ⟨_, rfl, ?_⟩; have n0_ := Aside0.mk (((((((hs1.pick 5 rfl).pick 5 rfl).pick 5 rfl).pick 5 rfl).pick 4 rfl).pick 5 rfl)); have n1_ := Aside0.mk (HB.out.trans hb); clear HS HB; have HS := n0_; have HB := n1_; clear n0_ n1_; (try simp only [List.eraseIdx_cons_succ, List.eraseIdx_cons_zero] at HS); clear hs1 hb))
      refine ⟨⟨j + 1, hj4.out, by first | exact cast_inc7 j | (rw [i4]; exact cast_inc7 j), HS, HB⟩, ?_⟩
      (try rw [i4])
      exact meas7 j us.length hj4.out
    · obtain rfl : j = us.length := Nat.le_antisymm hj (Nat.le_of_not_lt hlt)
      have i3 : decide ((us.length : Int) < (us.length : Int)) = false := decide_eq_false (Int.lt_irrefl _)
      rw [List.take_length] at HS
      clear hj hlt
      go_upto_region 13 with (fail)
      have HSo := HS
      have HBo := HB
      clear HS HB
      apply share7
      case main =>
        intro key
        have HS := HSo
        have HB := HBo
        have n0_ := Aside0.mk (HS.out.drew); have n1_ := Aside0.mk (HB.out.drew); clear HS HB; have HS := n0_; have HB := n1_; clear n0_ n1_
        refine start_ (n := 11) (S := fun w' => w'.cell? ⟨s, 0, none⟩ = some (.int .i64 Kn) ∧ w'.cell? ⟨s, 1, none⟩ = some (.int .i64 bn)) (ds := [10]) #[false, false, false, false, false, false, false, false, false, false, false] (by kernel_rfl) rfl rfl ⟨((HS.out.pick 2 rfl).cell 0).trans rfl, ((HS.out.pick 2 rfl).cell 1).trans rfl⟩ (fun hHeld => ?_); refine with_tabW fms.tab13 fms.bits13 (fun HT_ HW_ => ?_)
        generalize wr.drew = w14 at HS HB hHeld ⊢
        refine pU 0 74 #[true, false, false, false, false, false, false, false, false, false, false] rfl rfl HT_ ?_
        refine pU 2 76 #[true, false, true, false, false, false, false, false, false, false, false] rfl rfl HT_ ?_
        refine pU 4 78 #[true, false, true, false, true, false, false, false, false, false, false] rfl rfl HT_ ?_
        refine pU 6 80 #[true, false, true, false, true, false, true, false, false, false, false] rfl rfl HT_ ?_
        refine tK 1 75 #[true, true, true, false, true, false, true, false, false, false, false] rfl rfl HT_ HW_ hHeld ?_ (by rintro w' ⟨s0, s1⟩; go_simp; with_reducible rfl)
        refine tK 3 77 #[true, true, true, true, true, false, true, false, false, false, false] rfl rfl HT_ HW_ hHeld ?_ (by rintro w' ⟨s0, s1⟩; go_simp; with_reducible rfl)
        refine two_ (i := 5) (j := 9) (Ni := some 79) (Nj := some 14) #[true, true, true, true, true, true, true, false, false, false, false] #[true, true, true, true, true, false, true, false, false, true, false] rfl rfl rfl rfl (two_of HT_.out (by kernel_rfl)) (by decide) (by decide) (fun K hK => ?_) (fun K hK => ?_)
        ·
          refine goes_ Try.func22 (by kernel_rfl) rfl #[.slice Aa dl.length ca] (by rfl) rfl rfl (by (try simp only [List.map_toArray, List.map_cons, List.map_nil]); first | done | rfl | (simp only [List.length_drop, List.length_take]; rfl)) ?_
          with_reducible refine (sleuthlaw23_keys.calls k Aa ca dl ts _ (Kd.C_below HC.out HB.out) hca.out hk.out).mono ?_
          rintro e w21 ⟨vT, rfl, ho, hb⟩
          refine ⟨_, rfl, ?_⟩
          have n0_ := Aside0.mk ((((((((HS.out.made ho hb).pick 6 rfl).pick 6 rfl).pick 6 rfl).pick 6 rfl).pick 6 rfl).pick 6 rfl)); have n1_ := Aside0.mk (below_step' HB.out HS.out.size hb); clear HS HB; have HS := n0_; have HB := n1_; clear n0_ n1_; (try simp only [List.eraseIdx_cons_succ, List.eraseIdx_cons_zero] at HS)
          clear ho hb; obtain ⟨AT, cT, e_⟩ : ∃ (A : Option Addr) (c : Nat), vT = .slice A ts.length c := (by obtain ⟨A, c, e, _, _⟩ := (HS.out.pick 6 rfl).reads; exact ⟨A, c, e⟩); subst e_
          refine hK.out _ _ ⟨((HS.out.pick 2 rfl).cell 0).trans rfl, ((HS.out.pick 2 rfl).cell 1).trans rfl⟩ (fun hHeld => ?_)
          clear hK K
          refine norm_ (a' := ?_) ?_ ?_
          rotate_left
          · show Act.put _ (some 79) _ = _
            simp only [Act.put, List.setIfInBounds_toArray, List.set_cons_zero, List.set_cons_succ, i64_w, i32_w]
            rfl
          refine two_ (i := 7) (j := 9) (Ni := some 81) (Nj := some 14) #[true, true, true, true, true, true, true, true, false, false, false] #[true, true, true, true, true, true, true, false, false, true, false] rfl rfl rfl rfl (two_of HT_.out (by kernel_rfl)) (by decide) (by decide) (fun K hK => ?_) (fun K hK => ?_)
          ·
            refine S_append_rows_step Kd.string (by rfl) (.tmp 79) (.tmp 80) 39 9 (.string ⟨#[]⟩) 16 rfl Try.underlying39 info9 rfl (by decide) (by omega) (.slice AT ts.length cT) ts us AU us.length cU rfl rfl (fun _ _ h => h) (HS.out.pick 6 rfl) (HS.out.pick 0 rfl).rowC.2.2 HB.out (by have := hts.out; have := hus.out; omega) ?_
            intro vX w22 hs9 hb
            have n0_ := Aside0.mk (((((((hs9.pick 6 rfl).pick 6 rfl).pick 6 rfl).pick 6 rfl).pick 6 rfl).pick 6 rfl)); have n1_ := Aside0.mk (hb); clear HS HB; have HS := n0_; have HB := n1_; clear n0_ n1_; (try simp only [List.eraseIdx_cons_succ, List.eraseIdx_cons_zero] at HS)
            clear hs9 hb
            obtain ⟨AX, cX, e_⟩ : ∃ (A : Option Addr) (c : Nat), vX = .slice A (ts ++ us).length c := (by obtain ⟨A, c, e, _, _⟩ := (HS.out.pick 6 rfl).reads; exact ⟨A, c, e⟩); subst e_
            refine hK.out _ _ ⟨((HS.out.pick 2 rfl).cell 0).trans rfl, ((HS.out.pick 2 rfl).cell 1).trans rfl⟩ (fun hHeld => ?_)
            clear hK K
            refine norm_ (a' := ?_) ?_ ?_
            rotate_left
            · show Act.put _ (some 81) _ = _
              simp only [Act.put, List.setIfInBounds_toArray, List.set_cons_zero, List.set_cons_succ, i64_w, i32_w]
              rfl
            refine two_ (i := 8) (j := 9) (Ni := some 82) (Nj := some 14) #[true, true, true, true, true, true, true, true, true, false, false] #[true, true, true, true, true, true, true, true, false, true, false] rfl rfl rfl rfl (two_of HT_.out (by kernel_rfl)) (by decide) (by decide) (fun K hK => ?_) (fun K hK => ?_)
            ·
              refine goes_ Try.func24 (by kernel_rfl) rfl #[.int .i64 Kn, .int .i64 bn, .slice AX (ts ++ us).length cX] (by rfl) rfl rfl (by (try simp only [List.map_toArray, List.map_cons, List.map_nil]); first | done | rfl | (simp only [List.length_drop, List.length_take]; rfl)) ?_
              with_reducible refine (ofl_ok Kn bn 5 (hashT (bn : Int)) (ts ++ us) (ts ++ us).length (Nat.le_refl _) hlw.out HOW.out AX cX (HS.out.pick 6 rfl)).mono ?_
              rintro e w23 ⟨v3, rfl, hs1, hb⟩; rw [List.take_length] at hs1
              refine ⟨_, rfl, ?_⟩
              have n0_ := Aside0.mk (((((((((hs1.pick 0 rfl).pick 1 rfl).pick 7 rfl).pick 7 rfl).pick 7 rfl).pick 7 rfl).pick 7 rfl).pick 7 rfl)); have n1_ := Aside0.mk (HB.out.trans hb); clear HS HB; have HS := n0_; have HB := n1_; clear n0_ n1_; (try simp only [List.eraseIdx_cons_succ, List.eraseIdx_cons_zero] at HS)
              clear hs1 hb; obtain ⟨A3, n3, c3, e_⟩ : ∃ (A : Option Addr) (n c : Nat), v3 = .slice A n c := (by obtain ⟨A, c, e, _, _⟩ := (HS.out.pick 7 rfl).reads; exact ⟨A, _, c, e⟩); subst e_
              refine hK.out _ _ ⟨((HS.out.pick 2 rfl).cell 0).trans rfl, ((HS.out.pick 2 rfl).cell 1).trans rfl⟩ (fun hHeld => ?_)
              clear hK K
              refine norm_ (a' := ?_) ?_ ?_
              rotate_left
              · show Act.put _ (some 82) _ = _
                simp only [Act.put, List.setIfInBounds_toArray, List.set_cons_zero, List.set_cons_succ, i64_w, i32_w]
                rfl
              refine one_ (i := 9) (N := some 14) #[true, true, true, true, true, true, true, true, true, true, false] rfl rfl (one_of HT_.out (by kernel_rfl)) (by decide) (fun K hK => ?_)
              refine box_step (by rfl) (Nt := 14) rfl (cs := #[.int .i64 0, .int .i64 0, .slice none 0 0]) (t := 28) ?hrw24 ?_
              (case hrw24 => first | (go_simp; done) | (go_simp; rfl))
              intro s3 hg w24 hbox hb
              have n0_ := Aside0.mk ((((((((((HS.out.box hg hbox hb).pick 8 rfl).pick 8 rfl).pick 8 rfl).pick 8 rfl).pick 8 rfl).pick 8 rfl).pick 8 rfl).pick 8 rfl)); have n1_ := Aside0.mk (below_step' HB.out HS.out.size hb); clear HS HB; have HS := n0_; have HB := n1_; clear n0_ n1_; (try simp only [List.eraseIdx_cons_succ, List.eraseIdx_cons_zero] at HS)
              clear hb hbox hg
              refine hK.out _ _ ⟨((HS.out.pick 2 rfl).cell 0).trans rfl, ((HS.out.pick 2 rfl).cell 1).trans rfl⟩ (fun hHeld => ?_)
              clear hK K
              refine norm_ (a' := ?_) ?_ ?_
              rotate_left
              · show Act.put _ (some 14) _ = _
                simp only [Act.put, List.setIfInBounds_toArray, List.set_cons_zero, List.set_cons_succ, i64_w, i32_w]
                rfl
              refine last_ (i := 10) (N := none) #[true, true, true, true, true, true, true, true, true, true, true] rfl rfl (one_of HT_.out (by kernel_rfl)) (by decide) (fun K hK => ?_)
              have q0 := ((HS.out.pick 8 rfl).cell 0).trans (show _ = some (.int .i64 0) from rfl); have f0 := (HS.out.pick 8 rfl).frozen 0; have q1 := ((HS.out.pick 8 rfl).cell 1).trans (show _ = some (.int .i64 0) from rfl); have f1 := (HS.out.pick 8 rfl).frozen 1; have q2 := ((HS.out.pick 8 rfl).cell 2).trans (show _ = some (.slice none 0 0) from rfl); have f2 := (HS.out.pick 8 rfl).frozen 2
              refine skip_ (w1 := ?_) (by rfl) rfl ?_ ?_
              rotate_left
              · go_simp
                rfl
              clear q0 q1 q2 f0 f1 f2
              have n0_ := Aside0.mk ((((HS.out.pick 8 rfl).set 0 (.int .i64 Kn) #[.int .i64 Kn, .int .i64 0, .slice none 0 0] rfl).set 1 (.int .i64 bn) #[.int .i64 Kn, .int .i64 bn, .slice none 0 0] rfl).set 2 (.slice A3 n3 c3) #[.int .i64 Kn, .int .i64 bn, (.slice A3 n3 c3)] rfl); have n1_ := Aside0.mk ((((HS.out.pick 8 rfl).set 0 (.int .i64 Kn) #[.int .i64 Kn, .int .i64 0, .slice none 0 0] rfl).set 1 (.int .i64 bn) #[.int .i64 Kn, .int .i64 bn, .slice none 0 0] rfl).below_set (i := 2) (u := (.slice A3 n3 c3)) (((HS.out.pick 8 rfl).set 0 (.int .i64 Kn) #[.int .i64 Kn, .int .i64 0, .slice none 0 0] rfl).below_set (i := 1) (u := .int .i64 bn) ((HS.out.pick 8 rfl).below_set (i := 0) (u := .int .i64 Kn) HB.out))); clear HS HB; have HS := n0_; have HB := n1_; clear n0_ n1_; (try simp only [List.eraseIdx_cons_succ, List.eraseIdx_cons_zero] at HS)
              refine hK.out _ _ ?_
              clear hK K
              refine done_ (done_of HT_.out (by kernel_rfl)) ?_
              clear HT_ HW_
              try clear hHeld
              generalize (World.setCell _ _ _) = w40 at HS HB ⊢
              have n0_ := Aside0.mk ((((((((((HS.out.pick 7 rfl).pick 2 rfl).pick 7 rfl).pick 7 rfl).pick 7 rfl).pick 7 rfl).pick 7 rfl).pick 8 rfl).pick 8 rfl)); have n1_ := Aside0.mk (HB.out); clear HS HB; have HS := n0_; have HB := n1_; clear n0_ n1_; (try simp only [List.eraseIdx_cons_succ, List.eraseIdx_cons_zero] at HS)
              revert HB
              revert HS
              revert w40
              revert s3
              revert A3
              revert n3
              revert c3
              revert AX
              revert cX
              revert AT
              revert cT
              exact key.out
            ·
              refine box_step (by rfl) (Nt := 14) rfl (cs := #[.int .i64 0, .int .i64 0, .slice none 0 0]) (t := 28) ?hrw25 ?_
              (case hrw25 => first | (go_simp; done) | (go_simp; rfl))
              intro s3 hg w25 hbox hb
              have n0_ := Aside0.mk (((((((((HS.out.box hg hbox hb).pick 7 rfl).pick 7 rfl).pick 7 rfl).pick 7 rfl).pick 7 rfl).pick 7 rfl).pick 7 rfl)); have n1_ := Aside0.mk (below_step' HB.out HS.out.size hb); clear HS HB; have HS := n0_; have HB := n1_; clear n0_ n1_; (try simp only [List.eraseIdx_cons_succ, List.eraseIdx_cons_zero] at HS)
              clear hb hbox hg
              refine hK.out _ _ ⟨((HS.out.pick 2 rfl).cell 0).trans rfl, ((HS.out.pick 2 rfl).cell 1).trans rfl⟩ (fun hHeld => ?_)
              clear hK K
              refine norm_ (a' := ?_) ?_ ?_
              rotate_left
              · show Act.put _ (some 14) _ = _
                simp only [Act.put, List.setIfInBounds_toArray, List.set_cons_zero, List.set_cons_succ, i64_w, i32_w]
                rfl
              refine one_ (i := 8) (N := some 82) #[true, true, true, true, true, true, true, true, true, true, false] rfl rfl (one_of HT_.out (by kernel_rfl)) (by decide) (fun K hK => ?_)
              refine goes_ Try.func24 (by kernel_rfl) rfl #[.int .i64 Kn, .int .i64 bn, .slice AX (ts ++ us).length cX] (by rfl) rfl rfl (by (try simp only [List.map_toArray, List.map_cons, List.map_nil]); first | done | rfl | (simp only [List.length_drop, List.length_take]; rfl)) ?_
              with_reducible refine (ofl_ok Kn bn 5 (hashT (bn : Int)) (ts ++ us) (ts ++ us).length (Nat.le_refl _) hlw.out HOW.out AX cX (HS.out.pick 6 rfl)).mono ?_
              rintro e w26 ⟨v3, rfl, hs1, hb⟩; rw [List.take_length] at hs1
              refine ⟨_, rfl, ?_⟩
              have n0_ := Aside0.mk ((((((((((hs1.pick 0 rfl).pick 8 rfl).pick 2 rfl).pick 8 rfl).pick 8 rfl).pick 8 rfl).pick 8 rfl).pick 8 rfl).pick 8 rfl)); have n1_ := Aside0.mk (HB.out.trans hb); clear HS HB; have HS := n0_; have HB := n1_; clear n0_ n1_; (try simp only [List.eraseIdx_cons_succ, List.eraseIdx_cons_zero] at HS)
              clear hs1 hb; obtain ⟨A3, n3, c3, e_⟩ : ∃ (A : Option Addr) (n c : Nat), v3 = .slice A n c := (by obtain ⟨A, c, e, _, _⟩ := (HS.out.pick 8 rfl).reads; exact ⟨A, _, c, e⟩); subst e_
              refine hK.out _ _ ⟨((HS.out.pick 2 rfl).cell 0).trans rfl, ((HS.out.pick 2 rfl).cell 1).trans rfl⟩ (fun hHeld => ?_)
              clear hK K
              refine norm_ (a' := ?_) ?_ ?_
              rotate_left
              · show Act.put _ (some 82) _ = _
                simp only [Act.put, List.setIfInBounds_toArray, List.set_cons_zero, List.set_cons_succ, i64_w, i32_w]
                rfl
              refine last_ (i := 10) (N := none) #[true, true, true, true, true, true, true, true, true, true, true] rfl rfl (one_of HT_.out (by kernel_rfl)) (by decide) (fun K hK => ?_)
              have q0 := ((HS.out.pick 7 rfl).cell 0).trans (show _ = some (.int .i64 0) from rfl); have f0 := (HS.out.pick 7 rfl).frozen 0; have q1 := ((HS.out.pick 7 rfl).cell 1).trans (show _ = some (.int .i64 0) from rfl); have f1 := (HS.out.pick 7 rfl).frozen 1; have q2 := ((HS.out.pick 7 rfl).cell 2).trans (show _ = some (.slice none 0 0) from rfl); have f2 := (HS.out.pick 7 rfl).frozen 2
              refine skip_ (w1 := ?_) (by rfl) rfl ?_ ?_
              rotate_left
              · go_simp
                rfl
              clear q0 q1 q2 f0 f1 f2
              have n0_ := Aside0.mk ((((HS.out.pick 7 rfl).set 0 (.int .i64 Kn) #[.int .i64 Kn, .int .i64 0, .slice none 0 0] rfl).set 1 (.int .i64 bn) #[.int .i64 Kn, .int .i64 bn, .slice none 0 0] rfl).set 2 (.slice A3 n3 c3) #[.int .i64 Kn, .int .i64 bn, (.slice A3 n3 c3)] rfl); have n1_ := Aside0.mk ((((HS.out.pick 7 rfl).set 0 (.int .i64 Kn) #[.int .i64 Kn, .int .i64 0, .slice none 0 0] rfl).set 1 (.int .i64 bn) #[.int .i64 Kn, .int .i64 bn, .slice none 0 0] rfl).below_set (i := 2) (u := (.slice A3 n3 c3)) (((HS.out.pick 7 rfl).set 0 (.int .i64 Kn) #[.int .i64 Kn, .int .i64 0, .slice none 0 0] rfl).below_set (i := 1) (u := .int .i64 bn) ((HS.out.pick 7 rfl).below_set (i := 0) (u := .int .i64 Kn) HB.out))); clear HS HB; have HS := n0_; have HB := n1_; clear n0_ n1_; (try simp only [List.eraseIdx_cons_succ, List.eraseIdx_cons_zero] at HS)
              refine hK.out _ _ ?_
              clear hK K
              refine done_ (done_of HT_.out (by kernel_rfl)) ?_
              clear HT_ HW_
              try clear hHeld
              generalize (World.setCell _ _ _) = w40 at HS HB ⊢
              have n0_ := Aside0.mk ((((((((((HS.out.pick 7 rfl).pick 2 rfl).pick 7 rfl).pick 7 rfl).pick 7 rfl).pick 7 rfl).pick 7 rfl).pick 8 rfl).pick 8 rfl)); have n1_ := Aside0.mk (HB.out); clear HS HB; have HS := n0_; have HB := n1_; clear n0_ n1_; (try simp only [List.eraseIdx_cons_succ, List.eraseIdx_cons_zero] at HS)
              revert HB
              revert HS
              revert w40
              revert s3
              revert A3
              revert n3
              revert c3
              revert AX
              revert cX
              revert AT
              revert cT
              exact key.out
          ·
            refine box_step (by rfl) (Nt := 14) rfl (cs := #[.int .i64 0, .int .i64 0, .slice none 0 0]) (t := 28) ?hrw27 ?_
            (case hrw27 => first | (go_simp; done) | (go_simp; rfl))
            intro s3 hg w27 hbox hb
            have n0_ := Aside0.mk (((((((((HS.out.box hg hbox hb).pick 7 rfl).pick 7 rfl).pick 7 rfl).pick 7 rfl).pick 7 rfl).pick 7 rfl).pick 7 rfl)); have n1_ := Aside0.mk (below_step' HB.out HS.out.size hb); clear HS HB; have HS := n0_; have HB := n1_; clear n0_ n1_; (try simp only [List.eraseIdx_cons_succ, List.eraseIdx_cons_zero] at HS)
            clear hb hbox hg
            refine hK.out _ _ ⟨((HS.out.pick 2 rfl).cell 0).trans rfl, ((HS.out.pick 2 rfl).cell 1).trans rfl⟩ (fun hHeld => ?_)
            clear hK K
            refine norm_ (a' := ?_) ?_ ?_
            rotate_left
            · show Act.put _ (some 14) _ = _
              simp only [Act.put, List.setIfInBounds_toArray, List.set_cons_zero, List.set_cons_succ, i64_w, i32_w]
              rfl
            refine one_ (i := 7) (N := some 81) #[true, true, true, true, true, true, true, true, false, true, false] rfl rfl (one_of HT_.out (by kernel_rfl)) (by decide) (fun K hK => ?_)
            refine S_append_rows_step Kd.string (by rfl) (.tmp 79) (.tmp 80) 39 9 (.string ⟨#[]⟩) 16 rfl Try.underlying39 info9 rfl (by decide) (by omega) (.slice AT ts.length cT) ts us AU us.length cU rfl rfl (fun _ _ h => h) (HS.out.pick 6 rfl) (HS.out.pick 0 rfl).rowC.2.2 HB.out (by have := hts.out; have := hus.out; omega) ?_
            intro vX w28 hs9 hb
            have n0_ := Aside0.mk ((((((((hs9.pick 7 rfl).pick 7 rfl).pick 7 rfl).pick 7 rfl).pick 7 rfl).pick 7 rfl).pick 7 rfl)); have n1_ := Aside0.mk (hb); clear HS HB; have HS := n0_; have HB := n1_; clear n0_ n1_; (try simp only [List.eraseIdx_cons_succ, List.eraseIdx_cons_zero] at HS)
            clear hs9 hb
            obtain ⟨AX, cX, e_⟩ : ∃ (A : Option Addr) (c : Nat), vX = .slice A (ts ++ us).length c := (by obtain ⟨A, c, e, _, _⟩ := (HS.out.pick 7 rfl).reads; exact ⟨A, c, e⟩); subst e_
            refine hK.out _ _ ⟨((HS.out.pick 2 rfl).cell 0).trans rfl, ((HS.out.pick 2 rfl).cell 1).trans rfl⟩ (fun hHeld => ?_)
            clear hK K
            refine norm_ (a' := ?_) ?_ ?_
            rotate_left
            · show Act.put _ (some 81) _ = _
              simp only [Act.put, List.setIfInBounds_toArray, List.set_cons_zero, List.set_cons_succ, i64_w, i32_w]
              rfl
            refine one_ (i := 8) (N := some 82) #[true, true, true, true, true, true, true, true, true, true, false] rfl rfl (one_of HT_.out (by kernel_rfl)) (by decide) (fun K hK => ?_)
            refine goes_ Try.func24 (by kernel_rfl) rfl #[.int .i64 Kn, .int .i64 bn, .slice AX (ts ++ us).length cX] (by rfl) rfl rfl (by (try simp only [List.map_toArray, List.map_cons, List.map_nil]); first | done | rfl | (simp only [List.length_drop, List.length_take]; rfl)) ?_
            with_reducible refine (ofl_ok Kn bn 5 (hashT (bn : Int)) (ts ++ us) (ts ++ us).length (Nat.le_refl _) hlw.out HOW.out AX cX (HS.out.pick 7 rfl)).mono ?_
            rintro e w29 ⟨v3, rfl, hs1, hb⟩; rw [List.take_length] at hs1
            refine ⟨_, rfl, ?_⟩
            have n0_ := Aside0.mk ((((((((((hs1.pick 0 rfl).pick 1 rfl).pick 8 rfl).pick 8 rfl).pick 8 rfl).pick 8 rfl).pick 8 rfl).pick 8 rfl).pick 8 rfl)); have n1_ := Aside0.mk (HB.out.trans hb); clear HS HB; have HS := n0_; have HB := n1_; clear n0_ n1_; (try simp only [List.eraseIdx_cons_succ, List.eraseIdx_cons_zero] at HS)
            clear hs1 hb; obtain ⟨A3, n3, c3, e_⟩ : ∃ (A : Option Addr) (n c : Nat), v3 = .slice A n c := (by obtain ⟨A, c, e, _, _⟩ := (HS.out.pick 8 rfl).reads; exact ⟨A, _, c, e⟩); subst e_
            refine hK.out _ _ ⟨((HS.out.pick 2 rfl).cell 0).trans rfl, ((HS.out.pick 2 rfl).cell 1).trans rfl⟩ (fun hHeld => ?_)
            clear hK K
            refine norm_ (a' := ?_) ?_ ?_
            rotate_left
            · show Act.put _ (some 82) _ = _
              simp only [Act.put, List.setIfInBounds_toArray, List.set_cons_zero, List.set_cons_succ, i64_w, i32_w]
              rfl
            refine last_ (i := 10) (N := none) #[true, true, true, true, true, true, true, true, true, true, true] rfl rfl (one_of HT_.out (by kernel_rfl)) (by decide) (fun K hK => ?_)
            have q0 := ((HS.out.pick 6 rfl).cell 0).trans (show _ = some (.int .i64 0) from rfl); have f0 := (HS.out.pick 6 rfl).frozen 0; have q1 := ((HS.out.pick 6 rfl).cell 1).trans (show _ = some (.int .i64 0) from rfl); have f1 := (HS.out.pick 6 rfl).frozen 1; have q2 := ((HS.out.pick 6 rfl).cell 2).trans (show _ = some (.slice none 0 0) from rfl); have f2 := (HS.out.pick 6 rfl).frozen 2
            refine skip_ (w1 := ?_) (by rfl) rfl ?_ ?_
            rotate_left
            · go_simp
              rfl
            clear q0 q1 q2 f0 f1 f2
            have n0_ := Aside0.mk ((((HS.out.pick 6 rfl).set 0 (.int .i64 Kn) #[.int .i64 Kn, .int .i64 0, .slice none 0 0] rfl).set 1 (.int .i64 bn) #[.int .i64 Kn, .int .i64 bn, .slice none 0 0] rfl).set 2 (.slice A3 n3 c3) #[.int .i64 Kn, .int .i64 bn, (.slice A3 n3 c3)] rfl); have n1_ := Aside0.mk ((((HS.out.pick 6 rfl).set 0 (.int .i64 Kn) #[.int .i64 Kn, .int .i64 0, .slice none 0 0] rfl).set 1 (.int .i64 bn) #[.int .i64 Kn, .int .i64 bn, .slice none 0 0] rfl).below_set (i := 2) (u := (.slice A3 n3 c3)) (((HS.out.pick 6 rfl).set 0 (.int .i64 Kn) #[.int .i64 Kn, .int .i64 0, .slice none 0 0] rfl).below_set (i := 1) (u := .int .i64 bn) ((HS.out.pick 6 rfl).below_set (i := 0) (u := .int .i64 Kn) HB.out))); clear HS HB; have HS := n0_; have HB := n1_; clear n0_ n1_; (try simp only [List.eraseIdx_cons_succ, List.eraseIdx_cons_zero] at HS)
            refine hK.out _ _ ?_
            clear hK K
            refine done_ (done_of HT_.out (by kernel_rfl)) ?_
            clear HT_ HW_
            try clear hHeld
            generalize (World.setCell _ _ _) = w40 at HS HB ⊢
            have n0_ := Aside0.mk ((((((((((HS.out.pick 7 rfl).pick 2 rfl).pick 7 rfl).pick 7 rfl).pick 7 rfl).pick 7 rfl).pick 7 rfl).pick 8 rfl).pick 8 rfl)); have n1_ := Aside0.mk (HB.out); clear HS HB; have HS := n0_; have HB := n1_; clear n0_ n1_; (try simp only [List.eraseIdx_cons_succ, List.eraseIdx_cons_zero] at HS)
            revert HB
            revert HS
            revert w40
            revert s3
            revert A3
            revert n3
            revert c3
            revert AX
            revert cX
            revert AT
            revert cT
            exact key.out
        ·
          refine box_step (by rfl) (Nt := 14) rfl (cs := #[.int .i64 0, .int .i64 0, .slice none 0 0]) (t := 28) ?hrw30 ?_
          (case hrw30 => first | (go_simp; done) | (go_simp; rfl))
          intro s3 hg w30 hbox hb
          have n0_ := Aside0.mk ((((((((HS.out.box hg hbox hb).pick 6 rfl).pick 6 rfl).pick 6 rfl).pick 6 rfl).pick 6 rfl).pick 6 rfl)); have n1_ := Aside0.mk (below_step' HB.out HS.out.size hb); clear HS HB; have HS := n0_; have HB := n1_; clear n0_ n1_; (try simp only [List.eraseIdx_cons_succ, List.eraseIdx_cons_zero] at HS)
          clear hb hbox hg
          refine hK.out _ _ ⟨((HS.out.pick 2 rfl).cell 0).trans rfl, ((HS.out.pick 2 rfl).cell 1).trans rfl⟩ (fun hHeld => ?_)
          clear hK K
          refine norm_ (a' := ?_) ?_ ?_
          rotate_left
          · show Act.put _ (some 14) _ = _
            simp only [Act.put, List.setIfInBounds_toArray, List.set_cons_zero, List.set_cons_succ, i64_w, i32_w]
            rfl
          refine one_ (i := 5) (N := some 79) #[true, true, true, true, true, true, true, false, false, true, false] rfl rfl (one_of HT_.out (by kernel_rfl)) (by decide) (fun K hK => ?_)
          refine goes_ Try.func22 (by kernel_rfl) rfl #[.slice Aa dl.length ca] (by rfl) rfl rfl (by (try simp only [List.map_toArray, List.map_cons, List.map_nil]); first | done | rfl | (simp only [List.length_drop, List.length_take]; rfl)) ?_
          with_reducible refine (sleuthlaw23_keys.calls k Aa ca dl ts _ (Kd.C_below HC.out HB.out) hca.out hk.out).mono ?_
          rintro e w31 ⟨vT, rfl, ho, hb⟩
          refine ⟨_, rfl, ?_⟩
          have n0_ := Aside0.mk (((((((((HS.out.made ho hb).pick 7 rfl).pick 7 rfl).pick 7 rfl).pick 7 rfl).pick 7 rfl).pick 7 rfl).pick 7 rfl)); have n1_ := Aside0.mk (below_step' HB.out HS.out.size hb); clear HS HB; have HS := n0_; have HB := n1_; clear n0_ n1_; (try simp only [List.eraseIdx_cons_succ, List.eraseIdx_cons_zero] at HS)
          clear ho hb; obtain ⟨AT, cT, e_⟩ : ∃ (A : Option Addr) (c : Nat), vT = .slice A ts.length c := (by obtain ⟨A, c, e, _, _⟩ := (HS.out.pick 7 rfl).reads; exact ⟨A, c, e⟩); subst e_
          refine hK.out _ _ ⟨((HS.out.pick 2 rfl).cell 0).trans rfl, ((HS.out.pick 2 rfl).cell 1).trans rfl⟩ (fun hHeld => ?_)
          clear hK K
          refine norm_ (a' := ?_) ?_ ?_
          rotate_left
          · show Act.put _ (some 79) _ = _
            simp only [Act.put, List.setIfInBounds_toArray, List.set_cons_zero, List.set_cons_succ, i64_w, i32_w]
            rfl
          refine one_ (i := 7) (N := some 81) #[true, true, true, true, true, true, true, true, false, true, false] rfl rfl (one_of HT_.out (by kernel_rfl)) (by decide) (fun K hK => ?_)
          refine S_append_rows_step Kd.string (by rfl) (.tmp 79) (.tmp 80) 39 9 (.string ⟨#[]⟩) 16 rfl Try.underlying39 info9 rfl (by decide) (by omega) (.slice AT ts.length cT) ts us AU us.length cU rfl rfl (fun _ _ h => h) (HS.out.pick 7 rfl) (HS.out.pick 0 rfl).rowC.2.2 HB.out (by have := hts.out; have := hus.out; omega) ?_
          intro vX w32 hs9 hb
          have n0_ := Aside0.mk ((((((((hs9.pick 7 rfl).pick 7 rfl).pick 7 rfl).pick 7 rfl).pick 7 rfl).pick 7 rfl).pick 7 rfl)); have n1_ := Aside0.mk (hb); clear HS HB; have HS := n0_; have HB := n1_; clear n0_ n1_; (try simp only [List.eraseIdx_cons_succ, List.eraseIdx_cons_zero] at HS)
          clear hs9 hb
          obtain ⟨AX, cX, e_⟩ : ∃ (A : Option Addr) (c : Nat), vX = .slice A (ts ++ us).length c := (by obtain ⟨A, c, e, _, _⟩ := (HS.out.pick 7 rfl).reads; exact ⟨A, c, e⟩); subst e_
          refine hK.out _ _ ⟨((HS.out.pick 2 rfl).cell 0).trans rfl, ((HS.out.pick 2 rfl).cell 1).trans rfl⟩ (fun hHeld => ?_)
          clear hK K
          refine norm_ (a' := ?_) ?_ ?_
          rotate_left
          · show Act.put _ (some 81) _ = _
            simp only [Act.put, List.setIfInBounds_toArray, List.set_cons_zero, List.set_cons_succ, i64_w, i32_w]
            rfl
          refine one_ (i := 8) (N := some 82) #[true, true, true, true, true, true, true, true, true, true, false] rfl rfl (one_of HT_.out (by kernel_rfl)) (by decide) (fun K hK => ?_)
          refine goes_ Try.func24 (by kernel_rfl) rfl #[.int .i64 Kn, .int .i64 bn, .slice AX (ts ++ us).length cX] (by rfl) rfl rfl (by (try simp only [List.map_toArray, List.map_cons, List.map_nil]); first | done | rfl | (simp only [List.length_drop, List.length_take]; rfl)) ?_
          with_reducible refine (ofl_ok Kn bn 5 (hashT (bn : Int)) (ts ++ us) (ts ++ us).length (Nat.le_refl _) hlw.out HOW.out AX cX (HS.out.pick 7 rfl)).mono ?_
          rintro e w33 ⟨v3, rfl, hs1, hb⟩; rw [List.take_length] at hs1
          refine ⟨_, rfl, ?_⟩
          have n0_ := Aside0.mk ((((((((((hs1.pick 0 rfl).pick 1 rfl).pick 8 rfl).pick 8 rfl).pick 8 rfl).pick 8 rfl).pick 8 rfl).pick 8 rfl).pick 8 rfl)); have n1_ := Aside0.mk (HB.out.trans hb); clear HS HB; have HS := n0_; have HB := n1_; clear n0_ n1_; (try simp only [List.eraseIdx_cons_succ, List.eraseIdx_cons_zero] at HS)
          clear hs1 hb; obtain ⟨A3, n3, c3, e_⟩ : ∃ (A : Option Addr) (n c : Nat), v3 = .slice A n c := (by obtain ⟨A, c, e, _, _⟩ := (HS.out.pick 8 rfl).reads; exact ⟨A, _, c, e⟩); subst e_
          refine hK.out _ _ ⟨((HS.out.pick 2 rfl).cell 0).trans rfl, ((HS.out.pick 2 rfl).cell 1).trans rfl⟩ (fun hHeld => ?_)
          clear hK K
          refine norm_ (a' := ?_) ?_ ?_
          rotate_left
          · show Act.put _ (some 82) _ = _
            simp only [Act.put, List.setIfInBounds_toArray, List.set_cons_zero, List.set_cons_succ, i64_w, i32_w]
            rfl
          refine last_ (i := 10) (N := none) #[true, true, true, true, true, true, true, true, true, true, true] rfl rfl (one_of HT_.out (by kernel_rfl)) (by decide) (fun K hK => ?_)
          have q0 := ((HS.out.pick 6 rfl).cell 0).trans (show _ = some (.int .i64 0) from rfl); have f0 := (HS.out.pick 6 rfl).frozen 0; have q1 := ((HS.out.pick 6 rfl).cell 1).trans (show _ = some (.int .i64 0) from rfl); have f1 := (HS.out.pick 6 rfl).frozen 1; have q2 := ((HS.out.pick 6 rfl).cell 2).trans (show _ = some (.slice none 0 0) from rfl); have f2 := (HS.out.pick 6 rfl).frozen 2
          refine skip_ (w1 := ?_) (by rfl) rfl ?_ ?_
          rotate_left
          · go_simp
            rfl
          clear q0 q1 q2 f0 f1 f2
          have n0_ := Aside0.mk ((((HS.out.pick 6 rfl).set 0 (.int .i64 Kn) #[.int .i64 Kn, .int .i64 0, .slice none 0 0] rfl).set 1 (.int .i64 bn) #[.int .i64 Kn, .int .i64 bn, .slice none 0 0] rfl).set 2 (.slice A3 n3 c3) #[.int .i64 Kn, .int .i64 bn, (.slice A3 n3 c3)] rfl); have n1_ := Aside0.mk ((((HS.out.pick 6 rfl).set 0 (.int .i64 Kn) #[.int .i64 Kn, .int .i64 0, .slice none 0 0] rfl).set 1 (.int .i64 bn) #[.int .i64 Kn, .int .i64 bn, .slice none 0 0] rfl).below_set (i := 2) (u := (.slice A3 n3 c3)) (((HS.out.pick 6 rfl).set 0 (.int .i64 Kn) #[.int .i64 Kn, .int .i64 0, .slice none 0 0] rfl).below_set (i := 1) (u := .int .i64 bn) ((HS.out.pick 6 rfl).below_set (i := 0) (u := .int .i64 Kn) HB.out))); clear HS HB; have HS := n0_; have HB := n1_; clear n0_ n1_; (try simp only [List.eraseIdx_cons_succ, List.eraseIdx_cons_zero] at HS)
          refine hK.out _ _ ?_
          clear hK K
          refine done_ (done_of HT_.out (by kernel_rfl)) ?_
          clear HT_ HW_
          try clear hHeld
          generalize (World.setCell _ _ _) = w40 at HS HB ⊢
          have n0_ := Aside0.mk ((((((((((HS.out.pick 7 rfl).pick 2 rfl).pick 7 rfl).pick 7 rfl).pick 7 rfl).pick 7 rfl).pick 7 rfl).pick 8 rfl).pick 8 rfl)); have n1_ := Aside0.mk (HB.out); clear HS HB; have HS := n0_; have HB := n1_; clear n0_ n1_; (try simp only [List.eraseIdx_cons_succ, List.eraseIdx_cons_zero] at HS)
          revert HB
          revert HS
          revert w40
          revert s3
          revert A3
          revert n3
          revert c3
          revert AX
          revert cX
          revert AT
          revert cT
          exact key.out
      case key =>
        intro cT AT cX AX c3 n3 A3 s3 w40 HS HB
        obtain ⟨b, hbq⟩ : ∃ b, decide ((Kn : Int) = (Kn : Int) ∧ (bn : Int) = (bn : Int) ∧ decide (Kn < ((foldk (hashT (bn : Int)) (ts ++ us))).length) = decide (Kn < ((foldk (hashT (bn : Int)) ts)).length) ∧ ((foldk (hashT (bn : Int)) (ts ++ us))).take Kn = ((foldk (hashT (bn : Int)) ts)).take Kn) = b := ⟨_, rfl⟩
        have hq := forms_same Kn bn (foldk (hashT (bn : Int)) (ts ++ us)) (foldk (hashT (bn : Int)) ts) hK4.out hbs.out hkw.out hky.out ft fs hft.out hfs.out b hbq
        have bb : (b == b) = true := beq_self_eq_true b
        replace hbq := Aside0.mk hbq
        clear HSo HBo
        go_upto_region 14 with (fail)
        have n0_ := Aside0.mk (HS.out.drew); have n1_ := Aside0.mk (HB.out.drew); clear HS HB; have HS := n0_; have HB := n1_; clear n0_ n1_
        refine start_ (n := 20) (S := fun w' => w'.cell? ⟨s3, 0, none⟩ = some (.int .i64 Kn) ∧ w'.cell? ⟨s3, 1, none⟩ = some (.int .i64 bn) ∧ w'.cell? ⟨s3, 2, none⟩ = some ((.slice A3 n3 c3)) ∧ w'.cell? ⟨s, 0, none⟩ = some (.int .i64 Kn) ∧ w'.cell? ⟨s, 1, none⟩ = some (.int .i64 bn) ∧ w'.cell? ⟨s, 2, none⟩ = some ((.slice A1 n1 c1))) (ds := []) (tfs true [0, 20]).toArray (by kernel_rfl) rfl rfl ⟨((HS.out.pick 0 rfl).cell 0).trans rfl, ((HS.out.pick 0 rfl).cell 1).trans rfl, ((HS.out.pick 0 rfl).cell 2).trans rfl, ((HS.out.pick 3 rfl).cell 0).trans rfl, ((HS.out.pick 3 rfl).cell 1).trans rfl, ((HS.out.pick 3 rfl).cell 2).trans rfl⟩ (fun hHeld => ?_); refine with_tabW fms.tab14 fms.bits14 (fun HT_ HW_ => ?_)
        generalize w40.drew = w50 at HS HB hHeld ⊢
        refine pU 1 84 (tfs true [0, 1, 1, 18]).toArray rfl rfl HT_ ?_
        refine tK 0 83 (tfs true [2, 18]).toArray rfl rfl HT_ HW_ hHeld ?_ (by rintro w' ⟨s0, s1, s2, s3, s4, s5⟩; go_simp; with_reducible rfl)
        refine one_ (i := 2) (N := some 85) (tfs true [3, 17]).toArray rfl rfl (one_of HT_.out (by kernel_rfl)) (by decide) (fun K hK => ?_)
        refine goes_ Try.func21 (by kernel_rfl) rfl #[.agg #[.int .i64 Kn, .int .i64 bn, (.slice A3 n3 c3)], .pointer (some ⟨o, 0, none⟩)] (by rfl) rfl rfl (by (try simp only [List.map_toArray, List.map_cons, List.map_nil]); first | done | rfl | (simp only [List.length_drop, List.length_take]; rfl)) ?_
        with_reducible refine (agrees_ok Kn hK4.out bn (foldk (hashT (bn : Int)) (ts ++ us)) hlw0.out (.slice A3 n3 c3) o ((HS.out.pick 2 rfl).pick 2 rfl)).mono ?_
        rintro e w51 ⟨rfl, hs1, hb⟩
        refine ⟨_, rfl, ?_⟩
        have n0_ := Aside0.mk ((((((((((hs1.pick 8 rfl).pick 8 rfl).pick 8 rfl).pick 8 rfl).pick 8 rfl).pick 8 rfl).pick 7 rfl).pick 7 rfl).pick 8 rfl)); have n1_ := Aside0.mk (HB.out.trans hb); clear HS HB; have HS := n0_; have HB := n1_; clear n0_ n1_; (try simp only [List.eraseIdx_cons_succ, List.eraseIdx_cons_zero] at HS)
        clear hs1 hb
        refine hK.out _ _ ⟨((HS.out.pick 0 rfl).cell 0).trans rfl, ((HS.out.pick 0 rfl).cell 1).trans rfl, ((HS.out.pick 0 rfl).cell 2).trans rfl, ((HS.out.pick 3 rfl).cell 0).trans rfl, ((HS.out.pick 3 rfl).cell 1).trans rfl, ((HS.out.pick 3 rfl).cell 2).trans rfl⟩ (fun hHeld => ?_)
        clear hK K
        refine norm_ (a' := ?_) ?_ ?_
        rotate_left
        · show Act.put _ (some 85) _ = _
          simp only [Act.put, List.setIfInBounds_toArray, List.set_cons_zero, List.set_cons_succ, i64_w, i32_w]
          rfl
        refine pU 3 86 (tfs true [4, 16]).toArray rfl rfl HT_ ?_
        refine pU 5 88 (tfs true [4, 1, 1, 14]).toArray rfl rfl HT_ ?_
        refine tK 4 87 (tfs true [6, 14]).toArray rfl rfl HT_ HW_ hHeld ?_ (by rintro w' ⟨s0, s1, s2, s3, s4, s5⟩; go_simp; with_reducible rfl)
        refine one_ (i := 6) (N := some 89) (tfs true [7, 13]).toArray rfl rfl (one_of HT_.out (by kernel_rfl)) (by decide) (fun K hK => ?_)
        refine goes_ Try.func21 (by kernel_rfl) rfl #[.agg #[.int .i64 Kn, .int .i64 bn, (.slice A1 n1 c1)], .pointer (some ⟨p, 0, none⟩)] (by rfl) rfl rfl (by (try simp only [List.map_toArray, List.map_cons, List.map_nil]); first | done | rfl | (simp only [List.length_drop, List.length_take]; rfl)) ?_
        with_reducible refine (agrees_ok Kn hK4.out bn (foldk (hashT (bn : Int)) ts) hl0.out (.slice A1 n1 c1) p ((HS.out.pick 5 rfl).pick 5 rfl)).mono ?_
        rintro e w52 ⟨rfl, hs1, hb⟩
        refine ⟨_, rfl, ?_⟩
        have n0_ := Aside0.mk ((((((((((hs1.pick 8 rfl).pick 8 rfl).pick 8 rfl).pick 4 rfl).pick 4 rfl).pick 8 rfl).pick 8 rfl).pick 8 rfl).pick 8 rfl)); have n1_ := Aside0.mk (HB.out.trans hb); clear HS HB; have HS := n0_; have HB := n1_; clear n0_ n1_; (try simp only [List.eraseIdx_cons_succ, List.eraseIdx_cons_zero] at HS)
        clear hs1 hb
        refine hK.out _ _ ⟨((HS.out.pick 0 rfl).cell 0).trans rfl, ((HS.out.pick 0 rfl).cell 1).trans rfl, ((HS.out.pick 0 rfl).cell 2).trans rfl, ((HS.out.pick 3 rfl).cell 0).trans rfl, ((HS.out.pick 3 rfl).cell 1).trans rfl, ((HS.out.pick 3 rfl).cell 2).trans rfl⟩ (fun hHeld => ?_)
        clear hK K
        refine norm_ (a' := ?_) ?_ ?_
        rotate_left
        · show Act.put _ (some 89) _ = _
          simp only [Act.put, List.setIfInBounds_toArray, List.set_cons_zero, List.set_cons_succ, i64_w, i32_w]
          rfl
        refine pU 7 90 (tfs true [8, 12]).toArray rfl rfl HT_ ?_
        refine pU 8 91 (tfs true [9, 11]).toArray rfl rfl HT_ ?_
        refine pU 9 92 (tfs true [10, 10]).toArray rfl rfl HT_ ?_
        refine pU 10 93 (tfs true [11, 9]).toArray rfl rfl HT_ ?_
        refine tK 12 95 (tfs true [11, 1, 1, 7]).toArray rfl rfl HT_ HW_ hHeld ?_ (by rintro w' ⟨s0, s1, s2, s3, s4, s5⟩; go_simp; with_reducible rfl)
        refine tK 14 97 (tfs true [11, 1, 1, 1, 1, 5]).toArray rfl rfl HT_ HW_ hHeld ?_ (by rintro w' ⟨s0, s1, s2, s3, s4, s5⟩; go_simp; with_reducible rfl)
        refine one_ (i := 11) (N := some 94) (tfs true [13, 1, 1, 5]).toArray rfl rfl (one_of HT_.out (by kernel_rfl)) (by decide) (fun K hK => ?_)
        refine goes_ Try.func27 (by kernel_rfl) rfl #[.pointer (some ⟨o, 0, none⟩), .pointer (some ⟨p, 0, none⟩)] (by rfl) rfl rfl (by (try simp only [List.map_toArray, List.map_cons, List.map_nil]); first | done | rfl | (simp only [List.length_drop, List.length_take]; rfl)) ?_
        with_reducible refine (Equal_to o p Kn bn (foldk (hashT (bn : Int)) (ts ++ us)) (foldk (hashT (bn : Int)) ts) hK4.out b hbq.out ((HS.out.pick 5 rfl).pick 3 rfl)).mono ?_
        rintro e w53 ⟨rfl, hs1, hb⟩
        refine ⟨_, rfl, ?_⟩
        have n0_ := Aside0.mk ((((((((((hs1.pick 8 rfl).pick 8 rfl).pick 8 rfl).pick 4 rfl).pick 8 rfl).pick 8 rfl).pick 6 rfl).pick 8 rfl).pick 8 rfl)); have n1_ := Aside0.mk (HB.out.trans hb); clear HS HB; have HS := n0_; have HB := n1_; clear n0_ n1_; (try simp only [List.eraseIdx_cons_succ, List.eraseIdx_cons_zero] at HS)
        clear hs1 hb
        refine hK.out _ _ ⟨((HS.out.pick 0 rfl).cell 0).trans rfl, ((HS.out.pick 0 rfl).cell 1).trans rfl, ((HS.out.pick 0 rfl).cell 2).trans rfl, ((HS.out.pick 3 rfl).cell 0).trans rfl, ((HS.out.pick 3 rfl).cell 1).trans rfl, ((HS.out.pick 3 rfl).cell 2).trans rfl⟩ (fun hHeld => ?_)
        clear hK K
        refine norm_ (a' := ?_) ?_ ?_
        rotate_left
        · show Act.put _ (some 94) _ = _
          simp only [Act.put, List.setIfInBounds_toArray, List.set_cons_zero, List.set_cons_succ, i64_w, i32_w]
          rfl
        refine one_ (i := 13) (N := some 96) (tfs true [15, 5]).toArray rfl rfl (one_of HT_.out (by kernel_rfl)) (by decide) (fun K hK => ?_)
        refine goes_ Try.func31 (by kernel_rfl) rfl #[.agg #[.int .i64 Kn, .int .i64 bn, (.slice A3 n3 c3)]] (by rfl) rfl rfl (by (try simp only [List.map_toArray, List.map_cons, List.map_nil]); first | done | rfl | (simp only [List.length_drop, List.length_take]; rfl)) ?_
        with_reducible refine (form_to Kn bn hK4.out hbs.out (foldk (hashT (bn : Int)) (ts ++ us)) hlw1.out hszw.out A3 n3 c3 ft hft.out (HS.out.pick 1 rfl)).mono ?_
        rintro e w54 ⟨rfl, hs1, hb⟩
        refine ⟨_, rfl, ?_⟩
        have n0_ := Aside0.mk ((((((((((hs1.pick 8 rfl).pick 8 rfl).pick 8 rfl).pick 8 rfl).pick 8 rfl).pick 8 rfl).pick 8 rfl).pick 7 rfl).pick 8 rfl)); have n1_ := Aside0.mk (HB.out.trans hb); clear HS HB; have HS := n0_; have HB := n1_; clear n0_ n1_; (try simp only [List.eraseIdx_cons_succ, List.eraseIdx_cons_zero] at HS)
        clear hs1 hb
        refine hK.out _ _ ⟨((HS.out.pick 0 rfl).cell 0).trans rfl, ((HS.out.pick 0 rfl).cell 1).trans rfl, ((HS.out.pick 0 rfl).cell 2).trans rfl, ((HS.out.pick 3 rfl).cell 0).trans rfl, ((HS.out.pick 3 rfl).cell 1).trans rfl, ((HS.out.pick 3 rfl).cell 2).trans rfl⟩ (fun hHeld => ?_)
        clear hK K
        refine norm_ (a' := ?_) ?_ ?_
        rotate_left
        · show Act.put _ (some 96) _ = _
          simp only [Act.put, List.setIfInBounds_toArray, List.set_cons_zero, List.set_cons_succ, i64_w, i32_w]
          rfl
        refine one_ (i := 15) (N := some 98) (tfs true [16, 4]).toArray rfl rfl (one_of HT_.out (by kernel_rfl)) (by decide) (fun K hK => ?_)
        refine goes_ Try.func31 (by kernel_rfl) rfl #[.agg #[.int .i64 Kn, .int .i64 bn, (.slice A1 n1 c1)]] (by rfl) rfl rfl (by (try simp only [List.map_toArray, List.map_cons, List.map_nil]); first | done | rfl | (simp only [List.length_drop, List.length_take]; rfl)) ?_
        with_reducible refine (form_to Kn bn hK4.out hbs.out (foldk (hashT (bn : Int)) ts) hl1.out hsz.out A1 n1 c1 fs hfs.out (HS.out.pick 4 rfl)).mono ?_
        rintro e w55 ⟨rfl, hs1, hb⟩
        refine ⟨_, rfl, ?_⟩
        have n0_ := Aside0.mk ((((((((((hs1.pick 8 rfl).pick 8 rfl).pick 8 rfl).pick 8 rfl).pick 4 rfl).pick 8 rfl).pick 8 rfl).pick 8 rfl).pick 8 rfl)); have n1_ := Aside0.mk (HB.out.trans hb); clear HS HB; have HS := n0_; have HB := n1_; clear n0_ n1_; (try simp only [List.eraseIdx_cons_succ, List.eraseIdx_cons_zero] at HS)
        clear hs1 hb
        refine hK.out _ _ ⟨((HS.out.pick 0 rfl).cell 0).trans rfl, ((HS.out.pick 0 rfl).cell 1).trans rfl, ((HS.out.pick 0 rfl).cell 2).trans rfl, ((HS.out.pick 3 rfl).cell 0).trans rfl, ((HS.out.pick 3 rfl).cell 1).trans rfl, ((HS.out.pick 3 rfl).cell 2).trans rfl⟩ (fun hHeld => ?_)
        clear hK K
        refine norm_ (a' := ?_) ?_ ?_
        rotate_left
        · show Act.put _ (some 98) _ = _
          simp only [Act.put, List.setIfInBounds_toArray, List.set_cons_zero, List.set_cons_succ, i64_w, i32_w]
          rfl
        refine pU 16 99 (tfs true [17, 3]).toArray rfl rfl HT_ ?_
        refine pU 17 100 (tfs true [18, 2]).toArray rfl rfl HT_ ?_
        refine pU 18 101 (tfs true [19, 1]).toArray rfl rfl HT_ ?_
        refine pU 19 6 (tfs true [20]).toArray rfl rfl HT_ ?_
        refine done_ (done_of HT_.out (by kernel_rfl)) ?_
        clear HT_ HW_
        try clear hHeld
        go_wp2
        go_ret
        exact ⟨by simp, HB.out⟩
end Go.Proofs.Ytddhpkobingmhaa.PB
