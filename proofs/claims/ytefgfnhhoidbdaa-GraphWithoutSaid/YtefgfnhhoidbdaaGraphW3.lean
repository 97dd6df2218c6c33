/- Add: an edge more. -/
import Derived.Test.YtefgfnhhoidbdaaGraphW2
import Derived.Test.YtefgfnhhoidbdaaX39
import Derived.Test.YtefgfnhhoidbdaaEvKit
namespace Go.Proofs.Ytefgfnhhoidbdaa.GrW
open Go.RowKit Go.Proofs.YtefgfnhhoidbdaaW.PrintWords Go.Proofs.YtefgfnhhoidbdaaW.PrintLast Go.Proofs.Ytefgfnhhoidbdaa.X Go.Proofs.Ytefgfnhhoidbdaa.Gr
set_option linter.unusedVariables false
set_option linter.unusedSimpArgs false
/-- What else lies there stays. -/
structure Grew (B : Nat) (O : Nat → Prop) (w w' : World) : Prop where
  below : Below B w w'
  block : ∀ k, k < w.heap.size → ¬ O k → w'.heap[k]? = w.heap[k]?
theorem key_wf {i : Int} (h0 : -1 ≤ i) (h1 : i < 8192) : (Lit.int .i64 i).wf = true := by
  show (decide (-9223372036854775808 ≤ i) && decide (i ≤ 9223372036854775807)) = true
  rw [Bool.and_eq_true, decide_eq_true_eq, decide_eq_true_eq]
  omega
theorem grown_set (W : World) (p : Addr) (v : Value) : W.grownBy (W.setCell p v) (some p.block) :=
  have hb := (Below.refl 0 W).setCell (p := p) (Nat.zero_le _) v
  ⟨hb.os, hb.tape, hb.output, hb.size, fun k _ hk => Below.heap_setCell W p v k (fun e => hk (by rw [e]))⟩
section
variable {B : Nat} {O : Nat → Prop} {w W W' : World}
theorem Grew.of_below (h : Below w.heap.size w W) (hB : B ≤ w.heap.size) : Grew B O w W := ⟨h.mono hB, fun k hk _ => h.block k hk⟩
theorem Grew.grown (h : Grew B O w W) {row : Option Nat} (hg : W.grownBy W' row) (hr : ∀ k, row = some k → O k ∨ w.heap.size ≤ k) (hO : ∀ k, O k → B ≤ k) (hB : B ≤ w.heap.size) : Grew B O w W' := by
  refine ⟨h.below.grown hg (Nat.le_trans hB h.below.size) (fun k hk => (hr k hk).elim (hO k) (fun h2 => Nat.le_trans hB h2)), fun k hk hno => ?_⟩
  exact (hg.block k (Nat.lt_of_lt_of_le hk h.below.size) (fun e => (hr k e.symm).elim hno (fun h2 => by omega))).trans (h.block k hk hno)
end
theorem outI_len (es : List S29) (v : Int) : (outI es v).length ≤ es.length := by
  unfold outI outL
  rw [List.length_map]
  exact Nat.le_trans (List.length_filter_le _ _) (Nat.le_of_eq List.length_range)
theorem keyed3 : Maps.Keyed Try.prog 3 := Maps.int_keyed (q := .i64) Try.underlying3
theorem look43 {mb cnt : Nat} {f : Int → Value} {W : World} (h : MapV.Is Try.prog 3 mb cnt (.slice none 0 0) f W) {i : Int} (h0 : -1 ≤ i) (h1 : i < 8192) : (Instr.lookup 86 (.map (some mb)) (.int .i64 i) false).run Try.prog W = .ok (f i) W :=
  h.look keyed3 Try.underlying3 Try.underlying86 (zero43 W) i (key_wf h0 h1)
theorem lk_run {P : Program} {o : Oper} {a : Act} {m x : Operand} {t : TypeId} {vm vx v : Value} {w : World} (hr : (Instr.lookup t vm vx false).run P w = .ok v w) (ho : o.op = Op.lookup t m x false := by rfl) (hm : a.eval m = vm := by rfl) (hx : a.eval x = vx := by rfl) : (execOp a.eval o).run P w = .ok (.value v) w := by
  simp [execOp, ho, hm, hx, hr]
theorem mu_run {P : Program} {o : Oper} {a : Act} {m k x : Operand} {t : TypeId} {vm vk vx : Value} {w w' : World} (hr : (Instr.mapUpdate t vm vk vx).run P w = .ok () w') (ho : o.op = Op.mapUpdate t m k x := by rfl) (hm : a.eval m = vm := by rfl) (hk : a.eval k = vk := by rfl) (hx : a.eval x = vx := by rfl) : (execOp a.eval o).run P w = .ok .skip w' := by
  simp [execOp, ho, hm, hk, hx, hr]
set_option maxHeartbeats 8000000 in
set_option maxRecDepth 100000 in
theorem add_ok {g B n : Nat} {es : List S29} {O : Nat → Prop} (x : S29) (w : World) (h : G g B n es O w) (h1 : -1 ≤ x.f0) (h2 : x.f0 < n) (h3 : 0 ≤ x.f1) (h4 : x.f1 < n) (hx : ¬ x ∈ es) (hl : es.length < 16384) (hBw : B ≤ w.heap.size) : Calls Try.prog 12 #[.pointer (some ⟨g, 0, none⟩), .agg #[.int .i64 x.f0, .int .i64 x.f1, .int .i64 x.f2, .int .i64 x.f3]] w fun e w' => e = .returned (.int .i64 0) ∧ ∃ O', G g B n (es ++ [x]) O' w' ∧ Grew B O w w' ∧ ∀ k, O' k → O k ∨ w.heap.size ≤ k := by
  obtain ⟨mb, cnt, A, c, f, hga, hO⟩ := h.edges
  have HB := Aside0.mk (Below.refl w.heap.size w)
  have GB := Aside0.mk hga.bk
  have HGA := Aside0.mk hga
  have k1 : decide (x.f0 < -1) = false := decide_eq_false (by omega)
  have k2 : decide ((n : Int) ≤ x.f0) = false := decide_eq_false (by omega)
  have k3 : decide (x.f1 < 0) = false := decide_eq_false (by omega)
  have k4 : decide ((n : Int) ≤ x.f1) = false := decide_eq_false (by omega)
  have k5 : ((es.length : Int) == 16384) = false := beq_eq_false_iff_ne.2 (by omega)
  have hlen := hga.m_le
  have HCT := Lib.hid (fun (W : World) (hb : Below w.heap.size w W) => graph_Edge_39.calls (es.length + 1) A c es x.f0 x.f1 x.f2 x.f3 false W (Kd.C_below (Kd.R_reads' hga.row).2.2 hb) (Kd.R_reads' hga.row).2.1 (contains_any es x (by omega) false (by simp [hx])))
  have HF := Lib.hid (And.intro h1 (And.intro h2 (And.intro h3 (And.intro h4 hl))))
  have HBw := Lib.hid hBw
  have HO := Aside0.mk hO
  clear h1 h2 h3 h4 hx hga h hO hlen hl hBw
  go_enter Try.func12, Try.ntmps12
  go_wp2_with (first | ((with_reducible refine gate_dst (N := 3) rfl ?_); refine box_event ?hg (N := 3) ?hd (cs := #[.int .i64 x.f0, .int .i64 x.f1, .int .i64 x.f2, .int .i64 x.f3]) (t := 29) ?hr ?_; (case hd => rfl); (case hg => rfl); (case hr => first | (go_simp; done) | (go_simp; rfl)); intro gx hg w1 hbox hb; have NWXB := Aside0.mk hbox; have GWXB := Aside0.mk ((by rw [hg]; exact (below_size (pxb HB)) : w.heap.size ≤ gx)); have NEGBXB := Aside0.mk (show g ≠ gx by rw [hg]; exact Nat.ne_of_lt (blk_lt (pxp (o := .cells #[.int .i64 n, .slice A es.length c, .map (some mb)] 88 (0, 0)) GB))); have NEXBGB := Aside0.mk (Ne.symm NEGBXB.out); have eGBXB := NEGBXB.out; have eXBGB := NEXBGB.out; clear hg hbox; have n0_ := pxs HB hb; have nGB_ : Aside0 (w1.heap[g]? = some (.cells #[.int .i64 n, .slice A es.length c, .map (some mb)] 88 (0, 0))) := ⟨blk_below (pxp GB) hb⟩; clear HB GB; have HB := n0_; clear n0_; have GB := nGB_; clear nGB_; have XB := NWXB; clear NWXB hb; obtain ⟨xGB0, xGB1, xGB2, yGB0, yGB1, yGB2⟩ := pxf3 GB; obtain ⟨xXB0, xXB1, xXB2, xXB3, yXB0, yXB1, yXB2, yXB3⟩ := pxf4 XB))
  go_quiet (fail)
  go_wp2
  refine start_ (n := 7) (S := fun w' => w'.cell? ⟨g, 0, none⟩ = some (.int .i64 n) ∧ w'.cell? ⟨g, 1, none⟩ = some (.slice A es.length c) ∧ w'.cell? ⟨g, 2, none⟩ = some (.map (some mb)) ∧ w'.cell? ⟨gx, 0, none⟩ = some (.int .i64 x.f0) ∧ w'.cell? ⟨gx, 1, none⟩ = some (.int .i64 x.f1) ∧ w'.cell? ⟨gx, 2, none⟩ = some (.int .i64 x.f2) ∧ w'.cell? ⟨gx, 3, none⟩ = some (.int .i64 x.f3)) (ds := []) #[false, false, false, false, false, false, false] (by kernel_rfl) rfl rfl ⟨(pxf3 ⟨blk_drew (pxp (o := .cells #[.int .i64 n, .slice A es.length c, .map (some mb)] 88 (0, 0)) GB)⟩).1, (pxf3 ⟨blk_drew (pxp (o := .cells #[.int .i64 n, .slice A es.length c, .map (some mb)] 88 (0, 0)) GB)⟩).2.1, (pxf3 ⟨blk_drew (pxp (o := .cells #[.int .i64 n, .slice A es.length c, .map (some mb)] 88 (0, 0)) GB)⟩).2.2.1, (pxf4 ⟨blk_drew (pxp (o := .cells #[.int .i64 x.f0, .int .i64 x.f1, .int .i64 x.f2, .int .i64 x.f3] 29 (0, 0)) XB)⟩).1, (pxf4 ⟨blk_drew (pxp (o := .cells #[.int .i64 x.f0, .int .i64 x.f1, .int .i64 x.f2, .int .i64 x.f3] 29 (0, 0)) XB)⟩).2.1, (pxf4 ⟨blk_drew (pxp (o := .cells #[.int .i64 x.f0, .int .i64 x.f1, .int .i64 x.f2, .int .i64 x.f3] 29 (0, 0)) XB)⟩).2.2.1, (pxf4 ⟨blk_drew (pxp (o := .cells #[.int .i64 x.f0, .int .i64 x.f1, .int .i64 x.f2, .int .i64 x.f3] 29 (0, 0)) XB)⟩).2.2.2.1⟩ (fun hHeld => ?_); refine with_tab rfl (fun HT_ => ?_)
  generalize hW_ : World.drew _ = w2 at hHeld ⊢
  have n0_ : Aside0 (Below w.heap.size w w2) := ⟨by rw [← hW_]; exact below_drew1 (pxb HB)⟩
  have nGB_ : Aside0 (w2.heap[g]? = some (.cells #[.int .i64 n, .slice A es.length c, .map (some mb)] 88 (0, 0))) := ⟨by rw [← hW_]; exact blk_drew (pxp GB)⟩
  have nXB_ : Aside0 (w2.heap[gx]? = some (.cells #[.int .i64 x.f0, .int .i64 x.f1, .int .i64 x.f2, .int .i64 x.f3] 29 (0, 0))) := ⟨by rw [← hW_]; exact blk_drew (pxp XB)⟩
  clear hW_ HB GB XB
  have HB := n0_
  have GB := nGB_
  have XB := nXB_
  clear n0_ nGB_ nXB_
  refine pS 0 33 HT_ ?_
  refine pS 1 34 HT_ ?_
  refine pS 2 35 HT_ ?_
  refine tT 3 36 HT_ hHeld ?_
  refine tT 4 37 HT_ hHeld ?_
  refine oS 5 HT_ (fun K hK => ?_)
  refine goes_ Try.func39 (by kernel_rfl) rfl #[.slice A es.length c, .agg #[.int .i64 x.f0, .int .i64 x.f1, .int .i64 x.f2, .int .i64 x.f3]] (by rfl) rfl rfl (by (try simp only [List.map_toArray, List.map_cons, List.map_nil]); first | done | rfl) ?_
  (with_reducible refine (HCT.out _ (pxb HB)).mono ?_)
  rintro e w3 ⟨rfl, hb⟩
  refine ⟨_, rfl, ?_⟩
  have n0_ := pxs HB hb; have nGB_ : Aside0 (w3.heap[g]? = some (.cells #[.int .i64 n, .slice A es.length c, .map (some mb)] 88 (0, 0))) := ⟨blk_below (pxp GB) hb⟩; have nXB_ : Aside0 (w3.heap[gx]? = some (.cells #[.int .i64 x.f0, .int .i64 x.f1, .int .i64 x.f2, .int .i64 x.f3] 29 (0, 0))) := ⟨blk_below (pxp XB) hb⟩; clear HB GB XB; have HB := n0_; clear n0_; have GB := nGB_; clear nGB_; have XB := nXB_; clear nXB_
  refine hK.out _ _ ⟨(pxf3 GB).1, (pxf3 GB).2.1, (pxf3 GB).2.2.1, (pxf4 XB).1, (pxf4 XB).2.1, (pxf4 XB).2.2.1, (pxf4 XB).2.2.2.1⟩ (fun hHeld => ?_)
  clear hK K hb
  refine nS 38 ?_
  refine pS 6 32 HT_ ?_
  refine done_ (done_of HT_.out (by kernel_rfl)) ?_
  clear HT_ hHeld
  obtain ⟨xGB0, xGB1, xGB2, yGB0, yGB1, yGB2⟩ := pxf3 GB
  go_wp2
  refine start_ (n := 21) (S := fun w' => w'.cell? ⟨g, 0, none⟩ = some (.int .i64 n) ∧ w'.cell? ⟨g, 1, none⟩ = some (.slice A es.length c) ∧ w'.cell? ⟨g, 2, none⟩ = some (.map (some mb)) ∧ w'.cell? ⟨gx, 0, none⟩ = some (.int .i64 x.f0) ∧ w'.cell? ⟨gx, 1, none⟩ = some (.int .i64 x.f1) ∧ w'.cell? ⟨gx, 2, none⟩ = some (.int .i64 x.f2) ∧ w'.cell? ⟨gx, 3, none⟩ = some (.int .i64 x.f3) ∧ (Instr.lookup 86 (.map (some mb)) (.int .i64 x.f0) false).run Try.prog w' = .ok (f x.f0) w') (ds := [20]) #[false, false, false, false, false, false, false, false, false, false, false, false, false, false, false, false, false, false, false, false, false] (by kernel_rfl) rfl rfl ⟨(pxf3 ⟨blk_drew (pxp (o := .cells #[.int .i64 n, .slice A es.length c, .map (some mb)] 88 (0, 0)) GB)⟩).1, (pxf3 ⟨blk_drew (pxp (o := .cells #[.int .i64 n, .slice A es.length c, .map (some mb)] 88 (0, 0)) GB)⟩).2.1, (pxf3 ⟨blk_drew (pxp (o := .cells #[.int .i64 n, .slice A es.length c, .map (some mb)] 88 (0, 0)) GB)⟩).2.2.1, (pxf4 ⟨blk_drew (pxp (o := .cells #[.int .i64 x.f0, .int .i64 x.f1, .int .i64 x.f2, .int .i64 x.f3] 29 (0, 0)) XB)⟩).1, (pxf4 ⟨blk_drew (pxp (o := .cells #[.int .i64 x.f0, .int .i64 x.f1, .int .i64 x.f2, .int .i64 x.f3] 29 (0, 0)) XB)⟩).2.1, (pxf4 ⟨blk_drew (pxp (o := .cells #[.int .i64 x.f0, .int .i64 x.f1, .int .i64 x.f2, .int .i64 x.f3] 29 (0, 0)) XB)⟩).2.2.1, (pxf4 ⟨blk_drew (pxp (o := .cells #[.int .i64 x.f0, .int .i64 x.f1, .int .i64 x.f2, .int .i64 x.f3] 29 (0, 0)) XB)⟩).2.2.2.1, look43 (HGA.out.below (below_drew1 (pxb HB))).map HF.out.1 (by have := HF.out.2.1; have := HGA.out.n_le; omega)⟩ (fun hHeld => ?_); refine with_tab rfl (fun HT_ => ?_)
  generalize hW_ : World.drew _ = w4 at hHeld ⊢
  have n0_ : Aside0 (Below w.heap.size w w4) := ⟨by rw [← hW_]; exact below_drew1 (pxb HB)⟩
  have nGB_ : Aside0 (w4.heap[g]? = some (.cells #[.int .i64 n, .slice A es.length c, .map (some mb)] 88 (0, 0))) := ⟨by rw [← hW_]; exact blk_drew (pxp GB)⟩
  have nXB_ : Aside0 (w4.heap[gx]? = some (.cells #[.int .i64 x.f0, .int .i64 x.f1, .int .i64 x.f2, .int .i64 x.f3] 29 (0, 0))) := ⟨by rw [← hW_]; exact blk_drew (pxp XB)⟩
  clear hW_ HB GB XB
  have HB := n0_
  have GB := nGB_
  have XB := nXB_
  clear n0_ nGB_ nXB_
  have HM := Aside0.mk (HGA.out.mid.below HB.out)
  refine pS 0 46 HT_ ?_
  refine pS 1 47 HT_ ?_
  refine pS 2 48 HT_ ?_
  refine pS 4 50 HT_ ?_
  refine pS 6 52 HT_ ?_
  refine pS 7 53 HT_ ?_
  refine pS 8 54 HT_ ?_
  refine pS 10 56 HT_ ?_
  refine pS 13 59 HT_ ?_
  refine pS 14 60 HT_ ?_
  refine pS 15 61 HT_ ?_
  refine tT 3 49 HT_ hHeld ?_
  refine tT 5 51 HT_ hHeld ?_
  refine tT 9 55 HT_ hHeld ?_
  refine tT 11 57 HT_ hHeld ?_
  refine tT 12 58 HT_ hHeld ?_ (hy := fun w' hs_ => lk_run hs_.2.2.2.2.2.2.2)
  refine tT 16 62 HT_ hHeld ?_
  refine pS 17 63 HT_ ?_
  refine oS 18 HT_ (fun K hK => ?_)
  refine value_ (w1 := ?_) (v := ?_) (by rfl) rfl ?_ ?_
  rotate_left 2
  · go_simp
    constructor
    · rfl
    · rfl
  refine hK.out _ _ ⟨(blk_cell (blk_alloc GB.out _) 0).trans rfl, (blk_cell (blk_alloc GB.out _) 1).trans rfl, (blk_cell (blk_alloc GB.out _) 2).trans rfl, (blk_cell (blk_alloc XB.out _) 0).trans rfl, (blk_cell (blk_alloc XB.out _) 1).trans rfl, (blk_cell (blk_alloc XB.out _) 2).trans rfl, (blk_cell (blk_alloc XB.out _) 3).trans rfl, look43 (HM.out.map.below (below_alloc (Below.refl _ _) _)) HF.out.1 (by have := HF.out.2.1; have := HGA.out.n_le; omega)⟩ (fun hHeld => ?_)
  clear hK K
  refine nS 64 ?_
  refine oS 19 HT_ (fun K hK => ?_)
  have HR := HM.out.rows x.f0 HF.out.1 HF.out.2.1
  refine Kd.R_append_step (Kd.int .i64) (w0 := w) B (by rfl) (.tmp 58) (.tmp 64) 43 3 (.int .i64 0) 8 rfl Try.underlying43 info3 rfl (by decide) (by omega) (f x.f0) (outI es x.f0) (es.length : Int) [.int .i64 (es.length : Int)] (fun k => (f x.f0).ownBlock = some k ∨ w4.heap.size ≤ k) (fun _ => False) rfl rfl ?aP (fun _ hk => hk.elim) ?aF ?aO ?aB ?aS ?aL ?_
  (case aP => rfl)
  (case aF => exact fun k hk => .inr hk)
  (case aO => exact R_wide HR rfl _)
  (case aB => exact HB.out.mono HBw.out)
  (case aS => exact Nat.le_trans HBw.out HB.out.size)
  (case aL => have h1 := HF.out.2.2.2.2; have h2 := outI_len es x.f0; omega)
  intro v1 w5 ho hb hg hat
  obtain ⟨hm5, hput⟩ := HM.out.put HF.out.1 HF.out.2.1 ho hg hat
  have hbk5 := (hg.block g (blk_lt GB.out) (Kd.R_ne HR GB.out (by decide))).trans GB.out
  have hxk5 := (hg.block gx (blk_lt XB.out) (Kd.R_ne HR XB.out (by decide))).trans XB.out
  have HOB : Aside0 (∀ k, O k → B ≤ k) := ⟨fun k hk => (HGA.out.own_lt ((HO.out k).1 hk)).1⟩
  have HG5 : Aside0 (Grew B O w w5) := ⟨(Grew.of_below HB.out HBw.out).grown hg (fun k hk => .inl ((HO.out k).2 (.inr (.inr (.inr ⟨x.f0, HF.out.1, HF.out.2.1, hk⟩))))) HOB.out HBw.out⟩
  have HAT : Aside0 (v1.ownBlock = (f x.f0).ownBlock ∨ ∃ b, v1.ownBlock = some b ∧ w.heap.size ≤ b) := ⟨hat.imp_right (fun ⟨b, h1, h2⟩ => ⟨b, h1, Nat.le_trans HB.out.size h2⟩)⟩
  have hsz5 := Nat.le_trans HB.out.size hg.size
  have HZ5 := Aside0.mk hsz5
  have HPUT := Aside0.mk hput
  have HM5 := Aside0.mk hm5
  clear hput hg hat ho HR hsz5
  refine hK.out _ _ ⟨(blk_cell hbk5 0).trans rfl, (blk_cell hbk5 1).trans rfl, (blk_cell hbk5 2).trans rfl, (blk_cell hxk5 0).trans rfl, (blk_cell hxk5 1).trans rfl, (blk_cell hxk5 2).trans rfl, (blk_cell hxk5 3).trans rfl, look43 hm5 HF.out.1 (by have := HF.out.2.1; have := HGA.out.n_le; omega)⟩ (fun hHeld => ?_)
  clear hK K hm5
  refine nS 65 ?_
  refine lS 20 HT_ (fun K hK => ?_)
  obtain ⟨w6, hmu, hm6, hg6⟩ := HM5.out.put keyed3 Try.underlying3 Try.underlying86 (by have := HGA.out.cnt_le; have := HF.out.2.2.2.2; unfold maxLen; omega) x.f0 (key_wf HF.out.1 (by have := HF.out.2.1; have := HGA.out.n_le; omega)) v1
  refine skip_ (w1 := w6) (by rfl) rfl (mu_run hmu) ?_
  have HM6 := Aside0.mk (HPUT.out w6 hm6 hg6)
  have HG6 : Aside0 (Grew B O w w6) := ⟨HG5.out.grown hg6 (fun k hk => .inl ((HO.out k).2 (.inr (.inl (Option.some.inj hk).symm)))) HOB.out HBw.out⟩
  have hxk6 := (hg6.block gx (blk_lt hxk5) (fun e => by obtain ⟨_, _, hmb⟩ := HM5.out.block; obtain rfl := Option.some.inj e; rw [hxk5] at hmb; cases hmb)).trans hxk5
  have HZ6 := Aside0.mk (Nat.le_trans HZ5.out hg6.size)
  have HNX : Aside0 (¬ O gx) := ⟨fun h => by have := (HGA.out.own_lt ((HO.out gx).1 h)).2; have := GWXB.out; omega⟩
  clear hmu hm6 hg6 hbk5 hxk5 HG5 HPUT HM5 HZ5 HM HB GB XB
  have GB := Aside0.mk HM6.out.bk
  have XB := Aside0.mk hxk6
  clear hxk6
  refine hK.out _ _ ?_
  clear hK K
  refine done_ (done_of HT_.out (by kernel_rfl)) ?_
  clear HT_ hHeld
  obtain ⟨xGB0, xGB1, xGB2, yGB0, yGB1, yGB2⟩ := pxf3 GB
  obtain ⟨xXB0, xXB1, xXB2, xXB3, yXB0, yXB1, yXB2, yXB3⟩ := pxf4 XB
  go_wp2
  have HB := Aside0.mk (Below.refl w6.heap.size w6)
  refine start_ (n := 11) (S := fun w' => w'.cell? ⟨g, 0, none⟩ = some (.int .i64 n) ∧ w'.cell? ⟨g, 1, none⟩ = some (.slice A es.length c) ∧ w'.cell? ⟨g, 2, none⟩ = some (.map (some mb)) ∧ w'.cell? ⟨gx, 0, none⟩ = some (.int .i64 x.f0) ∧ w'.cell? ⟨gx, 1, none⟩ = some (.int .i64 x.f1) ∧ w'.cell? ⟨gx, 2, none⟩ = some (.int .i64 x.f2) ∧ w'.cell? ⟨gx, 3, none⟩ = some (.int .i64 x.f3)) (ds := [10]) #[false, false, false, false, false, false, false, false, false, false, false] (by kernel_rfl) rfl rfl ⟨(pxf3 ⟨blk_drew (pxp (o := .cells #[.int .i64 n, .slice A es.length c, .map (some mb)] 88 (0, 0)) GB)⟩).1, (pxf3 ⟨blk_drew (pxp (o := .cells #[.int .i64 n, .slice A es.length c, .map (some mb)] 88 (0, 0)) GB)⟩).2.1, (pxf3 ⟨blk_drew (pxp (o := .cells #[.int .i64 n, .slice A es.length c, .map (some mb)] 88 (0, 0)) GB)⟩).2.2.1, (pxf4 ⟨blk_drew (pxp (o := .cells #[.int .i64 x.f0, .int .i64 x.f1, .int .i64 x.f2, .int .i64 x.f3] 29 (0, 0)) XB)⟩).1, (pxf4 ⟨blk_drew (pxp (o := .cells #[.int .i64 x.f0, .int .i64 x.f1, .int .i64 x.f2, .int .i64 x.f3] 29 (0, 0)) XB)⟩).2.1, (pxf4 ⟨blk_drew (pxp (o := .cells #[.int .i64 x.f0, .int .i64 x.f1, .int .i64 x.f2, .int .i64 x.f3] 29 (0, 0)) XB)⟩).2.2.1, (pxf4 ⟨blk_drew (pxp (o := .cells #[.int .i64 x.f0, .int .i64 x.f1, .int .i64 x.f2, .int .i64 x.f3] 29 (0, 0)) XB)⟩).2.2.2.1⟩ (fun hHeld => ?_); refine with_tab rfl (fun HT_ => ?_)
  generalize hW_ : World.drew _ = w7 at hHeld ⊢
  have n0_ : Aside0 (Below w6.heap.size w6 w7) := ⟨by rw [← hW_]; exact below_drew1 (pxb HB)⟩
  have nGB_ : Aside0 (w7.heap[g]? = some (.cells #[.int .i64 n, .slice A es.length c, .map (some mb)] 88 (0, 0))) := ⟨by rw [← hW_]; exact blk_drew (pxp GB)⟩
  have nXB_ : Aside0 (w7.heap[gx]? = some (.cells #[.int .i64 x.f0, .int .i64 x.f1, .int .i64 x.f2, .int .i64 x.f3] 29 (0, 0))) := ⟨by rw [← hW_]; exact blk_drew (pxp XB)⟩
  clear hW_ HB GB XB
  have HB := n0_
  have GB := nGB_
  have XB := nXB_
  clear n0_ nGB_ nXB_
  have HM7 := Aside0.mk (HM6.out.below HB.out)
  have HG7 : Aside0 (Grew B O w w7) := ⟨HG6.out.grown (row := none) ⟨HB.out.os, HB.out.tape, HB.out.output, HB.out.size, fun k hk _ => HB.out.block k hk⟩ (fun k hk => by cases hk) HOB.out HBw.out⟩
  have HZ7 := Aside0.mk (Nat.le_trans HZ6.out HB.out.size)
  clear HM6 HG6 HZ6
  refine pS 0 66 HT_ ?_
  refine pS 1 67 HT_ ?_
  refine pS 2 68 HT_ ?_
  refine pS 3 69 HT_ ?_
  refine tT 4 70 HT_ hHeld ?_
  refine tT 5 71 HT_ hHeld ?_
  refine oS 6 HT_ (fun K hK => ?_)
  refine value_ (w1 := ?_) (v := ?_) (by rfl) rfl ?_ ?_
  rotate_left 2
  · go_simp
    constructor
    · rfl
    · rfl
  refine hK.out _ _ ⟨(blk_cell (blk_alloc GB.out _) 0).trans rfl, (blk_cell (blk_alloc GB.out _) 1).trans rfl, (blk_cell (blk_alloc GB.out _) 2).trans rfl, (blk_cell (blk_alloc XB.out _) 0).trans rfl, (blk_cell (blk_alloc XB.out _) 1).trans rfl, (blk_cell (blk_alloc XB.out _) 2).trans rfl, (blk_cell (blk_alloc XB.out _) 3).trans rfl⟩ (fun hHeld => ?_)
  clear hK K
  refine nS 72 ?_
  refine oS 7 HT_ (fun K hK => ?_)
  refine Kd.R_append_step k29 (w0 := w) B (by rfl) (.tmp 70) (.tmp 72) 22 29 (.agg #[.int .i64 0, .int .i64 0, .int .i64 0, .int .i64 0]) 32 rfl Try.underlying22 info29 rfl (by decide) (by omega) (.slice A es.length c) es x [.int .i64 x.f0, .int .i64 x.f1, .int .i64 x.f2, .int .i64 x.f3] (fun k => (Value.slice A es.length c).ownBlock = some k ∨ w7.heap.size ≤ k) (fun _ => False) rfl rfl ?aP (fun _ hk => hk.elim) ?aF ?aO ?aB ?aS ?aL ?_
  (case aP => exact k29_mkM _ _ _ _)
  (case aF => exact fun k hk => .inr hk)
  (case aO => exact R_wide HM7.out.row rfl _)
  (case aB => exact HG7.out.below)
  (case aS => exact Nat.le_trans HBw.out HZ7.out)
  (case aL => have h1 := HF.out.2.2.2.2; omega)
  intro v2 w8 ho hb hg hat
  obtain ⟨A2, c2, hv2⟩ := Kd.R_slice ho
  generalize (es ++ [x]).length = L2 at hv2
  subst hv2
  obtain ⟨hbk8, hpush⟩ := HM7.out.push ho hg
  skip
  have hG8 : Grew B O w w8 := HG7.out.grown hg (fun k hk => .inl ((HO.out k).2 (.inr (.inr (.inl hk))))) HOB.out HBw.out
  have hG9 : Grew B O w (w8.setCell ⟨g, 1, none⟩ (.slice A2 L2 c2)) := hG8.grown (grown_set _ _ _) (fun k hk => .inl ((HO.out k).2 (.inl (Option.some.inj hk).symm))) HOB.out HBw.out
  have hat9 : (Value.slice A2 L2 c2).ownBlock = (Value.slice A es.length c).ownBlock ∨ ∃ b, (Value.slice A2 L2 c2).ownBlock = some b ∧ w.heap.size ≤ b := hat.imp_right (fun ⟨b, h1, h2⟩ => ⟨b, h1, Nat.le_trans HZ7.out h2⟩)
  have hga9 := (hpush _ rfl).ga (by have := HGA.out.cnt_le; omega) HGA.out.n_le HF.out.2.2.2.2 HGA.out.val HF.out.1 HF.out.2.1 HF.out.2.2.1 HF.out.2.2.2.1
  have HEND := Aside0.mk (And.intro hga9 (And.intro hG9 hat9))
  have hc8 := (blk_cell hbk8 0).trans rfl
  have hc81 := (blk_cell hbk8 1).trans rfl
  have hc82 := (blk_cell hbk8 2).trans rfl
  have hf8 := blk_frozen hbk8 1
  clear hpush hga9 hG8 hG9 hat9 hb hat
  have hxk8 := (hg.block gx (blk_lt XB.out) (fun e => HNX.out (HO.out gx |>.2 (.inr (.inr (.inl e.symm)))))).trans XB.out
  refine hK.out _ _ ⟨(blk_cell hbk8 0).trans rfl, (blk_cell hbk8 1).trans rfl, (blk_cell hbk8 2).trans rfl, (blk_cell hxk8 0).trans rfl, (blk_cell hxk8 1).trans rfl, (blk_cell hxk8 2).trans rfl, (blk_cell hxk8 3).trans rfl⟩ (fun hHeld => ?_)
  clear hK K
  refine nS 73 ?_
  refine pS 8 74 HT_ ?_
  refine pS 9 75 HT_ ?_
  refine lS 10 HT_ (fun K hK => ?_)
  refine skip_ (w1 := ?_) (by rfl) rfl ?_ ?_
  rotate_left 1
  · go_simp
    rfl
  refine hK.out _ _ ?_
  clear hK K
  refine done_ (done_of HT_.out (by kernel_rfl)) ?_
  clear HT_ hHeld
  go_wp2
  go_ret
  refine ⟨rfl, _, ⟨_, _, _, _, HEND.out.1, fun k => Iff.rfl⟩, HEND.out.2.1, fun k hk => ?_⟩
  rcases hk with rfl | rfl | hk | ⟨v, h1, h2, hk⟩
  · exact .inl ((HO.out _).2 (.inl rfl))
  · exact .inl ((HO.out _).2 (.inr (.inl rfl)))
  · rcases HEND.out.2.2 with h | ⟨b, h1, h2⟩
    · exact .inl ((HO.out k).2 (.inr (.inr (.inl (h ▸ hk)))))
    · exact .inr (by rw [h1] at hk; injection hk with hk; omega)
  · dsimp only at hk
    by_cases e : v = x.f0
    · rw [if_pos e] at hk
      rcases HAT.out with h | ⟨b, h3, h4⟩
      · exact .inl ((HO.out k).2 (.inr (.inr (.inr ⟨x.f0, HF.out.1, HF.out.2.1, h ▸ hk⟩))))
      · exact .inr (by rw [h3] at hk; injection hk with hk; omega)
    · rw [if_neg e] at hk
      exact .inl ((HO.out k).2 (.inr (.inr (.inr ⟨v, h1, h2, hk⟩))))
end Go.Proofs.Ytefgfnhhoidbdaa.GrW
