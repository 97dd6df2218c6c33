/- A cell more in a heap: add. -/
import Derived.Test.YtefgfnhhoidbdaaHeapW3
import Derived.Test.YtefgfnhhoidbdaaH27
namespace Go.Proofs.Ytefgfnhhoidbdaa.HpW
open Go.RowKit Go.Proofs.YtefgfnhhoidbdaaW.PrintWords Go.Proofs.YtefgfnhhoidbdaaW.PrintLast Go.Proofs.Ytefgfnhhoidbdaa.H
set_option linter.unusedVariables false
set_option linter.unusedSimpArgs false
abbrev z105c : Value := .agg #[.string ⟨#[]⟩, .int .i64 0, .string ⟨#[]⟩, .int .i64 0, .string ⟨#[]⟩, .bool false, .slice none 0 0]
theorem info105 : (Try.prog.info? 105).map (fun i => (i.zero, i.size, i.bytes)) = some (some z105c, 7, 96) := by kernel_rfl
theorem _root_.Go.Proofs.YtefgfnhhoidbdaaW.PrintWords.Kd.S.own_ok {α : Type} {d : Kd α} {e base : Nat} {ok : Nat → Prop} {w : World} {v : Value} {xs : List α} (h : Kd.S d e w base ok v xs) : ∀ k, v.ownBlock = some k → ok k := (Kd.S_R h).1
set_option maxHeartbeats 16000000 in
set_option maxRecDepth 100000 in
theorem add_any {g B : Nat} {O okp : Nat → Prop} {lv : Value} {cs : List S105} {n : Int} (x : S105) (v6 : Value) (w : World) (h : HP g B O lv cs n w) (hv : k61.R 61 w B okp v6 x.f3) (hap : ∀ k, okp k → ¬ O k) (hop : ∀ k, okp k → k < w.heap.size) (hl : cs.length < 5000) (hn : -1000000 ≤ n ∧ n ≤ 1000000) (hx : x.f3.length ≤ 1000000) :
    Calls Try.prog 53 #[.pointer (some ⟨g, 0, none⟩), .agg #[.string x.f0, .int .i64 x.f1.f0, .string x.f1.f1, .int .i64 x.f1.f2, .string x.f1.f3, .bool x.f2, v6]] w fun e w' => e = .returned (.agg #[.int .i64 5, .int .i64 cs.length, .string ⟨#[]⟩]) ∧
      ∃ lv' O', HP g B O' lv' (cs ++ [x]) (n + x.f3.length) w' ∧ Keeps B O w w' ∧ ∀ k, O' k → O k ∨ okp k ∨ w.heap.size ≤ k := by
  obtain ⟨A, c, rfl, hc, _⟩ := h.form
  obtain ⟨A6, c6, rfl⟩ := Kd.R_slice hv
  have HB := Aside0.mk (Below.refl w.heap.size w)
  have HH := Aside0.mk h
  have HV := Aside0.mk hv
  have HAP := Aside0.mk hap
  have HOP := Aside0.mk hop
  have HL := Lib.hid hl
  have HN := Lib.hid hn
  have HX := Lib.hid hx
  have hgl := blk_lt h.bk
  have HBw := Aside0.mk (Nat.le_trans h.le (Nat.le_of_lt hgl))
  have HGL := Lib.hid hgl
  have GB := Aside0.mk h.bk
  obtain ⟨xGB0, xGB1, yGB0, yGB1⟩ := pxf2 GB
  clear h hv hap hop hl hn hx hgl hc
  go_enter Try.func53, Try.ntmps53
  go_upto_region 1 with (first | ((with_reducible refine gate_dst (N := 3) rfl ?_); refine box_event ?hg (N := 3) ?hd (cs := #[.string x.f0, .int .i64 x.f1.f0, .string x.f1.f1, .int .i64 x.f1.f2, .string x.f1.f3, .bool x.f2, .slice A6 x.f3.length c6]) (t := 105) ?hr ?_; (case hd => rfl); (case hg => rfl); (case hr => first | (go_simp; done) | (go_simp; rfl)); intro gc hg w1 hbox hb; have NWCB := Aside0.mk hbox; have GWCB := Aside0.mk ((by rw [hg]; exact (below_size (pxb HB)) : w.heap.size ≤ gc)); have NEGBCB := Aside0.mk (show g ≠ gc by rw [hg]; exact Nat.ne_of_lt (blk_lt (pxp (o := .cells #[.slice A cs.length c, .int .i64 n] 55 (0, 0)) GB))); have NECBGB := Aside0.mk (Ne.symm NEGBCB.out); have eGBCB := NEGBCB.out; have eCBGB := NECBGB.out; clear hg hbox; have n0_ := pxs HB hb; have nGB_ : Aside0 (w1.heap[g]? = some (.cells #[.slice A cs.length c, .int .i64 n] 55 (0, 0))) := ⟨blk_below (pxp GB) hb⟩; clear HB GB; have HB := n0_; clear n0_; have GB := nGB_; clear nGB_; have CB := NWCB; clear NWCB hb; obtain ⟨xGB0, xGB1, yGB0, yGB1⟩ := pxf2 GB; obtain ⟨xCB0, xCB1, xCB2, xCB3, xCB4, xCB5, xCB6, yCB0, yCB1, yCB2, yCB3, yCB4, yCB5, yCB6⟩ := pxf7 CB) | ((with_reducible refine gate_dst (N := 4) rfl ?_); refine box_event ?hg (N := 4) ?hd (cs := #[.int .i64 0, .int .i64 0, .string ⟨#[]⟩]) (t := 61) ?hr ?_; (case hd => rfl); (case hg => rfl); (case hr => first | (go_simp; done) | (go_simp; rfl)); intro gr hg w2 hbox hb; have NWRB := Aside0.mk hbox; have GWRB := Aside0.mk ((by rw [hg]; exact (below_size (pxb HB)) : w.heap.size ≤ gr)); have NEGBRB := Aside0.mk (show g ≠ gr by rw [hg]; exact Nat.ne_of_lt (blk_lt (pxp (o := .cells #[.slice A cs.length c, .int .i64 n] 55 (0, 0)) GB))); have NERBGB := Aside0.mk (Ne.symm NEGBRB.out); have eGBRB := NEGBRB.out; have eRBGB := NERBGB.out; have NECBRB := Aside0.mk (show gc ≠ gr by rw [hg]; exact Nat.ne_of_lt (blk_lt (pxp (o := .cells #[.string x.f0, .int .i64 x.f1.f0, .string x.f1.f1, .int .i64 x.f1.f2, .string x.f1.f3, .bool x.f2, .slice A6 x.f3.length c6] 105 (0, 0)) CB))); have NERBCB := Aside0.mk (Ne.symm NECBRB.out); have eCBRB := NECBRB.out; have eRBCB := NERBCB.out; clear hg hbox; have n0_ := pxs HB hb; have nGB_ : Aside0 (w2.heap[g]? = some (.cells #[.slice A cs.length c, .int .i64 n] 55 (0, 0))) := ⟨blk_below (pxp GB) hb⟩; have nCB_ : Aside0 (w2.heap[gc]? = some (.cells #[.string x.f0, .int .i64 x.f1.f0, .string x.f1.f1, .int .i64 x.f1.f2, .string x.f1.f3, .bool x.f2, .slice A6 x.f3.length c6] 105 (0, 0))) := ⟨blk_below (pxp CB) hb⟩; clear HB GB CB; have HB := n0_; clear n0_; have GB := nGB_; clear nGB_; have CB := nCB_; clear nCB_; have RB := NWRB; clear NWRB hb; obtain ⟨xGB0, xGB1, yGB0, yGB1⟩ := pxf2 GB; obtain ⟨xCB0, xCB1, xCB2, xCB3, xCB4, xCB5, xCB6, yCB0, yCB1, yCB2, yCB3, yCB4, yCB5, yCB6⟩ := pxf7 CB; obtain ⟨xRB0, xRB1, xRB2, yRB0, yRB1, yRB2⟩ := pxf3 RB))
  refine start_ (n := 11) (S := fun w' => w'.cell? ⟨g, 0, none⟩ = some (.slice A cs.length c) ∧ w'.cell? ⟨g, 1, none⟩ = some (.int .i64 n) ∧ w'.cell? ⟨gc, 0, none⟩ = some (.string x.f0) ∧ w'.cell? ⟨gc, 1, none⟩ = some (.int .i64 x.f1.f0) ∧ w'.cell? ⟨gc, 2, none⟩ = some (.string x.f1.f1) ∧ w'.cell? ⟨gc, 3, none⟩ = some (.int .i64 x.f1.f2) ∧ w'.cell? ⟨gc, 4, none⟩ = some (.string x.f1.f3) ∧ w'.cell? ⟨gc, 5, none⟩ = some (.bool x.f2) ∧ w'.cell? ⟨gc, 6, none⟩ = some (.slice A6 x.f3.length c6) ∧ w'.cell? ⟨gr, 0, none⟩ = some (.int .i64 0) ∧ w'.cell? ⟨gr, 1, none⟩ = some (.int .i64 0) ∧ w'.cell? ⟨gr, 2, none⟩ = some (.string ⟨#[]⟩)) (ds := [10]) #[false, false, false, false, false, false, false, false, false, false, false] (by kernel_rfl) rfl rfl ⟨(pxf2 ⟨blk_drew (pxp (o := .cells #[.slice A cs.length c, .int .i64 n] 55 (0, 0)) GB)⟩).1, (pxf2 ⟨blk_drew (pxp (o := .cells #[.slice A cs.length c, .int .i64 n] 55 (0, 0)) GB)⟩).2.1, (pxf7 ⟨blk_drew (pxp (o := .cells #[.string x.f0, .int .i64 x.f1.f0, .string x.f1.f1, .int .i64 x.f1.f2, .string x.f1.f3, .bool x.f2, .slice A6 x.f3.length c6] 105 (0, 0)) CB)⟩).1, (pxf7 ⟨blk_drew (pxp (o := .cells #[.string x.f0, .int .i64 x.f1.f0, .string x.f1.f1, .int .i64 x.f1.f2, .string x.f1.f3, .bool x.f2, .slice A6 x.f3.length c6] 105 (0, 0)) CB)⟩).2.1, (pxf7 ⟨blk_drew (pxp (o := .cells #[.string x.f0, .int .i64 x.f1.f0, .string x.f1.f1, .int .i64 x.f1.f2, .string x.f1.f3, .bool x.f2, .slice A6 x.f3.length c6] 105 (0, 0)) CB)⟩).2.2.1, (pxf7 ⟨blk_drew (pxp (o := .cells #[.string x.f0, .int .i64 x.f1.f0, .string x.f1.f1, .int .i64 x.f1.f2, .string x.f1.f3, .bool x.f2, .slice A6 x.f3.length c6] 105 (0, 0)) CB)⟩).2.2.2.1, (pxf7 ⟨blk_drew (pxp (o := .cells #[.string x.f0, .int .i64 x.f1.f0, .string x.f1.f1, .int .i64 x.f1.f2, .string x.f1.f3, .bool x.f2, .slice A6 x.f3.length c6] 105 (0, 0)) CB)⟩).2.2.2.2.1, (pxf7 ⟨blk_drew (pxp (o := .cells #[.string x.f0, .int .i64 x.f1.f0, .string x.f1.f1, .int .i64 x.f1.f2, .string x.f1.f3, .bool x.f2, .slice A6 x.f3.length c6] 105 (0, 0)) CB)⟩).2.2.2.2.2.1, (pxf7 ⟨blk_drew (pxp (o := .cells #[.string x.f0, .int .i64 x.f1.f0, .string x.f1.f1, .int .i64 x.f1.f2, .string x.f1.f3, .bool x.f2, .slice A6 x.f3.length c6] 105 (0, 0)) CB)⟩).2.2.2.2.2.2.1, (pxf3 ⟨blk_drew (pxp (o := .cells #[.int .i64 0, .int .i64 0, .string ⟨#[]⟩] 61 (0, 0)) RB)⟩).1, (pxf3 ⟨blk_drew (pxp (o := .cells #[.int .i64 0, .int .i64 0, .string ⟨#[]⟩] 61 (0, 0)) RB)⟩).2.1, (pxf3 ⟨blk_drew (pxp (o := .cells #[.int .i64 0, .int .i64 0, .string ⟨#[]⟩] 61 (0, 0)) RB)⟩).2.2.1⟩ (fun hHeld => ?_); refine with_tab rfl (fun HT_ => ?_)
  generalize hW_ : World.drew _ = w3 at hHeld ⊢
  have n0_ : Aside0 (Below w.heap.size w w3) := ⟨by rw [← hW_]; exact below_drew1 (pxb HB)⟩
  have nGB_ : Aside0 (w3.heap[g]? = some (.cells #[.slice A cs.length c, .int .i64 n] 55 (0, 0))) := ⟨by rw [← hW_]; exact blk_drew (pxp GB)⟩
  have nCB_ : Aside0 (w3.heap[gc]? = some (.cells #[.string x.f0, .int .i64 x.f1.f0, .string x.f1.f1, .int .i64 x.f1.f2, .string x.f1.f3, .bool x.f2, .slice A6 x.f3.length c6] 105 (0, 0))) := ⟨by rw [← hW_]; exact blk_drew (pxp CB)⟩
  have nRB_ : Aside0 (w3.heap[gr]? = some (.cells #[.int .i64 0, .int .i64 0, .string ⟨#[]⟩] 61 (0, 0))) := ⟨by rw [← hW_]; exact blk_drew (pxp RB)⟩
  clear hW_ HB GB CB RB
  have HB := n0_
  have GB := nGB_
  have CB := nCB_
  have RB := nRB_
  clear n0_ nGB_ nCB_ nRB_
  have HH3 := Aside0.mk (HH.out.below HB.out)
  have HV3 := Aside0.mk (Kd.R_below HV.out HB.out)
  have HS3 := Aside0.mk HB.out.size
  have HB3 := HB
  have LR3 := Aside0.mk (blk_lt RB.out)
  have LG3 := Aside0.mk (blk_lt GB.out)
  refine pS 0 5 HT_ ?_
  refine pS 1 6 HT_ ?_
  refine pS 2 7 HT_ ?_
  refine pS 3 8 HT_ ?_
  refine tT 4 9 HT_ hHeld ?_
  refine tT 5 10 HT_ hHeld ?_
  refine oS 6 HT_ (fun K hK => ?_)
  refine value_ (w1 := ?_) (v := ?_) (by rfl) rfl ?_ ?_
  rotate_left 2
  · go_simp
    constructor
    · rfl
    · rfl
  refine hK.out _ _ ⟨(blk_cell (blk_below GB.out (below_alloc (Below.refl _ _) _)) 0).trans rfl, (blk_cell (blk_below GB.out (below_alloc (Below.refl _ _) _)) 1).trans rfl, (blk_cell (blk_below CB.out (below_alloc (Below.refl _ _) _)) 0).trans rfl, (blk_cell (blk_below CB.out (below_alloc (Below.refl _ _) _)) 1).trans rfl, (blk_cell (blk_below CB.out (below_alloc (Below.refl _ _) _)) 2).trans rfl, (blk_cell (blk_below CB.out (below_alloc (Below.refl _ _) _)) 3).trans rfl, (blk_cell (blk_below CB.out (below_alloc (Below.refl _ _) _)) 4).trans rfl, (blk_cell (blk_below CB.out (below_alloc (Below.refl _ _) _)) 5).trans rfl, (blk_cell (blk_below CB.out (below_alloc (Below.refl _ _) _)) 6).trans rfl, (blk_cell (blk_below RB.out (below_alloc (Below.refl _ _) _)) 0).trans rfl, (blk_cell (blk_below RB.out (below_alloc (Below.refl _ _) _)) 1).trans rfl, (blk_cell (blk_below RB.out (below_alloc (Below.refl _ _) _)) 2).trans rfl⟩ (fun hHeld => ?_)
  clear hK K
  refine nS 11 ?_
  refine oS 7 HT_ (fun K hK => ?_)
  refine Kd.S_append_step k105 (w0 := w) B (by rfl) (.tmp 9) (.tmp 11) 53 105 z105c 96 rfl Try.underlying53 info105 rfl (by decide) (by omega) (.slice A cs.length c) cs x [.string x.f0, .int .i64 x.f1.f0, .string x.f1.f1, .int .i64 x.f1.f2, .string x.f1.f3, .bool x.f2, .slice A6 x.f3.length c6] (fun k => (O k ∨ okp k ∨ w3.heap.size ≤ k) ∧ k ≠ g) okp rfl rfl ?aP ?aK ?aF ?aO ?aB ?aS ?aL ?_
  (case aP => exact k105_mkM _ _ _ x HV3.out)
  (case aK => exact fun k hk => ⟨⟨.inr (.inl hk), fun e => HAP.out k hk (e ▸ HH.out.own)⟩, fun e => HAP.out k hk (HH.out.row.own_ok k e.symm).1⟩)
  (case aF => exact fun k hk => ⟨.inr (.inr hk), fun e => by have := HGL.out; have := HS3.out; omega⟩)
  (case aO => exact Kd.S_mono HH3.out.row (fun k hk => ⟨⟨.inl hk.1, hk.2⟩, fun h2 => HAP.out k h2 hk.1⟩))
  (case aB => exact Keeps.of_below (O := O) HB.out HBw.out |>.1)
  (case aS => exact Nat.le_trans HBw.out HS3.out)
  (case aL => have := HL.out; omega)
  intro v1 w4 hs hb hg hat
  obtain ⟨A2, c2, rfl⟩ := Kd.S_slice hs
  have HS4 := Aside0.mk hs
  have HB4 := Aside0.mk hb
  have HG4 := Aside0.mk hg
  have gg := (hg.block g (blk_lt GB.out) (fun e => (HH.out.row.own_ok g e.symm).2 rfl)).trans GB.out
  have gcb := (hg.block gc (blk_lt CB.out) (fun e => by have h1 := Kd.S_lt HH.out.row gc e.symm; have := GWCB.out; omega)).trans CB.out
  have grb := (hg.block gr (blk_lt RB.out) (fun e => by have h1 := Kd.S_lt HH.out.row gr e.symm; have := GWRB.out; omega)).trans RB.out
  clear hs hb hg hat GB CB RB HB
  have GB := Aside0.mk gg
  have CB := Aside0.mk gcb
  have RB := Aside0.mk grb
  clear gg gcb grb
  refine hK.out _ _ ⟨(blk_cell (GB.out) 0).trans rfl, (blk_cell (GB.out) 1).trans rfl, (blk_cell (CB.out) 0).trans rfl, (blk_cell (CB.out) 1).trans rfl, (blk_cell (CB.out) 2).trans rfl, (blk_cell (CB.out) 3).trans rfl, (blk_cell (CB.out) 4).trans rfl, (blk_cell (CB.out) 5).trans rfl, (blk_cell (CB.out) 6).trans rfl, (blk_cell (RB.out) 0).trans rfl, (blk_cell (RB.out) 1).trans rfl, (blk_cell (RB.out) 2).trans rfl⟩ (fun hHeld => ?_)
  clear hK K
  refine nS 12 ?_
  refine pS 8 13 HT_ ?_
  refine pS 9 14 HT_ ?_
  obtain ⟨xGB0, xGB1, yGB0, yGB1⟩ := pxf2 GB
  refine lS 10 HT_ (fun K hK => ?_)
  refine skip_ (w1 := ?_) (by rfl) rfl ?_ ?_
  rotate_left 1
  · go_simp
    rfl
  refine hK.out _ _ ?_
  clear hK K
  refine done_ (done_of HT_.out (by kernel_rfl)) ?_
  clear HT_ hHeld
  generalize hW_ : World.setCell w4 _ _ = w5
  have HS5 : Aside0 (Kd.S k105 105 w5 B (fun k => (O k ∨ okp k ∨ w3.heap.size ≤ k) ∧ k ≠ g) (.slice A2 (cs ++ [x]).length c2) (cs ++ [x])) := ⟨hW_ ▸ Kd.S_far HS4.out (p := ⟨g, 0, none⟩) (fun k hk => hk.2) _⟩
  have GB5 : Aside0 (w5.heap[g]? = some (.cells #[.slice A2 (cs.length + 1) c2, .int .i64 n] 55 (0, 0))) := ⟨by rw [← hW_]; exact blk_put GB.out 0 _ rfl⟩
  have CB5 : Aside0 (w5.heap[gc]? = some (.cells #[.string x.f0, .int .i64 x.f1.f0, .string x.f1.f1, .int .i64 x.f1.f2, .string x.f1.f3, .bool x.f2, .slice A6 x.f3.length c6] 105 (0, 0))) := ⟨by rw [← hW_]; exact (Below.heap_setCell w4 ⟨g, 0, none⟩ _ gc eCBGB).trans CB.out⟩
  have RB5 : Aside0 (w5.heap[gr]? = some (.cells #[.int .i64 0, .int .i64 0, .string ⟨#[]⟩] 61 (0, 0))) := ⟨by rw [← hW_]; exact (Below.heap_setCell w4 ⟨g, 0, none⟩ _ gr eRBGB).trans RB.out⟩
  have HK5 : Aside0 (Keeps B O w w5) := ⟨by
    rw [← hW_]
    refine ⟨HB4.out.setCell HH.out.le _, fun k hk hno => (Below.heap_setCell w4 ⟨g, 0, none⟩ _ k (fun e => hno (e ▸ HH.out.own))).trans ?_⟩
    exact (HG4.out.block k (Nat.lt_of_lt_of_le hk HS3.out) (fun e => hno (HH.out.row.own_ok k e.symm).1)).trans (HB3.out.block k hk)⟩
  clear hW_ GB CB RB HB4 HG4 HS4
  have GB := GB5
  have CB := CB5
  have RB := RB5
  clear GB5 CB5 RB5
  obtain ⟨xGB0, xGB1, yGB0, yGB1⟩ := pxf2 GB
  obtain ⟨xCB0, xCB1, xCB2, xCB3, xCB4, xCB5, xCB6, yCB0, yCB1, yCB2, yCB3, yCB4, yCB5, yCB6⟩ := pxf7 CB
  have hwn : wrap64 (n + (x.f3.length : Int)) = n + (x.f3.length : Int) := wrap_id (by have := HN.out; omega) (by have := HN.out; have := HX.out; omega)
  have hwl : wrap64 (((cs.length + 1 : Nat) : Int) - 1) = (cs.length : Int) := by rw [wrap_id (by omega) (by have := HL.out; omega)]; omega
  have HWL := Aside0.mk hwl
  clear hwl
  go_wp2
  go_region
  go_wp2_with (fail)
  rw [hwn]
  clear hwn
  generalize hW_ : World.drew _ = w6
  have hb6 : Below B w5 w6 := by rw [← hW_]; exact below_drew ((Below.refl _ _).setCell HH.out.le _)
  have hk6 : ∀ k, k ≠ g → w6.heap[k]? = w5.heap[k]? := fun k hk => by rw [← hW_]; exact Below.heap_setCell w5 ⟨g, 1, none⟩ _ k hk
  have HS6 : Aside0 (Kd.S k105 105 w6 B (fun k => (O k ∨ okp k ∨ w3.heap.size ≤ k) ∧ k ≠ g) (.slice A2 (cs ++ [x]).length c2) (cs ++ [x])) := ⟨Kd.S_step HS5.out (fun k hk _ => hk6 k hk.2)⟩
  have GB6 : Aside0 (w6.heap[g]? = some (.cells #[.slice A2 (cs.length + 1) c2, .int .i64 (n + (x.f3.length : Int))] 55 (0, 0))) := ⟨by rw [← hW_]; exact blk_put GB.out 1 _ rfl⟩
  have RB6 : Aside0 (w6.heap[gr]? = some (.cells #[.int .i64 0, .int .i64 0, .string ⟨#[]⟩] 61 (0, 0))) := ⟨(hk6 gr eRBGB).trans RB.out⟩
  have HK6 : Aside0 (Keeps B O w w6) := ⟨⟨HK5.out.1.trans hb6, fun k hk hno => (hk6 k (fun e => hno (e ▸ HH.out.own))).trans (HK5.out.2 k hk hno)⟩⟩
  clear hW_ hb6 hk6 GB CB RB HS5 HK5 xGB0 xGB1 yGB0 yGB1
  have GB := GB6
  have RB := RB6
  clear GB6 RB6
  obtain ⟨xGB0, xGB1, yGB0, yGB1⟩ := pxf2 GB
  have HB := Aside0.mk (Below.refl w6.heap.size w6)
  obtain ⟨xRB0, xRB1, xRB2, yRB0, yRB1, yRB2⟩ := pxf3 RB
  have tok_w7 : True := trivial
  go_wp2_with (first | (clear tok_w7; go_at_call 27; (with_reducible refine (heap_At.calls _ 5 _ ⟨#[]⟩ _ rfl).mono ?_); rintro e w7 ⟨rfl, hb⟩; have n0_ := pxs HB hb; have nGB_ : Aside0 (w7.heap[g]? = some (.cells #[.slice A2 (cs.length + 1) c2, .int .i64 (n + (x.f3.length : Int))] 55 (0, 0))) := ⟨blk_below (pxp GB) hb⟩; have nRB_ : Aside0 (w7.heap[gr]? = some (.cells #[.int .i64 0, .int .i64 0, .string ⟨#[]⟩] 61 (0, 0))) := ⟨blk_below (pxp RB) hb⟩; clear HB GB RB; have HB := n0_; clear n0_; have GB := nGB_; clear nGB_; have RB := nRB_; clear nRB_; clear hb; obtain ⟨xGB0, xGB1, yGB0, yGB1⟩ := pxf2 GB; obtain ⟨xRB0, xRB1, xRB2, yRB0, yRB1, yRB2⟩ := pxf3 RB))
  have hwl2 : wrap64 (cs.length : Int) = (cs.length : Int) := wrap_id (by omega) (by have := HL.out; omega)
  rw [hwl2]
  clear hwl2
  have hgr := GWRB.out
  generalize hW_ : World.setCell (World.setCell (World.setCell w7 _ _) _ _) _ _ = w8
  have hk8 : ∀ k, k ≠ gr → w8.heap[k]? = w7.heap[k]? := fun k hk => by rw [← hW_]; exact (Below.heap_setCell _ ⟨gr, 2, none⟩ _ k hk).trans ((Below.heap_setCell _ ⟨gr, 1, none⟩ _ k hk).trans (Below.heap_setCell _ ⟨gr, 0, none⟩ _ k hk))
  have hb8 : Below w.heap.size w7 w8 := by rw [← hW_]; exact ((((Below.refl _ _).setCell hgr _).setCell hgr _).setCell hgr _)
  have hr8 : w8.heap[gr]? = some (.cells #[.int .i64 5, .int .i64 (cs.length : Int), .string ⟨#[]⟩] 61 (0, 0)) := by rw [← hW_]; exact blk_put (blk_put (blk_put RB.out 0 _ rfl) 1 _ rfl) 2 _ rfl
  have hs68 : w6.heap.size ≤ w8.heap.size := Nat.le_trans HB.out.size hb8.size
  have hnr : ∀ k, ((O k ∨ okp k ∨ w3.heap.size ≤ k) ∧ k ≠ g) → k ≠ gr := fun k hk e => by subst e; rcases hk.1 with h1 | h1 | h1; exact absurd (HH.out.lt _ h1) (by omega); exact absurd (HOP.out _ h1) (by omega); exact absurd LR3.out (by omega)
  have hrow := Kd.S_mono (Kd.S_bound (Kd.S_step HS6.out (w1 := w8) (fun k hk hlt => (hk8 k (hnr k hk)).trans (HB.out.block k hlt)))) (ok' := fun k => ((O k ∨ okp k ∨ w3.heap.size ≤ k) ∧ k < w8.heap.size) ∧ k ≠ g) (fun k hk => ⟨⟨hk.1.1, hk.2.2.1⟩, hk.1.2⟩)
  rw [List.length_append, List.length_singleton] at hrow
  have hgl8 := blk_lt ((hk8 g eGBRB).trans GB.out)
  have hB6 : B ≤ w.heap.size := HBw.out
  clear hW_
  refine bodyPost_ret (results_cell_row rfl _ _ gr 61 #[.int .i64 5, .int .i64 (cs.length : Int), .string ⟨#[]⟩] (0, 0) _ rfl hr8 Try.underlying61 rfl (by kernel_rfl)) rfl ?_
  refine ⟨rfl, _, _, ⟨(hk8 g eGBRB).trans GB.out, hrow, ⟨.inl HH.out.own, hgl8⟩, fun k hk => hk.2, HH.out.le⟩, ⟨(HK6.out.1.trans (Keeps.of_below (O := O) HB.out (Nat.le_trans hB6 (Nat.le_trans HK6.out.1.size (Nat.le_refl _)))).1).trans ⟨hb8.os, hb8.tape, hb8.output, hb8.size, fun k hk => hb8.block k (by omega)⟩, fun k hk hno => ?_⟩, fun k hk => ?_⟩
  · have h6 : k < w6.heap.size := Nat.lt_of_lt_of_le hk HK6.out.1.size
    exact (hk8 k (by omega)).trans ((HB.out.block k h6).trans (HK6.out.2 k hk hno))
  · rcases hk.1 with h1 | h1 | h1
    · exact .inl h1
    · exact .inr (.inl h1)
    · exact .inr (.inr (Nat.le_trans HS3.out h1))
end Go.Proofs.Ytefgfnhhoidbdaa.HpW
