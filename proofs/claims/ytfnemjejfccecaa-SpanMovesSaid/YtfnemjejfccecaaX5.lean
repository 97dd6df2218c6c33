/- What the program's functions answer, as Lean functions, and that each call does just that; no condition. Written by a program (px.py) out of the translation. -/
import Derived.Test.YtfnemjejfccecaaX0
import Derived.Test.YtfnemjejfccecaaXE24
import Derived.Test.YtfnemjejfccecaaX14
import Derived.Test.YtfnemjejfccecaaX19
import Derived.Test.YtfnemjejfccecaaX20
namespace Go.Proofs.Ytfnemjejfccecaa.X
open Go.RowKit Go.Proofs.YtfnemjejfccecaaW.PrintWords Go.Proofs.YtfnemjejfccecaaW.PrintLast Go.Proofs.YtfnemjejfccecaaW.PrintMore
attribute [local go_sem] max2_int min2_int max_two min_two max_three min_three max_four min_four   -- for this text's walks alone
set_option linter.unusedVariables false
set_option linter.unusedSimpArgs false

attribute [local go_sem high] eqA24
/-! ### caulkerlaw01_SpanMoves: function 5 -/
def caulkerlaw01_SpanMoves.j0 : Nat → Int → Int → Bool → Int → Int → Int → Int → Option (Bool)
 | 0, _, _, _, _, _, _, _ => none
 | k + 1, x1, x6, x7, x170000, x170001, x175000, x175001 => if x7 = true then (if x170000 ≥ (wrap64 (-x1)) then (if (x170001 ≤ (wrap64 (65536 - x1))) then (if x6 = 0 then (if (wrap64 (x175000 - x170000)) = x1 then (some ((wrap64 (x175001 - x170001)) == x1)) else (some false)) else (some false)) else (if x6 = 1 then (some (x175000 == 0 && (x175001 == 0))) else (some false))) else (if x6 = 1 then (some (x175000 == 0 && (x175001 == 0))) else (some false))) else (if x6 = 1 then (some (x175000 == 0 && (x175001 == 0))) else (some false))
def caulkerlaw01_SpanMoves.f (k : Nat) (a0_0 : Int) (a0_1 : Int) (a1 : Int) : Option (Bool) := (caulkerlaw01_spans.f k).bind fun t170 => (if t170 = true then ((span_Move.f k a0_0 a0_1 a1).bind fun bt171 => ((caulkerlaw01_may.f a0_0 a0_1).bind fun t175 => (if t175 = true then (if a1 ≥ (-65536) then (caulkerlaw01_SpanMoves.j0 k a1 bt171.2.2 (decide (a1 ≤ 65536)) a0_0 a0_1 bt171.1 bt171.2.1) else (caulkerlaw01_SpanMoves.j0 k a1 bt171.2.2 false a0_0 a0_1 bt171.1 bt171.2.1)) else (caulkerlaw01_SpanMoves.j0 k a1 bt171.2.2 false a0_0 a0_1 bt171.1 bt171.2.1)))) else (some false))
theorem caulkerlaw01_SpanMoves.mono_l : ∀ k, (∀ y0 y1 y2 y3 y4 y5 y6, LeO (caulkerlaw01_SpanMoves.j0 k y0 y1 y2 y3 y4 y5 y6) (caulkerlaw01_SpanMoves.j0 (k + 1) y0 y1 y2 y3 y4 y5 y6))
 | 0 => fun _ _ _ _ _ _ _ r h => by simp [caulkerlaw01_SpanMoves.j0] at h
 | k + 1 => by
  have ih0 := caulkerlaw01_SpanMoves.mono_l k
  ·intro y0 y1 y2 y3 y4 y5 y6
   unfold caulkerlaw01_SpanMoves.j0
   repeat' first
   | (with_reducible exact ih0 _ _ _ _ _ _ _)
   | (with_reducible exact caulkerlaw01_spans.mono _)
   | (with_reducible exact span_Move.mono _ _ _ _)
   | (with_reducible exact LeO.refl _)
   | (with_reducible exact LeO.none _)
   | (with_reducible refine LeO.ite ?_ ?_)
   | (with_reducible refine LeO.bind ?_ (fun _ => ?_))
   | exact ih0 _ _ _ _ _ _ _
   | exact caulkerlaw01_spans.mono _
   | exact span_Move.mono _ _ _ _
   | exact LeO.none _
   | refine LeO.ite ?_ ?_
   | refine LeO.bind ?_ (fun _ => ?_)
theorem caulkerlaw01_SpanMoves.mono : ∀ a0 a1 a2 k, LeO (caulkerlaw01_SpanMoves.f k a0 a1 a2) (caulkerlaw01_SpanMoves.f (k + 1) a0 a1 a2) := by
 intro a0 a1 a2 k
 have ih0 := caulkerlaw01_SpanMoves.mono_l k
 unfold caulkerlaw01_SpanMoves.f
 repeat' first
   | (with_reducible exact ih0 _ _ _ _ _ _ _)
   | (with_reducible exact caulkerlaw01_spans.mono _)
   | (with_reducible exact span_Move.mono _ _ _ _)
   | (with_reducible exact LeO.refl _)
   | (with_reducible exact LeO.none _)
   | (with_reducible refine LeO.ite ?_ ?_)
   | (with_reducible refine LeO.bind ?_ (fun _ => ?_))
   | exact ih0 _ _ _ _ _ _ _
   | exact caulkerlaw01_spans.mono _
   | exact span_Move.mono _ _ _ _
   | exact LeO.none _
   | refine LeO.ite ?_ ?_
   | refine LeO.bind ?_ (fun _ => ?_)
set_option maxHeartbeats 8000000 in
set_option maxRecDepth 100000 in
theorem caulkerlaw01_SpanMoves.calls (k : Nat) (a0_0 : Int) (a0_1 : Int) (a1 : Int) (r : Bool) (w : World) (h : caulkerlaw01_SpanMoves.f k a0_0 a0_1 a1 = some r) :
  Calls Try.prog 5 #[.agg #[.int .i64 a0_0, .int .i64 a0_1], .int .i64 a1] w fun e w' => e = .returned (.bool r) ∧ Below w.heap.size w w' := by
 have hu24 := Try.underlying24
 have HB := Aside0.mk (Below.refl w.heap.size w)
 have H : ((caulkerlaw01_spans.f k).bind fun t170 => (if t170 = true then ((span_Move.f k a0_0 a0_1 a1).bind fun bt171 => ((caulkerlaw01_may.f a0_0 a0_1).bind fun t175 => (if t175 = true then (if a1 ≥ (-65536) then (caulkerlaw01_SpanMoves.j0 k a1 bt171.2.2 (decide (a1 ≤ 65536)) a0_0 a0_1 bt171.1 bt171.2.1) else (caulkerlaw01_SpanMoves.j0 k a1 bt171.2.2 false a0_0 a0_1 bt171.1 bt171.2.1)) else (caulkerlaw01_SpanMoves.j0 k a1 bt171.2.2 false a0_0 a0_1 bt171.1 bt171.2.1)))) else (some false))) = some r := h
 clear h
 replace H := Option.bind_eq_some_iff.mp H
 obtain ⟨t170, A30, H⟩ := H
 replace H : (if t170 = true then ((span_Move.f k a0_0 a0_1 a1).bind fun bt171 => ((caulkerlaw01_may.f a0_0 a0_1).bind fun t175 => (if t175 = true then (if a1 ≥ (-65536) then (caulkerlaw01_SpanMoves.j0 k a1 bt171.2.2 (decide (a1 ≤ 65536)) a0_0 a0_1 bt171.1 bt171.2.1) else (caulkerlaw01_SpanMoves.j0 k a1 bt171.2.2 false a0_0 a0_1 bt171.1 bt171.2.1)) else (caulkerlaw01_SpanMoves.j0 k a1 bt171.2.2 false a0_0 a0_1 bt171.1 bt171.2.1)))) else (some false)) = some r := H
 have A3 := Aside0.mk A30
 clear A30
 by_cases c4 : t170 = true
 ·subst c4
  have H1 : ((span_Move.f k a0_0 a0_1 a1).bind fun bt171 => ((caulkerlaw01_may.f a0_0 a0_1).bind fun t175 => (if t175 = true then (if a1 ≥ (-65536) then (caulkerlaw01_SpanMoves.j0 k a1 bt171.2.2 (decide (a1 ≤ 65536)) a0_0 a0_1 bt171.1 bt171.2.1) else (caulkerlaw01_SpanMoves.j0 k a1 bt171.2.2 false a0_0 a0_1 bt171.1 bt171.2.1)) else (caulkerlaw01_SpanMoves.j0 k a1 bt171.2.2 false a0_0 a0_1 bt171.1 bt171.2.1)))) = some r := by rw [if_pos rfl] at H; exact H
  clear H
  have H := H1
  clear H1
  replace H := Option.bind_eq_some_iff.mp H
  obtain ⟨⟨t171, t172, t173⟩, A50, H⟩ := H
  replace H : ((caulkerlaw01_may.f a0_0 a0_1).bind fun t175 => (if t175 = true then (if a1 ≥ (-65536) then (caulkerlaw01_SpanMoves.j0 k a1 t173 (decide (a1 ≤ 65536)) a0_0 a0_1 t171 t172) else (caulkerlaw01_SpanMoves.j0 k a1 t173 false a0_0 a0_1 t171 t172)) else (caulkerlaw01_SpanMoves.j0 k a1 t173 false a0_0 a0_1 t171 t172))) = some r := H
  have A5 := Aside0.mk A50
  clear A50
  have HC6 := Aside0.mk H
  clear H
  go_enter Try.func5, Try.ntmps5
  go_upto_region 4 with (first | ((with_reducible refine gate_dst (N := 2) rfl ?_); refine box_event ?hg (N := 2) ?hd (cs := #[.int .i64 a0_0, .int .i64 a0_1]) (t := 24) ?hr ?_; (case hd => rfl); (case hg => rfl); (case hr => first | (go_simp; done) | (go_simp; rfl)); intro gb169 hg w7 hbox hb; have n0_ := pxs HB hb; have n1_ := Aside0.mk (hbox); have n2_ := Aside0.mk ((by rw [hg]; exact (below_size (pxb HB)) : w.heap.size ≤ gb169)); have n3_ := Aside0.mk ((by rw [hg]; exact (below_size (pxb HB)) : w.heap.size ≤ gb169)); clear HB; have HB := n0_; have BK169 := n1_; have GW169 := n2_; have GE169 := n3_; clear n0_ n1_ n2_ n3_; clear hb hbox hg) | ((with_reducible refine gate_callee (f := 14) rfl ?_); refine goesL_ (some 8) rfl rfl Try.func14 (by kernel_rfl) rfl #[] rfl (by (try simp only [List.map_toArray, List.map_cons, List.map_nil]); first | done | rfl | (simp only [List.length_drop, List.length_take]; rfl)) ?_; (with_reducible refine (caulkerlaw01_spans.calls k  true _ A3.out).mono ?_); rintro e w8 ⟨rfl, hb⟩; refine ⟨_, rfl, ?_⟩; have n0_ := pxk BK169 hb; have n1_ := pxs HB hb; clear BK169; clear HB; have BK169 := n0_; have HB := n1_; clear n0_ n1_; (try clear hb); (try clear hb2); (try clear hk); (try clear hi); have hcz9_0 : w8.cell? ⟨gb169, 0, none⟩ = some (.int .i64 a0_0) := (blk_cell BK169.out 0).trans rfl; have hcz9_1 : w8.cell? ⟨gb169, 1, none⟩ = some (.int .i64 a0_1) := (blk_cell BK169.out 1).trans rfl; have hfz9_0 := blk_frozen BK169.out 0; have hfz9_1 := blk_frozen BK169.out 1) | ((with_reducible refine gate_callee (f := 20) rfl ?_); refine goesL_ (some 13) rfl rfl Try.func20 (by kernel_rfl) rfl #[.agg #[.int .i64 a0_0, .int .i64 a0_1], .int .i64 a1] rfl (by (try simp only [List.map_toArray, List.map_cons, List.map_nil]); first | done | rfl | (simp only [List.length_drop, List.length_take]; rfl)) ?_; (with_reducible refine (span_Move.calls k a0_0 a0_1 a1 t171 t172 t173 _ A5.out).mono ?_); rintro e w10 ⟨rfl, hb⟩; refine ⟨_, rfl, ?_⟩; have n0_ := pxk BK169 hb; have n1_ := pxs HB hb; clear BK169; clear HB; have BK169 := n0_; have HB := n1_; clear n0_ n1_; (try clear hb); (try clear hb2); (try clear hk); (try clear hi)) | ((with_reducible refine gate_dst (N := 5) rfl ?_); refine box_event ?hg (N := 5) ?hd (cs := #[.int .i64 0, .int .i64 0]) (t := 24) ?hr ?_; (case hd => rfl); (case hg => rfl); (case hr => first | (go_simp; done) | (go_simp; rfl)); intro gb174 hg w11 hbox hb; have n0_ := pxk BK169 hb; have n1_ := pxs HB hb; have n2_ := Aside0.mk (hbox); have n3_ := Aside0.mk ((by rw [hg]; exact (below_size (pxb HB)) : w.heap.size ≤ gb174)); have n4_ := Aside0.mk ((by rw [hg]; exact (below_size (pxb HB)) : w.heap.size ≤ gb174)); have n5_ := Aside0.mk ((by rw [hg]; exact Nat.ne_of_lt (blk_lt (g := gb169) (o := .cells #[.int .i64 a0_0, .int .i64 a0_1] 24 (0, 0)) (by (with_reducible repeat (first | refine blk_drewN ?_ _ | refine blk_drew ?_ | refine blk_alloc ?_ _)); exact BK169.out)) : gb169 ≠ gb174)); have n6_ := Aside0.mk ((by rw [hg]; exact Nat.ne_of_gt (blk_lt (g := gb169) (o := .cells #[.int .i64 a0_0, .int .i64 a0_1] 24 (0, 0)) (by (with_reducible repeat (first | refine blk_drewN ?_ _ | refine blk_drew ?_ | refine blk_alloc ?_ _)); exact BK169.out)) : gb174 ≠ gb169)); clear BK169; clear HB; have BK169 := n0_; have HB := n1_; have BK174 := n2_; have GW174 := n3_; have GE174 := n4_; have NB169_174 := n5_; have NB174_169 := n6_; clear n0_ n1_ n2_ n3_ n4_ n5_ n6_; clear hb hbox hg; have hnb12 := NB174_169.out; have hnc12 := NB169_174.out; have hcz13_0 : w11.cell? ⟨gb174, 0, none⟩ = some (.int .i64 0) := (blk_cell BK174.out 0).trans rfl; have hcz13_1 : w11.cell? ⟨gb174, 1, none⟩ = some (.int .i64 0) := (blk_cell BK174.out 1).trans rfl; have hfz13_0 := blk_frozen BK174.out 0; have hfz13_1 := blk_frozen BK174.out 1))
  (try simp only [Act.put, List.setIfInBounds_toArray, List.set_cons_zero, List.set_cons_succ])
  go_cut [7] (fun v7 wc => ∃ (kq : Nat) (x7_5 : Bool), v7 = .bool x7_5 ∧ Aside0 (caulkerlaw01_SpanMoves.j0 kq a1 t173 x7_5 a0_0 a0_1 t171 t172 = some r) ∧ Aside0 (kq ≤ k) ∧ Aside0 (wc.heap[gb169]? = some (.cells #[.int .i64 a0_0, .int .i64 a0_1] 24 (0, 0))) ∧ Aside0 (wc.heap[gb174]? = some (.cells #[.int .i64 t171, .int .i64 t172] 24 (0, 0))) ∧ Aside0 (Below w.heap.size w wc))
  case first =>
   have H := HC6.out
   clear HC6
   replace H := Option.bind_eq_some_iff.mp H
   obtain ⟨t175, A140, H⟩ := H
   replace H : (if t175 = true then (if a1 ≥ (-65536) then (caulkerlaw01_SpanMoves.j0 k a1 t173 (decide (a1 ≤ 65536)) a0_0 a0_1 t171 t172) else (caulkerlaw01_SpanMoves.j0 k a1 t173 false a0_0 a0_1 t171 t172)) else (caulkerlaw01_SpanMoves.j0 k a1 t173 false a0_0 a0_1 t171 t172)) = some r := H
   have A14 := Aside0.mk A140
   clear A140
   by_cases c15 : t175 = true
   ·subst c15
    have H1 : (if a1 ≥ (-65536) then (caulkerlaw01_SpanMoves.j0 k a1 t173 (decide (a1 ≤ 65536)) a0_0 a0_1 t171 t172) else (caulkerlaw01_SpanMoves.j0 k a1 t173 false a0_0 a0_1 t171 t172)) = some r := by rw [if_pos rfl] at H; exact H
    clear H
    have H := H1
    clear H1
    by_cases c16 : a1 ≥ (-65536)
    ·rw [if_pos c16] at H
     have c16b0 : decide ((-65536) ≤ a1) = true := decide_eq_true c16
     clear c16
     (first | rw [c16b0] | (simp only [i64_w, i32_w]; rw [c16b0]) | skip)
     have H' := Aside0.mk H
     clear H
     have hnb17 := NB169_174.out
     have hnc17 := NB174_169.out
     have hcz18_0 : w11.cell? ⟨gb169, 0, none⟩ = some (.int .i64 a0_0) := (blk_cell BK169.out 0).trans rfl
     have hcz18_1 : w11.cell? ⟨gb169, 1, none⟩ = some (.int .i64 a0_1) := (blk_cell BK169.out 1).trans rfl
     have hfz18_0 := blk_frozen BK169.out 0
     have hfz18_1 := blk_frozen BK169.out 1
     go_wp2_with (first | ((with_reducible refine gate_callee (f := 19) rfl ?_); refine goesL_ (some 17) rfl rfl Try.func19 (by kernel_rfl) rfl #[.agg #[.int .i64 a0_0, .int .i64 a0_1]] rfl (by (try simp only [List.map_toArray, List.map_cons, List.map_nil]); first | done | rfl | (simp only [List.length_drop, List.length_take]; rfl)) ?_; (with_reducible refine (caulkerlaw01_may.calls a0_0 a0_1 true _ A14.out).mono ?_); rintro e w19 ⟨rfl, hb⟩; refine ⟨_, rfl, ?_⟩; have n0_ := Aside0.mk (blk_below (g := gb169) (o := .cells #[.int .i64 a0_0, .int .i64 a0_1] 24 (0, 0)) (by (with_reducible repeat (first | refine blk_drewN ?_ _ | refine blk_drew ?_ | refine blk_alloc ?_ _)); refine blk_far ?_ NB169_174.out _; (with_reducible repeat (first | refine blk_drewN ?_ _ | refine blk_drew ?_ | refine blk_alloc ?_ _)); refine blk_far ?_ NB169_174.out _; (with_reducible repeat (first | refine blk_drewN ?_ _ | refine blk_drew ?_ | refine blk_alloc ?_ _)); exact BK169.out) hb); have n1_ := Aside0.mk (blk_below (g := gb174) (o := .cells #[.int .i64 t171, .int .i64 t172] 24 (0, 0)) (by (with_reducible repeat (first | refine blk_drewN ?_ _ | refine blk_drew ?_ | refine blk_alloc ?_ _)); refine blk_put (cs := #[.int .i64 t171, .int .i64 0]) ?_ 1 _ rfl; (with_reducible repeat (first | refine blk_drewN ?_ _ | refine blk_drew ?_ | refine blk_alloc ?_ _)); refine blk_put (cs := #[.int .i64 0, .int .i64 0]) ?_ 0 _ rfl; (with_reducible repeat (first | refine blk_drewN ?_ _ | refine blk_drew ?_ | refine blk_alloc ?_ _)); exact BK174.out) hb); have n2_ := pxs HB hb; clear BK169; clear BK174; clear HB; have BK169 := n0_; have BK174 := n1_; have HB := n2_; clear n0_ n1_ n2_; (try clear hb); (try clear hb2); (try clear hk); (try clear hi)))
     go_meet
     case rel => exact ⟨_, (decide (a1 ≤ 65536)), (by first | rfl | (simp; done) | (simp [*]; done)), H', ⟨by first | omega | exact Nat.le_refl _⟩, ⟨by (with_reducible repeat (first | refine blk_drewN ?_ _ | refine blk_drew ?_ | refine blk_alloc ?_ _)); exact BK169.out⟩, ⟨by (with_reducible repeat (first | refine blk_drewN ?_ _ | refine blk_drew ?_ | refine blk_alloc ?_ _)); exact BK174.out⟩, ⟨pxb HB⟩⟩
    ·rw [if_neg c16] at H
     have c16b0 : decide ((-65536) ≤ a1) = false := decide_eq_false c16
     clear c16
     (first | rw [c16b0] | (simp only [i64_w, i32_w]; rw [c16b0]) | skip)
     have H' := Aside0.mk H
     clear H
     have hnb20 := NB169_174.out
     have hnc20 := NB174_169.out
     have hcz21_0 : w11.cell? ⟨gb169, 0, none⟩ = some (.int .i64 a0_0) := (blk_cell BK169.out 0).trans rfl
     have hcz21_1 : w11.cell? ⟨gb169, 1, none⟩ = some (.int .i64 a0_1) := (blk_cell BK169.out 1).trans rfl
     have hfz21_0 := blk_frozen BK169.out 0
     have hfz21_1 := blk_frozen BK169.out 1
     go_wp2_with (first | ((with_reducible refine gate_callee (f := 19) rfl ?_); refine goesL_ (some 17) rfl rfl Try.func19 (by kernel_rfl) rfl #[.agg #[.int .i64 a0_0, .int .i64 a0_1]] rfl (by (try simp only [List.map_toArray, List.map_cons, List.map_nil]); first | done | rfl | (simp only [List.length_drop, List.length_take]; rfl)) ?_; (with_reducible refine (caulkerlaw01_may.calls a0_0 a0_1 true _ A14.out).mono ?_); rintro e w22 ⟨rfl, hb⟩; refine ⟨_, rfl, ?_⟩; have n0_ := Aside0.mk (blk_below (g := gb169) (o := .cells #[.int .i64 a0_0, .int .i64 a0_1] 24 (0, 0)) (by (with_reducible repeat (first | refine blk_drewN ?_ _ | refine blk_drew ?_ | refine blk_alloc ?_ _)); refine blk_far ?_ NB169_174.out _; (with_reducible repeat (first | refine blk_drewN ?_ _ | refine blk_drew ?_ | refine blk_alloc ?_ _)); refine blk_far ?_ NB169_174.out _; (with_reducible repeat (first | refine blk_drewN ?_ _ | refine blk_drew ?_ | refine blk_alloc ?_ _)); exact BK169.out) hb); have n1_ := Aside0.mk (blk_below (g := gb174) (o := .cells #[.int .i64 t171, .int .i64 t172] 24 (0, 0)) (by (with_reducible repeat (first | refine blk_drewN ?_ _ | refine blk_drew ?_ | refine blk_alloc ?_ _)); refine blk_put (cs := #[.int .i64 t171, .int .i64 0]) ?_ 1 _ rfl; (with_reducible repeat (first | refine blk_drewN ?_ _ | refine blk_drew ?_ | refine blk_alloc ?_ _)); refine blk_put (cs := #[.int .i64 0, .int .i64 0]) ?_ 0 _ rfl; (with_reducible repeat (first | refine blk_drewN ?_ _ | refine blk_drew ?_ | refine blk_alloc ?_ _)); exact BK174.out) hb); have n2_ := pxs HB hb; clear BK169; clear BK174; clear HB; have BK169 := n0_; have BK174 := n1_; have HB := n2_; clear n0_ n1_ n2_; (try clear hb); (try clear hb2); (try clear hk); (try clear hi)))
     go_meet
     case rel => exact ⟨_, (false), (by first | rfl | (simp; done) | (simp [*]; done)), H', ⟨by first | omega | exact Nat.le_refl _⟩, ⟨by (with_reducible repeat (first | refine blk_drewN ?_ _ | refine blk_drew ?_ | refine blk_alloc ?_ _)); exact BK169.out⟩, ⟨by (with_reducible repeat (first | refine blk_drewN ?_ _ | refine blk_drew ?_ | refine blk_alloc ?_ _)); exact BK174.out⟩, ⟨pxb HB⟩⟩
   ·replace c15 := Bool.eq_false_iff.mpr c15
    subst c15
    have H1 : (caulkerlaw01_SpanMoves.j0 k a1 t173 false a0_0 a0_1 t171 t172) = some r := by rw [if_neg (show ¬ (false = true) by decide)] at H; exact H
    clear H
    have H := H1
    clear H1
    have H' := Aside0.mk H
    clear H
    have hnb23 := NB169_174.out
    have hnc23 := NB174_169.out
    have hcz24_0 : w11.cell? ⟨gb169, 0, none⟩ = some (.int .i64 a0_0) := (blk_cell BK169.out 0).trans rfl
    have hcz24_1 : w11.cell? ⟨gb169, 1, none⟩ = some (.int .i64 a0_1) := (blk_cell BK169.out 1).trans rfl
    have hfz24_0 := blk_frozen BK169.out 0
    have hfz24_1 := blk_frozen BK169.out 1
    go_wp2_with (first | ((with_reducible refine gate_callee (f := 19) rfl ?_); refine goesL_ (some 17) rfl rfl Try.func19 (by kernel_rfl) rfl #[.agg #[.int .i64 a0_0, .int .i64 a0_1]] rfl (by (try simp only [List.map_toArray, List.map_cons, List.map_nil]); first | done | rfl | (simp only [List.length_drop, List.length_take]; rfl)) ?_; (with_reducible refine (caulkerlaw01_may.calls a0_0 a0_1 false _ A14.out).mono ?_); rintro e w25 ⟨rfl, hb⟩; refine ⟨_, rfl, ?_⟩; have n0_ := Aside0.mk (blk_below (g := gb169) (o := .cells #[.int .i64 a0_0, .int .i64 a0_1] 24 (0, 0)) (by (with_reducible repeat (first | refine blk_drewN ?_ _ | refine blk_drew ?_ | refine blk_alloc ?_ _)); refine blk_far ?_ NB169_174.out _; (with_reducible repeat (first | refine blk_drewN ?_ _ | refine blk_drew ?_ | refine blk_alloc ?_ _)); refine blk_far ?_ NB169_174.out _; (with_reducible repeat (first | refine blk_drewN ?_ _ | refine blk_drew ?_ | refine blk_alloc ?_ _)); exact BK169.out) hb); have n1_ := Aside0.mk (blk_below (g := gb174) (o := .cells #[.int .i64 t171, .int .i64 t172] 24 (0, 0)) (by (with_reducible repeat (first | refine blk_drewN ?_ _ | refine blk_drew ?_ | refine blk_alloc ?_ _)); refine blk_put (cs := #[.int .i64 t171, .int .i64 0]) ?_ 1 _ rfl; (with_reducible repeat (first | refine blk_drewN ?_ _ | refine blk_drew ?_ | refine blk_alloc ?_ _)); refine blk_put (cs := #[.int .i64 0, .int .i64 0]) ?_ 0 _ rfl; (with_reducible repeat (first | refine blk_drewN ?_ _ | refine blk_drew ?_ | refine blk_alloc ?_ _)); exact BK174.out) hb); have n2_ := pxs HB hb; clear BK169; clear BK174; clear HB; have BK169 := n0_; have BK174 := n1_; have HB := n2_; clear n0_ n1_ n2_; (try clear hb); (try clear hb2); (try clear hk); (try clear hi)))
    go_meet
    case rel => exact ⟨_, (false), (by first | rfl | (simp; done) | (simp [*]; done)), H', ⟨by first | omega | exact Nat.le_refl _⟩, ⟨by (with_reducible repeat (first | refine blk_drewN ?_ _ | refine blk_drew ?_ | refine blk_alloc ?_ _)); exact BK169.out⟩, ⟨by (with_reducible repeat (first | refine blk_drewN ?_ _ | refine blk_drew ?_ | refine blk_alloc ?_ _)); exact BK174.out⟩, ⟨pxb HB⟩⟩
  case rest =>
   clear HC6
   try clear c1
   try clear c2
   try clear p2
   try clear c4
   try clear c5
   try clear c12
   try clear c14
   try clear c15
   try clear c16
   try clear c16b0
   try clear c17
   try clear c19
   try clear c20
   try clear c23
   try clear hcz13_0
   try clear hcz13_1
   try clear hcz18_0
   try clear hcz18_1
   try clear hcz21_0
   try clear hcz21_1
   try clear hcz24_0
   try clear hcz24_1
   try clear hcz9_0
   try clear hcz9_1
   try clear hfz13_0
   try clear hfz13_1
   try clear hfz18_0
   try clear hfz18_1
   try clear hfz21_0
   try clear hfz21_1
   try clear hfz24_0
   try clear hfz24_1
   try clear hfz9_0
   try clear hfz9_1
   obtain ⟨kq, x7_5, rfl, HA, HJ5, BK169, BK174, HB⟩ := hcut
   cases kq with
   | zero => exact absurd HA.out (by simp [caulkerlaw01_SpanMoves.j0])
   | succ kj5 =>
    have H := HA.out
    clear HA
    simp only [caulkerlaw01_SpanMoves.j0] at H
    by_cases c26 : x7_5 = true
    ·subst c26
     have H1 : (if a0_0 ≥ (wrap64 (-a1)) then (if (a0_1 ≤ (wrap64 (65536 - a1))) then (if t173 = 0 then (if (wrap64 (t171 - a0_0)) = a1 then (some ((wrap64 (t172 - a0_1)) == a1)) else (some false)) else (some false)) else (if t173 = 1 then (some (t171 == 0 && (t172 == 0))) else (some false))) else (if t173 = 1 then (some (t171 == 0 && (t172 == 0))) else (some false))) = some r := by rw [if_pos rfl] at H; exact H
     clear H
     have H := H1
     clear H1
     by_cases c27 : a0_0 ≥ (wrap64 (-a1))
     ·rw [if_pos c27] at H
      have c27b0 : decide ((wrap64 (-a1)) ≤ a0_0) = true := decide_eq_true c27
      clear c27
      by_cases c28 : (a0_1 ≤ (wrap64 (65536 - a1)))
      ·rw [if_pos c28] at H
       have c28b0 : decide (a0_1 ≤ (wrap64 (65536 - a1))) = true := decide_eq_true c28
       clear c28
       by_cases c29 : t173 = 0
       ·rw [if_pos c29] at H
        have c29b0 : (t173 == 0) = true := beq_iff_eq.mpr c29
        have c29b1 : (t173 != 0) = false := bne_eq_false_iff_eq.mpr c29
        clear c29
        by_cases c30 : (wrap64 (t171 - a0_0)) = a1
        ·rw [if_pos c30] at H
         have c30b0 : ((wrap64 (t171 - a0_0)) == a1) = true := beq_iff_eq.mpr c30
         have c30b1 : ((wrap64 (t171 - a0_0)) != a1) = false := bne_eq_false_iff_eq.mpr c30
         clear c30
         obtain rfl := Option.some.inj H
         have hnb31 := NB169_174.out
         have hnc31 := NB174_169.out
         have hcz32_0 : wc.cell? ⟨gb169, 0, none⟩ = some (.int .i64 a0_0) := (blk_cell BK169.out 0).trans rfl
         have hcz32_1 : wc.cell? ⟨gb169, 1, none⟩ = some (.int .i64 a0_1) := (blk_cell BK169.out 1).trans rfl
         have hfz32_0 := blk_frozen BK169.out 0
         have hfz32_1 := blk_frozen BK169.out 1
         have hcz33_0 : wc.cell? ⟨gb174, 0, none⟩ = some (.int .i64 t171) := (blk_cell BK174.out 0).trans rfl
         have hcz33_1 : wc.cell? ⟨gb174, 1, none⟩ = some (.int .i64 t172) := (blk_cell BK174.out 1).trans rfl
         have hfz33_0 := blk_frozen BK174.out 0
         have hfz33_1 := blk_frozen BK174.out 1
         go_wp2
         go_ret
         exact ⟨by first | rfl | (simp [errW_none, errW_some] <;> rfl) | (simp [*, errW_none, errW_some] <;> rfl), pxb HB⟩
        ·rw [if_neg c30] at H
         have c30b0 : ((wrap64 (t171 - a0_0)) == a1) = false := beq_eq_false_iff_ne.mpr c30
         have c30b1 : ((wrap64 (t171 - a0_0)) != a1) = true := bne_iff_ne.mpr c30
         obtain rfl := Option.some.inj H
         have hnb34 := NB169_174.out
         have hnc34 := NB174_169.out
         have hcz35_0 : wc.cell? ⟨gb169, 0, none⟩ = some (.int .i64 a0_0) := (blk_cell BK169.out 0).trans rfl
         have hcz35_1 : wc.cell? ⟨gb169, 1, none⟩ = some (.int .i64 a0_1) := (blk_cell BK169.out 1).trans rfl
         have hfz35_0 := blk_frozen BK169.out 0
         have hfz35_1 := blk_frozen BK169.out 1
         have hcz36_0 : wc.cell? ⟨gb174, 0, none⟩ = some (.int .i64 t171) := (blk_cell BK174.out 0).trans rfl
         have hcz36_1 : wc.cell? ⟨gb174, 1, none⟩ = some (.int .i64 t172) := (blk_cell BK174.out 1).trans rfl
         have hfz36_0 := blk_frozen BK174.out 0
         have hfz36_1 := blk_frozen BK174.out 1
         go_wp2
         go_ret
         exact ⟨by first | rfl | (simp [errW_none, errW_some] <;> rfl) | (simp [*, errW_none, errW_some] <;> rfl), pxb HB⟩
       ·rw [if_neg c29] at H
        have c29b0 : (t173 == 0) = false := beq_eq_false_iff_ne.mpr c29
        have c29b1 : (t173 != 0) = true := bne_iff_ne.mpr c29
        obtain rfl := Option.some.inj H
        have hnb37 := NB169_174.out
        have hnc37 := NB174_169.out
        have hcz38_0 : wc.cell? ⟨gb169, 0, none⟩ = some (.int .i64 a0_0) := (blk_cell BK169.out 0).trans rfl
        have hcz38_1 : wc.cell? ⟨gb169, 1, none⟩ = some (.int .i64 a0_1) := (blk_cell BK169.out 1).trans rfl
        have hfz38_0 := blk_frozen BK169.out 0
        have hfz38_1 := blk_frozen BK169.out 1
        go_wp2
        go_ret
        exact ⟨by first | rfl | (simp [errW_none, errW_some] <;> rfl) | (simp [*, errW_none, errW_some] <;> rfl), pxb HB⟩
      ·rw [if_neg c28] at H
       have c28b0 : decide (a0_1 ≤ (wrap64 (65536 - a1))) = false := decide_eq_false c28
       clear c28
       by_cases c39 : t173 = 1
       ·rw [if_pos c39] at H
        have c39b0 : (t173 == 1) = true := beq_iff_eq.mpr c39
        have c39b1 : (t173 != 1) = false := bne_eq_false_iff_eq.mpr c39
        clear c39
        obtain rfl := Option.some.inj H
        have hnb40 := NB169_174.out
        have hnc40 := NB174_169.out
        have hcz41_0 : wc.cell? ⟨gb169, 0, none⟩ = some (.int .i64 a0_0) := (blk_cell BK169.out 0).trans rfl
        have hcz41_1 : wc.cell? ⟨gb169, 1, none⟩ = some (.int .i64 a0_1) := (blk_cell BK169.out 1).trans rfl
        have hfz41_0 := blk_frozen BK169.out 0
        have hfz41_1 := blk_frozen BK169.out 1
        have hcz42_0 : wc.cell? ⟨gb174, 0, none⟩ = some (.int .i64 t171) := (blk_cell BK174.out 0).trans rfl
        have hcz42_1 : wc.cell? ⟨gb174, 1, none⟩ = some (.int .i64 t172) := (blk_cell BK174.out 1).trans rfl
        have hfz42_0 := blk_frozen BK174.out 0
        have hfz42_1 := blk_frozen BK174.out 1
        go_wp2
        go_ret
        exact ⟨by first | rfl | (simp [errW_none, errW_some] <;> rfl) | (simp [*, errW_none, errW_some] <;> rfl), pxb HB⟩
       ·rw [if_neg c39] at H
        have c39b0 : (t173 == 1) = false := beq_eq_false_iff_ne.mpr c39
        have c39b1 : (t173 != 1) = true := bne_iff_ne.mpr c39
        obtain rfl := Option.some.inj H
        have hnb43 := NB169_174.out
        have hnc43 := NB174_169.out
        have hcz44_0 : wc.cell? ⟨gb169, 0, none⟩ = some (.int .i64 a0_0) := (blk_cell BK169.out 0).trans rfl
        have hcz44_1 : wc.cell? ⟨gb169, 1, none⟩ = some (.int .i64 a0_1) := (blk_cell BK169.out 1).trans rfl
        have hfz44_0 := blk_frozen BK169.out 0
        have hfz44_1 := blk_frozen BK169.out 1
        go_wp2
        go_ret
        exact ⟨by first | rfl | (simp [errW_none, errW_some] <;> rfl) | (simp [*, errW_none, errW_some] <;> rfl), pxb HB⟩
     ·rw [if_neg c27] at H
      have c27b0 : decide ((wrap64 (-a1)) ≤ a0_0) = false := decide_eq_false c27
      clear c27
      by_cases c45 : t173 = 1
      ·rw [if_pos c45] at H
       have c45b0 : (t173 == 1) = true := beq_iff_eq.mpr c45
       have c45b1 : (t173 != 1) = false := bne_eq_false_iff_eq.mpr c45
       clear c45
       obtain rfl := Option.some.inj H
       have hnb46 := NB169_174.out
       have hnc46 := NB174_169.out
       have hcz47_0 : wc.cell? ⟨gb169, 0, none⟩ = some (.int .i64 a0_0) := (blk_cell BK169.out 0).trans rfl
       have hcz47_1 : wc.cell? ⟨gb169, 1, none⟩ = some (.int .i64 a0_1) := (blk_cell BK169.out 1).trans rfl
       have hfz47_0 := blk_frozen BK169.out 0
       have hfz47_1 := blk_frozen BK169.out 1
       have hcz48_0 : wc.cell? ⟨gb174, 0, none⟩ = some (.int .i64 t171) := (blk_cell BK174.out 0).trans rfl
       have hcz48_1 : wc.cell? ⟨gb174, 1, none⟩ = some (.int .i64 t172) := (blk_cell BK174.out 1).trans rfl
       have hfz48_0 := blk_frozen BK174.out 0
       have hfz48_1 := blk_frozen BK174.out 1
       go_wp2
       go_ret
       exact ⟨by first | rfl | (simp [errW_none, errW_some] <;> rfl) | (simp [*, errW_none, errW_some] <;> rfl), pxb HB⟩
      ·rw [if_neg c45] at H
       have c45b0 : (t173 == 1) = false := beq_eq_false_iff_ne.mpr c45
       have c45b1 : (t173 != 1) = true := bne_iff_ne.mpr c45
       obtain rfl := Option.some.inj H
       have hnb49 := NB169_174.out
       have hnc49 := NB174_169.out
       have hcz50_0 : wc.cell? ⟨gb169, 0, none⟩ = some (.int .i64 a0_0) := (blk_cell BK169.out 0).trans rfl
       have hcz50_1 : wc.cell? ⟨gb169, 1, none⟩ = some (.int .i64 a0_1) := (blk_cell BK169.out 1).trans rfl
       have hfz50_0 := blk_frozen BK169.out 0
       have hfz50_1 := blk_frozen BK169.out 1
       go_wp2
       go_ret
       exact ⟨by first | rfl | (simp [errW_none, errW_some] <;> rfl) | (simp [*, errW_none, errW_some] <;> rfl), pxb HB⟩
    ·replace c26 := Bool.eq_false_iff.mpr c26
     subst c26
     have H1 : (if t173 = 1 then (some (t171 == 0 && (t172 == 0))) else (some false)) = some r := by rw [if_neg (show ¬ (false = true) by decide)] at H; exact H
     clear H
     have H := H1
     clear H1
     by_cases c51 : t173 = 1
     ·rw [if_pos c51] at H
      have c51b0 : (t173 == 1) = true := beq_iff_eq.mpr c51
      have c51b1 : (t173 != 1) = false := bne_eq_false_iff_eq.mpr c51
      clear c51
      obtain rfl := Option.some.inj H
      have hnb52 := NB174_169.out
      have hnc52 := NB169_174.out
      have hcz53_0 : wc.cell? ⟨gb174, 0, none⟩ = some (.int .i64 t171) := (blk_cell BK174.out 0).trans rfl
      have hcz53_1 : wc.cell? ⟨gb174, 1, none⟩ = some (.int .i64 t172) := (blk_cell BK174.out 1).trans rfl
      have hfz53_0 := blk_frozen BK174.out 0
      have hfz53_1 := blk_frozen BK174.out 1
      go_wp2
      go_ret
      exact ⟨by first | rfl | (simp [errW_none, errW_some] <;> rfl) | (simp [*, errW_none, errW_some] <;> rfl), pxb HB⟩
     ·rw [if_neg c51] at H
      have c51b0 : (t173 == 1) = false := beq_eq_false_iff_ne.mpr c51
      have c51b1 : (t173 != 1) = true := bne_iff_ne.mpr c51
      obtain rfl := Option.some.inj H
      go_wp2
      go_ret
      exact ⟨by first | rfl | (simp [errW_none, errW_some] <;> rfl) | (simp [*, errW_none, errW_some] <;> rfl), pxb HB⟩
 ·replace c4 := Bool.eq_false_iff.mpr c4
  subst c4
  have H1 : (some false) = some r := by rw [if_neg (show ¬ (false = true) by decide)] at H; exact H
  clear H
  have H := H1
  clear H1
  obtain rfl := Option.some.inj H
  go_enter Try.func5, Try.ntmps5
  go_wp2_with (first | ((with_reducible refine gate_dst (N := 2) rfl ?_); refine box_event ?hg (N := 2) ?hd (cs := #[.int .i64 a0_0, .int .i64 a0_1]) (t := 24) ?hr ?_; (case hd => rfl); (case hg => rfl); (case hr => first | (go_simp; done) | (go_simp; rfl)); intro gb169 hg w54 hbox hb; have n0_ := pxs HB hb; have n1_ := Aside0.mk (hbox); have n2_ := Aside0.mk ((by rw [hg]; exact (below_size (pxb HB)) : w.heap.size ≤ gb169)); have n3_ := Aside0.mk ((by rw [hg]; exact (below_size (pxb HB)) : w.heap.size ≤ gb169)); clear HB; have HB := n0_; have BK169 := n1_; have GW169 := n2_; have GE169 := n3_; clear n0_ n1_ n2_ n3_; clear hb hbox hg) | ((with_reducible refine gate_callee (f := 14) rfl ?_); refine goesL_ (some 8) rfl rfl Try.func14 (by kernel_rfl) rfl #[] rfl (by (try simp only [List.map_toArray, List.map_cons, List.map_nil]); first | done | rfl | (simp only [List.length_drop, List.length_take]; rfl)) ?_; (with_reducible refine (caulkerlaw01_spans.calls k  false _ A3.out).mono ?_); rintro e w55 ⟨rfl, hb⟩; refine ⟨_, rfl, ?_⟩; have n0_ := pxk BK169 hb; have n1_ := pxs HB hb; clear BK169; clear HB; have BK169 := n0_; have HB := n1_; clear n0_ n1_; (try clear hb); (try clear hb2); (try clear hk); (try clear hi)))
  go_ret
  exact ⟨by first | rfl | (simp [errW_none, errW_some] <;> rfl) | (simp [*, errW_none, errW_some] <;> rfl), pxb HB⟩

/-- THE ONE PURE STATEMENT of caulkerlaw01_SpanMoves. -/
def caulkerlaw01_SpanMoves.Pure : Prop := ∀ (a0_0 : Int) (a0_1 : Int) (a1 : Int), good24 ((⟨a0_0, a0_1⟩ : S24)) → (Lit.int .i64 a1).wf = true → ∃ k, caulkerlaw01_SpanMoves.f k a0_0 a0_1 a1 = some true

end Go.Proofs.Ytfnemjejfccecaa.X
