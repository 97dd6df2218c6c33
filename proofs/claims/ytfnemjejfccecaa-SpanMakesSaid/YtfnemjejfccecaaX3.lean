/- What the program's functions answer, as Lean functions, and that each call does just that; no condition. Written by a program (px.py) out of the translation. -/
import Derived.Test.YtfnemjejfccecaaX0
import Derived.Test.YtfnemjejfccecaaXE24
import Derived.Test.YtfnemjejfccecaaX15
import Derived.Test.YtfnemjejfccecaaX16
import Derived.Test.YtfnemjejfccecaaX17
import Derived.Test.YtfnemjejfccecaaX14
namespace Go.Proofs.Ytfnemjejfccecaa.X
open Go.RowKit Go.Proofs.YtfnemjejfccecaaW.PrintWords Go.Proofs.YtfnemjejfccecaaW.PrintLast Go.Proofs.YtfnemjejfccecaaW.PrintMore
attribute [local go_sem] max2_int min2_int max_two min_two max_three min_three max_four min_four   -- for this text's walks alone
set_option linter.unusedVariables false
set_option linter.unusedSimpArgs false

attribute [local go_sem high] eqA24
/-! ### caulkerlaw01_SpanMakes: function 3 -/
mutual
def caulkerlaw01_SpanMakes.j0 : Nat → Int → Int → Int → Int → Bool → Int → Int → Option (Bool)
 | 0, _, _, _, _, _, _, _ => none
 | k + 1, x0, x1, x2, x8, x9, x150000, x150001 => if ((x8 == 0) != x9) = true then (caulkerlaw01_SpanMakes.j1 k x0 x1 x2 x9 true) else (if x8 = 0 then (if x9 = true then (if x150000 = x0 then (if x150001 = x1 then (caulkerlaw01_SpanMakes.j1 k x0 x1 x2 x9 false) else (caulkerlaw01_SpanMakes.j1 k x0 x1 x2 x9 true)) else (caulkerlaw01_SpanMakes.j1 k x0 x1 x2 x9 true)) else (caulkerlaw01_SpanMakes.j1 k x0 x1 x2 x9 (!(x150000 == 0) || (!(x150001 == 0))))) else (if x8 = 1 then (if x9 = true then (if x150000 = x0 then (if x150001 = x1 then (caulkerlaw01_SpanMakes.j1 k x0 x1 x2 x9 false) else (caulkerlaw01_SpanMakes.j1 k x0 x1 x2 x9 true)) else (caulkerlaw01_SpanMakes.j1 k x0 x1 x2 x9 true)) else (caulkerlaw01_SpanMakes.j1 k x0 x1 x2 x9 (!(x150000 == 0) || (!(x150001 == 0))))) else (caulkerlaw01_SpanMakes.j1 k x0 x1 x2 x9 true)))
def caulkerlaw01_SpanMakes.j1 : Nat → Int → Int → Int → Bool → Bool → Option (Bool)
 | 0, _, _, _, _, _ => none
 | k + 1, x0, x1, x2, x9, x67 => if x67 = true then (some false) else ((span_Check.f x0 x1 x2).bind fun t151 => (if x9 = true then (if x2 ≥ x1 then (if ((t151 == 0) != (decide (x2 ≤ 65536))) = true then (caulkerlaw01_SpanMakes.j2 k x0 x1 x9 true x0 x1) else (if t151 = 0 then (caulkerlaw01_SpanMakes.j2 k x0 x1 x9 false x0 x1) else (caulkerlaw01_SpanMakes.j2 k x0 x1 x9 (t151 != 1) x0 x1))) else (if ((t151 == 0) != false) = true then (caulkerlaw01_SpanMakes.j2 k x0 x1 x9 true x0 x1) else (if t151 = 0 then (caulkerlaw01_SpanMakes.j2 k x0 x1 x9 false x0 x1) else (caulkerlaw01_SpanMakes.j2 k x0 x1 x9 (t151 != 1) x0 x1)))) else (if ((t151 == 0) != false) = true then (caulkerlaw01_SpanMakes.j2 k x0 x1 x9 true x0 x1) else (if t151 = 0 then (caulkerlaw01_SpanMakes.j2 k x0 x1 x9 false x0 x1) else (caulkerlaw01_SpanMakes.j2 k x0 x1 x9 (t151 != 1) x0 x1)))))
def caulkerlaw01_SpanMakes.j2 : Nat → Int → Int → Bool → Bool → Int → Int → Option (Bool)
 | 0, _, _, _, _, _, _ => none
 | k + 1, x0, x1, x9, x94, x151000, x151001 => if x94 = true then (some false) else (if x9 = true then ((span_Len.f k x151000 x151001).bind fun t152 => (some (t152 == (wrap64 (x1 - x0))))) else ((span_Len.f k x151000 x151001).bind fun t153 => (some (t153 == 0))))
end
def caulkerlaw01_SpanMakes.f (k : Nat) (a0 : Int) (a1 : Int) (a2 : Int) : Option (Bool) := (caulkerlaw01_spans.f k).bind fun t145 => (if t145 = true then ((span_Of.f a0 a1).bind fun bt146 => (if a0 ≥ 0 then (if a1 ≥ a0 then (caulkerlaw01_SpanMakes.j0 k a0 a1 a2 bt146.2.2 (decide (a1 ≤ 65536)) bt146.1 bt146.2.1) else (caulkerlaw01_SpanMakes.j0 k a0 a1 a2 bt146.2.2 false bt146.1 bt146.2.1)) else (caulkerlaw01_SpanMakes.j0 k a0 a1 a2 bt146.2.2 false bt146.1 bt146.2.1))) else (some false))
theorem caulkerlaw01_SpanMakes.mono_l : ∀ k, (∀ y0 y1 y2 y3 y4 y5 y6, LeO (caulkerlaw01_SpanMakes.j0 k y0 y1 y2 y3 y4 y5 y6) (caulkerlaw01_SpanMakes.j0 (k + 1) y0 y1 y2 y3 y4 y5 y6)) ∧ (∀ y0 y1 y2 y3 y4, LeO (caulkerlaw01_SpanMakes.j1 k y0 y1 y2 y3 y4) (caulkerlaw01_SpanMakes.j1 (k + 1) y0 y1 y2 y3 y4)) ∧ (∀ y0 y1 y2 y3 y4 y5, LeO (caulkerlaw01_SpanMakes.j2 k y0 y1 y2 y3 y4 y5) (caulkerlaw01_SpanMakes.j2 (k + 1) y0 y1 y2 y3 y4 y5))
 | 0 => ⟨fun _ _ _ _ _ _ _ r h => by simp [caulkerlaw01_SpanMakes.j0] at h, fun _ _ _ _ _ r h => by simp [caulkerlaw01_SpanMakes.j1] at h, fun _ _ _ _ _ _ r h => by simp [caulkerlaw01_SpanMakes.j2] at h⟩
 | k + 1 => by
  obtain ⟨ih0, ih1, ih2⟩ := caulkerlaw01_SpanMakes.mono_l k
  refine ⟨?_, ?_, ?_⟩
  ·intro y0 y1 y2 y3 y4 y5 y6
   unfold caulkerlaw01_SpanMakes.j0
   repeat' first
   | (with_reducible exact ih0 _ _ _ _ _ _ _)
   | (with_reducible exact ih1 _ _ _ _ _)
   | (with_reducible exact ih2 _ _ _ _ _ _)
   | (with_reducible exact caulkerlaw01_spans.mono _)
   | (with_reducible exact span_Len.mono _ _ _)
   | (with_reducible exact LeO.refl _)
   | (with_reducible exact LeO.none _)
   | (with_reducible refine LeO.ite ?_ ?_)
   | (with_reducible refine LeO.bind ?_ (fun _ => ?_))
   | exact ih0 _ _ _ _ _ _ _
   | exact ih1 _ _ _ _ _
   | exact ih2 _ _ _ _ _ _
   | exact caulkerlaw01_spans.mono _
   | exact span_Len.mono _ _ _
   | exact LeO.none _
   | refine LeO.ite ?_ ?_
   | refine LeO.bind ?_ (fun _ => ?_)
  ·intro y0 y1 y2 y3 y4
   unfold caulkerlaw01_SpanMakes.j1
   repeat' first
   | (with_reducible exact ih0 _ _ _ _ _ _ _)
   | (with_reducible exact ih1 _ _ _ _ _)
   | (with_reducible exact ih2 _ _ _ _ _ _)
   | (with_reducible exact caulkerlaw01_spans.mono _)
   | (with_reducible exact span_Len.mono _ _ _)
   | (with_reducible exact LeO.refl _)
   | (with_reducible exact LeO.none _)
   | (with_reducible refine LeO.ite ?_ ?_)
   | (with_reducible refine LeO.bind ?_ (fun _ => ?_))
   | exact ih0 _ _ _ _ _ _ _
   | exact ih1 _ _ _ _ _
   | exact ih2 _ _ _ _ _ _
   | exact caulkerlaw01_spans.mono _
   | exact span_Len.mono _ _ _
   | exact LeO.none _
   | refine LeO.ite ?_ ?_
   | refine LeO.bind ?_ (fun _ => ?_)
  ·intro y0 y1 y2 y3 y4 y5
   unfold caulkerlaw01_SpanMakes.j2
   repeat' first
   | (with_reducible exact ih0 _ _ _ _ _ _ _)
   | (with_reducible exact ih1 _ _ _ _ _)
   | (with_reducible exact ih2 _ _ _ _ _ _)
   | (with_reducible exact caulkerlaw01_spans.mono _)
   | (with_reducible exact span_Len.mono _ _ _)
   | (with_reducible exact LeO.refl _)
   | (with_reducible exact LeO.none _)
   | (with_reducible refine LeO.ite ?_ ?_)
   | (with_reducible refine LeO.bind ?_ (fun _ => ?_))
   | exact ih0 _ _ _ _ _ _ _
   | exact ih1 _ _ _ _ _
   | exact ih2 _ _ _ _ _ _
   | exact caulkerlaw01_spans.mono _
   | exact span_Len.mono _ _ _
   | exact LeO.none _
   | refine LeO.ite ?_ ?_
   | refine LeO.bind ?_ (fun _ => ?_)
theorem caulkerlaw01_SpanMakes.mono : ∀ a0 a1 a2 k, LeO (caulkerlaw01_SpanMakes.f k a0 a1 a2) (caulkerlaw01_SpanMakes.f (k + 1) a0 a1 a2) := by
 intro a0 a1 a2 k
 obtain ⟨ih0, ih1, ih2⟩ := caulkerlaw01_SpanMakes.mono_l k
 unfold caulkerlaw01_SpanMakes.f
 repeat' first
   | (with_reducible exact ih0 _ _ _ _ _ _ _)
   | (with_reducible exact ih1 _ _ _ _ _)
   | (with_reducible exact ih2 _ _ _ _ _ _)
   | (with_reducible exact caulkerlaw01_spans.mono _)
   | (with_reducible exact span_Len.mono _ _ _)
   | (with_reducible exact LeO.refl _)
   | (with_reducible exact LeO.none _)
   | (with_reducible refine LeO.ite ?_ ?_)
   | (with_reducible refine LeO.bind ?_ (fun _ => ?_))
   | exact ih0 _ _ _ _ _ _ _
   | exact ih1 _ _ _ _ _
   | exact ih2 _ _ _ _ _ _
   | exact caulkerlaw01_spans.mono _
   | exact span_Len.mono _ _ _
   | exact LeO.none _
   | refine LeO.ite ?_ ?_
   | refine LeO.bind ?_ (fun _ => ?_)
set_option maxHeartbeats 8000000 in
set_option maxRecDepth 100000 in
theorem caulkerlaw01_SpanMakes.calls (k : Nat) (a0 : Int) (a1 : Int) (a2 : Int) (r : Bool) (w : World) (h : caulkerlaw01_SpanMakes.f k a0 a1 a2 = some r) :
  Calls Try.prog 3 #[.int .i64 a0, .int .i64 a1, .int .i64 a2] w fun e w' => e = .returned (.bool r) ∧ Below w.heap.size w w' := by
 have hu24 := Try.underlying24
 have HB := Aside0.mk (Below.refl w.heap.size w)
 have H : ((caulkerlaw01_spans.f k).bind fun t145 => (if t145 = true then ((span_Of.f a0 a1).bind fun bt146 => (if a0 ≥ 0 then (if a1 ≥ a0 then (caulkerlaw01_SpanMakes.j0 k a0 a1 a2 bt146.2.2 (decide (a1 ≤ 65536)) bt146.1 bt146.2.1) else (caulkerlaw01_SpanMakes.j0 k a0 a1 a2 bt146.2.2 false bt146.1 bt146.2.1)) else (caulkerlaw01_SpanMakes.j0 k a0 a1 a2 bt146.2.2 false bt146.1 bt146.2.1))) else (some false))) = some r := h
 clear h
 replace H := Option.bind_eq_some_iff.mp H
 obtain ⟨t145, A40, H⟩ := H
 replace H : (if t145 = true then ((span_Of.f a0 a1).bind fun bt146 => (if a0 ≥ 0 then (if a1 ≥ a0 then (caulkerlaw01_SpanMakes.j0 k a0 a1 a2 bt146.2.2 (decide (a1 ≤ 65536)) bt146.1 bt146.2.1) else (caulkerlaw01_SpanMakes.j0 k a0 a1 a2 bt146.2.2 false bt146.1 bt146.2.1)) else (caulkerlaw01_SpanMakes.j0 k a0 a1 a2 bt146.2.2 false bt146.1 bt146.2.1))) else (some false)) = some r := H
 have A4 := Aside0.mk A40
 clear A40
 by_cases c5 : t145 = true
 ·subst c5
  have H1 : ((span_Of.f a0 a1).bind fun bt146 => (if a0 ≥ 0 then (if a1 ≥ a0 then (caulkerlaw01_SpanMakes.j0 k a0 a1 a2 bt146.2.2 (decide (a1 ≤ 65536)) bt146.1 bt146.2.1) else (caulkerlaw01_SpanMakes.j0 k a0 a1 a2 bt146.2.2 false bt146.1 bt146.2.1)) else (caulkerlaw01_SpanMakes.j0 k a0 a1 a2 bt146.2.2 false bt146.1 bt146.2.1))) = some r := by rw [if_pos rfl] at H; exact H
  clear H
  have H := H1
  clear H1
  replace H := Option.bind_eq_some_iff.mp H
  obtain ⟨⟨t146, t147, t148⟩, A60, H⟩ := H
  replace H : (if a0 ≥ 0 then (if a1 ≥ a0 then (caulkerlaw01_SpanMakes.j0 k a0 a1 a2 t148 (decide (a1 ≤ 65536)) t146 t147) else (caulkerlaw01_SpanMakes.j0 k a0 a1 a2 t148 false t146 t147)) else (caulkerlaw01_SpanMakes.j0 k a0 a1 a2 t148 false t146 t147)) = some r := H
  have A6 := Aside0.mk A60
  clear A60
  have HC7 := Aside0.mk H
  clear H
  go_enter Try.func3, Try.ntmps3
  go_upto_region 4 with (first | ((with_reducible refine gate_callee (f := 14) rfl ?_); refine goesL_ (some 13) rfl rfl Try.func14 (by kernel_rfl) rfl #[] rfl (by (try simp only [List.map_toArray, List.map_cons, List.map_nil]); first | done | rfl | (simp only [List.length_drop, List.length_take]; rfl)) ?_; (with_reducible refine (caulkerlaw01_spans.calls k  true _ A4.out).mono ?_); rintro e w8 ⟨rfl, hb⟩; refine ⟨_, rfl, ?_⟩; have n0_ := pxs HB hb; clear HB; have HB := n0_; clear n0_; (try clear hb); (try clear hb2); (try clear hk); (try clear hi)) | ((with_reducible refine gate_callee (f := 15) rfl ?_); refine goesL_ (some 18) rfl rfl Try.func15 (by kernel_rfl) rfl #[.int .i64 a0, .int .i64 a1] rfl (by (try simp only [List.map_toArray, List.map_cons, List.map_nil]); first | done | rfl | (simp only [List.length_drop, List.length_take]; rfl)) ?_; (with_reducible refine (span_Of.calls a0 a1 t146 t147 t148 _ A6.out).mono ?_); rintro e w9 ⟨rfl, hb⟩; refine ⟨_, rfl, ?_⟩; have n0_ := pxs HB hb; clear HB; have HB := n0_; clear n0_; (try clear hb); (try clear hb2); (try clear hk); (try clear hi)) | ((with_reducible refine gate_dst (N := 7) rfl ?_); refine box_event ?hg (N := 7) ?hd (cs := #[.int .i64 0, .int .i64 0]) (t := 24) ?hr ?_; (case hd => rfl); (case hg => rfl); (case hr => first | (go_simp; done) | (go_simp; rfl)); intro gb149 hg w10 hbox hb; have n0_ := pxs HB hb; have n1_ := Aside0.mk (hbox); have n2_ := Aside0.mk ((by rw [hg]; exact (below_size (pxb HB)) : w.heap.size ≤ gb149)); have n3_ := Aside0.mk ((by rw [hg]; exact (below_size (pxb HB)) : w.heap.size ≤ gb149)); clear HB; have HB := n0_; have BK149 := n1_; have GW149 := n2_; have GE149 := n3_; clear n0_ n1_ n2_ n3_; clear hb hbox hg; have hcz11_0 : w10.cell? ⟨gb149, 0, none⟩ = some (.int .i64 0) := (blk_cell BK149.out 0).trans rfl; have hcz11_1 : w10.cell? ⟨gb149, 1, none⟩ = some (.int .i64 0) := (blk_cell BK149.out 1).trans rfl; have hfz11_0 := blk_frozen BK149.out 0; have hfz11_1 := blk_frozen BK149.out 1))
  (try simp only [Act.put, List.setIfInBounds_toArray, List.set_cons_zero, List.set_cons_succ])
  go_cut [9] (fun v9 wc => ∃ (kq : Nat) (x9_6 : Bool), v9 = .bool x9_6 ∧ Aside0 (caulkerlaw01_SpanMakes.j0 kq a0 a1 a2 t148 x9_6 t146 t147 = some r) ∧ Aside0 (kq ≤ k) ∧ Aside0 (wc.heap[gb149]? = some (.cells #[.int .i64 t146, .int .i64 t147] 24 (0, 0))) ∧ Aside0 (Below w.heap.size w wc))
  case first =>
   have H := HC7.out
   clear HC7
   by_cases c12 : a0 ≥ 0
   ·rw [if_pos c12] at H
    have c12b0 : decide (0 ≤ a0) = true := decide_eq_true c12
    clear c12
    (first | rw [c12b0] | (simp only [i64_w, i32_w]; rw [c12b0]) | skip)
    by_cases c13 : a1 ≥ a0
    ·rw [if_pos c13] at H
     have c13b0 : decide (a0 ≤ a1) = true := decide_eq_true c13
     clear c13
     have H' := Aside0.mk H
     clear H
     go_wp2
     go_meet
     case rel => exact ⟨_, (decide (a1 ≤ 65536)), (by first | rfl | (simp; done) | (simp [*]; done)), H', ⟨by first | omega | exact Nat.le_refl _⟩, ⟨by (with_reducible repeat (first | refine blk_drewN ?_ _ | refine blk_drew ?_ | refine blk_alloc ?_ _)); refine blk_put (cs := #[.int .i64 t146, .int .i64 0]) ?_ 1 _ rfl; (with_reducible repeat (first | refine blk_drewN ?_ _ | refine blk_drew ?_ | refine blk_alloc ?_ _)); refine blk_put (cs := #[.int .i64 0, .int .i64 0]) ?_ 0 _ rfl; (with_reducible repeat (first | refine blk_drewN ?_ _ | refine blk_drew ?_ | refine blk_alloc ?_ _)); exact BK149.out⟩, ⟨pxb HB⟩⟩
    ·rw [if_neg c13] at H
     have c13b0 : decide (a0 ≤ a1) = false := decide_eq_false c13
     clear c13
     have H' := Aside0.mk H
     clear H
     go_wp2
     go_meet
     case rel => exact ⟨_, (false), (by first | rfl | (simp; done) | (simp [*]; done)), H', ⟨by first | omega | exact Nat.le_refl _⟩, ⟨by (with_reducible repeat (first | refine blk_drewN ?_ _ | refine blk_drew ?_ | refine blk_alloc ?_ _)); refine blk_put (cs := #[.int .i64 t146, .int .i64 0]) ?_ 1 _ rfl; (with_reducible repeat (first | refine blk_drewN ?_ _ | refine blk_drew ?_ | refine blk_alloc ?_ _)); refine blk_put (cs := #[.int .i64 0, .int .i64 0]) ?_ 0 _ rfl; (with_reducible repeat (first | refine blk_drewN ?_ _ | refine blk_drew ?_ | refine blk_alloc ?_ _)); exact BK149.out⟩, ⟨pxb HB⟩⟩
   ·rw [if_neg c12] at H
    have c12b0 : decide (0 ≤ a0) = false := decide_eq_false c12
    clear c12
    (first | rw [c12b0] | (simp only [i64_w, i32_w]; rw [c12b0]) | skip)
    have H' := Aside0.mk H
    clear H
    go_wp2
    go_meet
    case rel => exact ⟨_, (false), (by first | rfl | (simp; done) | (simp [*]; done)), H', ⟨by first | omega | exact Nat.le_refl _⟩, ⟨by (with_reducible repeat (first | refine blk_drewN ?_ _ | refine blk_drew ?_ | refine blk_alloc ?_ _)); refine blk_put (cs := #[.int .i64 t146, .int .i64 0]) ?_ 1 _ rfl; (with_reducible repeat (first | refine blk_drewN ?_ _ | refine blk_drew ?_ | refine blk_alloc ?_ _)); refine blk_put (cs := #[.int .i64 0, .int .i64 0]) ?_ 0 _ rfl; (with_reducible repeat (first | refine blk_drewN ?_ _ | refine blk_drew ?_ | refine blk_alloc ?_ _)); exact BK149.out⟩, ⟨pxb HB⟩⟩
  case rest =>
   clear HC7
   try clear c1
   try clear p2
   try clear c3
   try clear c5
   try clear c12
   try clear c12b0
   try clear c13
   try clear c13b0
   try clear hcz11_0
   try clear hcz11_1
   try clear hfz11_0
   try clear hfz11_1
   obtain ⟨kq, x9_6, rfl, HA, HJ6, BK149, HB⟩ := hcut
   cases kq with
   | zero => exact absurd HA.out (by simp [caulkerlaw01_SpanMakes.j0])
   | succ kj6 =>
    have H := HA.out
    clear HA
    simp only [caulkerlaw01_SpanMakes.j0] at H
    have HC14 := Aside0.mk H
    clear H
    go_upto_region 5 with (fail)
    go_cut [67] (fun v67 wc => ∃ (kq : Nat) (x67_13 : Bool), v67 = .bool x67_13 ∧ Aside0 (caulkerlaw01_SpanMakes.j1 kq a0 a1 a2 x9_6 x67_13 = some r) ∧ Aside0 (kq ≤ kj6) ∧ Aside0 (wc.heap[gb149]? = some (.cells #[.int .i64 t146, .int .i64 t147] 24 (0, 0))) ∧ Aside0 (Below w.heap.size w wc))
    case first =>
     have H := HC14.out
     clear HC14
     by_cases c15 : ((t148 == 0) != x9_6) = true
     ·rw [if_pos c15] at H
      have c15b0 : ((t148 == 0) != x9_6) = true := c15
      (try (have c15b1 : decide ((t148 == 0) = x9_6) = false := by simpa using c15))
      (try (have c15b2 : ((t148 == 0) == x9_6) = false := by simpa using c15))
      (try (have c15b3 : ¬ ((t148 == 0) = x9_6) := by simpa using c15))
      clear c15
      (first | rw [c15b0] | (simp only [i64_w, i32_w]; rw [c15b0]) | skip)
      have H' := Aside0.mk H
      clear H
      go_wp2
      go_meet
      case rel => exact ⟨_, (true), (by first | rfl | (simp; done) | (simp [*]; done)), H', ⟨by have := HJ6.out; first | omega | exact Nat.le_refl _⟩, ⟨by (with_reducible repeat (first | refine blk_drewN ?_ _ | refine blk_drew ?_ | refine blk_alloc ?_ _)); exact BK149.out⟩, ⟨pxb HB⟩⟩
     ·rw [if_neg c15] at H
      have c15b0 : ((t148 == 0) != x9_6) = false := by simpa using c15
      (try (have c15b1 : decide ((t148 == 0) = x9_6) = true := by simpa using c15))
      (try (have c15b2 : ((t148 == 0) == x9_6) = true := by simpa using c15))
      clear c15
      (first | rw [c15b0] | (simp only [i64_w, i32_w]; rw [c15b0]) | skip)
      by_cases c16 : t148 = 0
      ·rw [if_pos c16] at H
       have c16b0 : (t148 == 0) = true := beq_iff_eq.mpr c16
       have c16b1 : (t148 != 0) = false := bne_eq_false_iff_eq.mpr c16
       clear c16
       by_cases c17 : x9_6 = true
       ·subst c17
        have H1 : (if t146 = a0 then (if t147 = a1 then (caulkerlaw01_SpanMakes.j1 kj6 a0 a1 a2 true false) else (caulkerlaw01_SpanMakes.j1 kj6 a0 a1 a2 true true)) else (caulkerlaw01_SpanMakes.j1 kj6 a0 a1 a2 true true)) = some r := by rw [if_pos rfl] at H; exact H
        clear H
        have H := H1
        clear H1
        by_cases c18 : t146 = a0
        ·rw [if_pos c18] at H
         have c18b0 : (t146 == a0) = true := beq_iff_eq.mpr c18
         have c18b1 : (t146 != a0) = false := bne_eq_false_iff_eq.mpr c18
         clear c18
         by_cases c19 : t147 = a1
         ·rw [if_pos c19] at H
          have c19b0 : (t147 == a1) = true := beq_iff_eq.mpr c19
          have c19b1 : (t147 != a1) = false := bne_eq_false_iff_eq.mpr c19
          clear c19
          have H' := Aside0.mk H
          clear H
          have hcz20_0 : wc.cell? ⟨gb149, 0, none⟩ = some (.int .i64 t146) := (blk_cell BK149.out 0).trans rfl
          have hcz20_1 : wc.cell? ⟨gb149, 1, none⟩ = some (.int .i64 t147) := (blk_cell BK149.out 1).trans rfl
          have hfz20_0 := blk_frozen BK149.out 0
          have hfz20_1 := blk_frozen BK149.out 1
          go_wp2
          go_meet
          case rel => exact ⟨_, (false), (by first | rfl | (simp; done) | (simp [*]; done)), H', ⟨by have := HJ6.out; first | omega | exact Nat.le_refl _⟩, ⟨by (with_reducible repeat (first | refine blk_drewN ?_ _ | refine blk_drew ?_ | refine blk_alloc ?_ _)); exact BK149.out⟩, ⟨pxb HB⟩⟩
         ·rw [if_neg c19] at H
          have c19b0 : (t147 == a1) = false := beq_eq_false_iff_ne.mpr c19
          have c19b1 : (t147 != a1) = true := bne_iff_ne.mpr c19
          have H' := Aside0.mk H
          clear H
          have hcz21_0 : wc.cell? ⟨gb149, 0, none⟩ = some (.int .i64 t146) := (blk_cell BK149.out 0).trans rfl
          have hcz21_1 : wc.cell? ⟨gb149, 1, none⟩ = some (.int .i64 t147) := (blk_cell BK149.out 1).trans rfl
          have hfz21_0 := blk_frozen BK149.out 0
          have hfz21_1 := blk_frozen BK149.out 1
          go_wp2
          go_meet
          case rel => exact ⟨_, (true), (by first | rfl | (simp; done) | (simp [*]; done)), H', ⟨by have := HJ6.out; first | omega | exact Nat.le_refl _⟩, ⟨by (with_reducible repeat (first | refine blk_drewN ?_ _ | refine blk_drew ?_ | refine blk_alloc ?_ _)); exact BK149.out⟩, ⟨pxb HB⟩⟩
        ·rw [if_neg c18] at H
         have c18b0 : (t146 == a0) = false := beq_eq_false_iff_ne.mpr c18
         have c18b1 : (t146 != a0) = true := bne_iff_ne.mpr c18
         have H' := Aside0.mk H
         clear H
         have hcz22_0 : wc.cell? ⟨gb149, 0, none⟩ = some (.int .i64 t146) := (blk_cell BK149.out 0).trans rfl
         have hcz22_1 : wc.cell? ⟨gb149, 1, none⟩ = some (.int .i64 t147) := (blk_cell BK149.out 1).trans rfl
         have hfz22_0 := blk_frozen BK149.out 0
         have hfz22_1 := blk_frozen BK149.out 1
         go_wp2
         go_meet
         case rel => exact ⟨_, (true), (by first | rfl | (simp; done) | (simp [*]; done)), H', ⟨by have := HJ6.out; first | omega | exact Nat.le_refl _⟩, ⟨by (with_reducible repeat (first | refine blk_drewN ?_ _ | refine blk_drew ?_ | refine blk_alloc ?_ _)); exact BK149.out⟩, ⟨pxb HB⟩⟩
       ·replace c17 := Bool.eq_false_iff.mpr c17
        subst c17
        exact absurd c15b0 (by rw [c16b0]; decide)
      ·rw [if_neg c16] at H
       have c16b0 : (t148 == 0) = false := beq_eq_false_iff_ne.mpr c16
       have c16b1 : (t148 != 0) = true := bne_iff_ne.mpr c16
       by_cases c24 : t148 = 1
       ·rw [if_pos c24] at H
        have c24b0 : (t148 == 1) = true := beq_iff_eq.mpr c24
        have c24b1 : (t148 != 1) = false := bne_eq_false_iff_eq.mpr c24
        clear c24
        by_cases c25 : x9_6 = true
        ·subst c25
         exact absurd c15b0 (by rw [c16b0]; decide)
        ·replace c25 := Bool.eq_false_iff.mpr c25
         subst c25
         have H1 : (caulkerlaw01_SpanMakes.j1 kj6 a0 a1 a2 false (!(t146 == 0) || (!(t147 == 0)))) = some r := by rw [if_neg (show ¬ (false = true) by decide)] at H; exact H
         clear H
         have H := H1
         clear H1
         have H' := Aside0.mk H
         clear H
         have hcz31_0 : wc.cell? ⟨gb149, 0, none⟩ = some (.int .i64 t146) := (blk_cell BK149.out 0).trans rfl
         have hcz31_1 : wc.cell? ⟨gb149, 1, none⟩ = some (.int .i64 t147) := (blk_cell BK149.out 1).trans rfl
         have hfz31_0 := blk_frozen BK149.out 0
         have hfz31_1 := blk_frozen BK149.out 1
         go_wp2
         go_meet
         case rel => exact ⟨_, ((!(t146 == 0) || (!(t147 == 0)))), (by first | rfl | (simp; done) | (simp [*]; done)), H', ⟨by have := HJ6.out; first | omega | exact Nat.le_refl _⟩, ⟨by (with_reducible repeat (first | refine blk_drewN ?_ _ | refine blk_drew ?_ | refine blk_alloc ?_ _)); exact BK149.out⟩, ⟨pxb HB⟩⟩
       ·rw [if_neg c24] at H
        have c24b0 : (t148 == 1) = false := beq_eq_false_iff_ne.mpr c24
        obtain rfl : x9_6 = false := by rw [c16b0] at c15b0; revert c15b0; cases x9_6 <;> decide
        have c24b1 : (t148 != 1) = true := bne_iff_ne.mpr c24
        have H' := Aside0.mk H
        clear H
        go_wp2
        go_meet
        case rel => exact ⟨_, (true), (by first | rfl | (simp; done) | (simp [*]; done)), H', ⟨by have := HJ6.out; first | omega | exact Nat.le_refl _⟩, ⟨by (with_reducible repeat (first | refine blk_drewN ?_ _ | refine blk_drew ?_ | refine blk_alloc ?_ _)); exact BK149.out⟩, ⟨pxb HB⟩⟩
    case rest =>
     clear HC14
     try clear c1
     try clear c2
     try clear p2
     try clear c3
     try clear c5
     try clear c12
     try clear c12b0
     try clear c13
     try clear c13b0
     try clear c14
     try clear c15
     try clear c15b0
     try clear c15b1
     try clear c15b2
     try clear c16
     try clear c16b0
     try clear c16b1
     try clear c17
     try clear c18
     try clear c18b0
     try clear c18b1
     try clear c19
     try clear c19b0
     try clear c19b1
     try clear c24
     try clear c24b0
     try clear c24b1
     try clear c25
     try clear c26
     try clear c26b0
     try clear c26b1
     try clear c27
     try clear c27b0
     try clear c27b1
     try clear hcz11_0
     try clear hcz11_1
     try clear hcz20_0
     try clear hcz20_1
     try clear hcz21_0
     try clear hcz21_1
     try clear hcz22_0
     try clear hcz22_1
     try clear hcz23_0
     try clear hcz23_1
     try clear hcz28_0
     try clear hcz28_1
     try clear hcz29_0
     try clear hcz29_1
     try clear hcz30_0
     try clear hcz30_1
     try clear hcz31_0
     try clear hcz31_1
     try clear hfz11_0
     try clear hfz11_1
     try clear hfz20_0
     try clear hfz20_1
     try clear hfz21_0
     try clear hfz21_1
     try clear hfz22_0
     try clear hfz22_1
     try clear hfz23_0
     try clear hfz23_1
     try clear hfz28_0
     try clear hfz28_1
     try clear hfz29_0
     try clear hfz29_1
     try clear hfz30_0
     try clear hfz30_1
     try clear hfz31_0
     try clear hfz31_1
     try clear p2
     obtain ⟨kq, x67_13, rfl, HA, HJ13, BK149, HB⟩ := hcut
     cases kq with
     | zero => exact absurd HA.out (by simp [caulkerlaw01_SpanMakes.j1])
     | succ kj13 =>
      have H := HA.out
      clear HA
      simp only [caulkerlaw01_SpanMakes.j1] at H
      by_cases c32 : x67_13 = true
      ·subst c32
       have H1 : (some false) = some r := by rw [if_pos rfl] at H; exact H
       clear H
       have H := H1
       clear H1
       obtain rfl := Option.some.inj H
       go_wp2
       go_ret
       exact ⟨by first | rfl | (simp [errW_none, errW_some] <;> rfl) | (simp [*, errW_none, errW_some] <;> rfl), pxb HB⟩
      ·replace c32 := Bool.eq_false_iff.mpr c32
       subst c32
       have H1 : ((span_Check.f a0 a1 a2).bind fun t151 => (if x9_6 = true then (if a2 ≥ a1 then (if ((t151 == 0) != (decide (a2 ≤ 65536))) = true then (caulkerlaw01_SpanMakes.j2 kj13 a0 a1 x9_6 true a0 a1) else (if t151 = 0 then (caulkerlaw01_SpanMakes.j2 kj13 a0 a1 x9_6 false a0 a1) else (caulkerlaw01_SpanMakes.j2 kj13 a0 a1 x9_6 (t151 != 1) a0 a1))) else (if ((t151 == 0) != false) = true then (caulkerlaw01_SpanMakes.j2 kj13 a0 a1 x9_6 true a0 a1) else (if t151 = 0 then (caulkerlaw01_SpanMakes.j2 kj13 a0 a1 x9_6 false a0 a1) else (caulkerlaw01_SpanMakes.j2 kj13 a0 a1 x9_6 (t151 != 1) a0 a1)))) else (if ((t151 == 0) != false) = true then (caulkerlaw01_SpanMakes.j2 kj13 a0 a1 x9_6 true a0 a1) else (if t151 = 0 then (caulkerlaw01_SpanMakes.j2 kj13 a0 a1 x9_6 false a0 a1) else (caulkerlaw01_SpanMakes.j2 kj13 a0 a1 x9_6 (t151 != 1) a0 a1))))) = some r := by rw [if_neg (show ¬ (false = true) by decide)] at H; exact H
       clear H
       have H := H1
       clear H1
       replace H := Option.bind_eq_some_iff.mp H
       obtain ⟨t151, A330, H⟩ := H
       replace H : (if x9_6 = true then (if a2 ≥ a1 then (if ((t151 == 0) != (decide (a2 ≤ 65536))) = true then (caulkerlaw01_SpanMakes.j2 kj13 a0 a1 x9_6 true a0 a1) else (if t151 = 0 then (caulkerlaw01_SpanMakes.j2 kj13 a0 a1 x9_6 false a0 a1) else (caulkerlaw01_SpanMakes.j2 kj13 a0 a1 x9_6 (t151 != 1) a0 a1))) else (if ((t151 == 0) != false) = true then (caulkerlaw01_SpanMakes.j2 kj13 a0 a1 x9_6 true a0 a1) else (if t151 = 0 then (caulkerlaw01_SpanMakes.j2 kj13 a0 a1 x9_6 false a0 a1) else (caulkerlaw01_SpanMakes.j2 kj13 a0 a1 x9_6 (t151 != 1) a0 a1)))) else (if ((t151 == 0) != false) = true then (caulkerlaw01_SpanMakes.j2 kj13 a0 a1 x9_6 true a0 a1) else (if t151 = 0 then (caulkerlaw01_SpanMakes.j2 kj13 a0 a1 x9_6 false a0 a1) else (caulkerlaw01_SpanMakes.j2 kj13 a0 a1 x9_6 (t151 != 1) a0 a1)))) = some r := H
       have A33 := Aside0.mk A330
       clear A330
       have HC34 := Aside0.mk H
       clear H
       go_upto_region 9 with (first | ((with_reducible refine gate_dst (N := 10) rfl ?_); refine box_event ?hg (N := 10) ?hd (cs := #[.int .i64 0, .int .i64 0]) (t := 24) ?hr ?_; (case hd => rfl); (case hg => rfl); (case hr => first | (go_simp; done) | (go_simp; rfl)); intro gb150 hg w35 hbox hb; have n0_ := pxk BK149 hb; have n1_ := pxs HB hb; have n2_ := Aside0.mk (hbox); have n3_ := Aside0.mk ((by rw [hg]; exact (below_size (pxb HB)) : w.heap.size ≤ gb150)); have n4_ := Aside0.mk ((by rw [hg]; exact (below_size (pxb HB)) : w.heap.size ≤ gb150)); have n5_ := Aside0.mk ((by rw [hg]; exact Nat.ne_of_lt (blk_lt (g := gb149) (o := .cells #[.int .i64 t146, .int .i64 t147] 24 (0, 0)) (by (with_reducible repeat (first | refine blk_drewN ?_ _ | refine blk_drew ?_ | refine blk_alloc ?_ _)); exact BK149.out)) : gb149 ≠ gb150)); have n6_ := Aside0.mk ((by rw [hg]; exact Nat.ne_of_gt (blk_lt (g := gb149) (o := .cells #[.int .i64 t146, .int .i64 t147] 24 (0, 0)) (by (with_reducible repeat (first | refine blk_drewN ?_ _ | refine blk_drew ?_ | refine blk_alloc ?_ _)); exact BK149.out)) : gb150 ≠ gb149)); clear BK149; clear HB; have BK149 := n0_; have HB := n1_; have BK150 := n2_; have GW150 := n3_; have GE150 := n4_; have NB149_150 := n5_; have NB150_149 := n6_; clear n0_ n1_ n2_ n3_ n4_ n5_ n6_; clear hb hbox hg; have hnb36 := NB150_149.out; have hnc36 := NB149_150.out; have hcz37_0 : w35.cell? ⟨gb150, 0, none⟩ = some (.int .i64 0) := (blk_cell BK150.out 0).trans rfl; have hcz37_1 : w35.cell? ⟨gb150, 1, none⟩ = some (.int .i64 0) := (blk_cell BK150.out 1).trans rfl; have hfz37_0 := blk_frozen BK150.out 0; have hfz37_1 := blk_frozen BK150.out 1) | ((with_reducible refine gate_callee (f := 16) rfl ?_); refine goesL_ (some 73) rfl rfl Try.func16 (by kernel_rfl) rfl #[.agg #[.int .i64 a0, .int .i64 a1], .int .i64 a2] rfl (by (try simp only [List.map_toArray, List.map_cons, List.map_nil]); first | done | rfl | (simp only [List.length_drop, List.length_take]; rfl)) ?_; (with_reducible refine (span_Check.calls a0 a1 a2 t151 _ A33.out).mono ?_); rintro e w38 ⟨rfl, hb⟩; refine ⟨_, rfl, ?_⟩; have n0_ := Aside0.mk (blk_below (g := gb149) (o := .cells #[.int .i64 t146, .int .i64 t147] 24 (0, 0)) (by (with_reducible repeat (first | refine blk_drewN ?_ _ | refine blk_drew ?_ | refine blk_alloc ?_ _)); refine blk_far ?_ NB149_150.out _; (with_reducible repeat (first | refine blk_drewN ?_ _ | refine blk_drew ?_ | refine blk_alloc ?_ _)); refine blk_far ?_ NB149_150.out _; (with_reducible repeat (first | refine blk_drewN ?_ _ | refine blk_drew ?_ | refine blk_alloc ?_ _)); exact BK149.out) hb); have n1_ := Aside0.mk (blk_below (g := gb150) (o := .cells #[.int .i64 a0, .int .i64 a1] 24 (0, 0)) (by (with_reducible repeat (first | refine blk_drewN ?_ _ | refine blk_drew ?_ | refine blk_alloc ?_ _)); refine blk_put (cs := #[.int .i64 a0, .int .i64 0]) ?_ 1 _ rfl; (with_reducible repeat (first | refine blk_drewN ?_ _ | refine blk_drew ?_ | refine blk_alloc ?_ _)); refine blk_put (cs := #[.int .i64 0, .int .i64 0]) ?_ 0 _ rfl; (with_reducible repeat (first | refine blk_drewN ?_ _ | refine blk_drew ?_ | refine blk_alloc ?_ _)); exact BK150.out) hb); have n2_ := pxs HB hb; clear BK149; clear BK150; clear HB; have BK149 := n0_; have BK150 := n1_; have HB := n2_; clear n0_ n1_ n2_; (try clear hb); (try clear hb2); (try clear hk); (try clear hi)))
       (try simp only [Act.put, List.setIfInBounds_toArray, List.set_cons_zero, List.set_cons_succ])
       go_cut [94] (fun v94 wc => ∃ (kq : Nat) (x94_33 : Bool), v94 = .bool x94_33 ∧ Aside0 (caulkerlaw01_SpanMakes.j2 kq a0 a1 x9_6 x94_33 a0 a1 = some r) ∧ Aside0 (kq ≤ kj13) ∧ Aside0 (wc.heap[gb149]? = some (.cells #[.int .i64 t146, .int .i64 t147] 24 (0, 0))) ∧ Aside0 (wc.heap[gb150]? = some (.cells #[.int .i64 a0, .int .i64 a1] 24 (0, 0))) ∧ Aside0 (Below w.heap.size w wc))
       case first =>
        have H := HC34.out
        clear HC34
        by_cases c39 : x9_6 = true
        ·subst c39
         have H1 : (if a2 ≥ a1 then (if ((t151 == 0) != (decide (a2 ≤ 65536))) = true then (caulkerlaw01_SpanMakes.j2 kj13 a0 a1 true true a0 a1) else (if t151 = 0 then (caulkerlaw01_SpanMakes.j2 kj13 a0 a1 true false a0 a1) else (caulkerlaw01_SpanMakes.j2 kj13 a0 a1 true (t151 != 1) a0 a1))) else (if ((t151 == 0) != false) = true then (caulkerlaw01_SpanMakes.j2 kj13 a0 a1 true true a0 a1) else (if t151 = 0 then (caulkerlaw01_SpanMakes.j2 kj13 a0 a1 true false a0 a1) else (caulkerlaw01_SpanMakes.j2 kj13 a0 a1 true (t151 != 1) a0 a1)))) = some r := by rw [if_pos rfl] at H; exact H
         clear H
         have H := H1
         clear H1
         by_cases c40 : a2 ≥ a1
         ·rw [if_pos c40] at H
          have c40b0 : decide (a1 ≤ a2) = true := decide_eq_true c40
          clear c40
          (first | rw [c40b0] | (simp only [i64_w, i32_w]; rw [c40b0]) | skip)
          by_cases c41 : ((t151 == 0) != (decide (a2 ≤ 65536))) = true
          ·rw [if_pos c41] at H
           have c41b0 : ((t151 == 0) != (decide (a2 ≤ 65536))) = true := c41
           (try (have c41b1 : decide ((t151 == 0) = (decide (a2 ≤ 65536))) = false := by simpa using c41))
           (try (have c41b2 : ((t151 == 0) == (decide (a2 ≤ 65536))) = false := by simpa using c41))
           (try (have c41b3 : ¬ ((t151 == 0) = (decide (a2 ≤ 65536))) := by simpa using c41))
           clear c41
           have H' := Aside0.mk H
           clear H
           go_wp2
           go_meet
           case rel => exact ⟨_, (true), (by first | rfl | (simp; done) | (simp [*]; done)), H', ⟨by have := HJ6.out; have := HJ13.out; first | omega | exact Nat.le_refl _⟩, ⟨by (with_reducible repeat (first | refine blk_drewN ?_ _ | refine blk_drew ?_ | refine blk_alloc ?_ _)); exact BK149.out⟩, ⟨by (with_reducible repeat (first | refine blk_drewN ?_ _ | refine blk_drew ?_ | refine blk_alloc ?_ _)); exact BK150.out⟩, ⟨pxb HB⟩⟩
          ·rw [if_neg c41] at H
           have c41b0 : ((t151 == 0) != (decide (a2 ≤ 65536))) = false := by simpa using c41
           (try (have c41b1 : decide ((t151 == 0) = (decide (a2 ≤ 65536))) = true := by simpa using c41))
           (try (have c41b2 : ((t151 == 0) == (decide (a2 ≤ 65536))) = true := by simpa using c41))
           clear c41
           by_cases c42 : t151 = 0
           ·rw [if_pos c42] at H
            have c42b0 : (t151 == 0) = true := beq_iff_eq.mpr c42
            have c41b0d499 : (decide (a2 ≤ 65536)) = true := by rw [c42b0] at c41b0; revert c41b0; cases (decide (a2 ≤ 65536)) <;> decide
            have c41b0d499p := of_decide_eq_true c41b0d499
            have c42b1 : (t151 != 0) = false := bne_eq_false_iff_eq.mpr c42
            clear c42
            have H' := Aside0.mk H
            clear H
            go_wp2
            go_meet
            case rel => exact ⟨_, (false), (by first | rfl | (simp; done) | (simp [*]; done)), H', ⟨by have := HJ6.out; have := HJ13.out; first | omega | exact Nat.le_refl _⟩, ⟨by (with_reducible repeat (first | refine blk_drewN ?_ _ | refine blk_drew ?_ | refine blk_alloc ?_ _)); exact BK149.out⟩, ⟨by (with_reducible repeat (first | refine blk_drewN ?_ _ | refine blk_drew ?_ | refine blk_alloc ?_ _)); exact BK150.out⟩, ⟨pxb HB⟩⟩
           ·rw [if_neg c42] at H
            have c42b0 : (t151 == 0) = false := beq_eq_false_iff_ne.mpr c42
            have c41b0d508 : (decide (a2 ≤ 65536)) = false := by rw [c42b0] at c41b0; revert c41b0; cases (decide (a2 ≤ 65536)) <;> decide
            have c41b0d508p := of_decide_eq_false c41b0d508
            have c42b1 : (t151 != 0) = true := bne_iff_ne.mpr c42
            have H' := Aside0.mk H
            clear H
            go_wp2
            go_meet
            case rel => exact ⟨_, ((t151 != 1)), (by first | rfl | (simp; done) | (simp [*]; done)), H', ⟨by have := HJ6.out; have := HJ13.out; first | omega | exact Nat.le_refl _⟩, ⟨by (with_reducible repeat (first | refine blk_drewN ?_ _ | refine blk_drew ?_ | refine blk_alloc ?_ _)); exact BK149.out⟩, ⟨by (with_reducible repeat (first | refine blk_drewN ?_ _ | refine blk_drew ?_ | refine blk_alloc ?_ _)); exact BK150.out⟩, ⟨pxb HB⟩⟩
         ·rw [if_neg c40] at H
          have c40b0 : decide (a1 ≤ a2) = false := decide_eq_false c40
          clear c40
          (first | rw [c40b0] | (simp only [i64_w, i32_w]; rw [c40b0]) | skip)
          by_cases c43 : ((t151 == 0) != false) = true
          ·rw [if_pos c43] at H
           have c43b0 : ((t151 == 0) != false) = true := c43
           (try (have c43b1 : decide ((t151 == 0) = false) = false := by simpa using c43))
           (try (have c43b2 : ((t151 == 0) == false) = false := by simpa using c43))
           (try (have c43b3 : ¬ ((t151 == 0) = false) := by simpa using c43))
           clear c43
           have H' := Aside0.mk H
           clear H
           go_wp2
           go_meet
           case rel => exact ⟨_, (true), (by first | rfl | (simp; done) | (simp [*]; done)), H', ⟨by have := HJ6.out; have := HJ13.out; first | omega | exact Nat.le_refl _⟩, ⟨by (with_reducible repeat (first | refine blk_drewN ?_ _ | refine blk_drew ?_ | refine blk_alloc ?_ _)); exact BK149.out⟩, ⟨by (with_reducible repeat (first | refine blk_drewN ?_ _ | refine blk_drew ?_ | refine blk_alloc ?_ _)); exact BK150.out⟩, ⟨pxb HB⟩⟩
          ·rw [if_neg c43] at H
           have c43b0 : ((t151 == 0) != false) = false := by simpa using c43
           (try (have c43b1 : decide ((t151 == 0) = false) = true := by simpa using c43))
           (try (have c43b2 : ((t151 == 0) == false) = true := by simpa using c43))
           clear c43
           by_cases c44 : t151 = 0
           ·rw [if_pos c44] at H
            have c44b0 : (t151 == 0) = true := beq_iff_eq.mpr c44
            exact absurd c43b0 (by rw [c44b0]; decide)
           ·rw [if_neg c44] at H
            have c44b0 : (t151 == 0) = false := beq_eq_false_iff_ne.mpr c44
            have c44b1 : (t151 != 0) = true := bne_iff_ne.mpr c44
            have H' := Aside0.mk H
            clear H
            go_wp2
            go_meet
            case rel => exact ⟨_, ((t151 != 1)), (by first | rfl | (simp; done) | (simp [*]; done)), H', ⟨by have := HJ6.out; have := HJ13.out; first | omega | exact Nat.le_refl _⟩, ⟨by (with_reducible repeat (first | refine blk_drewN ?_ _ | refine blk_drew ?_ | refine blk_alloc ?_ _)); exact BK149.out⟩, ⟨by (with_reducible repeat (first | refine blk_drewN ?_ _ | refine blk_drew ?_ | refine blk_alloc ?_ _)); exact BK150.out⟩, ⟨pxb HB⟩⟩
        ·replace c39 := Bool.eq_false_iff.mpr c39
         subst c39
         have H1 : (if ((t151 == 0) != false) = true then (caulkerlaw01_SpanMakes.j2 kj13 a0 a1 false true a0 a1) else (if t151 = 0 then (caulkerlaw01_SpanMakes.j2 kj13 a0 a1 false false a0 a1) else (caulkerlaw01_SpanMakes.j2 kj13 a0 a1 false (t151 != 1) a0 a1))) = some r := by rw [if_neg (show ¬ (false = true) by decide)] at H; exact H
         clear H
         have H := H1
         clear H1
         by_cases c45 : ((t151 == 0) != false) = true
         ·rw [if_pos c45] at H
          have c45b0 : ((t151 == 0) != false) = true := c45
          (try (have c45b1 : decide ((t151 == 0) = false) = false := by simpa using c45))
          (try (have c45b2 : ((t151 == 0) == false) = false := by simpa using c45))
          (try (have c45b3 : ¬ ((t151 == 0) = false) := by simpa using c45))
          clear c45
          have H' := Aside0.mk H
          clear H
          go_wp2
          go_meet
          case rel => exact ⟨_, (true), (by first | rfl | (simp; done) | (simp [*]; done)), H', ⟨by have := HJ6.out; have := HJ13.out; first | omega | exact Nat.le_refl _⟩, ⟨by (with_reducible repeat (first | refine blk_drewN ?_ _ | refine blk_drew ?_ | refine blk_alloc ?_ _)); exact BK149.out⟩, ⟨by (with_reducible repeat (first | refine blk_drewN ?_ _ | refine blk_drew ?_ | refine blk_alloc ?_ _)); exact BK150.out⟩, ⟨pxb HB⟩⟩
         ·rw [if_neg c45] at H
          have c45b0 : ((t151 == 0) != false) = false := by simpa using c45
          (try (have c45b1 : decide ((t151 == 0) = false) = true := by simpa using c45))
          (try (have c45b2 : ((t151 == 0) == false) = true := by simpa using c45))
          clear c45
          by_cases c46 : t151 = 0
          ·rw [if_pos c46] at H
           have c46b0 : (t151 == 0) = true := beq_iff_eq.mpr c46
           exact absurd c45b0 (by rw [c46b0]; decide)
          ·rw [if_neg c46] at H
           have c46b0 : (t151 == 0) = false := beq_eq_false_iff_ne.mpr c46
           have c46b1 : (t151 != 0) = true := bne_iff_ne.mpr c46
           have H' := Aside0.mk H
           clear H
           go_wp2
           go_meet
           case rel => exact ⟨_, ((t151 != 1)), (by first | rfl | (simp; done) | (simp [*]; done)), H', ⟨by have := HJ6.out; have := HJ13.out; first | omega | exact Nat.le_refl _⟩, ⟨by (with_reducible repeat (first | refine blk_drewN ?_ _ | refine blk_drew ?_ | refine blk_alloc ?_ _)); exact BK149.out⟩, ⟨by (with_reducible repeat (first | refine blk_drewN ?_ _ | refine blk_drew ?_ | refine blk_alloc ?_ _)); exact BK150.out⟩, ⟨pxb HB⟩⟩
       case rest =>
        clear HC34
        try clear c1
        try clear c2
        try clear p2
        try clear c3
        try clear c4
        try clear c5
        try clear c12
        try clear c12b0
        try clear c13
        try clear c13b0
        try clear c14
        try clear c15
        try clear c15b0
        try clear c15b1
        try clear c15b2
        try clear c16
        try clear c16b0
        try clear c16b1
        try clear c17
        try clear c18
        try clear c18b0
        try clear c18b1
        try clear c19
        try clear c19b0
        try clear c19b1
        try clear c24
        try clear c24b0
        try clear c24b1
        try clear c25
        try clear c26
        try clear c26b0
        try clear c26b1
        try clear c27
        try clear c27b0
        try clear c27b1
        try clear c32
        try clear c36
        try clear c39
        try clear c40
        try clear c40b0
        try clear c41
        try clear c41b0
        try clear c41b1
        try clear c41b2
        try clear c42
        try clear c42b0
        try clear c42b1
        try clear c43
        try clear c43b0
        try clear c43b1
        try clear c43b2
        try clear c44
        try clear c44b0
        try clear c44b1
        try clear c45
        try clear c45b0
        try clear c45b1
        try clear c45b2
        try clear c46
        try clear c46b0
        try clear c46b1
        try clear hcz11_0
        try clear hcz11_1
        try clear hcz20_0
        try clear hcz20_1
        try clear hcz21_0
        try clear hcz21_1
        try clear hcz22_0
        try clear hcz22_1
        try clear hcz23_0
        try clear hcz23_1
        try clear hcz28_0
        try clear hcz28_1
        try clear hcz29_0
        try clear hcz29_1
        try clear hcz30_0
        try clear hcz30_1
        try clear hcz31_0
        try clear hcz31_1
        try clear hcz37_0
        try clear hcz37_1
        try clear hfz11_0
        try clear hfz11_1
        try clear hfz20_0
        try clear hfz20_1
        try clear hfz21_0
        try clear hfz21_1
        try clear hfz22_0
        try clear hfz22_1
        try clear hfz23_0
        try clear hfz23_1
        try clear hfz28_0
        try clear hfz28_1
        try clear hfz29_0
        try clear hfz29_1
        try clear hfz30_0
        try clear hfz30_1
        try clear hfz31_0
        try clear hfz31_1
        try clear hfz37_0
        try clear hfz37_1
        try clear p2
        obtain ⟨kq, x94_33, rfl, HA, HJ33, BK149, BK150, HB⟩ := hcut
        cases kq with
        | zero => exact absurd HA.out (by simp [caulkerlaw01_SpanMakes.j2])
        | succ kj33 =>
         have H := HA.out
         clear HA
         simp only [caulkerlaw01_SpanMakes.j2] at H
         by_cases c47 : x94_33 = true
         ·subst c47
          have H1 : (some false) = some r := by rw [if_pos rfl] at H; exact H
          clear H
          have H := H1
          clear H1
          obtain rfl := Option.some.inj H
          go_wp2
          go_ret
          exact ⟨by first | rfl | (simp [errW_none, errW_some] <;> rfl) | (simp [*, errW_none, errW_some] <;> rfl), pxb HB⟩
         ·replace c47 := Bool.eq_false_iff.mpr c47
          subst c47
          have H1 : (if x9_6 = true then ((span_Len.f kj33 a0 a1).bind fun t152 => (some (t152 == (wrap64 (a1 - a0))))) else ((span_Len.f kj33 a0 a1).bind fun t153 => (some (t153 == 0)))) = some r := by rw [if_neg (show ¬ (false = true) by decide)] at H; exact H
          clear H
          have H := H1
          clear H1
          by_cases c48 : x9_6 = true
          ·subst c48
           have H1 : ((span_Len.f kj33 a0 a1).bind fun t152 => (some (t152 == (wrap64 (a1 - a0))))) = some r := by rw [if_pos rfl] at H; exact H
           clear H
           have H := H1
           clear H1
           replace H := Option.bind_eq_some_iff.mp H
           obtain ⟨t152, A490, H⟩ := H
           replace H : (some (t152 == (wrap64 (a1 - a0)))) = some r := H
           have A49 := Aside0.mk A490
           clear A490
           obtain rfl := Option.some.inj H
           have hnb50 := NB150_149.out
           have hnc50 := NB149_150.out
           have hcz51_0 : wc.cell? ⟨gb150, 0, none⟩ = some (.int .i64 a0) := (blk_cell BK150.out 0).trans rfl
           have hcz51_1 : wc.cell? ⟨gb150, 1, none⟩ = some (.int .i64 a1) := (blk_cell BK150.out 1).trans rfl
           have hfz51_0 := blk_frozen BK150.out 0
           have hfz51_1 := blk_frozen BK150.out 1
           go_wp2_with (first | ((with_reducible refine gate_callee (f := 17) rfl ?_); refine goesL_ (some 100) rfl rfl Try.func17 (by kernel_rfl) rfl #[.agg #[.int .i64 a0, .int .i64 a1]] rfl (by (try simp only [List.map_toArray, List.map_cons, List.map_nil]); first | done | rfl | (simp only [List.length_drop, List.length_take]; rfl)) ?_; (with_reducible refine (span_Len.calls kj33 a0 a1 t152 _ A49.out).mono ?_); rintro e w52 ⟨rfl, hb⟩; refine ⟨_, rfl, ?_⟩; have n0_ := pxk BK149 hb; have n1_ := pxk BK150 hb; have n2_ := pxs HB hb; clear BK149; clear BK150; clear HB; have BK149 := n0_; have BK150 := n1_; have HB := n2_; clear n0_ n1_ n2_; (try clear hb); (try clear hb2); (try clear hk); (try clear hi)))
           go_ret
           exact ⟨by first | rfl | (simp [errW_none, errW_some] <;> rfl) | (simp [*, errW_none, errW_some] <;> rfl), pxb HB⟩
          ·replace c48 := Bool.eq_false_iff.mpr c48
           subst c48
           have H1 : ((span_Len.f kj33 a0 a1).bind fun t153 => (some (t153 == 0))) = some r := by rw [if_neg (show ¬ (false = true) by decide)] at H; exact H
           clear H
           have H := H1
           clear H1
           replace H := Option.bind_eq_some_iff.mp H
           obtain ⟨t153, A530, H⟩ := H
           replace H : (some (t153 == 0)) = some r := H
           have A53 := Aside0.mk A530
           clear A530
           obtain rfl := Option.some.inj H
           have hnb54 := NB150_149.out
           have hnc54 := NB149_150.out
           have hcz55_0 : wc.cell? ⟨gb150, 0, none⟩ = some (.int .i64 a0) := (blk_cell BK150.out 0).trans rfl
           have hcz55_1 : wc.cell? ⟨gb150, 1, none⟩ = some (.int .i64 a1) := (blk_cell BK150.out 1).trans rfl
           have hfz55_0 := blk_frozen BK150.out 0
           have hfz55_1 := blk_frozen BK150.out 1
           go_wp2_with (first | ((with_reducible refine gate_callee (f := 17) rfl ?_); refine goesL_ (some 100) rfl rfl Try.func17 (by kernel_rfl) rfl #[.agg #[.int .i64 a0, .int .i64 a1]] rfl (by (try simp only [List.map_toArray, List.map_cons, List.map_nil]); first | done | rfl | (simp only [List.length_drop, List.length_take]; rfl)) ?_; (with_reducible refine (span_Len.calls kj33 a0 a1 t153 _ A53.out).mono ?_); rintro e w56 ⟨rfl, hb⟩; refine ⟨_, rfl, ?_⟩; have n0_ := pxk BK149 hb; have n1_ := pxk BK150 hb; have n2_ := pxs HB hb; clear BK149; clear BK150; clear HB; have BK149 := n0_; have BK150 := n1_; have HB := n2_; clear n0_ n1_ n2_; (try clear hb); (try clear hb2); (try clear hk); (try clear hi)))
           go_ret
           exact ⟨by first | rfl | (simp [errW_none, errW_some] <;> rfl) | (simp [*, errW_none, errW_some] <;> rfl), pxb HB⟩
 ·replace c5 := Bool.eq_false_iff.mpr c5
  subst c5
  have H1 : (some false) = some r := by rw [if_neg (show ¬ (false = true) by decide)] at H; exact H
  clear H
  have H := H1
  clear H1
  obtain rfl := Option.some.inj H
  go_enter Try.func3, Try.ntmps3
  go_wp2_with (first | ((with_reducible refine gate_callee (f := 14) rfl ?_); refine goesL_ (some 13) rfl rfl Try.func14 (by kernel_rfl) rfl #[] rfl (by (try simp only [List.map_toArray, List.map_cons, List.map_nil]); first | done | rfl | (simp only [List.length_drop, List.length_take]; rfl)) ?_; (with_reducible refine (caulkerlaw01_spans.calls k  false _ A4.out).mono ?_); rintro e w57 ⟨rfl, hb⟩; refine ⟨_, rfl, ?_⟩; have n0_ := pxs HB hb; clear HB; have HB := n0_; clear n0_; (try clear hb); (try clear hb2); (try clear hk); (try clear hi)))
  go_ret
  exact ⟨by first | rfl | (simp [errW_none, errW_some] <;> rfl) | (simp [*, errW_none, errW_some] <;> rfl), pxb HB⟩

/-- THE ONE PURE STATEMENT of caulkerlaw01_SpanMakes. -/
def caulkerlaw01_SpanMakes.Pure : Prop := ∀ (a0 : Int) (a1 : Int) (a2 : Int), (Lit.int .i64 a0).wf = true → (Lit.int .i64 a1).wf = true → (Lit.int .i64 a2).wf = true → ∃ k, caulkerlaw01_SpanMakes.f k a0 a1 a2 = some true

end Go.Proofs.Ytfnemjejfccecaa.X
