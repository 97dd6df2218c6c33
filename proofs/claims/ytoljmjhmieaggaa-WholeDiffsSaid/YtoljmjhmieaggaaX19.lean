/- What the program's functions answer, as Lean functions, and that each call does just that; no condition. Written by a program (px.py) out of the translation. -/
import Derived.Test.YtoljmjhmieaggaaM2
import Derived.Test.YtoljmjhmieaggaaX31
import Derived.Test.YtoljmjhmieaggaaShort2
namespace Go.Proofs.Ytoljmjhmieaggaa.X
open Go.RowKit Go.Proofs.YtoljmjhmieaggaaW.PrintWords Go.Proofs.YtoljmjhmieaggaaW.PrintLast Go.Proofs.YtoljmjhmieaggaaW.PrintMore
attribute [local go_sem] max2_int min2_int max_two min_two max_three min_three max_four min_four   -- for this text's walks alone
set_option linter.unusedVariables false
set_option linter.unusedSimpArgs false

/-! ### edit_Check: function 19 -/
mutual
def edit_Check.l0 : Nat → Int → List (S41) → List (S41) → Int → Int → Option (Int)
 | 0, _, _, _, _, _ => none
 | k + 1, x0, x1, x12, x13, x14 => if x14 < x13 then (if 0 ≤ x14 then (if x14 < (x12.length : Int) then (if (((rd_T41 x12 x14).f1).size : Int) > 65536 then (some 2) else ((span_Check.f ((rd_T41 x12 x14).f0.f0) ((rd_T41 x12 x14).f0.f1) x0).bind fun t204 => (if t204 = 0 then (edit_Check.l0 k x0 x1 x12 x13 (wrap64 (x14 + 1))) else (some t204)))) else (none)) else (none)) else (edit_Check.l1 k x1 1)
def edit_Check.l1 : Nat → List (S41) → Int → Option (Int)
 | 0, _, _ => none
 | k + 1, x1, x8 => if x8 < (x1.length : Int) then (if 0 ≤ (wrap64 (x8 - 1)) then (if (wrap64 (x8 - 1)) < (x1.length : Int) then (if 0 ≤ x8 then (if ((rd_T41 x1 (wrap64 (x8 - 1))).f0.f1) > ((rd_T41 x1 x8).f0.f0) then (some 7) else (edit_Check.l1 k x1 (wrap64 (x8 + 1)))) else (none)) else (none)) else (none)) else (some 0)
end
def edit_Check.f (k : Nat) (a0 : Int) (l1 : List (S41)) : Option (Int) := if (l1.length : Int) > 4096 then (some 2) else (edit_Check.l0 k a0 l1 l1 (l1.length : Int) 0)
theorem edit_Check.mono_l : ∀ k, (∀ y0 y1 y2 y3 y4, LeO (edit_Check.l0 k y0 y1 y2 y3 y4) (edit_Check.l0 (k + 1) y0 y1 y2 y3 y4)) ∧ (∀ y0 y1, LeO (edit_Check.l1 k y0 y1) (edit_Check.l1 (k + 1) y0 y1))
 | 0 => ⟨fun _ _ _ _ _ r h => by simp [edit_Check.l0] at h, fun _ _ r h => by simp [edit_Check.l1] at h⟩
 | k + 1 => by
  obtain ⟨ih0, ih1⟩ := edit_Check.mono_l k
  refine ⟨?_, ?_⟩
  ·intro y0 y1 y2 y3 y4
   unfold edit_Check.l0
   repeat' first
   | (with_reducible exact ih0 _ _ _ _ _)
   | (with_reducible exact ih1 _ _)
   | (with_reducible exact LeO.refl _)
   | (with_reducible exact LeO.none _)
   | (with_reducible refine LeO.ite ?_ ?_)
   | (with_reducible refine LeO.bind ?_ (fun _ => ?_))
   | exact ih0 _ _ _ _ _
   | exact ih1 _ _
   | exact LeO.none _
   | refine LeO.ite ?_ ?_
   | refine LeO.bind ?_ (fun _ => ?_)
  ·intro y0 y1
   unfold edit_Check.l1
   repeat' first
   | (with_reducible exact ih0 _ _ _ _ _)
   | (with_reducible exact ih1 _ _)
   | (with_reducible exact LeO.refl _)
   | (with_reducible exact LeO.none _)
   | (with_reducible refine LeO.ite ?_ ?_)
   | (with_reducible refine LeO.bind ?_ (fun _ => ?_))
   | exact ih0 _ _ _ _ _
   | exact ih1 _ _
   | exact LeO.none _
   | refine LeO.ite ?_ ?_
   | refine LeO.bind ?_ (fun _ => ?_)
theorem edit_Check.mono : ∀ a0 a1 k, LeO (edit_Check.f k a0 a1) (edit_Check.f (k + 1) a0 a1) := by
 intro a0 a1 k
 obtain ⟨ih0, ih1⟩ := edit_Check.mono_l k
 unfold edit_Check.f
 repeat' first
   | (with_reducible exact ih0 _ _ _ _ _)
   | (with_reducible exact ih1 _ _)
   | (with_reducible exact LeO.refl _)
   | (with_reducible exact LeO.none _)
   | (with_reducible refine LeO.ite ?_ ?_)
   | (with_reducible refine LeO.bind ?_ (fun _ => ?_))
   | exact ih0 _ _ _ _ _
   | exact ih1 _ _
   | exact LeO.none _
   | refine LeO.ite ?_ ?_
   | refine LeO.bind ?_ (fun _ => ?_)
set_option maxHeartbeats 8000000 in
set_option maxRecDepth 100000 in
theorem edit_Check.calls (k : Nat) (a0 : Int) (A1 : Option Addr) (c1 : Nat) (l1 : List (S41)) (r : Int) (w : World) (hr1 : Kd.C k41 w A1 l1.length l1) (hc1 : l1.length ≤ c1) (h : edit_Check.f k a0 l1 = some r) :
  Calls Try.prog 19 #[.int .i64 a0, .slice A1 l1.length c1] w fun e w' => e = .returned (.int .i64 r) ∧ Below w.heap.size w w' := by
 have hu41 := Try.underlying41
 have hu39 := Try.underlying39
 have HR1 := Aside0.mk hr1
 have HC1 := Aside0.mk hc1
 clear hr1 hc1
 have HB := Aside0.mk (Below.refl w.heap.size w)
 have H : (if (l1.length : Int) > 4096 then (some 2) else (edit_Check.l0 k a0 l1 l1 (l1.length : Int) 0)) = some r := h
 clear h
 by_cases c3 : (l1.length : Int) > 4096
 ·rw [if_pos c3] at H
  have c3b0 : decide (4096 < (l1.length : Int)) = true := decide_eq_true c3
  have c3b1 : decide (4096 < l1.length) = true := decide_eq_true (by omega)
  clear c3
  obtain rfl := Option.some.inj H
  go_enter Try.func19, Try.ntmps19
  go_wp2
  repeat (go_quiet (fail); try go_wp2)
  go_ret
  exact ⟨by first | rfl | (simp [errW_none, errW_some] <;> rfl) | (simp [*, errW_none, errW_some] <;> rfl), pxb HB⟩
 ·rw [if_neg c3] at H
  have c3b0 : decide (4096 < (l1.length : Int)) = false := decide_eq_false c3
  have c3b1 : decide (4096 < l1.length) = false := decide_eq_false (by omega)
  clear c3
  have H' := Aside0.mk H
  clear H
  go_enter Try.func19, Try.ntmps19
  go_wp2
  repeat (go_quiet (fail); try go_wp2)
  go_loopg [14] k (fun kq v14 w' => ∃ (x14_1 : Int), v14 = .int .i64 x14_1 ∧ Aside0 (edit_Check.l0 kq a0 l1 l1 (l1.length : Int) x14_1 = some r) ∧ Aside0 (kq ≤ k) ∧ Aside0 (Below w.heap.size w w'))
  case atStart => exact ⟨(0), (by first | rfl | (simp; done) | (simp [*]; done)), H', ⟨Nat.le_refl _⟩, ⟨pxb HB⟩⟩
  case round =>
   clear H'
   (try clear c1); (try clear p2); (try clear c3); (try clear c3b0); (try clear c3b1)
   obtain ⟨x14_1, rfl, HA, HK1, HB⟩ := hrel
   cases gk with
   | zero => exact absurd HA.out (by simp [edit_Check.l0])
   | succ k1 =>
    have H := HA.out
    clear HA
    simp only [edit_Check.l0] at H
    by_cases c4 : x14_1 < (l1.length : Int)
    ·rw [if_pos c4] at H
     have c4b0 : decide (x14_1 < (l1.length : Int)) = true := decide_eq_true c4
     clear c4
     by_cases c5 : 0 ≤ x14_1
     ·rw [if_pos c5] at H
      have c5b0 : decide (0 ≤ x14_1) = true := decide_eq_true c5
      clear c5
      by_cases c6 : x14_1 < (l1.length : Int)
      ·rw [if_pos c6] at H
       have c6b0 : decide (x14_1 < (l1.length : Int)) = true := decide_eq_true c6
       clear c6
       by_cases c7 : (((rd_T41 l1 x14_1).f1).size : Int) > 65536
       ·rw [if_pos c7] at H
        have c7b0 : decide (65536 < (((rd_T41 l1 x14_1).f1).size : Int)) = true := decide_eq_true c7
        have c7b1 : decide (65536 < ((rd_T41 l1 x14_1).f1).size) = true := decide_eq_true (by omega)
        clear c7
        obtain rfl := Option.some.inj H
        have p202 : 0 ≤ (x14_1 : Int) := pxd
        have q202 : x14_1 < (l1.length : Int) := pxd
        obtain ⟨ad202, e202, hx202_0, hx202_1, hx202_2⟩ := at_T41 HR1.out x14_1 p202 q202
        cases e202
        replace hx202_0 := (HB.out.cell (World.block_lt_of_cell? w _ hx202_0)).trans hx202_0
        replace hx202_1 := (HB.out.cell (World.block_lt_of_cell? w _ hx202_1)).trans hx202_1
        replace hx202_2 := (HB.out.cell (World.block_lt_of_cell? w _ hx202_2)).trans hx202_2
        replace p202 := eq_true p202
        replace q202 := eq_true q202
        go_wp2_with (first | ((with_reducible refine gate_dst (N := 6) rfl ?_); refine box_event ?hg (N := 6) ?hd (cs := #[.int .i64 0, .int .i64 0, .string (⟨#[]⟩ : ByteArray)]) (t := 41) ?hr ?_; (case hd => rfl); (case hg => rfl); (case hr => first | (go_simp; done) | (go_simp; rfl)); intro gb203 hg w8 hbox hb; have BK203 := Aside0.mk (hbox); have GW203 := pxw HB hg; have GE203 := pxw HB hg; replace HB := pxs HB hb; clear hb hbox hg; obtain ⟨hcz9_0, hcz9_1, hcz9_2, hfz9_0, hfz9_1, hfz9_2⟩ := pxf3 BK203))
        repeat (go_quiet (fail); try go_wp2_with (first | ((with_reducible refine gate_dst (N := 6) rfl ?_); refine box_event ?hg (N := 6) ?hd (cs := #[.int .i64 0, .int .i64 0, .string (⟨#[]⟩ : ByteArray)]) (t := 41) ?hr ?_; (case hd => rfl); (case hg => rfl); (case hr => first | (go_simp; done) | (go_simp; rfl)); intro gb203 hg w8 hbox hb; have BK203 := Aside0.mk (hbox); have GW203 := pxw HB hg; have GE203 := pxw HB hg; replace HB := pxs HB hb; clear hb hbox hg; obtain ⟨hcz9_0, hcz9_1, hcz9_2, hfz9_0, hfz9_1, hfz9_2⟩ := pxf3 BK203)))
        go_ret
        exact ⟨by first | rfl | (simp [errW_none, errW_some] <;> rfl) | (simp [*, errW_none, errW_some] <;> rfl), pxb HB⟩
       ·rw [if_neg c7] at H
        have c7b0 : decide (65536 < (((rd_T41 l1 x14_1).f1).size : Int)) = false := decide_eq_false c7
        have c7b1 : decide (65536 < ((rd_T41 l1 x14_1).f1).size) = false := decide_eq_false (by omega)
        clear c7
        replace H := Option.bind_eq_some_iff.mp H
        obtain ⟨t204, A100, H⟩ := H
        replace H : (if t204 = 0 then (edit_Check.l0 k1 a0 l1 l1 (l1.length : Int) (wrap64 (x14_1 + 1))) else (some t204)) = some r := H
        have A10 := Aside0.mk A100
        clear A100
        by_cases c11 : t204 = 0
        ·rw [if_pos c11] at H
         have c11b0 : (t204 == 0) = true := beq_iff_eq.mpr c11
         have c11b1 : (t204 != 0) = false := bne_eq_false_iff_eq.mpr c11
         clear c11
         have H' := Aside0.mk H
         clear H
         have p202 : 0 ≤ (x14_1 : Int) := pxd
         have q202 : x14_1 < (l1.length : Int) := pxd
         obtain ⟨ad202, e202, hx202_0, hx202_1, hx202_2⟩ := at_T41 HR1.out x14_1 p202 q202
         cases e202
         replace hx202_0 := (HB.out.cell (World.block_lt_of_cell? w _ hx202_0)).trans hx202_0
         replace hx202_1 := (HB.out.cell (World.block_lt_of_cell? w _ hx202_1)).trans hx202_1
         replace hx202_2 := (HB.out.cell (World.block_lt_of_cell? w _ hx202_2)).trans hx202_2
         replace p202 := eq_true p202
         replace q202 := eq_true q202
         go_wp2_with (first | ((with_reducible refine gate_dst (N := 6) rfl ?_); refine box_event ?hg (N := 6) ?hd (cs := #[.int .i64 0, .int .i64 0, .string (⟨#[]⟩ : ByteArray)]) (t := 41) ?hr ?_; (case hd => rfl); (case hg => rfl); (case hr => first | (go_simp; done) | (go_simp; rfl)); intro gb203 hg w12 hbox hb; have BK203 := Aside0.mk (hbox); have GW203 := pxw HB hg; have GE203 := pxw HB hg; replace HB := pxs HB hb; clear hb hbox hg; obtain ⟨hcz13_0, hcz13_1, hcz13_2, hfz13_0, hfz13_1, hfz13_2⟩ := pxf3 BK203) | (go_at_call 31; (with_reducible refine (span_Check.calls ((rd_T41 l1 x14_1).f0.f0) ((rd_T41 l1 x14_1).f0.f1) a0 t204 _ A10.out).mono ?_); rintro e w14 ⟨rfl, hb⟩; replace BK203 := Aside0.mk (blk_below (g := gb203) (o := .cells #[.int .i64 ((rd_T41 l1 x14_1).f0.f0), .int .i64 ((rd_T41 l1 x14_1).f0.f1), .string ((rd_T41 l1 x14_1).f1)] 41 (0, 0)) (pxp BK203) hb); replace HB := pxs HB hb; (try clear hb); (try clear hb2); (try clear hk); (try clear hi)))
         repeat (go_quiet (fail); try go_wp2_with (first | ((with_reducible refine gate_dst (N := 6) rfl ?_); refine box_event ?hg (N := 6) ?hd (cs := #[.int .i64 0, .int .i64 0, .string (⟨#[]⟩ : ByteArray)]) (t := 41) ?hr ?_; (case hd => rfl); (case hg => rfl); (case hr => first | (go_simp; done) | (go_simp; rfl)); intro gb203 hg w12 hbox hb; have BK203 := Aside0.mk (hbox); have GW203 := pxw HB hg; have GE203 := pxw HB hg; replace HB := pxs HB hb; clear hb hbox hg; obtain ⟨hcz13_0, hcz13_1, hcz13_2, hfz13_0, hfz13_1, hfz13_2⟩ := pxf3 BK203) | (go_at_call 31; (with_reducible refine (span_Check.calls ((rd_T41 l1 x14_1).f0.f0) ((rd_T41 l1 x14_1).f0.f1) a0 t204 _ A10.out).mono ?_); rintro e w14 ⟨rfl, hb⟩; replace BK203 := Aside0.mk (blk_below (g := gb203) (o := .cells #[.int .i64 ((rd_T41 l1 x14_1).f0.f0), .int .i64 ((rd_T41 l1 x14_1).f0.f1), .string ((rd_T41 l1 x14_1).f1)] 41 (0, 0)) (pxp BK203) hb); replace HB := pxs HB hb; (try clear hb); (try clear hb2); (try clear hk); (try clear hi))))
         go_roundg k1
         case measure => have := HK1.out; omega
         case rel => exact ⟨(wrap64 (x14_1 + 1)), (by first | rfl | (simp; done) | (simp [*]; done)), H', ⟨by have := HK1.out; omega⟩, ⟨pxb HB⟩⟩
        ·rw [if_neg c11] at H
         have c11b0 : (t204 == 0) = false := beq_eq_false_iff_ne.mpr c11
         have c11b1 : (t204 != 0) = true := bne_iff_ne.mpr c11
         obtain rfl := Option.some.inj H
         have p202 : 0 ≤ (x14_1 : Int) := pxd
         have q202 : x14_1 < (l1.length : Int) := pxd
         obtain ⟨ad202, e202, hx202_0, hx202_1, hx202_2⟩ := at_T41 HR1.out x14_1 p202 q202
         cases e202
         replace hx202_0 := (HB.out.cell (World.block_lt_of_cell? w _ hx202_0)).trans hx202_0
         replace hx202_1 := (HB.out.cell (World.block_lt_of_cell? w _ hx202_1)).trans hx202_1
         replace hx202_2 := (HB.out.cell (World.block_lt_of_cell? w _ hx202_2)).trans hx202_2
         replace p202 := eq_true p202
         replace q202 := eq_true q202
         go_wp2_with (first | ((with_reducible refine gate_dst (N := 6) rfl ?_); refine box_event ?hg (N := 6) ?hd (cs := #[.int .i64 0, .int .i64 0, .string (⟨#[]⟩ : ByteArray)]) (t := 41) ?hr ?_; (case hd => rfl); (case hg => rfl); (case hr => first | (go_simp; done) | (go_simp; rfl)); intro gb203 hg w15 hbox hb; have BK203 := Aside0.mk (hbox); have GW203 := pxw HB hg; have GE203 := pxw HB hg; replace HB := pxs HB hb; clear hb hbox hg; obtain ⟨hcz16_0, hcz16_1, hcz16_2, hfz16_0, hfz16_1, hfz16_2⟩ := pxf3 BK203) | (go_at_call 31; (with_reducible refine (span_Check.calls ((rd_T41 l1 x14_1).f0.f0) ((rd_T41 l1 x14_1).f0.f1) a0 t204 _ A10.out).mono ?_); rintro e w17 ⟨rfl, hb⟩; replace BK203 := Aside0.mk (blk_below (g := gb203) (o := .cells #[.int .i64 ((rd_T41 l1 x14_1).f0.f0), .int .i64 ((rd_T41 l1 x14_1).f0.f1), .string ((rd_T41 l1 x14_1).f1)] 41 (0, 0)) (pxp BK203) hb); replace HB := pxs HB hb; (try clear hb); (try clear hb2); (try clear hk); (try clear hi)))
         repeat (go_quiet (fail); try go_wp2_with (first | ((with_reducible refine gate_dst (N := 6) rfl ?_); refine box_event ?hg (N := 6) ?hd (cs := #[.int .i64 0, .int .i64 0, .string (⟨#[]⟩ : ByteArray)]) (t := 41) ?hr ?_; (case hd => rfl); (case hg => rfl); (case hr => first | (go_simp; done) | (go_simp; rfl)); intro gb203 hg w15 hbox hb; have BK203 := Aside0.mk (hbox); have GW203 := pxw HB hg; have GE203 := pxw HB hg; replace HB := pxs HB hb; clear hb hbox hg; obtain ⟨hcz16_0, hcz16_1, hcz16_2, hfz16_0, hfz16_1, hfz16_2⟩ := pxf3 BK203) | (go_at_call 31; (with_reducible refine (span_Check.calls ((rd_T41 l1 x14_1).f0.f0) ((rd_T41 l1 x14_1).f0.f1) a0 t204 _ A10.out).mono ?_); rintro e w17 ⟨rfl, hb⟩; replace BK203 := Aside0.mk (blk_below (g := gb203) (o := .cells #[.int .i64 ((rd_T41 l1 x14_1).f0.f0), .int .i64 ((rd_T41 l1 x14_1).f0.f1), .string ((rd_T41 l1 x14_1).f1)] 41 (0, 0)) (pxp BK203) hb); replace HB := pxs HB hb; (try clear hb); (try clear hb2); (try clear hk); (try clear hi))))
         go_ret
         exact ⟨by first | rfl | (simp [errW_none, errW_some] <;> rfl) | (simp [*, errW_none, errW_some] <;> rfl), pxb HB⟩
      ·rw [if_neg c6] at H
       exact absurd H (by simp)
     ·rw [if_neg c5] at H
      exact absurd H (by simp)
    ·rw [if_neg c4] at H
     have c4b0 : decide (x14_1 < (l1.length : Int)) = false := decide_eq_false c4
     clear c4
     have H' := Aside0.mk H
     clear H
     go_wp2
     repeat (go_quiet (fail); try go_wp2)
     go_loopg [8] k1 (fun kq v8 w' => ∃ (x8_2 : Int), v8 = .int .i64 x8_2 ∧ Aside0 (edit_Check.l1 kq l1 x8_2 = some r) ∧ Aside0 (kq ≤ k1) ∧ Aside0 (Below w.heap.size w w'))
     case atStart => exact ⟨(1), (by first | rfl | (simp; done) | (simp [*]; done)), H', ⟨Nat.le_refl _⟩, ⟨pxb HB⟩⟩
     case round =>
      clear H'
      (try clear c1); (try clear p2); (try clear q2); (try clear hx2); (try clear c3); (try clear c3b0); (try clear c3b1); (try clear c4); (try clear c4b0); (try clear c5); (try clear c5b0); (try clear c6); (try clear c6b0); (try clear p6); (try clear c7); (try clear c7b0); (try clear c7b1); (try clear c11); (try clear c11b0); (try clear c11b1); (try clear hcz13_0 hcz13_1 hcz13_2 hfz13_0 hfz13_1 hfz13_2); (try clear hcz16_0 hcz16_1 hcz16_2 hfz16_0 hfz16_1 hfz16_2); (try clear hcz9_0 hcz9_1 hcz9_2 hfz9_0 hfz9_1 hfz9_2); (try clear hx202_0); (try clear hx202_1); (try clear hx202_2); (try clear p202); (try clear q202)
      obtain ⟨x8_2, rfl, HA, HK2, HB⟩ := hrel
      cases gk with
      | zero => exact absurd HA.out (by simp [edit_Check.l1])
      | succ k2 =>
       have H := HA.out
       clear HA
       simp only [edit_Check.l1] at H
       by_cases c18 : x8_2 < (l1.length : Int)
       ·rw [if_pos c18] at H
        have c18b0 : decide (x8_2 < (l1.length : Int)) = true := decide_eq_true c18
        clear c18
        obtain ⟨ji19, hji19⟩ : ∃ j_ : Int, (wrap64 (x8_2 - 1)) = j_ := ⟨_, rfl⟩
        replace H : (if 0 ≤ (ji19) then (if (ji19) < (l1.length : Int) then (if 0 ≤ x8_2 then (if ((rd_T41 l1 (ji19)).f0.f1) > ((rd_T41 l1 x8_2).f0.f0) then (some 7) else (edit_Check.l1 k2 l1 (wrap64 (x8_2 + 1)))) else (none)) else (none)) else (none)) = some r := by first | (rw [hji19] at H; exact H) | (simp only [hji19] at H ⊢; exact H)
        have hji19w : (IntKind.i64.wrap (x8_2 - 1)) = ji19 := (i64_w _).trans hji19
        by_cases c20 : 0 ≤ (ji19)
        ·rw [if_pos c20] at H
         have c20b0 : decide (0 ≤ (ji19)) = true := decide_eq_true c20
         clear c20
         by_cases c21 : (ji19) < (l1.length : Int)
         ·rw [if_pos c21] at H
          have c21b0 : decide ((ji19) < (l1.length : Int)) = true := decide_eq_true c21
          clear c21
          by_cases c22 : 0 ≤ x8_2
          ·rw [if_pos c22] at H
           have c22b0 : decide (0 ≤ x8_2) = true := decide_eq_true c22
           clear c22
           by_cases c23 : ((rd_T41 l1 (ji19)).f0.f1) > ((rd_T41 l1 x8_2).f0.f0)
           ·rw [if_pos c23] at H
            have c23b0 : decide (((rd_T41 l1 x8_2).f0.f0) < ((rd_T41 l1 (ji19)).f0.f1)) = true := decide_eq_true c23
            clear c23
            obtain rfl := Option.some.inj H
            have p205 : 0 ≤ ((ji19) : Int) := pxd
            have q205 : (ji19) < (l1.length : Int) := pxd
            obtain ⟨ad205, e205, hx205_0, hx205_1, hx205_2⟩ := at_T41 HR1.out (ji19) p205 q205
            cases e205
            replace hx205_0 := (HB.out.cell (World.block_lt_of_cell? w _ hx205_0)).trans hx205_0
            replace hx205_1 := (HB.out.cell (World.block_lt_of_cell? w _ hx205_1)).trans hx205_1
            replace hx205_2 := (HB.out.cell (World.block_lt_of_cell? w _ hx205_2)).trans hx205_2
            replace p205 := eq_true p205
            replace q205 := eq_true q205
            have p206 : 0 ≤ (x8_2 : Int) := pxd
            have q206 : x8_2 < (l1.length : Int) := pxd
            obtain ⟨ad206, e206, hx206_0, hx206_1, hx206_2⟩ := at_T41 HR1.out x8_2 p206 q206
            obtain rfl : ad205 = ad206 := (by injection e206)
            replace hx206_0 := (HB.out.cell (World.block_lt_of_cell? w _ hx206_0)).trans hx206_0
            replace hx206_1 := (HB.out.cell (World.block_lt_of_cell? w _ hx206_1)).trans hx206_1
            replace hx206_2 := (HB.out.cell (World.block_lt_of_cell? w _ hx206_2)).trans hx206_2
            replace p206 := eq_true p206
            replace q206 := eq_true q206
            go_wp2
            repeat (go_quiet (fail); try go_wp2)
            go_ret
            exact ⟨by first | rfl | (simp [errW_none, errW_some] <;> rfl) | (simp only [← hji19]; first | rfl | (simp [errW_none, errW_some] <;> rfl)) | (simp [*, errW_none, errW_some] <;> rfl), pxb HB⟩
           ·rw [if_neg c23] at H
            have c23b0 : decide (((rd_T41 l1 x8_2).f0.f0) < ((rd_T41 l1 (ji19)).f0.f1)) = false := decide_eq_false c23
            clear c23
            have H' := Aside0.mk H
            clear H
            have p205 : 0 ≤ ((ji19) : Int) := pxd
            have q205 : (ji19) < (l1.length : Int) := pxd
            obtain ⟨ad205, e205, hx205_0, hx205_1, hx205_2⟩ := at_T41 HR1.out (ji19) p205 q205
            cases e205
            replace hx205_0 := (HB.out.cell (World.block_lt_of_cell? w _ hx205_0)).trans hx205_0
            replace hx205_1 := (HB.out.cell (World.block_lt_of_cell? w _ hx205_1)).trans hx205_1
            replace hx205_2 := (HB.out.cell (World.block_lt_of_cell? w _ hx205_2)).trans hx205_2
            replace p205 := eq_true p205
            replace q205 := eq_true q205
            have p206 : 0 ≤ (x8_2 : Int) := pxd
            have q206 : x8_2 < (l1.length : Int) := pxd
            obtain ⟨ad206, e206, hx206_0, hx206_1, hx206_2⟩ := at_T41 HR1.out x8_2 p206 q206
            obtain rfl : ad205 = ad206 := (by injection e206)
            replace hx206_0 := (HB.out.cell (World.block_lt_of_cell? w _ hx206_0)).trans hx206_0
            replace hx206_1 := (HB.out.cell (World.block_lt_of_cell? w _ hx206_1)).trans hx206_1
            replace hx206_2 := (HB.out.cell (World.block_lt_of_cell? w _ hx206_2)).trans hx206_2
            replace p206 := eq_true p206
            replace q206 := eq_true q206
            go_wp2
            repeat (go_quiet (fail); try go_wp2)
            go_roundg k2
            case measure => have := HK1.out; have := HK2.out; omega
            case rel => exact ⟨(wrap64 (x8_2 + 1)), (by first | rfl | (simp; done) | (simp [*]; done)), H', ⟨by have := HK1.out; have := HK2.out; omega⟩, ⟨pxb HB⟩⟩
          ·rw [if_neg c22] at H
           exact absurd H (by simp)
         ·rw [if_neg c21] at H
          exact absurd H (by simp)
        ·rw [if_neg c20] at H
         exact absurd H (by simp)
       ·rw [if_neg c18] at H
        have c18b0 : decide (x8_2 < (l1.length : Int)) = false := decide_eq_false c18
        clear c18
        obtain rfl := Option.some.inj H
        go_wp2
        repeat (go_quiet (fail); try go_wp2)
        go_ret
        exact ⟨by first | rfl | (simp [errW_none, errW_some] <;> rfl) | (simp [*, errW_none, errW_some] <;> rfl), pxb HB⟩

end Go.Proofs.Ytoljmjhmieaggaa.X
