/- What the program's functions answer, as Lean functions, and that each call does just that; no condition. Written by a program (px.py) out of the translation. -/
import Derived.Test.YtoljmjhmieaggaaM2
import Derived.Test.YtoljmjhmieaggaaX29
import Derived.Test.YtoljmjhmieaggaaX22
import Derived.Test.YtoljmjhmieaggaaM5
namespace Go.Proofs.Ytoljmjhmieaggaa.X
open Go.RowKit Go.Proofs.YtoljmjhmieaggaaW.PrintWords Go.Proofs.YtoljmjhmieaggaaW.PrintLast Go.Proofs.YtoljmjhmieaggaaW.PrintMore
attribute [local go_sem] max2_int min2_int max_two min_two max_three min_three max_four min_four   -- for this text's walks alone
set_option linter.unusedVariables false
set_option linter.unusedSimpArgs false

/-! ### edit_Move: function 24 -/
mutual
def edit_Move.j0 : Nat → Int → Bool → List (S41) → Bool → Option (Int × Int)
 | 0, _, _, _, _ => none
 | k + 1, x1, x2, x3, x31 => if x31 = true then (some (0, 1)) else (edit_Move.l0 k x1 x2 0 x3 (x3.length : Int) 0)
def edit_Move.l0 : Nat → Int → Bool → Int → List (S41) → Int → Int → Option (Int × Int)
 | 0, _, _, _, _, _, _ => none
 | k + 1, x1, x2, x12, x32, x33, x34 => if x34 < x33 then (if 0 ≤ x34 then (if x34 < (x32.length : Int) then (if ((rd_T41 x32 x34).f0.f1) < x1 then (edit_Move.j2 k x1 x2 x12 x32 x33 x34 true ((rd_T41 x32 x34).f0.f0) ((rd_T41 x32 x34).f0.f1) ((rd_T41 x32 x34).f1)) else (if ((rd_T41 x32 x34).f0.f1) = x1 then (edit_Move.j2 k x1 x2 x12 x32 x33 x34 (decide (((rd_T41 x32 x34).f0.f0) < x1)) ((rd_T41 x32 x34).f0.f0) ((rd_T41 x32 x34).f0.f1) ((rd_T41 x32 x34).f1)) else (edit_Move.j2 k x1 x2 x12 x32 x33 x34 false ((rd_T41 x32 x34).f0.f0) ((rd_T41 x32 x34).f0.f1) ((rd_T41 x32 x34).f1)))) else (none)) else (none)) else (some (wrap64 (x1 + x12), 0))
def edit_Move.j2 : Nat → Int → Bool → Int → List (S41) → Int → Int → Bool → Int → Int → ByteArray → Option (Int × Int)
 | 0, _, _, _, _, _, _, _, _, _, _ => none
 | k + 1, x1, x2, x12, x32, x33, x34, x38, x510000, x510001, x510002 => if x38 = true then ((span_Len.f k x510000 x510001).bind fun t510 => (edit_Move.l0 k x1 x2 (wrap64 (x12 + (wrap64 ((x510002.size : Int) - t510)))) x32 x33 (wrap64 (x34 + 1)))) else (if x510000 = x1 then (if x510001 = x1 then (edit_Move.j3 k x1 x2 x12 x32 x33 x34 x2 x510000 x510001 x510002) else (edit_Move.j3 k x1 x2 x12 x32 x33 x34 false x510000 x510001 x510002)) else (edit_Move.j3 k x1 x2 x12 x32 x33 x34 false x510000 x510001 x510002))
def edit_Move.j3 : Nat → Int → Bool → Int → List (S41) → Int → Int → Bool → Int → Int → ByteArray → Option (Int × Int)
 | 0, _, _, _, _, _, _, _, _, _, _ => none
 | k + 1, x1, x2, x12, x32, x33, x34, x67, x510000, x510001, x510002 => if x67 = true then (edit_Move.l0 k x1 x2 (wrap64 (x12 + (x510002.size : Int))) x32 x33 (wrap64 (x34 + 1))) else (if x510000 < x1 then (if x1 < x510001 then (some (wrap64 (x510000 + x12), 0)) else (edit_Move.l0 k x1 x2 x12 x32 x33 (wrap64 (x34 + 1)))) else (edit_Move.l0 k x1 x2 x12 x32 x33 (wrap64 (x34 + 1))))
end
def edit_Move.f (k : Nat) (a0 : ByteArray) (a1 : Int) (a2 : Bool) (l3 : List (S41)) : Option (Int × Int) := (edit_Apply.f k a0 l3).bind fun bt506 => (if bt506.2 = 0 then (if a1 < 0 then (edit_Move.j0 k a1 a2 l3 true) else (edit_Move.j0 k a1 a2 l3 (decide (a1 > (a0.size : Int))))) else (some (0, bt506.2)))
theorem edit_Move.mono_l : ∀ k, (∀ y0 y1 y2 y3, LeO (edit_Move.j0 k y0 y1 y2 y3) (edit_Move.j0 (k + 1) y0 y1 y2 y3)) ∧ (∀ y0 y1 y2 y3 y4 y5, LeO (edit_Move.l0 k y0 y1 y2 y3 y4 y5) (edit_Move.l0 (k + 1) y0 y1 y2 y3 y4 y5)) ∧ (∀ y0 y1 y2 y3 y4 y5 y6 y7 y8 y9, LeO (edit_Move.j2 k y0 y1 y2 y3 y4 y5 y6 y7 y8 y9) (edit_Move.j2 (k + 1) y0 y1 y2 y3 y4 y5 y6 y7 y8 y9)) ∧ (∀ y0 y1 y2 y3 y4 y5 y6 y7 y8 y9, LeO (edit_Move.j3 k y0 y1 y2 y3 y4 y5 y6 y7 y8 y9) (edit_Move.j3 (k + 1) y0 y1 y2 y3 y4 y5 y6 y7 y8 y9))
 | 0 => ⟨fun _ _ _ _ r h => by simp [edit_Move.j0] at h, fun _ _ _ _ _ _ r h => by simp [edit_Move.l0] at h, fun _ _ _ _ _ _ _ _ _ _ r h => by simp [edit_Move.j2] at h, fun _ _ _ _ _ _ _ _ _ _ r h => by simp [edit_Move.j3] at h⟩
 | k + 1 => by
  obtain ⟨ih0, ih1, ih2, ih3⟩ := edit_Move.mono_l k
  refine ⟨?_, ?_, ?_, ?_⟩
  ·intro y0 y1 y2 y3
   unfold edit_Move.j0
   repeat' first
   | (with_reducible exact ih0 _ _ _ _)
   | (with_reducible exact ih1 _ _ _ _ _ _)
   | (with_reducible exact ih2 _ _ _ _ _ _ _ _ _ _)
   | (with_reducible exact ih3 _ _ _ _ _ _ _ _ _ _)
   | (with_reducible exact edit_Apply.mono _ _ _)
   | (with_reducible exact span_Len.mono _ _ _)
   | (with_reducible exact LeO.refl _)
   | (with_reducible exact LeO.none _)
   | (with_reducible refine LeO.ite ?_ ?_)
   | (with_reducible refine LeO.bind ?_ (fun _ => ?_))
   | exact ih0 _ _ _ _
   | exact ih1 _ _ _ _ _ _
   | exact ih2 _ _ _ _ _ _ _ _ _ _
   | exact ih3 _ _ _ _ _ _ _ _ _ _
   | exact edit_Apply.mono _ _ _
   | exact span_Len.mono _ _ _
   | exact LeO.none _
   | refine LeO.ite ?_ ?_
   | refine LeO.bind ?_ (fun _ => ?_)
  ·intro y0 y1 y2 y3 y4 y5
   unfold edit_Move.l0
   repeat' first
   | (with_reducible exact ih0 _ _ _ _)
   | (with_reducible exact ih1 _ _ _ _ _ _)
   | (with_reducible exact ih2 _ _ _ _ _ _ _ _ _ _)
   | (with_reducible exact ih3 _ _ _ _ _ _ _ _ _ _)
   | (with_reducible exact edit_Apply.mono _ _ _)
   | (with_reducible exact span_Len.mono _ _ _)
   | (with_reducible exact LeO.refl _)
   | (with_reducible exact LeO.none _)
   | (with_reducible refine LeO.ite ?_ ?_)
   | (with_reducible refine LeO.bind ?_ (fun _ => ?_))
   | exact ih0 _ _ _ _
   | exact ih1 _ _ _ _ _ _
   | exact ih2 _ _ _ _ _ _ _ _ _ _
   | exact ih3 _ _ _ _ _ _ _ _ _ _
   | exact edit_Apply.mono _ _ _
   | exact span_Len.mono _ _ _
   | exact LeO.none _
   | refine LeO.ite ?_ ?_
   | refine LeO.bind ?_ (fun _ => ?_)
  ·intro y0 y1 y2 y3 y4 y5 y6 y7 y8 y9
   unfold edit_Move.j2
   repeat' first
   | (with_reducible exact ih0 _ _ _ _)
   | (with_reducible exact ih1 _ _ _ _ _ _)
   | (with_reducible exact ih2 _ _ _ _ _ _ _ _ _ _)
   | (with_reducible exact ih3 _ _ _ _ _ _ _ _ _ _)
   | (with_reducible exact edit_Apply.mono _ _ _)
   | (with_reducible exact span_Len.mono _ _ _)
   | (with_reducible exact LeO.refl _)
   | (with_reducible exact LeO.none _)
   | (with_reducible refine LeO.ite ?_ ?_)
   | (with_reducible refine LeO.bind ?_ (fun _ => ?_))
   | exact ih0 _ _ _ _
   | exact ih1 _ _ _ _ _ _
   | exact ih2 _ _ _ _ _ _ _ _ _ _
   | exact ih3 _ _ _ _ _ _ _ _ _ _
   | exact edit_Apply.mono _ _ _
   | exact span_Len.mono _ _ _
   | exact LeO.none _
   | refine LeO.ite ?_ ?_
   | refine LeO.bind ?_ (fun _ => ?_)
  ·intro y0 y1 y2 y3 y4 y5 y6 y7 y8 y9
   unfold edit_Move.j3
   repeat' first
   | (with_reducible exact ih0 _ _ _ _)
   | (with_reducible exact ih1 _ _ _ _ _ _)
   | (with_reducible exact ih2 _ _ _ _ _ _ _ _ _ _)
   | (with_reducible exact ih3 _ _ _ _ _ _ _ _ _ _)
   | (with_reducible exact edit_Apply.mono _ _ _)
   | (with_reducible exact span_Len.mono _ _ _)
   | (with_reducible exact LeO.refl _)
   | (with_reducible exact LeO.none _)
   | (with_reducible refine LeO.ite ?_ ?_)
   | (with_reducible refine LeO.bind ?_ (fun _ => ?_))
   | exact ih0 _ _ _ _
   | exact ih1 _ _ _ _ _ _
   | exact ih2 _ _ _ _ _ _ _ _ _ _
   | exact ih3 _ _ _ _ _ _ _ _ _ _
   | exact edit_Apply.mono _ _ _
   | exact span_Len.mono _ _ _
   | exact LeO.none _
   | refine LeO.ite ?_ ?_
   | refine LeO.bind ?_ (fun _ => ?_)
theorem edit_Move.mono : ∀ a0 a1 a2 a3 k, LeO (edit_Move.f k a0 a1 a2 a3) (edit_Move.f (k + 1) a0 a1 a2 a3) := by
 intro a0 a1 a2 a3 k
 obtain ⟨ih0, ih1, ih2, ih3⟩ := edit_Move.mono_l k
 unfold edit_Move.f
 repeat' first
   | (with_reducible exact ih0 _ _ _ _)
   | (with_reducible exact ih1 _ _ _ _ _ _)
   | (with_reducible exact ih2 _ _ _ _ _ _ _ _ _ _)
   | (with_reducible exact ih3 _ _ _ _ _ _ _ _ _ _)
   | (with_reducible exact edit_Apply.mono _ _ _)
   | (with_reducible exact span_Len.mono _ _ _)
   | (with_reducible exact LeO.refl _)
   | (with_reducible exact LeO.none _)
   | (with_reducible refine LeO.ite ?_ ?_)
   | (with_reducible refine LeO.bind ?_ (fun _ => ?_))
   | exact ih0 _ _ _ _
   | exact ih1 _ _ _ _ _ _
   | exact ih2 _ _ _ _ _ _ _ _ _ _
   | exact ih3 _ _ _ _ _ _ _ _ _ _
   | exact edit_Apply.mono _ _ _
   | exact span_Len.mono _ _ _
   | exact LeO.none _
   | refine LeO.ite ?_ ?_
   | refine LeO.bind ?_ (fun _ => ?_)
def edit_Move.T11 : Bool × List (List Nat × List Nat) := (true, [([], []), ([], []), ([1], [1]), ([2], [2]), ([], []), ([4], [4]), ([5], [5]), ([3, 6], [3, 6]), ([0, 7], [0, 7]), ([8, 6, 0, 1, 2, 3, 4, 5, 6, 7, 8], [0, 8])])
def edit_Move.B11 : List Nat := [0, 0, 2, 6, 0, 16, 48, 126, 255, 511]
theorem edit_Move.tab11 : rtab .any (opsOf Try.f24 11) = edit_Move.T11 := by kernel_rfl
theorem edit_Move.bits11 : waitsOk edit_Move.T11.2 edit_Move.B11 = true := by kernel_rfl
set_option maxHeartbeats 8000000 in
set_option maxRecDepth 100000 in
theorem edit_Move.calls (k : Nat) (a0 : ByteArray) (a1 : Int) (a2 : Bool) (A3 : Option Addr) (c3 : Nat) (l3 : List (S41)) (r1 : Int) (r2 : Int) (w : World) (hr3 : Kd.C k41 w A3 l3.length l3) (hc3 : l3.length ≤ c3) (h : edit_Move.f k a0 a1 a2 l3 = some (r1, r2)) :
  Calls Try.prog 24 #[.string a0, .int .i64 a1, .bool a2, .slice A3 l3.length c3] w fun e w' => e = .returned (.tuple #[.int .i64 r1, .int .i64 r2]) ∧ Below w.heap.size w w' := by
 have hu41 := Try.underlying41
 have hu39 := Try.underlying39
 have HR3 := Aside0.mk hr3
 have HC3 := Aside0.mk hc3
 clear hr3 hc3
 have HB := Aside0.mk (Below.refl w.heap.size w)
 have H : ((edit_Apply.f k a0 l3).bind fun bt506 => (if bt506.2 = 0 then (if a1 < 0 then (edit_Move.j0 k a1 a2 l3 true) else (edit_Move.j0 k a1 a2 l3 (decide (a1 > (a0.size : Int))))) else (some (0, bt506.2)))) = some (r1, r2) := h
 clear h
 replace H := Option.bind_eq_some_iff.mp H
 obtain ⟨⟨t506, t507⟩, A50, H⟩ := H
 replace H : (if t507 = 0 then (if a1 < 0 then (edit_Move.j0 k a1 a2 l3 true) else (edit_Move.j0 k a1 a2 l3 (decide (a1 > (a0.size : Int))))) else (some (0, t507))) = some (r1, r2) := H
 have A5 := Aside0.mk A50
 clear A50
 by_cases c6 : t507 = 0
 ·rw [if_pos c6] at H
  have c6b0 : (t507 == 0) = true := beq_iff_eq.mpr c6
  have c6b1 : (t507 != 0) = false := bne_eq_false_iff_eq.mpr c6
  clear c6
  have HC7 := Aside0.mk H
  clear H
  go_enter Try.func24, Try.ntmps24
  go_upto_region 4 with (first | ((with_reducible refine gate_callee (f := 22) rfl ?_); refine goesL_ (some 18) rfl rfl Try.func22 (by kernel_rfl) rfl #[.string a0, .slice A3 l3.length c3] rfl (by (try simp only [List.map_toArray, List.map_cons, List.map_nil]); first | done | rfl | (simp only [List.length_drop, List.length_take]; rfl)) ?_; (with_reducible refine (edit_Apply.calls k a0 _ _ l3 t506 t507 _ ?side1 ?side2 A5.out).mono ?_); (case side1 => repeat (first | exact HR3.out | (with_reducible refine Kd.C_alloc ?_ _) | (with_reducible refine Kd.C_drewN ?_ _) | (with_reducible refine Kd.C_drew ?_))); (case side2 => exact HC3.out); rintro e w8 ⟨rfl, hb⟩; refine ⟨_, rfl, ?_⟩; replace HB := pxs HB hb; (try clear hb); (try clear hb2); (try clear hk); (try clear hi)))
  (try simp only [Act.put, List.setIfInBounds_toArray, List.set_cons_zero, List.set_cons_succ])
  go_cut [31] (fun v31 wc => ∃ (kq : Nat) (x31_6 : Bool), v31 = .bool x31_6 ∧ Aside0 (edit_Move.j0 kq a1 a2 l3 x31_6 = some (r1, r2)) ∧ Aside0 (kq ≤ k) ∧ Aside0 (Below w.heap.size w wc))
  case first =>
   have H := HC7.out
   clear HC7
   by_cases c9 : a1 < 0
   ·rw [if_pos c9] at H
    have c9b0 : decide (a1 < 0) = true := decide_eq_true c9
    clear c9
    (first | rw [c9b0] | (simp only [i64_w, i32_w]; rw [c9b0]) | skip)
    have H' := Aside0.mk H
    clear H
    go_wp2
    go_meet
    case rel => exact ⟨_, (true), (by first | rfl | (simp; done) | (simp [*]; done)), H', ⟨by first | omega | exact Nat.le_refl _⟩, ⟨pxb HB⟩⟩
   ·rw [if_neg c9] at H
    have c9b0 : decide (a1 < 0) = false := decide_eq_false c9
    clear c9
    (first | rw [c9b0] | (simp only [i64_w, i32_w]; rw [c9b0]) | skip)
    have H' := Aside0.mk H
    clear H
    go_wp2
    go_meet
    case rel => exact ⟨_, (decide (a1 > (a0.size : Int))), (by first | rfl | (simp; done) | (simp [*]; done)), H', ⟨by first | omega | exact Nat.le_refl _⟩, ⟨pxb HB⟩⟩
  case rest =>
   clear HC7
   (try clear c2); (try clear p2); (try clear c3); (try clear c6); (try clear c6b0); (try clear c6b1); (try clear c9); (try clear c9b0)
   obtain ⟨kq, x31_6, rfl, HA, HJ6, HB⟩ := hcut
   cases kq with
   | zero => exact absurd HA.out (by simp [edit_Move.j0])
   | succ kj6 =>
    have H := HA.out
    clear HA
    simp only [edit_Move.j0] at H
    by_cases c10 : x31_6 = true
    ·subst c10
     have H1 : (some (0, 1)) = some (r1, r2) := by rw [if_pos rfl] at H; exact H
     clear H
     have H := H1
     clear H1
     simp only [Option.some.injEq, Prod.mk.injEq] at H
     obtain ⟨rfl, rfl⟩ := H
     go_wp2
     go_ret2
     exact ⟨by first | rfl | (simp [errW_none, errW_some] <;> rfl) | (simp [*, errW_none, errW_some] <;> rfl), pxb HB⟩
    ·replace c10 := Bool.eq_false_iff.mpr c10
     subst c10
     have H1 : (edit_Move.l0 kj6 a1 a2 0 l3 (l3.length : Int) 0) = some (r1, r2) := by rw [if_neg (show ¬ (false = true) by decide)] at H; exact H
     clear H
     have H := H1
     clear H1
     have H' := Aside0.mk H
     clear H
     go_wp2
     go_loopg [12, 34] kj6 (fun kq v12 v34 w' => ∃ (x12_2 : Int) (x34_2 : Int), v12 = .int .i64 x12_2 ∧ v34 = .int .i64 x34_2 ∧ Aside0 (edit_Move.l0 kq a1 a2 x12_2 l3 (l3.length : Int) x34_2 = some (r1, r2)) ∧ Aside0 (kq ≤ kj6) ∧ Aside0 (Below w.heap.size w w'))
     case atStart => exact ⟨(0), (0), (by first | rfl | (simp; done) | (simp [*]; done)), (by first | rfl | (simp; done) | (simp [*]; done)), H', ⟨Nat.le_refl _⟩, ⟨pxb HB⟩⟩
     case round =>
      clear H'
      (try clear c1); (try clear c2); (try clear p2); (try clear c3); (try clear c6); (try clear c6b0); (try clear c6b1); (try clear c9); (try clear c9b0); (try clear c10)
      obtain ⟨x12_2, x34_2, rfl, rfl, HA, HK2, HB⟩ := hrel
      cases gk with
      | zero => exact absurd HA.out (by simp [edit_Move.l0])
      | succ k2 =>
       have H := HA.out
       clear HA
       simp only [edit_Move.l0] at H
       by_cases c11 : x34_2 < (l3.length : Int)
       ·rw [if_pos c11] at H
        have c11b0 : decide (x34_2 < (l3.length : Int)) = true := decide_eq_true c11
        clear c11
        by_cases c12 : 0 ≤ x34_2
        ·rw [if_pos c12] at H
         have c12b0 : decide (0 ≤ x34_2) = true := decide_eq_true c12
         clear c12
         by_cases c13 : x34_2 < (l3.length : Int)
         ·rw [if_pos c13] at H
          have c13b0 : decide (x34_2 < (l3.length : Int)) = true := decide_eq_true c13
          clear c13
          have HC14 := Aside0.mk H
          clear H
          have p508 : 0 ≤ (x34_2 : Int) := pxd
          have q508 : x34_2 < (l3.length : Int) := pxd
          obtain ⟨ad508, e508, hx508_0, hx508_1, hx508_2⟩ := at_T41 HR3.out x34_2 p508 q508
          cases e508
          replace hx508_0 := (HB.out.cell (World.block_lt_of_cell? w _ hx508_0)).trans hx508_0
          replace hx508_1 := (HB.out.cell (World.block_lt_of_cell? w _ hx508_1)).trans hx508_1
          replace hx508_2 := (HB.out.cell (World.block_lt_of_cell? w _ hx508_2)).trans hx508_2
          replace p508 := eq_true p508
          replace q508 := eq_true q508
          go_upto_region 10 with (first | ((with_reducible refine gate_dst (N := 14) rfl ?_); refine box_event ?hg (N := 14) ?hd (cs := #[.int .i64 0, .int .i64 0, .string (⟨#[]⟩ : ByteArray)]) (t := 41) ?hr ?_; (case hd => rfl); (case hg => rfl); (case hr => first | (go_simp; done) | (go_simp; rfl)); intro gb509 hg w15 hbox hb; have BK509 := Aside0.mk (hbox); have GW509 := pxw HB hg; have GE509 := pxw HB hg; replace HB := pxs HB hb; clear hb hbox hg; obtain ⟨hcz16_0, hcz16_1, hcz16_2, hfz16_0, hfz16_1, hfz16_2⟩ := pxf3 BK509))
          (try simp only [Act.put, List.setIfInBounds_toArray, List.set_cons_zero, List.set_cons_succ])
          go_cut [38] (fun v38 wc => ∃ (kq : Nat) (x38_13 : Bool), v38 = .bool x38_13 ∧ Aside0 (edit_Move.j2 kq a1 a2 x12_2 l3 (l3.length : Int) x34_2 x38_13 ((rd_T41 l3 x34_2).f0.f0) ((rd_T41 l3 x34_2).f0.f1) ((rd_T41 l3 x34_2).f1) = some (r1, r2)) ∧ Aside0 (kq ≤ k2) ∧ Aside0 (wc.heap[gb509]? = some (.cells #[.int .i64 ((rd_T41 l3 x34_2).f0.f0), .int .i64 ((rd_T41 l3 x34_2).f0.f1), .string ((rd_T41 l3 x34_2).f1)] 41 (0, 0))) ∧ Aside0 (Below w.heap.size w wc))
          case first =>
           have H := HC14.out
           clear HC14
           by_cases c17 : ((rd_T41 l3 x34_2).f0.f1) < a1
           ·rw [if_pos c17] at H
            have c17b0 : decide (((rd_T41 l3 x34_2).f0.f1) < a1) = true := decide_eq_true c17
            clear c17
            (first | rw [c17b0] | (simp only [i64_w, i32_w]; rw [c17b0]) | skip)
            have H' := Aside0.mk H
            clear H
            have hcz18_0 : w15.cell? ⟨gb509, 0, none⟩ = some (.int .i64 0) := (blk_cell BK509.out 0).trans rfl
            have hcz18_1 : w15.cell? ⟨gb509, 1, none⟩ = some (.int .i64 0) := (blk_cell BK509.out 1).trans rfl
            have hcz18_2 : w15.cell? ⟨gb509, 2, none⟩ = some (.string (⟨#[]⟩ : ByteArray)) := (blk_cell BK509.out 2).trans rfl
            have hfz18_0 := blk_frozen BK509.out 0
            have hfz18_1 := blk_frozen BK509.out 1
            have hfz18_2 := blk_frozen BK509.out 2
            go_wp2
            go_meet
            case rel => exact ⟨_, (true), (by first | rfl | (simp; done) | (simp [*]; done)), H', ⟨by have := HJ6.out; have := HK2.out; first | omega | exact Nat.le_refl _⟩, ⟨pxp BK509⟩, ⟨pxb HB⟩⟩
           ·rw [if_neg c17] at H
            have c17b0 : decide (((rd_T41 l3 x34_2).f0.f1) < a1) = false := decide_eq_false c17
            clear c17
            (first | rw [c17b0] | (simp only [i64_w, i32_w]; rw [c17b0]) | skip)
            by_cases c19 : ((rd_T41 l3 x34_2).f0.f1) = a1
            ·rw [if_pos c19] at H
             have c19b0 : (((rd_T41 l3 x34_2).f0.f1) == a1) = true := beq_iff_eq.mpr c19
             have c19b1 : (((rd_T41 l3 x34_2).f0.f1) != a1) = false := bne_eq_false_iff_eq.mpr c19
             clear c19
             have H' := Aside0.mk H
             clear H
             have hcz20_0 : w15.cell? ⟨gb509, 0, none⟩ = some (.int .i64 0) := (blk_cell BK509.out 0).trans rfl
             have hcz20_1 : w15.cell? ⟨gb509, 1, none⟩ = some (.int .i64 0) := (blk_cell BK509.out 1).trans rfl
             have hcz20_2 : w15.cell? ⟨gb509, 2, none⟩ = some (.string (⟨#[]⟩ : ByteArray)) := (blk_cell BK509.out 2).trans rfl
             have hfz20_0 := blk_frozen BK509.out 0
             have hfz20_1 := blk_frozen BK509.out 1
             have hfz20_2 := blk_frozen BK509.out 2
             go_wp2
             go_meet
             case rel => exact ⟨_, (decide (((rd_T41 l3 x34_2).f0.f0) < a1)), (by first | rfl | (simp; done) | (simp [*]; done)), H', ⟨by have := HJ6.out; have := HK2.out; first | omega | exact Nat.le_refl _⟩, ⟨pxp BK509⟩, ⟨pxb HB⟩⟩
            ·rw [if_neg c19] at H
             have c19b0 : (((rd_T41 l3 x34_2).f0.f1) == a1) = false := beq_eq_false_iff_ne.mpr c19
             have c19b1 : (((rd_T41 l3 x34_2).f0.f1) != a1) = true := bne_iff_ne.mpr c19
             have H' := Aside0.mk H
             clear H
             have hcz21_0 : w15.cell? ⟨gb509, 0, none⟩ = some (.int .i64 0) := (blk_cell BK509.out 0).trans rfl
             have hcz21_1 : w15.cell? ⟨gb509, 1, none⟩ = some (.int .i64 0) := (blk_cell BK509.out 1).trans rfl
             have hcz21_2 : w15.cell? ⟨gb509, 2, none⟩ = some (.string (⟨#[]⟩ : ByteArray)) := (blk_cell BK509.out 2).trans rfl
             have hfz21_0 := blk_frozen BK509.out 0
             have hfz21_1 := blk_frozen BK509.out 1
             have hfz21_2 := blk_frozen BK509.out 2
             go_wp2
             go_meet
             case rel => exact ⟨_, (false), (by first | rfl | (simp; done) | (simp [*]; done)), H', ⟨by have := HJ6.out; have := HK2.out; first | omega | exact Nat.le_refl _⟩, ⟨pxp BK509⟩, ⟨pxb HB⟩⟩
          case rest =>
           clear HC14
           (try clear c1); (try clear c2); (try clear p2); (try clear c3); (try clear p5); (try clear q5); (try clear hx5); (try clear c6); (try clear c6b0); (try clear c6b1); (try clear c9); (try clear c9b0); (try clear c10); (try clear c11); (try clear c11b0); (try clear c12); (try clear c12b0); (try clear c13); (try clear c13b0); (try clear c17); (try clear c17b0); (try clear c19); (try clear c19b0); (try clear c19b1); (try clear hcz16_0 hcz16_1 hcz16_2 hfz16_0 hfz16_1 hfz16_2); (try clear hcz18_0 hcz18_1 hcz18_2 hfz18_0 hfz18_1 hfz18_2); (try clear hcz20_0 hcz20_1 hcz20_2 hfz20_0 hfz20_1 hfz20_2); (try clear hcz21_0 hcz21_1 hcz21_2 hfz21_0 hfz21_1 hfz21_2); (try clear hx508_0); (try clear hx508_1); (try clear hx508_2); (try clear p508); (try clear q508)
           obtain ⟨kq, x38_13, rfl, HA, HJ13, BK509, HB⟩ := hcut
           cases kq with
           | zero => exact absurd HA.out (by simp [edit_Move.j2])
           | succ kj13 =>
            have H := HA.out
            clear HA
            simp only [edit_Move.j2] at H
            by_cases c22 : x38_13 = true
            ·subst c22
             have H1 : ((span_Len.f kj13 ((rd_T41 l3 x34_2).f0.f0) ((rd_T41 l3 x34_2).f0.f1)).bind fun t510 => (edit_Move.l0 kj13 a1 a2 (wrap64 (x12_2 + (wrap64 ((((rd_T41 l3 x34_2).f1).size : Int) - t510)))) l3 (l3.length : Int) (wrap64 (x34_2 + 1)))) = some (r1, r2) := by rw [if_pos rfl] at H; exact H
             clear H
             have H := H1
             clear H1
             replace H := Option.bind_eq_some_iff.mp H
             obtain ⟨t510, A230, H⟩ := H
             replace H : (edit_Move.l0 kj13 a1 a2 (wrap64 (x12_2 + (wrap64 ((((rd_T41 l3 x34_2).f1).size : Int) - t510)))) l3 (l3.length : Int) (wrap64 (x34_2 + 1))) = some (r1, r2) := H
             have A23 := Aside0.mk A230
             clear A230
             have H' := Aside0.mk H
             clear H
             try go_wp2
             have n0_ := Aside0.mk (blk_drew BK509.out)
             have n1_ := Aside0.mk (below_drew1 HB.out)
             clear BK509
             clear HB
             have BK509 := n0_
             have HB := n1_
             clear n0_ n1_
             refine start_ (n := 10) (S := fun w' => w'.cell? ⟨gb509, 0, none⟩ = some (.int .i64 ((rd_T41 l3 x34_2).f0.f0)) ∧ w'.cell? ⟨gb509, 1, none⟩ = some (.int .i64 ((rd_T41 l3 x34_2).f0.f1)) ∧ w'.cell? ⟨gb509, 2, none⟩ = some (.string ((rd_T41 l3 x34_2).f1))) (ds := []) #[false, false, false, false, false, false, false, false, false, false] (by kernel_rfl) rfl rfl ⟨(blk_cell BK509.out 0).trans rfl, (blk_cell BK509.out 1).trans rfl, (blk_cell BK509.out 2).trans rfl⟩ (fun hHeld => ?_); refine with_tabW edit_Move.tab11 edit_Move.bits11 (fun HT_ HW_ => ?_)
             generalize wc.drew = w24 at BK509 HB hHeld ⊢
             refine pS 0 58 HT_ ?_
             refine pS 1 59 HT_ ?_
             refine pS 4 62 HT_ ?_
             refine tS 2 60 HT_ HW_ hHeld ?_
             refine pS 3 61 HT_ ?_
             refine tS 5 63 HT_ HW_ hHeld ?_
             refine oS 6 HT_ (fun K hK => ?_)
             refine goes_ Try.func29 (by kernel_rfl) rfl #[.agg #[.int .i64 ((rd_T41 l3 x34_2).f0.f0), .int .i64 ((rd_T41 l3 x34_2).f0.f1)]] (by rfl) rfl rfl (by (try simp only [List.map_toArray, List.map_cons, List.map_nil]); first | done | rfl | (simp only [List.length_drop, List.length_take]; rfl)) ?_
             with_reducible refine (span_Len.calls kj13 ((rd_T41 l3 x34_2).f0.f0) ((rd_T41 l3 x34_2).f0.f1) t510 _ A23.out).mono ?_
             rintro e w25 ⟨rfl, hb⟩
             refine ⟨_, rfl, ?_⟩
             have n0_ := pxk BK509 hb
             have n1_ := pxs HB hb
             clear BK509
             clear HB
             have BK509 := n0_
             have HB := n1_
             clear n0_ n1_
             (try clear hb)
             (try clear hb2)
             (try clear hk)
             (try clear hi)
             refine hK.out _ _ ⟨(blk_cell BK509.out 0).trans rfl, (blk_cell BK509.out 1).trans rfl, (blk_cell BK509.out 2).trans rfl⟩ (fun hHeld => ?_)
             clear hK K
             refine nS 64 ?_
             refine pS 7 65 HT_ ?_
             refine pS 8 66 HT_ ?_
             refine pS 9 12 HT_ ?_
             refine done_ (done_of HT_.out (by kernel_rfl)) ?_
             try go_wp2
             go_roundg kj13
             case measure => have := HJ6.out; have := HK2.out; have := HJ13.out; omega
             case rel => exact ⟨(wrap64 (x12_2 + (wrap64 ((((rd_T41 l3 x34_2).f1).size : Int) - t510)))), (wrap64 (x34_2 + 1)), (by first | rfl | (simp; done) | (simp [*]; done)), (by first | rfl | (simp; done) | (simp [*]; done)), H', ⟨by have := HJ6.out; have := HK2.out; have := HJ13.out; omega⟩, ⟨pxb HB⟩⟩
            ·replace c22 := Bool.eq_false_iff.mpr c22
             subst c22
             have H1 : (if ((rd_T41 l3 x34_2).f0.f0) = a1 then (if ((rd_T41 l3 x34_2).f0.f1) = a1 then (edit_Move.j3 kj13 a1 a2 x12_2 l3 (l3.length : Int) x34_2 a2 ((rd_T41 l3 x34_2).f0.f0) ((rd_T41 l3 x34_2).f0.f1) ((rd_T41 l3 x34_2).f1)) else (edit_Move.j3 kj13 a1 a2 x12_2 l3 (l3.length : Int) x34_2 false ((rd_T41 l3 x34_2).f0.f0) ((rd_T41 l3 x34_2).f0.f1) ((rd_T41 l3 x34_2).f1))) else (edit_Move.j3 kj13 a1 a2 x12_2 l3 (l3.length : Int) x34_2 false ((rd_T41 l3 x34_2).f0.f0) ((rd_T41 l3 x34_2).f0.f1) ((rd_T41 l3 x34_2).f1))) = some (r1, r2) := by rw [if_neg (show ¬ (false = true) by decide)] at H; exact H
             clear H
             have H := H1
             clear H1
             have HC26 := Aside0.mk H
             clear H
             go_upto_region 12 with (fail)
             go_cut [67] (fun v67 wc => ∃ (kq : Nat) (x67_25 : Bool), v67 = .bool x67_25 ∧ Aside0 (edit_Move.j3 kq a1 a2 x12_2 l3 (l3.length : Int) x34_2 x67_25 ((rd_T41 l3 x34_2).f0.f0) ((rd_T41 l3 x34_2).f0.f1) ((rd_T41 l3 x34_2).f1) = some (r1, r2)) ∧ Aside0 (kq ≤ kj13) ∧ Aside0 (wc.heap[gb509]? = some (.cells #[.int .i64 ((rd_T41 l3 x34_2).f0.f0), .int .i64 ((rd_T41 l3 x34_2).f0.f1), .string ((rd_T41 l3 x34_2).f1)] 41 (0, 0))) ∧ Aside0 (Below w.heap.size w wc))
             case first =>
              have H := HC26.out
              clear HC26
              by_cases c27 : ((rd_T41 l3 x34_2).f0.f0) = a1
              ·rw [if_pos c27] at H
               have c27b0 : (((rd_T41 l3 x34_2).f0.f0) == a1) = true := beq_iff_eq.mpr c27
               have c27b1 : (((rd_T41 l3 x34_2).f0.f0) != a1) = false := bne_eq_false_iff_eq.mpr c27
               clear c27
               (first | rw [c27b0] | (simp only [i64_w, i32_w]; rw [c27b0]) | skip)
               by_cases c28 : ((rd_T41 l3 x34_2).f0.f1) = a1
               ·rw [if_pos c28] at H
                have c28b0 : (((rd_T41 l3 x34_2).f0.f1) == a1) = true := beq_iff_eq.mpr c28
                have c28b1 : (((rd_T41 l3 x34_2).f0.f1) != a1) = false := bne_eq_false_iff_eq.mpr c28
                clear c28
                have H' := Aside0.mk H
                clear H
                have hcz29_0 : wc.cell? ⟨gb509, 0, none⟩ = some (.int .i64 ((rd_T41 l3 x34_2).f0.f0)) := (blk_cell BK509.out 0).trans rfl
                have hcz29_1 : wc.cell? ⟨gb509, 1, none⟩ = some (.int .i64 ((rd_T41 l3 x34_2).f0.f1)) := (blk_cell BK509.out 1).trans rfl
                have hcz29_2 : wc.cell? ⟨gb509, 2, none⟩ = some (.string ((rd_T41 l3 x34_2).f1)) := (blk_cell BK509.out 2).trans rfl
                have hfz29_0 := blk_frozen BK509.out 0
                have hfz29_1 := blk_frozen BK509.out 1
                have hfz29_2 := blk_frozen BK509.out 2
                go_wp2
                go_meet
                case rel => exact ⟨_, (a2), (by first | rfl | (simp; done) | (simp [*]; done)), H', ⟨by have := HJ6.out; have := HK2.out; have := HJ13.out; first | omega | exact Nat.le_refl _⟩, ⟨pxq BK509⟩, ⟨pxb HB⟩⟩
               ·rw [if_neg c28] at H
                have c28b0 : (((rd_T41 l3 x34_2).f0.f1) == a1) = false := beq_eq_false_iff_ne.mpr c28
                have c28b1 : (((rd_T41 l3 x34_2).f0.f1) != a1) = true := bne_iff_ne.mpr c28
                have H' := Aside0.mk H
                clear H
                have hcz30_0 : wc.cell? ⟨gb509, 0, none⟩ = some (.int .i64 ((rd_T41 l3 x34_2).f0.f0)) := (blk_cell BK509.out 0).trans rfl
                have hcz30_1 : wc.cell? ⟨gb509, 1, none⟩ = some (.int .i64 ((rd_T41 l3 x34_2).f0.f1)) := (blk_cell BK509.out 1).trans rfl
                have hcz30_2 : wc.cell? ⟨gb509, 2, none⟩ = some (.string ((rd_T41 l3 x34_2).f1)) := (blk_cell BK509.out 2).trans rfl
                have hfz30_0 := blk_frozen BK509.out 0
                have hfz30_1 := blk_frozen BK509.out 1
                have hfz30_2 := blk_frozen BK509.out 2
                go_wp2
                go_meet
                case rel => exact ⟨_, (false), (by first | rfl | (simp; done) | (simp [*]; done)), H', ⟨by have := HJ6.out; have := HK2.out; have := HJ13.out; first | omega | exact Nat.le_refl _⟩, ⟨pxq BK509⟩, ⟨pxb HB⟩⟩
              ·rw [if_neg c27] at H
               have c27b0 : (((rd_T41 l3 x34_2).f0.f0) == a1) = false := beq_eq_false_iff_ne.mpr c27
               have c27b1 : (((rd_T41 l3 x34_2).f0.f0) != a1) = true := bne_iff_ne.mpr c27
               (first | rw [c27b0] | (simp only [i64_w, i32_w]; rw [c27b0]) | skip)
               have H' := Aside0.mk H
               clear H
               have hcz31_0 : wc.cell? ⟨gb509, 0, none⟩ = some (.int .i64 ((rd_T41 l3 x34_2).f0.f0)) := (blk_cell BK509.out 0).trans rfl
               have hcz31_1 : wc.cell? ⟨gb509, 1, none⟩ = some (.int .i64 ((rd_T41 l3 x34_2).f0.f1)) := (blk_cell BK509.out 1).trans rfl
               have hcz31_2 : wc.cell? ⟨gb509, 2, none⟩ = some (.string ((rd_T41 l3 x34_2).f1)) := (blk_cell BK509.out 2).trans rfl
               have hfz31_0 := blk_frozen BK509.out 0
               have hfz31_1 := blk_frozen BK509.out 1
               have hfz31_2 := blk_frozen BK509.out 2
               go_wp2
               go_meet
               case rel => exact ⟨_, (false), (by first | rfl | (simp; done) | (simp [*]; done)), H', ⟨by have := HJ6.out; have := HK2.out; have := HJ13.out; first | omega | exact Nat.le_refl _⟩, ⟨pxq BK509⟩, ⟨pxb HB⟩⟩
             case rest =>
              clear HC26
              (try clear c1); (try clear c2); (try clear p2); (try clear c3); (try clear p5); (try clear q5); (try clear hx5); (try clear c6); (try clear c6b0); (try clear c6b1); (try clear p6); (try clear c9); (try clear c9b0); (try clear c10); (try clear c11); (try clear c11b0); (try clear c12); (try clear c12b0); (try clear c13); (try clear c13b0); (try clear c17); (try clear c17b0); (try clear c19); (try clear c19b0); (try clear c19b1); (try clear c22); (try clear c24); (try clear c27); (try clear c27b0); (try clear c27b1); (try clear c28); (try clear c28b0); (try clear c28b1); (try clear c29); (try clear hcz16_0 hcz16_1 hcz16_2 hfz16_0 hfz16_1 hfz16_2); (try clear hcz18_0 hcz18_1 hcz18_2 hfz18_0 hfz18_1 hfz18_2); (try clear hcz20_0 hcz20_1 hcz20_2 hfz20_0 hfz20_1 hfz20_2); (try clear hcz21_0 hcz21_1 hcz21_2 hfz21_0 hfz21_1 hfz21_2); (try clear hcz29_0 hcz29_1 hcz29_2 hfz29_0 hfz29_1 hfz29_2); (try clear hcz30_0 hcz30_1 hcz30_2 hfz30_0 hfz30_1 hfz30_2); (try clear hcz31_0 hcz31_1 hcz31_2 hfz31_0 hfz31_1 hfz31_2); (try clear hx508_0); (try clear hx508_1); (try clear hx508_2); (try clear p508); (try clear q508)
              obtain ⟨kq, x67_25, rfl, HA, HJ25, BK509, HB⟩ := hcut
              cases kq with
              | zero => exact absurd HA.out (by simp [edit_Move.j3])
              | succ kj25 =>
               have H := HA.out
               clear HA
               simp only [edit_Move.j3] at H
               by_cases c32 : x67_25 = true
               ·subst c32
                have H1 : (edit_Move.l0 kj25 a1 a2 (wrap64 (x12_2 + (((rd_T41 l3 x34_2).f1).size : Int))) l3 (l3.length : Int) (wrap64 (x34_2 + 1))) = some (r1, r2) := by rw [if_pos rfl] at H; exact H
                clear H
                have H := H1
                clear H1
                have H' := Aside0.mk H
                clear H
                have hcz33_0 : wc.cell? ⟨gb509, 0, none⟩ = some (.int .i64 ((rd_T41 l3 x34_2).f0.f0)) := (blk_cell BK509.out 0).trans rfl
                have hcz33_1 : wc.cell? ⟨gb509, 1, none⟩ = some (.int .i64 ((rd_T41 l3 x34_2).f0.f1)) := (blk_cell BK509.out 1).trans rfl
                have hcz33_2 : wc.cell? ⟨gb509, 2, none⟩ = some (.string ((rd_T41 l3 x34_2).f1)) := (blk_cell BK509.out 2).trans rfl
                have hfz33_0 := blk_frozen BK509.out 0
                have hfz33_1 := blk_frozen BK509.out 1
                have hfz33_2 := blk_frozen BK509.out 2
                go_wp2
                go_roundg kj25
                case measure => have := HJ6.out; have := HK2.out; have := HJ13.out; have := HJ25.out; omega
                case rel => exact ⟨(wrap64 (x12_2 + (((rd_T41 l3 x34_2).f1).size : Int))), (wrap64 (x34_2 + 1)), (by first | rfl | (simp; done) | (simp [*]; done)), (by first | rfl | (simp; done) | (simp [*]; done)), H', ⟨by have := HJ6.out; have := HK2.out; have := HJ13.out; have := HJ25.out; omega⟩, ⟨pxb HB⟩⟩
               ·replace c32 := Bool.eq_false_iff.mpr c32
                subst c32
                have H1 : (if ((rd_T41 l3 x34_2).f0.f0) < a1 then (if a1 < ((rd_T41 l3 x34_2).f0.f1) then (some (wrap64 (((rd_T41 l3 x34_2).f0.f0) + x12_2), 0)) else (edit_Move.l0 kj25 a1 a2 x12_2 l3 (l3.length : Int) (wrap64 (x34_2 + 1)))) else (edit_Move.l0 kj25 a1 a2 x12_2 l3 (l3.length : Int) (wrap64 (x34_2 + 1)))) = some (r1, r2) := by rw [if_neg (show ¬ (false = true) by decide)] at H; exact H
                clear H
                have H := H1
                clear H1
                by_cases c34 : ((rd_T41 l3 x34_2).f0.f0) < a1
                ·rw [if_pos c34] at H
                 have c34b0 : decide (((rd_T41 l3 x34_2).f0.f0) < a1) = true := decide_eq_true c34
                 clear c34
                 by_cases c35 : a1 < ((rd_T41 l3 x34_2).f0.f1)
                 ·rw [if_pos c35] at H
                  have c35b0 : decide (a1 < ((rd_T41 l3 x34_2).f0.f1)) = true := decide_eq_true c35
                  clear c35
                  simp only [Option.some.injEq, Prod.mk.injEq] at H
                  obtain ⟨rfl, rfl⟩ := H
                  have hcz36_0 : wc.cell? ⟨gb509, 0, none⟩ = some (.int .i64 ((rd_T41 l3 x34_2).f0.f0)) := (blk_cell BK509.out 0).trans rfl
                  have hcz36_1 : wc.cell? ⟨gb509, 1, none⟩ = some (.int .i64 ((rd_T41 l3 x34_2).f0.f1)) := (blk_cell BK509.out 1).trans rfl
                  have hcz36_2 : wc.cell? ⟨gb509, 2, none⟩ = some (.string ((rd_T41 l3 x34_2).f1)) := (blk_cell BK509.out 2).trans rfl
                  have hfz36_0 := blk_frozen BK509.out 0
                  have hfz36_1 := blk_frozen BK509.out 1
                  have hfz36_2 := blk_frozen BK509.out 2
                  go_wp2
                  go_ret2
                  exact ⟨by first | rfl | (simp [errW_none, errW_some] <;> rfl) | (simp [*, errW_none, errW_some] <;> rfl), pxb HB⟩
                 ·rw [if_neg c35] at H
                  have c35b0 : decide (a1 < ((rd_T41 l3 x34_2).f0.f1)) = false := decide_eq_false c35
                  clear c35
                  have H' := Aside0.mk H
                  clear H
                  have hcz37_0 : wc.cell? ⟨gb509, 0, none⟩ = some (.int .i64 ((rd_T41 l3 x34_2).f0.f0)) := (blk_cell BK509.out 0).trans rfl
                  have hcz37_1 : wc.cell? ⟨gb509, 1, none⟩ = some (.int .i64 ((rd_T41 l3 x34_2).f0.f1)) := (blk_cell BK509.out 1).trans rfl
                  have hcz37_2 : wc.cell? ⟨gb509, 2, none⟩ = some (.string ((rd_T41 l3 x34_2).f1)) := (blk_cell BK509.out 2).trans rfl
                  have hfz37_0 := blk_frozen BK509.out 0
                  have hfz37_1 := blk_frozen BK509.out 1
                  have hfz37_2 := blk_frozen BK509.out 2
                  go_wp2
                  go_roundg kj25
                  case measure => have := HJ6.out; have := HK2.out; have := HJ13.out; have := HJ25.out; omega
                  case rel => exact ⟨(x12_2), (wrap64 (x34_2 + 1)), (by first | rfl | (simp; done) | (simp [*]; done)), (by first | rfl | (simp; done) | (simp [*]; done)), H', ⟨by have := HJ6.out; have := HK2.out; have := HJ13.out; have := HJ25.out; omega⟩, ⟨pxb HB⟩⟩
                ·rw [if_neg c34] at H
                 have c34b0 : decide (((rd_T41 l3 x34_2).f0.f0) < a1) = false := decide_eq_false c34
                 clear c34
                 have H' := Aside0.mk H
                 clear H
                 have hcz38_0 : wc.cell? ⟨gb509, 0, none⟩ = some (.int .i64 ((rd_T41 l3 x34_2).f0.f0)) := (blk_cell BK509.out 0).trans rfl
                 have hcz38_1 : wc.cell? ⟨gb509, 1, none⟩ = some (.int .i64 ((rd_T41 l3 x34_2).f0.f1)) := (blk_cell BK509.out 1).trans rfl
                 have hcz38_2 : wc.cell? ⟨gb509, 2, none⟩ = some (.string ((rd_T41 l3 x34_2).f1)) := (blk_cell BK509.out 2).trans rfl
                 have hfz38_0 := blk_frozen BK509.out 0
                 have hfz38_1 := blk_frozen BK509.out 1
                 have hfz38_2 := blk_frozen BK509.out 2
                 go_wp2
                 go_roundg kj25
                 case measure => have := HJ6.out; have := HK2.out; have := HJ13.out; have := HJ25.out; omega
                 case rel => exact ⟨(x12_2), (wrap64 (x34_2 + 1)), (by first | rfl | (simp; done) | (simp [*]; done)), (by first | rfl | (simp; done) | (simp [*]; done)), H', ⟨by have := HJ6.out; have := HK2.out; have := HJ13.out; have := HJ25.out; omega⟩, ⟨pxb HB⟩⟩
         ·rw [if_neg c13] at H
          exact absurd H (by simp)
        ·rw [if_neg c12] at H
         exact absurd H (by simp)
       ·rw [if_neg c11] at H
        have c11b0 : decide (x34_2 < (l3.length : Int)) = false := decide_eq_false c11
        clear c11
        simp only [Option.some.injEq, Prod.mk.injEq] at H
        obtain ⟨rfl, rfl⟩ := H
        go_wp2
        go_ret2
        exact ⟨by first | rfl | (simp [errW_none, errW_some] <;> rfl) | (simp [*, errW_none, errW_some] <;> rfl), pxb HB⟩
 ·rw [if_neg c6] at H
  have c6b0 : (t507 == 0) = false := beq_eq_false_iff_ne.mpr c6
  have c6b1 : (t507 != 0) = true := bne_iff_ne.mpr c6
  simp only [Option.some.injEq, Prod.mk.injEq] at H
  obtain ⟨rfl, rfl⟩ := H
  go_enter Try.func24, Try.ntmps24
  go_wp2_with (first | ((with_reducible refine gate_callee (f := 22) rfl ?_); refine goesL_ (some 18) rfl rfl Try.func22 (by kernel_rfl) rfl #[.string a0, .slice A3 l3.length c3] rfl (by (try simp only [List.map_toArray, List.map_cons, List.map_nil]); first | done | rfl | (simp only [List.length_drop, List.length_take]; rfl)) ?_; (with_reducible refine (edit_Apply.calls k a0 _ _ l3 t506 t507 _ ?side1 ?side2 A5.out).mono ?_); (case side1 => repeat (first | exact HR3.out | (with_reducible refine Kd.C_alloc ?_ _) | (with_reducible refine Kd.C_drewN ?_ _) | (with_reducible refine Kd.C_drew ?_))); (case side2 => exact HC3.out); rintro e w39 ⟨rfl, hb⟩; refine ⟨_, rfl, ?_⟩; replace HB := pxs HB hb; (try clear hb); (try clear hb2); (try clear hk); (try clear hi)))
  go_ret2
  exact ⟨by first | rfl | (simp [errW_none, errW_some] <;> rfl) | (simp [*, errW_none, errW_some] <;> rfl), pxb HB⟩

end Go.Proofs.Ytoljmjhmieaggaa.X
