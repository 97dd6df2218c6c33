/- What the program's functions answer, as Lean functions, and that each call does just that; no condition. Written by a program (px.py) out of the translation. -/
import Derived.Test.YtoljmjhmieaggaaM2
import Derived.Test.YtoljmjhmieaggaaX29
import Derived.Test.YtoljmjhmieaggaaX22
import Derived.Test.YtoljmjhmieaggaaM5
namespace Go.Proofs.Ytoljmjhmieaggaa.X
open Go.RowKit Go.Proofs.YtoljmjhmieaggaaW.PrintWords Go.Proofs.YtoljmjhmieaggaaW.PrintLast Go.Proofs.YtoljmjhmieaggaaW.PrintMore
attribute [local go_sem] max2_int min2_int max_two min_two max_three min_three max_four min_four   -- for this text's walks alone
set_option linter.unusedVariables false
set_option linter.unusedSimpArgs false

/-! ### edit_Invert: function 23 -/
def edit_Invert.l0 : Nat → ByteArray → List (S41) → Int → List (S41) → Int → Int → Option ((List (S41)) × Int)
 | 0, _, _, _, _, _, _ => none
 | k + 1, x0, x8, x9, x22, x23, x24 => if x24 < x23 then (if 0 ≤ x24 then (if x24 < (x22.length : Int) then (if 0 ≤ ((rd_T41 x22 x24).f0.f0) then (if ((rd_T41 x22 x24).f0.f0) ≤ ((rd_T41 x22 x24).f0.f1) then (if ((rd_T41 x22 x24).f0.f1) ≤ (x0.size : Int) then (if x8.length < 4398046511104 then ((span_Len.f k ((rd_T41 x22 x24).f0.f0) ((rd_T41 x22 x24).f0.f1)).bind fun t505 => (edit_Invert.l0 k x0 (x8 ++ [(⟨(⟨wrap64 (((rd_T41 x22 x24).f0.f0) + x9), wrap64 ((wrap64 (((rd_T41 x22 x24).f0.f0) + x9)) + (((rd_T41 x22 x24).f1).size : Int))⟩ : S39), x0.extract (((rd_T41 x22 x24).f0.f0) : Int).toNat (((rd_T41 x22 x24).f0.f1) : Int).toNat⟩ : S41)]) (wrap64 (x9 + (wrap64 ((((rd_T41 x22 x24).f1).size : Int) - t505)))) x22 x23 (wrap64 (x24 + 1)))) else (none)) else (none)) else (none)) else (none)) else (none)) else (none)) else (some (x8, 0))
def edit_Invert.f (k : Nat) (a0 : ByteArray) (l1 : List (S41)) : Option ((List (S41)) × Int) := (edit_Apply.f k a0 l1).bind fun bt498 => (if bt498.2 = 0 then (edit_Invert.l0 k a0 ([] : List (S41)) 0 l1 (l1.length : Int) 0) else (some (([] : List (S41)), bt498.2)))
theorem edit_Invert.mono_l : ∀ k, (∀ y0 y1 y2 y3 y4 y5, LeO (edit_Invert.l0 k y0 y1 y2 y3 y4 y5) (edit_Invert.l0 (k + 1) y0 y1 y2 y3 y4 y5))
 | 0 => fun _ _ _ _ _ _ r h => by simp [edit_Invert.l0] at h
 | k + 1 => by
  have ih0 := edit_Invert.mono_l k
  ·intro y0 y1 y2 y3 y4 y5
   unfold edit_Invert.l0
   repeat' first
   | (with_reducible exact ih0 _ _ _ _ _ _)
   | (with_reducible exact edit_Apply.mono _ _ _)
   | (with_reducible exact span_Len.mono _ _ _)
   | (with_reducible exact LeO.refl _)
   | (with_reducible exact LeO.none _)
   | (with_reducible refine LeO.ite ?_ ?_)
   | (with_reducible refine LeO.bind ?_ (fun _ => ?_))
   | exact ih0 _ _ _ _ _ _
   | exact edit_Apply.mono _ _ _
   | exact span_Len.mono _ _ _
   | exact LeO.none _
   | refine LeO.ite ?_ ?_
   | refine LeO.bind ?_ (fun _ => ?_)
theorem edit_Invert.mono : ∀ a0 a1 k, LeO (edit_Invert.f k a0 a1) (edit_Invert.f (k + 1) a0 a1) := by
 intro a0 a1 k
 have ih0 := edit_Invert.mono_l k
 unfold edit_Invert.f
 repeat' first
   | (with_reducible exact ih0 _ _ _ _ _ _)
   | (with_reducible exact edit_Apply.mono _ _ _)
   | (with_reducible exact span_Len.mono _ _ _)
   | (with_reducible exact LeO.refl _)
   | (with_reducible exact LeO.none _)
   | (with_reducible refine LeO.ite ?_ ?_)
   | (with_reducible refine LeO.bind ?_ (fun _ => ?_))
   | exact ih0 _ _ _ _ _ _
   | exact edit_Apply.mono _ _ _
   | exact span_Len.mono _ _ _
   | exact LeO.none _
   | refine LeO.ite ?_ ?_
   | refine LeO.bind ?_ (fun _ => ?_)
def edit_Invert.T10 : Bool × List (List Nat × List Nat) := (true, [([], []), ([], []), ([], []), ([], []), ([3], [3]), ([4], [4]), ([2, 5], [2, 5]), ([1, 6], [1, 6]), ([], []), ([], []), ([9], [9]), ([10], [10]), ([], []), ([12], [12]), ([13], [13]), ([8, 11, 14], [8, 11, 14]), ([7, 15], [7, 15]), ([16], [16]), ([0, 17], [0, 17]), ([18, 18, 0, 1, 2, 3, 4, 5, 6, 7, 8, 9, 10, 11, 12, 13, 14, 15, 16, 17, 18], [0, 18])])
def edit_Invert.B10 : List Nat := [0, 0, 0, 0, 8, 24, 60, 126, 0, 0, 512, 1536, 0, 4096, 12288, 32512, 65534, 131070, 262143, 524287]
theorem edit_Invert.tab10 : rtab .any (opsOf Try.f23 10) = edit_Invert.T10 := by kernel_rfl
theorem edit_Invert.bits10 : waitsOk edit_Invert.T10.2 edit_Invert.B10 = true := by kernel_rfl
def edit_Invert.T11 : Bool × List (List Nat × List Nat) := (true, [([], []), ([], []), ([1], [1]), ([2], [2]), ([], []), ([4], [4]), ([5], [5]), ([3, 6], [3, 6]), ([0, 7], [0, 7]), ([8, 6, 0, 1, 2, 3, 4, 5, 6, 7, 8], [0, 8])])
def edit_Invert.B11 : List Nat := [0, 0, 2, 6, 0, 16, 48, 126, 255, 511]
theorem edit_Invert.tab11 : rtab .any (opsOf Try.f23 11) = edit_Invert.T11 := by kernel_rfl
theorem edit_Invert.bits11 : waitsOk edit_Invert.T11.2 edit_Invert.B11 = true := by kernel_rfl
set_option maxHeartbeats 8000000 in
set_option maxRecDepth 100000 in
theorem edit_Invert.calls (k : Nat) (a0 : ByteArray) (A1 : Option Addr) (c1 : Nat) (l1 : List (S41)) (r1 : List (S41)) (r2 : Int) (w : World) (hr1 : Kd.C k41 w A1 l1.length l1) (hc1 : l1.length ≤ c1) (h : edit_Invert.f k a0 l1 = some (r1, r2)) :
  Calls Try.prog 23 #[.string a0, .slice A1 l1.length c1] w fun e w' => ∃ v0_ : Value, e = .returned (.tuple #[v0_, .int .i64 r2]) ∧ Kd.R k41 41 w' w.heap.size (fun _ => True) v0_ r1 ∧ Below w.heap.size w w' := by
 have hu41 := Try.underlying41
 have hu39 := Try.underlying39
 have HR1 := Aside0.mk hr1
 have HC1 := Aside0.mk hc1
 clear hr1 hc1
 have HB := Aside0.mk (Below.refl w.heap.size w)
 have H : ((edit_Apply.f k a0 l1).bind fun bt498 => (if bt498.2 = 0 then (edit_Invert.l0 k a0 ([] : List (S41)) 0 l1 (l1.length : Int) 0) else (some (([] : List (S41)), bt498.2)))) = some (r1, r2) := h
 clear h
 replace H := Option.bind_eq_some_iff.mp H
 obtain ⟨⟨t498, t499⟩, A30, H⟩ := H
 replace H : (if t499 = 0 then (edit_Invert.l0 k a0 ([] : List (S41)) 0 l1 (l1.length : Int) 0) else (some (([] : List (S41)), t499))) = some (r1, r2) := H
 have A3 := Aside0.mk A30
 clear A30
 by_cases c4 : t499 = 0
 ·rw [if_pos c4] at H
  have c4b0 : (t499 == 0) = true := beq_iff_eq.mpr c4
  have c4b1 : (t499 != 0) = false := bne_eq_false_iff_eq.mpr c4
  clear c4
  have H' := Aside0.mk H
  clear H
  go_enter Try.func23, Try.ntmps23
  go_wp2_with (first | ((with_reducible refine gate_callee (f := 22) rfl ?_); refine goesL_ (some 16) rfl rfl Try.func22 (by kernel_rfl) rfl #[.string a0, .slice A1 l1.length c1] rfl (by (try simp only [List.map_toArray, List.map_cons, List.map_nil]); first | done | rfl | (simp only [List.length_drop, List.length_take]; rfl)) ?_; (with_reducible refine (edit_Apply.calls k a0 _ _ l1 t498 t499 _ ?side1 ?side2 A3.out).mono ?_); (case side1 => repeat (first | exact HR1.out | (with_reducible refine Kd.C_alloc ?_ _) | (with_reducible refine Kd.C_drewN ?_ _) | (with_reducible refine Kd.C_drew ?_))); (case side2 => exact HC1.out); rintro e w5 ⟨rfl, hb⟩; refine ⟨_, rfl, ?_⟩; replace HB := pxs HB hb; (try clear hb); (try clear hb2); (try clear hk); (try clear hi)))
  go_loopg [8, 9, 24] k (fun kq v8 v9 v24 w' => ∃ (x8_1 : List (S41)) (x9_1 : Int) (x24_1 : Int), v9 = .int .i64 x9_1 ∧ v24 = .int .i64 x24_1 ∧ Aside0 (edit_Invert.l0 kq a0 x8_1 x9_1 l1 (l1.length : Int) x24_1 = some (r1, r2)) ∧ Aside0 (kq ≤ k) ∧ Aside0 (Kd.R k41 41 w' w.heap.size (fun _ => True) v8 x8_1) ∧ Aside0 (Below w.heap.size w w'))
  case atStart => exact ⟨(([] : List (S41))), (0), (0), (by first | rfl | (simp; done) | (simp [*]; done)), (by first | rfl | (simp; done) | (simp [*]; done)), H', ⟨Nat.le_refl _⟩, ⟨by first | exact Kd.R_nil _ _ _ _ _ | exact Kd.N_nil _ _ _ _ _ | exact Kd.V_nil _ _ _ _ _ | exact Kd.Q_nil _ _ _ _ _ | exact Kd.S_nil _ _ _ _ _⟩, ⟨pxb HB⟩⟩
  case round =>
   clear H'
   (try clear c1); (try clear c2); (try clear p2); (try clear c4); (try clear c4b0); (try clear c4b1)
   obtain ⟨x8_1, x9_1, x24_1, rfl, rfl, HA, HK1, HO_8, HB⟩ := hrel
   cases gk with
   | zero => exact absurd HA.out (by simp [edit_Invert.l0])
   | succ k1 =>
    have H := HA.out
    clear HA
    simp only [edit_Invert.l0] at H
    by_cases c6 : x24_1 < (l1.length : Int)
    ·rw [if_pos c6] at H
     have c6b0 : decide (x24_1 < (l1.length : Int)) = true := decide_eq_true c6
     clear c6
     by_cases c7 : 0 ≤ x24_1
     ·rw [if_pos c7] at H
      have c7b0 : decide (0 ≤ x24_1) = true := decide_eq_true c7
      clear c7
      by_cases c8 : x24_1 < (l1.length : Int)
      ·rw [if_pos c8] at H
       have c8b0 : decide (x24_1 < (l1.length : Int)) = true := decide_eq_true c8
       clear c8
       by_cases c9 : 0 ≤ ((rd_T41 l1 x24_1).f0.f0)
       ·rw [if_pos c9] at H
        have c9b0 := eq_true c9
        have c9b1 : decide (0 ≤ ((rd_T41 l1 x24_1).f0.f0)) = true := decide_eq_true c9
        clear c9
        by_cases c10 : ((rd_T41 l1 x24_1).f0.f0) ≤ ((rd_T41 l1 x24_1).f0.f1)
        ·rw [if_pos c10] at H
         have c10b0 := eq_true c10
         have c10b1 : decide (((rd_T41 l1 x24_1).f0.f0) ≤ ((rd_T41 l1 x24_1).f0.f1)) = true := decide_eq_true c10
         clear c10
         by_cases c11 : ((rd_T41 l1 x24_1).f0.f1) ≤ (a0.size : Int)
         ·rw [if_pos c11] at H
          have c11b0 := eq_true c11
          have c11b1 : decide (((rd_T41 l1 x24_1).f0.f1) ≤ (a0.size : Int)) = true := decide_eq_true c11
          clear c11
          by_cases c12 : x8_1.length < 4398046511104
          ·rw [if_pos c12] at H
           have LMc12 := Aside0.mk c12
           clear c12
           obtain ⟨y502, hy502⟩ : ∃ y_ : List (S41), y_ = (x8_1 ++ [(⟨(⟨wrap64 (((rd_T41 l1 x24_1).f0.f0) + x9_1), wrap64 ((wrap64 (((rd_T41 l1 x24_1).f0.f0) + x9_1)) + (((rd_T41 l1 x24_1).f1).size : Int))⟩ : S39), a0.extract (((rd_T41 l1 x24_1).f0.f0) : Int).toNat (((rd_T41 l1 x24_1).f0.f1) : Int).toNat⟩ : S41)]) := ⟨_, rfl⟩
           replace H : ((span_Len.f k1 ((rd_T41 l1 x24_1).f0.f0) ((rd_T41 l1 x24_1).f0.f1)).bind fun t505 => (edit_Invert.l0 k1 a0 y502 (wrap64 (x9_1 + (wrap64 ((((rd_T41 l1 x24_1).f1).size : Int) - t505)))) l1 (l1.length : Int) (wrap64 (x24_1 + 1)))) = some (r1, r2) := by first | (rw [hy502]; with_reducible exact H) | (have H2_ := (Option.bind_some _ _).symm.trans H; rw [hy502]; with_reducible exact H2_) | (have H2_ := (Option.bind_some _ _).symm.trans H; with_reducible exact H2_) | with_reducible exact H | (rw [hy502]; exact H) | exact H
           have Ny502 := Aside0.mk hy502
           clear hy502
           replace H := Option.bind_eq_some_iff.mp H
           obtain ⟨t505, A130, H⟩ := H
           replace H : (edit_Invert.l0 k1 a0 y502 (wrap64 (x9_1 + (wrap64 ((((rd_T41 l1 x24_1).f1).size : Int) - t505)))) l1 (l1.length : Int) (wrap64 (x24_1 + 1))) = some (r1, r2) := H
           have A13 := Aside0.mk A130
           clear A130
           have H' := Aside0.mk H
           clear H
           have p500 : 0 ≤ (x24_1 : Int) := pxd
           have q500 : x24_1 < (l1.length : Int) := pxd
           obtain ⟨ad500, e500, hx500_0, hx500_1, hx500_2⟩ := at_T41 HR1.out x24_1 p500 q500
           cases e500
           replace hx500_0 := (HB.out.cell (World.block_lt_of_cell? w _ hx500_0)).trans hx500_0
           replace hx500_1 := (HB.out.cell (World.block_lt_of_cell? w _ hx500_1)).trans hx500_1
           replace hx500_2 := (HB.out.cell (World.block_lt_of_cell? w _ hx500_2)).trans hx500_2
           replace p500 := eq_true p500
           replace q500 := eq_true q500
           try go_wp2_with (first | ((with_reducible refine gate_dst (N := 11) rfl ?_); refine box_event ?hg (N := 11) ?hd (cs := #[.int .i64 0, .int .i64 0, .string (⟨#[]⟩ : ByteArray)]) (t := 41) ?hr ?_; (case hd => rfl); (case hg => rfl); (case hr => first | (go_simp; done) | (go_simp; rfl)); intro gb501 hg w14 hbox hb; have BK501 := Aside0.mk (hbox); have GW501 := pxw HB hg; have GE501 := pxw HB hg; replace HO_8 := Aside0.mk (Kd.R_below (Kd.R_elderB (pxr HO_8) gb501 (Nat.le_of_eq hg.symm)) hb); replace HB := pxs HB hb; clear hb hbox hg; obtain ⟨hcz15_0, hcz15_1, hcz15_2, hfz15_0, hfz15_1, hfz15_2⟩ := pxf3 BK501))
           have n0_ : Aside0 (Kd.R k41 41 (((w14.setCell ⟨gb501, 0, none⟩ (.int .i64 ((rd_T41 l1 x24_1).f0.f0))).setCell ⟨gb501, 1, none⟩ (.int .i64 ((rd_T41 l1 x24_1).f0.f1))).setCell ⟨gb501, 2, none⟩ (.string ((rd_T41 l1 x24_1).f1))) w.heap.size (fun k_ => k_ ≠ gb501) u8 x8_1) := ⟨by (with_reducible repeat (first | apply Kd.R_alloc | apply Kd.R_drewN | apply Kd.R_drew)); exact Kd.R_mono (Kd.R_far (p := ⟨gb501, 2, none⟩) (Kd.R_far (p := ⟨gb501, 1, none⟩) (Kd.R_far (p := ⟨gb501, 0, none⟩) (Kd.R_mono HO_8.out (fun k_ hk => (⟨hk, hk.2⟩ : _ ∧ k_ ≠ gb501))) (fun _ hk => hk.2) (.int .i64 ((rd_T41 l1 x24_1).f0.f0))) (fun _ hk => hk.2) (.int .i64 ((rd_T41 l1 x24_1).f0.f1))) (fun _ hk => hk.2) (.string ((rd_T41 l1 x24_1).f1))) (fun _ hk => hk.1.2)⟩
           have n1_ : Aside0 ((((w14.setCell ⟨gb501, 0, none⟩ (.int .i64 ((rd_T41 l1 x24_1).f0.f0))).setCell ⟨gb501, 1, none⟩ (.int .i64 ((rd_T41 l1 x24_1).f0.f1))).setCell ⟨gb501, 2, none⟩ (.string ((rd_T41 l1 x24_1).f1))).heap[gb501]? = some (.cells #[.int .i64 ((rd_T41 l1 x24_1).f0.f0), .int .i64 ((rd_T41 l1 x24_1).f0.f1), .string ((rd_T41 l1 x24_1).f1)] 41 (0, 0))) := ⟨pxp BK501⟩
           have n2_ : Aside0 (Below w.heap.size w (((w14.setCell ⟨gb501, 0, none⟩ (.int .i64 ((rd_T41 l1 x24_1).f0.f0))).setCell ⟨gb501, 1, none⟩ (.int .i64 ((rd_T41 l1 x24_1).f0.f1))).setCell ⟨gb501, 2, none⟩ (.string ((rd_T41 l1 x24_1).f1)))) := ⟨pxb HB⟩
           (try clear HO_8)
           (try clear BK501)
           (try clear HB)
           generalize (((w14.setCell ⟨gb501, 0, none⟩ (.int .i64 ((rd_T41 l1 x24_1).f0.f0))).setCell ⟨gb501, 1, none⟩ (.int .i64 ((rd_T41 l1 x24_1).f0.f1))).setCell ⟨gb501, 2, none⟩ (.string ((rd_T41 l1 x24_1).f1))) = w16 at n0_ n1_ n2_ ⊢
           have HO_8 := n0_
           have BK501 := n1_
           have HB := n2_
           clear n0_ n1_ n2_
           have n0_ := Aside0.mk (Kd.R_drew HO_8.out)
           have n1_ := Aside0.mk (blk_drew BK501.out)
           have n2_ := Aside0.mk (below_drew1 HB.out)
           clear HO_8
           clear BK501
           clear HB
           have HO_8 := n0_
           have BK501 := n1_
           have HB := n2_
           clear n0_ n1_ n2_
           refine start_ (n := 20) (S := fun w' => w'.cell? ⟨gb501, 0, none⟩ = some (.int .i64 ((rd_T41 l1 x24_1).f0.f0)) ∧ w'.cell? ⟨gb501, 1, none⟩ = some (.int .i64 ((rd_T41 l1 x24_1).f0.f1)) ∧ w'.cell? ⟨gb501, 2, none⟩ = some (.string ((rd_T41 l1 x24_1).f1))) (ds := []) #[false, false, false, false, false, false, false, false, false, false, false, false, false, false, false, false, false, false, false, false] (by kernel_rfl) rfl rfl ⟨(blk_cell BK501.out 0).trans rfl, (blk_cell BK501.out 1).trans rfl, (blk_cell BK501.out 2).trans rfl⟩ (fun hHeld => ?_); refine with_tabW edit_Invert.tab10 edit_Invert.bits10 (fun HT_ HW_ => ?_)
           generalize w16.drew = w17 at HO_8 BK501 HB hHeld ⊢
           refine pS 0 33 HT_ ?_
           refine pS 1 34 HT_ ?_
           refine pS 2 35 HT_ ?_
           refine pS 3 36 HT_ ?_
           refine pS 8 41 HT_ ?_
           refine pS 9 42 HT_ ?_
           refine pS 10 43 HT_ ?_
           refine pS 12 45 HT_ ?_
           refine pS 13 46 HT_ ?_
           refine tS 4 37 HT_ HW_ hHeld ?_
           refine pS 5 38 HT_ ?_
           refine pS 6 39 HT_ ?_
           refine pS 7 40 HT_ ?_
           refine tS 11 44 HT_ HW_ hHeld ?_
           refine tS 14 47 HT_ HW_ hHeld ?_
           refine pS 15 48 HT_ ?_
           refine pS 16 49 HT_ ?_
           refine oS 17 HT_ (fun K hK => ?_)
           refine value_ (w1 := ?_) (v := ?_) (by rfl) rfl ?_ ?_
           rotate_left 2
           ·go_simp
            constructor
            ·rfl
            ·rfl
           refine hK.out _ _ ⟨(blk_cell (blk_alloc BK501.out _) 0).trans rfl, (blk_cell (blk_alloc BK501.out _) 1).trans rfl, (blk_cell (blk_alloc BK501.out _) 2).trans rfl⟩ (fun hHeld => ?_)
           clear hK K
           refine nS 50 ?_
           refine oS 18 HT_ (fun K hK => ?_)
           refine Kd.R_append_step k41 (w0 := w) w.heap.size (by rfl) (.tmp 33) (.tmp 50) 23 41 (.agg #[(.int .i64 0), (.int .i64 0), (.string ⟨#[]⟩)]) 32 rfl Try.underlying23 info41 rfl (by decide) (by omega) u8 x8_1 (⟨(⟨wrap64 (((rd_T41 l1 x24_1).f0.f0) + x9_1), wrap64 ((wrap64 (((rd_T41 l1 x24_1).f0.f0) + x9_1)) + (((rd_T41 l1 x24_1).f1).size : Int))⟩ : S39), a0.extract (((rd_T41 l1 x24_1).f0.f0) : Int).toNat (((rd_T41 l1 x24_1).f0.f1) : Int).toNat⟩ : S41) [.int .i64 (wrap64 (((rd_T41 l1 x24_1).f0.f0) + x9_1)), .int .i64 (wrap64 ((wrap64 (((rd_T41 l1 x24_1).f0.f0) + x9_1)) + (((rd_T41 l1 x24_1).f1).size : Int))), .string (a0.extract (((rd_T41 l1 x24_1).f0.f0) : Int).toNat (((rd_T41 l1 x24_1).f0.f1) : Int).toNat)] (fun k_ => k_ ≠ gb501) (fun _ => False) rfl rfl ?aP (fun _ hk => hk.elim) ?aF ?aO ?aB ?aS ?aL ?_
           (case aP => exact k41_mkM _ _ _ (⟨(⟨wrap64 (((rd_T41 l1 x24_1).f0.f0) + x9_1), wrap64 ((wrap64 (((rd_T41 l1 x24_1).f0.f0) + x9_1)) + (((rd_T41 l1 x24_1).f1).size : Int))⟩ : S39), a0.extract (((rd_T41 l1 x24_1).f0.f0) : Int).toNat (((rd_T41 l1 x24_1).f0.f1) : Int).toNat⟩ : S41))
           (case aB => exact (pxb HB))
           (case aF => exact (fun k_ hk => Kd.freshB (g := gb501) (o := .cells #[.int .i64 ((rd_T41 l1 x24_1).f0.f0), .int .i64 ((rd_T41 l1 x24_1).f0.f1), .string ((rd_T41 l1 x24_1).f1)] 41 (0, 0)) (pxq BK501) k_ hk))
           (case aO => exact (pxr HO_8))
           (case aS => exact (below_size (pxb HB)))
           (case aL => have := LMc12.out; omega)
           intro v503 w18 ho hb hg hat
           rw [← Ny502.out] at ho
           have n0_ := Aside0.mk (blk_grown (g := gb501) (o := .cells #[.int .i64 ((rd_T41 l1 x24_1).f0.f0), .int .i64 ((rd_T41 l1 x24_1).f0.f1), .string ((rd_T41 l1 x24_1).f1)] 41 (0, 0)) (pxq BK501) hg (Kd.R_away HO_8.out (fun _ hk => hk)))
           have n1_ := Aside0.mk (hb)
           have n2_ := Aside0.mk (ho)
           clear BK501
           clear HB
           clear HO_8
           have BK501 := n0_
           have HB := n1_
           have HO504 := n2_
           clear n0_ n1_ n2_
           clear ho hb hg hat
           refine hK.out _ _ ⟨(blk_cell BK501.out 0).trans rfl, (blk_cell BK501.out 1).trans rfl, (blk_cell BK501.out 2).trans rfl⟩ (fun hHeld => ?_)
           clear hK K
           refine nS 51 ?_
           refine pS 19 8 HT_ ?_
           refine done_ (done_of HT_.out (by kernel_rfl)) ?_
           try go_wp2
           have n0_ := Aside0.mk (Kd.R_drew HO504.out)
           have n1_ := Aside0.mk (blk_drew BK501.out)
           have n2_ := Aside0.mk (below_drew1 HB.out)
           clear HO504
           clear BK501
           clear HB
           have HO504 := n0_
           have BK501 := n1_
           have HB := n2_
           clear n0_ n1_ n2_
           refine start_ (n := 10) (S := fun w' => w'.cell? ⟨gb501, 0, none⟩ = some (.int .i64 ((rd_T41 l1 x24_1).f0.f0)) ∧ w'.cell? ⟨gb501, 1, none⟩ = some (.int .i64 ((rd_T41 l1 x24_1).f0.f1)) ∧ w'.cell? ⟨gb501, 2, none⟩ = some (.string ((rd_T41 l1 x24_1).f1))) (ds := []) #[false, false, false, false, false, false, false, false, false, false] (by kernel_rfl) rfl rfl ⟨(blk_cell BK501.out 0).trans rfl, (blk_cell BK501.out 1).trans rfl, (blk_cell BK501.out 2).trans rfl⟩ (fun hHeld => ?_); refine with_tabW edit_Invert.tab11 edit_Invert.bits11 (fun HT_ HW_ => ?_)
           generalize w18.drew = w19 at HO504 BK501 HB hHeld ⊢
           refine pS 0 52 HT_ ?_
           refine pS 1 53 HT_ ?_
           refine pS 4 56 HT_ ?_
           refine tS 2 54 HT_ HW_ hHeld ?_
           refine pS 3 55 HT_ ?_
           refine tS 5 57 HT_ HW_ hHeld ?_
           refine oS 6 HT_ (fun K hK => ?_)
           refine goes_ Try.func29 (by kernel_rfl) rfl #[.agg #[.int .i64 ((rd_T41 l1 x24_1).f0.f0), .int .i64 ((rd_T41 l1 x24_1).f0.f1)]] (by rfl) rfl rfl (by (try simp only [List.map_toArray, List.map_cons, List.map_nil]); first | done | rfl | (simp only [List.length_drop, List.length_take]; rfl)) ?_
           with_reducible refine (span_Len.calls k1 ((rd_T41 l1 x24_1).f0.f0) ((rd_T41 l1 x24_1).f0.f1) t505 _ A13.out).mono ?_
           rintro e w20 ⟨rfl, hb⟩
           refine ⟨_, rfl, ?_⟩
           have n0_ := Aside0.mk (Kd.R_below (pxr HO504) hb)
           have n1_ := pxk BK501 hb
           have n2_ := pxs HB hb
           clear HO504
           clear BK501
           clear HB
           have HO504 := n0_
           have BK501 := n1_
           have HB := n2_
           clear n0_ n1_ n2_
           (try clear hb)
           (try clear hb2)
           (try clear hk)
           (try clear hi)
           refine hK.out _ _ ⟨(blk_cell BK501.out 0).trans rfl, (blk_cell BK501.out 1).trans rfl, (blk_cell BK501.out 2).trans rfl⟩ (fun hHeld => ?_)
           clear hK K
           refine nS 58 ?_
           refine pS 7 59 HT_ ?_
           refine pS 8 60 HT_ ?_
           refine pS 9 9 HT_ ?_
           refine done_ (done_of HT_.out (by kernel_rfl)) ?_
           try go_wp2
           go_roundg k1
           case measure => have := HK1.out; omega
           case rel => exact ⟨(y502), (wrap64 (x9_1 + (wrap64 ((((rd_T41 l1 x24_1).f1).size : Int) - t505)))), (wrap64 (x24_1 + 1)), (by first | rfl | (simp; done) | (simp [*]; done)), (by first | rfl | (simp; done) | (simp [*]; done)), H', ⟨by have := HK1.out; omega⟩, ⟨by (with_reducible repeat (first | apply Kd.R_alloc | apply Kd.R_drewN | apply Kd.R_drew)); exact Kd.R_mono HO504.out (fun _ hk => trivial)⟩, ⟨pxb HB⟩⟩
          ·rw [if_neg c12] at H
           exact absurd H (by simp)
         ·rw [if_neg c11] at H
          exact absurd H (by simp)
        ·rw [if_neg c10] at H
         exact absurd H (by simp)
       ·rw [if_neg c9] at H
        exact absurd H (by simp)
      ·rw [if_neg c8] at H
       exact absurd H (by simp)
     ·rw [if_neg c7] at H
      exact absurd H (by simp)
    ·rw [if_neg c6] at H
     have c6b0 : decide (x24_1 < (l1.length : Int)) = false := decide_eq_false c6
     clear c6
     simp only [Option.some.injEq, Prod.mk.injEq] at H
     obtain ⟨rfl, rfl⟩ := H
     go_wp2
     go_ret2
     exact ⟨_, by first | rfl | (simp [errW_none, errW_some] <;> rfl) | (simp [*, errW_none, errW_some] <;> rfl), pxr HO_8, pxb HB⟩
 ·rw [if_neg c4] at H
  have c4b0 : (t499 == 0) = false := beq_eq_false_iff_ne.mpr c4
  have c4b1 : (t499 != 0) = true := bne_iff_ne.mpr c4
  simp only [Option.some.injEq, Prod.mk.injEq] at H
  obtain ⟨rfl, rfl⟩ := H
  go_enter Try.func23, Try.ntmps23
  go_wp2_with (first | ((with_reducible refine gate_callee (f := 22) rfl ?_); refine goesL_ (some 16) rfl rfl Try.func22 (by kernel_rfl) rfl #[.string a0, .slice A1 l1.length c1] rfl (by (try simp only [List.map_toArray, List.map_cons, List.map_nil]); first | done | rfl | (simp only [List.length_drop, List.length_take]; rfl)) ?_; (with_reducible refine (edit_Apply.calls k a0 _ _ l1 t498 t499 _ ?side1 ?side2 A3.out).mono ?_); (case side1 => repeat (first | exact HR1.out | (with_reducible refine Kd.C_alloc ?_ _) | (with_reducible refine Kd.C_drewN ?_ _) | (with_reducible refine Kd.C_drew ?_))); (case side2 => exact HC1.out); rintro e w21 ⟨rfl, hb⟩; refine ⟨_, rfl, ?_⟩; replace HB := pxs HB hb; (try clear hb); (try clear hb2); (try clear hk); (try clear hi)))
  go_ret2
  exact ⟨_, by first | rfl | (simp [errW_none, errW_some] <;> rfl) | (simp [*, errW_none, errW_some] <;> rfl), by first | exact Kd.R_nil _ _ _ _ _ | exact Kd.N_nil _ _ _ _ _ | exact Kd.V_nil _ _ _ _ _ | exact Kd.Q_nil _ _ _ _ _ | exact Kd.S_nil _ _ _ _ _, pxb HB⟩

end Go.Proofs.Ytoljmjhmieaggaa.X
