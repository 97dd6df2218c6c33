/- What the program's functions answer, as Lean functions, and that each call does just that; no condition. Written by a program (px.py) out of the translation. -/
import Derived.Test.YtoljmjhmieaggaaM2
import Derived.Test.YtoljmjhmieaggaaM5
namespace Go.Proofs.Ytoljmjhmieaggaa.X
open Go.RowKit Go.Proofs.YtoljmjhmieaggaaW.PrintWords Go.Proofs.YtoljmjhmieaggaaW.PrintLast Go.Proofs.YtoljmjhmieaggaaW.PrintMore
attribute [local go_sem] max2_int min2_int max_two min_two max_three min_three max_four min_four   -- for this text's walks alone
set_option linter.unusedVariables false
set_option linter.unusedSimpArgs false

/-! ### edit_cut: function 35 -/
def edit_cut.l0 : Nat → List (S73) → Int → List (S73) → Int → Int → Int → Int → Option ((List (S73)))
 | 0, _, _, _, _, _, _, _ => none
 | k + 1, x5, x6, x12, x13, x14, x444000, x444001 => if x14 < x13 then (if 0 ≤ x14 then (if x14 < (x12.length : Int) then (if (mx (wrap64 (x444000 - x6)) 0) < (mn (wrap64 (x444001 - x6)) (((rd_T73 x12 x14).f0).size : Int)) then (if 0 ≤ (mx (wrap64 (x444000 - x6)) 0) then (if (mx (wrap64 (x444000 - x6)) 0) ≤ (mn (wrap64 (x444001 - x6)) (((rd_T73 x12 x14).f0).size : Int)) then (if (mn (wrap64 (x444001 - x6)) (((rd_T73 x12 x14).f0).size : Int)) ≤ (((rd_T73 x12 x14).f0).size : Int) then (if ((rd_T73 x12 x14).f1) ≥ 0 then (if x5.length < 5864062014805 then (edit_cut.l0 k (x5 ++ [(⟨((rd_T73 x12 x14).f0).extract ((mx (wrap64 (x444000 - x6)) 0) : Int).toNat ((mn (wrap64 (x444001 - x6)) (((rd_T73 x12 x14).f0).size : Int)) : Int).toNat, wrap64 (((rd_T73 x12 x14).f1) + (mx (wrap64 (x444000 - x6)) 0))⟩ : S73)]) (wrap64 (x6 + (((rd_T73 x12 x14).f0).size : Int))) x12 x13 (wrap64 (x14 + 1)) x444000 x444001) else (none)) else (if x5.length < 5864062014805 then (edit_cut.l0 k (x5 ++ [(⟨((rd_T73 x12 x14).f0).extract ((mx (wrap64 (x444000 - x6)) 0) : Int).toNat ((mn (wrap64 (x444001 - x6)) (((rd_T73 x12 x14).f0).size : Int)) : Int).toNat, (rd_T73 x12 x14).f1⟩ : S73)]) (wrap64 (x6 + (((rd_T73 x12 x14).f0).size : Int))) x12 x13 (wrap64 (x14 + 1)) x444000 x444001) else (none))) else (none)) else (none)) else (none)) else (edit_cut.l0 k x5 (wrap64 (x6 + (((rd_T73 x12 x14).f0).size : Int))) x12 x13 (wrap64 (x14 + 1)) x444000 x444001)) else (none)) else (none)) else (some x5)
def edit_cut.f (k : Nat) (l0 : List (S73)) (a1_0 : Int) (a1_1 : Int) : Option ((List (S73))) := edit_cut.l0 k ([] : List (S73)) 0 l0 (l0.length : Int) 0 a1_0 a1_1
theorem edit_cut.mono_l : ∀ k, (∀ y0 y1 y2 y3 y4 y5 y6, LeO (edit_cut.l0 k y0 y1 y2 y3 y4 y5 y6) (edit_cut.l0 (k + 1) y0 y1 y2 y3 y4 y5 y6))
 | 0 => fun _ _ _ _ _ _ _ r h => by simp [edit_cut.l0] at h
 | k + 1 => by
  have ih0 := edit_cut.mono_l k
  ·intro y0 y1 y2 y3 y4 y5 y6
   unfold edit_cut.l0
   repeat' first
   | (with_reducible exact ih0 _ _ _ _ _ _ _)
   | (with_reducible exact LeO.refl _)
   | (with_reducible exact LeO.none _)
   | (with_reducible refine LeO.ite ?_ ?_)
   | (with_reducible refine LeO.bind ?_ (fun _ => ?_))
   | exact ih0 _ _ _ _ _ _ _
   | exact LeO.none _
   | refine LeO.ite ?_ ?_
   | refine LeO.bind ?_ (fun _ => ?_)
theorem edit_cut.mono : ∀ a0 a1 a2 k, LeO (edit_cut.f k a0 a1 a2) (edit_cut.f (k + 1) a0 a1 a2) := by
 intro a0 a1 a2 k
 have ih0 := edit_cut.mono_l k
 unfold edit_cut.f
 repeat' first
   | (with_reducible exact ih0 _ _ _ _ _ _ _)
   | (with_reducible exact LeO.refl _)
   | (with_reducible exact LeO.none _)
   | (with_reducible refine LeO.ite ?_ ?_)
   | (with_reducible refine LeO.bind ?_ (fun _ => ?_))
   | exact ih0 _ _ _ _ _ _ _
   | exact LeO.none _
   | refine LeO.ite ?_ ?_
   | refine LeO.bind ?_ (fun _ => ?_)
def edit_cut.T6 : Bool × List (List Nat × List Nat) := (true, [([], []), ([0], [0]), ([], []), ([1, 2], [1, 2]), ([3], [3]), ([], []), ([5], [5]), ([], []), ([6, 7], [6, 7]), ([], []), ([9], [9]), ([10], [10]), ([8, 11], [8, 11]), ([4, 0, 1, 2, 3, 4], [4]), ([12, 13, 0, 1, 2, 3, 4, 5, 6, 7, 8, 9, 10, 11, 12, 13], [12])])
def edit_cut.B6 : List Nat := [0, 1, 0, 7, 15, 0, 32, 0, 224, 0, 512, 1536, 4064, 31, 16383]
theorem edit_cut.tab6 : rtab .any (opsOf Try.f35 6) = edit_cut.T6 := by kernel_rfl
theorem edit_cut.bits6 : waitsOk edit_cut.T6.2 edit_cut.B6 = true := by kernel_rfl
def edit_cut.T8 : Bool × List (List Nat × List Nat) := (true, [([], []), ([0], [0]), ([], []), ([], []), ([1, 2, 3], [1, 2, 3]), ([], []), ([5], [5]), ([4, 6], [4, 6]), ([], []), ([8, 7, 0, 1, 2, 3, 4, 5, 6, 7, 8], [7, 8])])
def edit_cut.B8 : List Nat := [0, 1, 0, 0, 15, 0, 32, 127, 0, 511]
theorem edit_cut.tab8 : rtab .any (opsOf Try.f35 8) = edit_cut.T8 := by kernel_rfl
theorem edit_cut.bits8 : waitsOk edit_cut.T8.2 edit_cut.B8 = true := by kernel_rfl
set_option maxHeartbeats 8000000 in
set_option maxRecDepth 100000 in
theorem edit_cut.calls (k : Nat) (A0 : Option Addr) (c0 : Nat) (l0 : List (S73)) (a1_0 : Int) (a1_1 : Int) (r : List (S73)) (w : World) (hr0 : Kd.C k73 w A0 l0.length l0) (hc0 : l0.length ≤ c0) (h : edit_cut.f k l0 a1_0 a1_1 = some r) :
  Calls Try.prog 35 #[.slice A0 l0.length c0, .agg #[.int .i64 a1_0, .int .i64 a1_1]] w fun e w' => ∃ v0_ : Value, e = .returned (v0_) ∧ Kd.R k73 73 w' w.heap.size (fun _ => True) v0_ r ∧ Below w.heap.size w w' := by
 have hu39 := Try.underlying39
 have hu73 := Try.underlying73
 have HR0 := Aside0.mk hr0
 have HC0 := Aside0.mk hc0
 clear hr0 hc0
 have HB := Aside0.mk (Below.refl w.heap.size w)
 have H : (edit_cut.l0 k ([] : List (S73)) 0 l0 (l0.length : Int) 0 a1_0 a1_1) = some r := h
 clear h
 have H' := Aside0.mk H
 clear H
 go_enter Try.func35, Try.ntmps35
 go_wp2_with (first | ((with_reducible refine gate_dst (N := 3) rfl ?_); refine box_event ?hg (N := 3) ?hd (cs := #[.int .i64 a1_0, .int .i64 a1_1]) (t := 39) ?hr ?_; (case hd => rfl); (case hg => rfl); (case hr => first | (go_simp; done) | (go_simp; rfl)); intro gb443 hg w3 hbox hb; have BK443 := Aside0.mk (hbox); have GW443 := pxw HB hg; have GE443 := pxw HB hg; replace HB := pxs HB hb; clear hb hbox hg))
 go_loopg [5, 6, 14] k (fun kq v5 v6 v14 w' => ∃ (x5_1 : List (S73)) (x6_1 : Int) (x14_1 : Int), v6 = .int .i64 x6_1 ∧ v14 = .int .i64 x14_1 ∧ Aside0 (edit_cut.l0 kq x5_1 x6_1 l0 (l0.length : Int) x14_1 a1_0 a1_1 = some r) ∧ Aside0 (kq ≤ k) ∧ Aside0 (Kd.R k73 73 w' w.heap.size (fun _ => True) v5 x5_1) ∧ Aside0 (w'.heap[gb443]? = some (.cells #[.int .i64 a1_0, .int .i64 a1_1] 39 (0, 0))) ∧ Aside0 (Below w.heap.size w w'))
 case atStart => exact ⟨(([] : List (S73))), (0), (0), (by first | rfl | (simp; done) | (simp [*]; done)), (by first | rfl | (simp; done) | (simp [*]; done)), H', ⟨Nat.le_refl _⟩, ⟨by first | exact Kd.R_nil _ _ _ _ _ | exact Kd.N_nil _ _ _ _ _ | exact Kd.V_nil _ _ _ _ _ | exact Kd.Q_nil _ _ _ _ _ | exact Kd.S_nil _ _ _ _ _⟩, ⟨pxq BK443⟩, ⟨pxb HB⟩⟩
 case round =>
  clear H'
  (try clear p2); (try clear c3)
  obtain ⟨x5_1, x6_1, x14_1, rfl, rfl, HA, HK1, HO_5, BK443, HB⟩ := hrel
  cases gk with
  | zero => exact absurd HA.out (by simp [edit_cut.l0])
  | succ k1 =>
   have H := HA.out
   clear HA
   simp only [edit_cut.l0] at H
   by_cases c4 : x14_1 < (l0.length : Int)
   ·rw [if_pos c4] at H
    have c4b0 : decide (x14_1 < (l0.length : Int)) = true := decide_eq_true c4
    clear c4
    by_cases c5 : 0 ≤ x14_1
    ·rw [if_pos c5] at H
     have c5b0 : decide (0 ≤ x14_1) = true := decide_eq_true c5
     clear c5
     by_cases c6 : x14_1 < (l0.length : Int)
     ·rw [if_pos c6] at H
      have c6b0 : decide (x14_1 < (l0.length : Int)) = true := decide_eq_true c6
      clear c6
      obtain ⟨ji7, hji7⟩ : ∃ j_ : Int, (mx (wrap64 (a1_0 - x6_1)) 0) = j_ := ⟨_, rfl⟩
      replace H : (if (ji7) < (mn (wrap64 (a1_1 - x6_1)) (((rd_T73 l0 x14_1).f0).size : Int)) then (if 0 ≤ (ji7) then (if (ji7) ≤ (mn (wrap64 (a1_1 - x6_1)) (((rd_T73 l0 x14_1).f0).size : Int)) then (if (mn (wrap64 (a1_1 - x6_1)) (((rd_T73 l0 x14_1).f0).size : Int)) ≤ (((rd_T73 l0 x14_1).f0).size : Int) then (if ((rd_T73 l0 x14_1).f1) ≥ 0 then (if x5_1.length < 5864062014805 then (edit_cut.l0 k1 (x5_1 ++ [(⟨((rd_T73 l0 x14_1).f0).extract ((ji7) : Int).toNat ((mn (wrap64 (a1_1 - x6_1)) (((rd_T73 l0 x14_1).f0).size : Int)) : Int).toNat, wrap64 (((rd_T73 l0 x14_1).f1) + (ji7))⟩ : S73)]) (wrap64 (x6_1 + (((rd_T73 l0 x14_1).f0).size : Int))) l0 (l0.length : Int) (wrap64 (x14_1 + 1)) a1_0 a1_1) else (none)) else (if x5_1.length < 5864062014805 then (edit_cut.l0 k1 (x5_1 ++ [(⟨((rd_T73 l0 x14_1).f0).extract ((ji7) : Int).toNat ((mn (wrap64 (a1_1 - x6_1)) (((rd_T73 l0 x14_1).f0).size : Int)) : Int).toNat, (rd_T73 l0 x14_1).f1⟩ : S73)]) (wrap64 (x6_1 + (((rd_T73 l0 x14_1).f0).size : Int))) l0 (l0.length : Int) (wrap64 (x14_1 + 1)) a1_0 a1_1) else (none))) else (none)) else (none)) else (none)) else (edit_cut.l0 k1 x5_1 (wrap64 (x6_1 + (((rd_T73 l0 x14_1).f0).size : Int))) l0 (l0.length : Int) (wrap64 (x14_1 + 1)) a1_0 a1_1)) = some r := by first | (rw [hji7] at H; exact H) | (simp only [hji7] at H ⊢; exact H)
      have hji7_ : (if (wrap64 (a1_0 - x6_1)) < 0 then 0 else (wrap64 (a1_0 - x6_1))) = ji7 := hji7
      obtain ⟨ji8, hji8⟩ : ∃ j_ : Int, (mn (wrap64 (a1_1 - x6_1)) (((rd_T73 l0 x14_1).f0).size : Int)) = j_ := ⟨_, rfl⟩
      replace H : (if (ji7) < (ji8) then (if 0 ≤ (ji7) then (if (ji7) ≤ (ji8) then (if (ji8) ≤ (((rd_T73 l0 x14_1).f0).size : Int) then (if ((rd_T73 l0 x14_1).f1) ≥ 0 then (if x5_1.length < 5864062014805 then (edit_cut.l0 k1 (x5_1 ++ [(⟨((rd_T73 l0 x14_1).f0).extract ((ji7) : Int).toNat ((ji8) : Int).toNat, wrap64 (((rd_T73 l0 x14_1).f1) + (ji7))⟩ : S73)]) (wrap64 (x6_1 + (((rd_T73 l0 x14_1).f0).size : Int))) l0 (l0.length : Int) (wrap64 (x14_1 + 1)) a1_0 a1_1) else (none)) else (if x5_1.length < 5864062014805 then (edit_cut.l0 k1 (x5_1 ++ [(⟨((rd_T73 l0 x14_1).f0).extract ((ji7) : Int).toNat ((ji8) : Int).toNat, (rd_T73 l0 x14_1).f1⟩ : S73)]) (wrap64 (x6_1 + (((rd_T73 l0 x14_1).f0).size : Int))) l0 (l0.length : Int) (wrap64 (x14_1 + 1)) a1_0 a1_1) else (none))) else (none)) else (none)) else (none)) else (edit_cut.l0 k1 x5_1 (wrap64 (x6_1 + (((rd_T73 l0 x14_1).f0).size : Int))) l0 (l0.length : Int) (wrap64 (x14_1 + 1)) a1_0 a1_1)) = some r := by first | (rw [hji8] at H; exact H) | (simp only [hji8] at H ⊢; exact H)
      have hji8_ : (if (((rd_T73 l0 x14_1).f0).size : Int) < (wrap64 (a1_1 - x6_1)) then (((rd_T73 l0 x14_1).f0).size : Int) else (wrap64 (a1_1 - x6_1))) = ji8 := hji8
      by_cases c9 : (ji7) < (ji8)
      ·rw [if_pos c9] at H
       have c9b0 : decide ((ji7) < (ji8)) = true := decide_eq_true c9
       clear c9
       by_cases c10 : 0 ≤ (ji7)
       ·rw [if_pos c10] at H
        have c10b0 := eq_true c10
        have c10b1 : decide (0 ≤ (ji7)) = true := decide_eq_true c10
        clear c10
        by_cases c11 : (ji7) ≤ (ji8)
        ·rw [if_pos c11] at H
         have c11b0 := eq_true c11
         have c11b1 : decide ((ji7) ≤ (ji8)) = true := decide_eq_true c11
         clear c11
         by_cases c12 : (ji8) ≤ (((rd_T73 l0 x14_1).f0).size : Int)
         ·rw [if_pos c12] at H
          have c12b0 := eq_true c12
          have c12b1 : decide ((ji8) ≤ (((rd_T73 l0 x14_1).f0).size : Int)) = true := decide_eq_true c12
          clear c12
          by_cases c13 : ((rd_T73 l0 x14_1).f1) ≥ 0
          ·rw [if_pos c13] at H
           have c13b0 : decide (0 ≤ ((rd_T73 l0 x14_1).f1)) = true := decide_eq_true c13
           clear c13
           by_cases c14 : x5_1.length < 5864062014805
           ·rw [if_pos c14] at H
            have LMc14 := Aside0.mk c14
            clear c14
            obtain ⟨y447, hy447⟩ : ∃ y_ : List (S73), y_ = (x5_1 ++ [(⟨((rd_T73 l0 x14_1).f0).extract ((ji7) : Int).toNat ((ji8) : Int).toNat, wrap64 (((rd_T73 l0 x14_1).f1) + (ji7))⟩ : S73)]) := ⟨_, rfl⟩
            replace H : (edit_cut.l0 k1 y447 (wrap64 (x6_1 + (((rd_T73 l0 x14_1).f0).size : Int))) l0 (l0.length : Int) (wrap64 (x14_1 + 1)) a1_0 a1_1) = some r := by first | (rw [hy447]; with_reducible exact H) | (have H2_ := (Option.bind_some _ _).symm.trans H; rw [hy447]; with_reducible exact H2_) | (have H2_ := (Option.bind_some _ _).symm.trans H; with_reducible exact H2_) | with_reducible exact H | (rw [hy447]; exact H) | exact H
            have Ny447 := Aside0.mk hy447
            clear hy447
            have H' := Aside0.mk H
            clear H
            have p444 : 0 ≤ (x14_1 : Int) := pxd
            have q444 : x14_1 < (l0.length : Int) := pxd
            obtain ⟨ad444, e444, hx444_0, hx444_1⟩ := at_T73 HR0.out x14_1 p444 q444
            cases e444
            replace hx444_0 := (HB.out.cell (World.block_lt_of_cell? w _ hx444_0)).trans hx444_0
            replace hx444_1 := (HB.out.cell (World.block_lt_of_cell? w _ hx444_1)).trans hx444_1
            replace p444 := eq_true p444
            replace q444 := eq_true q444
            try go_wp2_with (first | ((with_reducible refine gate_dst (N := 8) rfl ?_); refine box_event ?hg (N := 8) ?hd (cs := #[.string (⟨#[]⟩ : ByteArray), .int .i64 0]) (t := 73) ?hr ?_; (case hd => rfl); (case hg => rfl); (case hr => first | (go_simp; done) | (go_simp; rfl)); intro gb445 hg w15 hbox hb; have BK445 := Aside0.mk (hbox); have GW445 := pxw HB hg; have GE445 := pxw HB hg; have NB443_445 := pxn BK443 hg; have NB445_443 := Aside0.mk (pxn BK443 hg).out.symm; replace HO_5 := Aside0.mk (Kd.R_below (Kd.R_elderB (pxr HO_5) gb445 (Nat.le_of_eq hg.symm)) hb); replace BK443 := pxk BK443 hb; replace HB := pxs HB hb; clear hb hbox hg; have hnb16 := NB445_443.out; have hnc16 := NB443_445.out; obtain ⟨hcz17_0, hcz17_1, hfz17_0, hfz17_1⟩ := pxf2 BK445))
            have n0_ : Aside0 (Kd.R k73 73 ((w15.setCell ⟨gb445, 0, none⟩ (.string ((rd_T73 l0 x14_1).f0))).setCell ⟨gb445, 1, none⟩ (.int .i64 ((rd_T73 l0 x14_1).f1))) w.heap.size (fun k_ => k_ ≠ gb445) u5 x5_1) := ⟨by (with_reducible repeat (first | apply Kd.R_alloc | apply Kd.R_drewN | apply Kd.R_drew)); exact Kd.R_mono (Kd.R_far (p := ⟨gb445, 1, none⟩) (Kd.R_far (p := ⟨gb445, 0, none⟩) (Kd.R_mono HO_5.out (fun k_ hk => (⟨hk, hk.2⟩ : _ ∧ k_ ≠ gb445))) (fun _ hk => hk.2) (.string ((rd_T73 l0 x14_1).f0))) (fun _ hk => hk.2) (.int .i64 ((rd_T73 l0 x14_1).f1))) (fun _ hk => hk.1.2)⟩
            have n1_ : Aside0 (((w15.setCell ⟨gb445, 0, none⟩ (.string ((rd_T73 l0 x14_1).f0))).setCell ⟨gb445, 1, none⟩ (.int .i64 ((rd_T73 l0 x14_1).f1))).heap[gb443]? = some (.cells #[.int .i64 a1_0, .int .i64 a1_1] 39 (0, 0))) := ⟨pxp BK443⟩
            have n2_ : Aside0 (((w15.setCell ⟨gb445, 0, none⟩ (.string ((rd_T73 l0 x14_1).f0))).setCell ⟨gb445, 1, none⟩ (.int .i64 ((rd_T73 l0 x14_1).f1))).heap[gb445]? = some (.cells #[.string ((rd_T73 l0 x14_1).f0), .int .i64 ((rd_T73 l0 x14_1).f1)] 73 (0, 0))) := ⟨pxp BK445⟩
            have n3_ : Aside0 (Below w.heap.size w ((w15.setCell ⟨gb445, 0, none⟩ (.string ((rd_T73 l0 x14_1).f0))).setCell ⟨gb445, 1, none⟩ (.int .i64 ((rd_T73 l0 x14_1).f1)))) := ⟨pxb HB⟩
            (try clear HO_5)
            (try clear BK443)
            (try clear BK445)
            (try clear HB)
            generalize ((w15.setCell ⟨gb445, 0, none⟩ (.string ((rd_T73 l0 x14_1).f0))).setCell ⟨gb445, 1, none⟩ (.int .i64 ((rd_T73 l0 x14_1).f1))) = w18 at n0_ n1_ n2_ n3_ ⊢
            have HO_5 := n0_
            have BK443 := n1_
            have BK445 := n2_
            have HB := n3_
            clear n0_ n1_ n2_ n3_
            have n0_ := Aside0.mk (Kd.R_drew HO_5.out)
            have n1_ := Aside0.mk (blk_drew BK443.out)
            have n2_ := Aside0.mk (blk_drew BK445.out)
            have n3_ := Aside0.mk (below_drew1 HB.out)
            clear HO_5
            clear BK443
            clear BK445
            clear HB
            have HO_5 := n0_
            have BK443 := n1_
            have BK445 := n2_
            have HB := n3_
            clear n0_ n1_ n2_ n3_
            refine start_ (n := 15) (S := fun w' => w'.cell? ⟨gb443, 0, none⟩ = some (.int .i64 a1_0) ∧ w'.cell? ⟨gb443, 1, none⟩ = some (.int .i64 a1_1) ∧ w'.cell? ⟨gb445, 0, none⟩ = some (.string ((rd_T73 l0 x14_1).f0)) ∧ w'.cell? ⟨gb445, 1, none⟩ = some (.int .i64 ((rd_T73 l0 x14_1).f1))) (ds := []) #[false, false, false, false, false, false, false, false, false, false, false, false, false, false, false] (by kernel_rfl) rfl rfl ⟨(blk_cell BK443.out 0).trans rfl, (blk_cell BK443.out 1).trans rfl, (blk_cell BK445.out 0).trans rfl, (blk_cell BK445.out 1).trans rfl⟩ (fun hHeld => ?_); refine with_tabW edit_cut.tab6 edit_cut.bits6 (fun HT_ HW_ => ?_)
            generalize w18.drew = w19 at HO_5 BK443 BK445 HB hHeld ⊢
            refine pS 0 18 HT_ ?_
            refine pS 2 20 HT_ ?_
            refine pS 5 23 HT_ ?_
            refine pS 7 25 HT_ ?_
            refine pS 9 27 HT_ ?_
            refine tS 1 19 HT_ HW_ hHeld ?_
            refine pS 3 21 HT_ ?_
            refine pS 4 22 HT_ ?_
            refine pS 13 9 HT_ ?_
            refine tS 6 24 HT_ HW_ hHeld ?_
            refine pS 8 26 HT_ ?_
            refine tS 10 28 HT_ HW_ hHeld ?_
            refine pS 11 29 HT_ ?_
            refine pS 12 30 HT_ ?_
            refine pS 14 10 HT_ ?_
            refine done_ (done_of HT_.out (by kernel_rfl)) ?_
            try go_wp2
            have n0_ := Aside0.mk (Kd.R_drew HO_5.out)
            have n1_ := Aside0.mk (blk_drew BK443.out)
            have n2_ := Aside0.mk (blk_drew BK445.out)
            have n3_ := Aside0.mk (below_drew1 HB.out)
            clear HO_5
            clear BK443
            clear BK445
            clear HB
            have HO_5 := n0_
            have BK443 := n1_
            have BK445 := n2_
            have HB := n3_
            clear n0_ n1_ n2_ n3_
            refine start_ (n := 10) (S := fun w' => w'.cell? ⟨gb445, 0, none⟩ = some (.string ((rd_T73 l0 x14_1).f0)) ∧ w'.cell? ⟨gb445, 1, none⟩ = some (.int .i64 ((rd_T73 l0 x14_1).f1))) (ds := []) #[false, false, false, false, false, false, false, false, false, false] (by kernel_rfl) rfl rfl ⟨(blk_cell BK445.out 0).trans rfl, (blk_cell BK445.out 1).trans rfl⟩ (fun hHeld => ?_); refine with_tabW edit_cut.tab8 edit_cut.bits8 (fun HT_ HW_ => ?_)
            generalize w19.drew = w20 at HO_5 BK443 BK445 HB hHeld ⊢
            refine pS 0 34 HT_ ?_
            refine pS 2 36 HT_ ?_
            refine pS 3 37 HT_ ?_
            refine pS 5 39 HT_ ?_
            refine tS 1 35 HT_ HW_ hHeld ?_
            refine pS 4 38 HT_ ?_
            refine tS 6 40 HT_ HW_ hHeld ?_
            refine pS 7 41 HT_ ?_
            refine oS 8 HT_ (fun K hK => ?_)
            refine box_step ?hg (N := 11) ?hd (cs := #[.string (⟨#[]⟩ : ByteArray), .int .i64 0]) (t := 73) ?hr ?_; (case hd => rfl); (case hg => rfl); (case hr => first | (go_simp; done) | (go_simp; rfl))
            intro gb446 hg w21 hbox hb
            have n0_ := Aside0.mk (Kd.R_below (Kd.R_elderB (pxr HO_5) gb446 (Nat.le_of_eq hg.symm)) hb)
            have n1_ := pxk BK443 hb
            have n2_ := pxk BK445 hb
            have n3_ := pxs HB hb
            have n4_ := Aside0.mk (hbox)
            have n5_ := pxw HB hg
            have n6_ := pxw HB hg
            have n7_ := pxn BK443 hg
            have n8_ := Aside0.mk (pxn BK443 hg).out.symm
            have n9_ := pxn BK445 hg
            have n10_ := Aside0.mk (pxn BK445 hg).out.symm
            clear HO_5
            clear BK443
            clear BK445
            clear HB
            have HO_5 := n0_
            have BK443 := n1_
            have BK445 := n2_
            have HB := n3_
            have BK446 := n4_
            have GW446 := n5_
            have GE446 := n6_
            have NB443_446 := n7_
            have NB446_443 := n8_
            have NB445_446 := n9_
            have NB446_445 := n10_
            clear n0_ n1_ n2_ n3_ n4_ n5_ n6_ n7_ n8_ n9_ n10_
            clear hb hbox hg
            refine hK.out _ _ ⟨(blk_cell BK445.out 0).trans rfl, (blk_cell BK445.out 1).trans rfl⟩ (fun hHeld => ?_)
            clear hK K
            refine nS 11 ?_
            refine oS 9 HT_ (fun K hK => ?_)
            have hs22 : w21.cell? ⟨gb446, 0, none⟩ = some (.string (⟨#[]⟩ : ByteArray)) := (blk_cell BK446.out 0).trans rfl
            have hfs22 := blk_frozen BK446.out 0
            have hns22_0 := NB443_446.out
            have hns22_1 := NB445_446.out
            have hms22_0 := NB446_443.out
            have hms22_1 := NB446_445.out
            have hs23 : w21.cell? ⟨gb446, 1, none⟩ = some (.int .i64 0) := (blk_cell BK446.out 1).trans rfl
            have hfs23 := blk_frozen BK446.out 1
            have hns23_0 := NB443_446.out
            have hns23_1 := NB445_446.out
            have hms23_0 := NB446_443.out
            have hms23_1 := NB446_445.out
            refine skip_ (w1 := ?_) (by rfl) rfl ?_ ?_
            rotate_left
            ·go_simp
             rfl
            refine hK.out _ _ ⟨((cell_far (p := ⟨gb446, _, none⟩) NB445_446.out _).trans (((cell_far (p := ⟨gb446, _, none⟩) NB445_446.out _).trans (hHeld.1)))), ((cell_far (p := ⟨gb446, _, none⟩) NB445_446.out _).trans (((cell_far (p := ⟨gb446, _, none⟩) NB445_446.out _).trans (hHeld.2))))⟩ (fun hHeld => ?_)
            clear hK K
            refine done_ (done_of HT_.out (by kernel_rfl)) ?_
            have hnb24 := NB446_443.out
            have hnc24 := NB443_446.out
            have hnb25 := NB446_445.out
            have hnc25 := NB445_446.out
            have hcz26_0 : w21.cell? ⟨gb446, 0, none⟩ = some (.string (⟨#[]⟩ : ByteArray)) := (blk_cell BK446.out 0).trans rfl
            have hcz26_1 : w21.cell? ⟨gb446, 1, none⟩ = some (.int .i64 0) := (blk_cell BK446.out 1).trans rfl
            have hfz26_0 := blk_frozen BK446.out 0
            have hfz26_1 := blk_frozen BK446.out 1
            have hq1_ : ((w21.setCell ⟨gb446, 0, none⟩ (.string (((rd_T73 l0 x14_1).f0).extract ((ji7) : Int).toNat ((ji8) : Int).toNat))).setCell ⟨gb446, 1, none⟩ (.int .i64 ((rd_T73 l0 x14_1).f1))).cell? ⟨gb446, 1, none⟩ = some (.int .i64 ((rd_T73 l0 x14_1).f1)) := (blk_cell (blk_put (cs := #[.string (((rd_T73 l0 x14_1).f0).extract ((ji7) : Int).toNat ((ji8) : Int).toNat), .int .i64 0]) (blk_put (cs := #[.string (⟨#[]⟩ : ByteArray), .int .i64 0]) BK446.out 0 (.string (((rd_T73 l0 x14_1).f0).extract ((ji7) : Int).toNat ((ji8) : Int).toNat)) rfl) 1 (.int .i64 ((rd_T73 l0 x14_1).f1)) rfl) 1).trans rfl
            have hq2_ : (((w21.setCell ⟨gb446, 0, none⟩ (.string (((rd_T73 l0 x14_1).f0).extract ((ji7) : Int).toNat ((ji8) : Int).toNat))).setCell ⟨gb446, 1, none⟩ (.int .i64 ((rd_T73 l0 x14_1).f1))).setCell ⟨gb446, 1, none⟩ (.int .i64 (wrap64 (((rd_T73 l0 x14_1).f1) + (ji7))))).cell? ⟨gb446, 1, none⟩ = some (.int .i64 (wrap64 (((rd_T73 l0 x14_1).f1) + (ji7)))) := (blk_cell (blk_put (cs := #[.string (((rd_T73 l0 x14_1).f0).extract ((ji7) : Int).toNat ((ji8) : Int).toNat), .int .i64 ((rd_T73 l0 x14_1).f1)]) (blk_put (cs := #[.string (((rd_T73 l0 x14_1).f0).extract ((ji7) : Int).toNat ((ji8) : Int).toNat), .int .i64 0]) (blk_put (cs := #[.string (⟨#[]⟩ : ByteArray), .int .i64 0]) BK446.out 0 (.string (((rd_T73 l0 x14_1).f0).extract ((ji7) : Int).toNat ((ji8) : Int).toNat)) rfl) 1 (.int .i64 ((rd_T73 l0 x14_1).f1)) rfl) 1 (.int .i64 (wrap64 (((rd_T73 l0 x14_1).f1) + (ji7)))) rfl) 1).trans rfl
            have hq3_ : (((w21.setCell ⟨gb446, 0, none⟩ (.string (((rd_T73 l0 x14_1).f0).extract ((ji7) : Int).toNat ((ji8) : Int).toNat))).setCell ⟨gb446, 1, none⟩ (.int .i64 ((rd_T73 l0 x14_1).f1))).setCell ⟨gb446, 1, none⟩ (.int .i64 (wrap64 (((rd_T73 l0 x14_1).f1) + (ji7))))).cell? ⟨gb446, 0, none⟩ = some (.string (((rd_T73 l0 x14_1).f0).extract ((ji7) : Int).toNat ((ji8) : Int).toNat)) := (blk_cell (blk_put (cs := #[.string (((rd_T73 l0 x14_1).f0).extract ((ji7) : Int).toNat ((ji8) : Int).toNat), .int .i64 ((rd_T73 l0 x14_1).f1)]) (blk_put (cs := #[.string (((rd_T73 l0 x14_1).f0).extract ((ji7) : Int).toNat ((ji8) : Int).toNat), .int .i64 0]) (blk_put (cs := #[.string (⟨#[]⟩ : ByteArray), .int .i64 0]) BK446.out 0 (.string (((rd_T73 l0 x14_1).f0).extract ((ji7) : Int).toNat ((ji8) : Int).toNat)) rfl) 1 (.int .i64 ((rd_T73 l0 x14_1).f1)) rfl) 1 (.int .i64 (wrap64 (((rd_T73 l0 x14_1).f1) + (ji7)))) rfl) 0).trans rfl
            try go_wp2_with (first | ((with_reducible refine gate_builtin (b := .append) (xs := #[.tmp 50, .tmp 52]) rfl ?_); at_builtin; refine Kd.R_append k73 (w0 := w) w.heap.size rfl (.tmp 50) (.tmp 52) 68 73 (.agg #[(.string ⟨#[]⟩), (.int .i64 0)]) 24 rfl Try.underlying68 info73 rfl (by decide) (by omega) u5 x5_1 (⟨((rd_T73 l0 x14_1).f0).extract ((ji7) : Int).toNat ((ji8) : Int).toNat, wrap64 (((rd_T73 l0 x14_1).f1) + (ji7))⟩ : S73) [.string (((rd_T73 l0 x14_1).f0).extract ((ji7) : Int).toNat ((ji8) : Int).toNat), .int .i64 (wrap64 (((rd_T73 l0 x14_1).f1) + (ji7)))] (fun k_ => k_ ≠ gb445 ∧ k_ ≠ gb446) (fun _ => False) rfl (by first | (go_simp; done) | (go_simp; rfl)) ?aP (fun _ hk => hk.elim) ?aF ?aO ?aB ?aS ?aL ?_; (case aP => exact k73_mkM _ _ _ (⟨((rd_T73 l0 x14_1).f0).extract ((ji7) : Int).toNat ((ji8) : Int).toNat, wrap64 (((rd_T73 l0 x14_1).f1) + (ji7))⟩ : S73)); (case aB => exact (pxb HB)); (case aF => exact (fun k_ hk => ⟨Kd.freshB (g := gb445) (o := .cells #[.string ((rd_T73 l0 x14_1).f0), .int .i64 ((rd_T73 l0 x14_1).f1)] 73 (0, 0)) (pxp BK445) k_ hk, Kd.freshB (g := gb446) (o := .cells #[.string (((rd_T73 l0 x14_1).f0).extract ((ji7) : Int).toNat ((ji8) : Int).toNat), .int .i64 (wrap64 (((rd_T73 l0 x14_1).f1) + (ji7)))] 73 (0, 0)) (pxp BK446) k_ hk⟩)); (case aO => exact (by (with_reducible repeat (first | apply Kd.R_alloc | apply Kd.R_drewN | apply Kd.R_drew)); exact Kd.R_mono (Kd.R_far (p := ⟨gb446, 1, none⟩) (Kd.R_far (p := ⟨gb446, 1, none⟩) (Kd.R_far (p := ⟨gb446, 0, none⟩) (Kd.R_mono HO_5.out (fun k_ hk => (⟨hk, hk.2⟩ : _ ∧ k_ ≠ gb446))) (fun _ hk => hk.2) (.string (((rd_T73 l0 x14_1).f0).extract ((ji7) : Int).toNat ((ji8) : Int).toNat))) (fun _ hk => hk.2) (.int .i64 ((rd_T73 l0 x14_1).f1))) (fun _ hk => hk.2) (.int .i64 (wrap64 (((rd_T73 l0 x14_1).f1) + (ji7))))) (fun _ hk => ⟨hk.1.1, hk.1.2⟩))); (case aS => exact (below_size (pxb HB))); (case aL => have := LMc14.out; omega); intro v448 w27 ho hb hg hat; rw [← Ny447.out] at ho; have n0_ := Aside0.mk (blk_grown (g := gb443) (o := .cells #[.int .i64 a1_0, .int .i64 a1_1] 39 (0, 0)) (pxp BK443) hg (Kd.R_ne HO_5.out BK443.out (by decide))); have n1_ := Aside0.mk (blk_grown (g := gb445) (o := .cells #[.string ((rd_T73 l0 x14_1).f0), .int .i64 ((rd_T73 l0 x14_1).f1)] 73 (0, 0)) (pxp BK445) hg (Kd.R_away HO_5.out (fun _ hk => hk.1))); have n2_ := Aside0.mk (blk_grown (g := gb446) (o := .cells #[.string (((rd_T73 l0 x14_1).f0).extract ((ji7) : Int).toNat ((ji8) : Int).toNat), .int .i64 (wrap64 (((rd_T73 l0 x14_1).f1) + (ji7)))] 73 (0, 0)) (pxp BK446) hg (Kd.R_away HO_5.out (fun _ hk => hk.2))); have n3_ := Aside0.mk (hb); have n4_ := Aside0.mk (ho); clear BK443; clear BK445; clear BK446; clear HB; clear HO_5; have BK443 := n0_; have BK445 := n1_; have BK446 := n2_; have HB := n3_; have HO449 := n4_; clear n0_ n1_ n2_ n3_ n4_; clear ho hb hg hat; obtain ⟨hcz28_0, hcz28_1, hfz28_0, hfz28_1⟩ := pxf2 BK445))
            go_roundg k1
            case measure => have := HK1.out; omega
            case rel => exact ⟨(y447), (wrap64 (x6_1 + (((rd_T73 l0 x14_1).f0).size : Int))), (wrap64 (x14_1 + 1)), (by first | rfl | (simp; done) | (simp [*]; done)), (by first | rfl | (simp; done) | (simp [*]; done)), H', ⟨by have := HK1.out; omega⟩, ⟨by (with_reducible repeat (first | apply Kd.R_alloc | apply Kd.R_drewN | apply Kd.R_drew)); exact Kd.R_mono HO449.out (fun _ hk => trivial)⟩, ⟨pxq BK443⟩, ⟨pxb HB⟩⟩
           ·rw [if_neg c14] at H
            exact absurd H (by simp)
          ·rw [if_neg c13] at H
           have c13b0 : decide (0 ≤ ((rd_T73 l0 x14_1).f1)) = false := decide_eq_false c13
           clear c13
           by_cases c29 : x5_1.length < 5864062014805
           ·rw [if_pos c29] at H
            have LMc29 := Aside0.mk c29
            clear c29
            obtain ⟨y450, hy450⟩ : ∃ y_ : List (S73), y_ = (x5_1 ++ [(⟨((rd_T73 l0 x14_1).f0).extract ((ji7) : Int).toNat ((ji8) : Int).toNat, (rd_T73 l0 x14_1).f1⟩ : S73)]) := ⟨_, rfl⟩
            replace H : (edit_cut.l0 k1 y450 (wrap64 (x6_1 + (((rd_T73 l0 x14_1).f0).size : Int))) l0 (l0.length : Int) (wrap64 (x14_1 + 1)) a1_0 a1_1) = some r := by first | (rw [hy450]; with_reducible exact H) | (have H2_ := (Option.bind_some _ _).symm.trans H; rw [hy450]; with_reducible exact H2_) | (have H2_ := (Option.bind_some _ _).symm.trans H; with_reducible exact H2_) | with_reducible exact H | (rw [hy450]; exact H) | exact H
            have Ny450 := Aside0.mk hy450
            clear hy450
            have H' := Aside0.mk H
            clear H
            have p444 : 0 ≤ (x14_1 : Int) := pxd
            have q444 : x14_1 < (l0.length : Int) := pxd
            obtain ⟨ad444, e444, hx444_0, hx444_1⟩ := at_T73 HR0.out x14_1 p444 q444
            cases e444
            replace hx444_0 := (HB.out.cell (World.block_lt_of_cell? w _ hx444_0)).trans hx444_0
            replace hx444_1 := (HB.out.cell (World.block_lt_of_cell? w _ hx444_1)).trans hx444_1
            replace p444 := eq_true p444
            replace q444 := eq_true q444
            try go_wp2_with (first | ((with_reducible refine gate_dst (N := 8) rfl ?_); refine box_event ?hg (N := 8) ?hd (cs := #[.string (⟨#[]⟩ : ByteArray), .int .i64 0]) (t := 73) ?hr ?_; (case hd => rfl); (case hg => rfl); (case hr => first | (go_simp; done) | (go_simp; rfl)); intro gb445 hg w30 hbox hb; have BK445 := Aside0.mk (hbox); have GW445 := pxw HB hg; have GE445 := pxw HB hg; have NB443_445 := pxn BK443 hg; have NB445_443 := Aside0.mk (pxn BK443 hg).out.symm; replace HO_5 := Aside0.mk (Kd.R_below (Kd.R_elderB (pxr HO_5) gb445 (Nat.le_of_eq hg.symm)) hb); replace BK443 := pxk BK443 hb; replace HB := pxs HB hb; clear hb hbox hg; have hnb31 := NB445_443.out; have hnc31 := NB443_445.out; obtain ⟨hcz32_0, hcz32_1, hfz32_0, hfz32_1⟩ := pxf2 BK445))
            have n0_ : Aside0 (Kd.R k73 73 ((w30.setCell ⟨gb445, 0, none⟩ (.string ((rd_T73 l0 x14_1).f0))).setCell ⟨gb445, 1, none⟩ (.int .i64 ((rd_T73 l0 x14_1).f1))) w.heap.size (fun k_ => k_ ≠ gb445) u5 x5_1) := ⟨by (with_reducible repeat (first | apply Kd.R_alloc | apply Kd.R_drewN | apply Kd.R_drew)); exact Kd.R_mono (Kd.R_far (p := ⟨gb445, 1, none⟩) (Kd.R_far (p := ⟨gb445, 0, none⟩) (Kd.R_mono HO_5.out (fun k_ hk => (⟨hk, hk.2⟩ : _ ∧ k_ ≠ gb445))) (fun _ hk => hk.2) (.string ((rd_T73 l0 x14_1).f0))) (fun _ hk => hk.2) (.int .i64 ((rd_T73 l0 x14_1).f1))) (fun _ hk => hk.1.2)⟩
            have n1_ : Aside0 (((w30.setCell ⟨gb445, 0, none⟩ (.string ((rd_T73 l0 x14_1).f0))).setCell ⟨gb445, 1, none⟩ (.int .i64 ((rd_T73 l0 x14_1).f1))).heap[gb443]? = some (.cells #[.int .i64 a1_0, .int .i64 a1_1] 39 (0, 0))) := ⟨pxp BK443⟩
            have n2_ : Aside0 (((w30.setCell ⟨gb445, 0, none⟩ (.string ((rd_T73 l0 x14_1).f0))).setCell ⟨gb445, 1, none⟩ (.int .i64 ((rd_T73 l0 x14_1).f1))).heap[gb445]? = some (.cells #[.string ((rd_T73 l0 x14_1).f0), .int .i64 ((rd_T73 l0 x14_1).f1)] 73 (0, 0))) := ⟨pxp BK445⟩
            have n3_ : Aside0 (Below w.heap.size w ((w30.setCell ⟨gb445, 0, none⟩ (.string ((rd_T73 l0 x14_1).f0))).setCell ⟨gb445, 1, none⟩ (.int .i64 ((rd_T73 l0 x14_1).f1)))) := ⟨pxb HB⟩
            (try clear HO_5)
            (try clear BK443)
            (try clear BK445)
            (try clear HB)
            generalize ((w30.setCell ⟨gb445, 0, none⟩ (.string ((rd_T73 l0 x14_1).f0))).setCell ⟨gb445, 1, none⟩ (.int .i64 ((rd_T73 l0 x14_1).f1))) = w33 at n0_ n1_ n2_ n3_ ⊢
            have HO_5 := n0_
            have BK443 := n1_
            have BK445 := n2_
            have HB := n3_
            clear n0_ n1_ n2_ n3_
            have n0_ := Aside0.mk (Kd.R_drew HO_5.out)
            have n1_ := Aside0.mk (blk_drew BK443.out)
            have n2_ := Aside0.mk (blk_drew BK445.out)
            have n3_ := Aside0.mk (below_drew1 HB.out)
            clear HO_5
            clear BK443
            clear BK445
            clear HB
            have HO_5 := n0_
            have BK443 := n1_
            have BK445 := n2_
            have HB := n3_
            clear n0_ n1_ n2_ n3_
            refine start_ (n := 15) (S := fun w' => w'.cell? ⟨gb443, 0, none⟩ = some (.int .i64 a1_0) ∧ w'.cell? ⟨gb443, 1, none⟩ = some (.int .i64 a1_1) ∧ w'.cell? ⟨gb445, 0, none⟩ = some (.string ((rd_T73 l0 x14_1).f0)) ∧ w'.cell? ⟨gb445, 1, none⟩ = some (.int .i64 ((rd_T73 l0 x14_1).f1))) (ds := []) #[false, false, false, false, false, false, false, false, false, false, false, false, false, false, false] (by kernel_rfl) rfl rfl ⟨(blk_cell BK443.out 0).trans rfl, (blk_cell BK443.out 1).trans rfl, (blk_cell BK445.out 0).trans rfl, (blk_cell BK445.out 1).trans rfl⟩ (fun hHeld => ?_); refine with_tabW edit_cut.tab6 edit_cut.bits6 (fun HT_ HW_ => ?_)
            generalize w33.drew = w34 at HO_5 BK443 BK445 HB hHeld ⊢
            refine pS 0 18 HT_ ?_
            refine pS 2 20 HT_ ?_
            refine pS 5 23 HT_ ?_
            refine pS 7 25 HT_ ?_
            refine pS 9 27 HT_ ?_
            refine tS 1 19 HT_ HW_ hHeld ?_
            refine pS 3 21 HT_ ?_
            refine pS 4 22 HT_ ?_
            refine pS 13 9 HT_ ?_
            refine tS 6 24 HT_ HW_ hHeld ?_
            refine pS 8 26 HT_ ?_
            refine tS 10 28 HT_ HW_ hHeld ?_
            refine pS 11 29 HT_ ?_
            refine pS 12 30 HT_ ?_
            refine pS 14 10 HT_ ?_
            refine done_ (done_of HT_.out (by kernel_rfl)) ?_
            try go_wp2
            have n0_ := Aside0.mk (Kd.R_drew HO_5.out)
            have n1_ := Aside0.mk (blk_drew BK443.out)
            have n2_ := Aside0.mk (blk_drew BK445.out)
            have n3_ := Aside0.mk (below_drew1 HB.out)
            clear HO_5
            clear BK443
            clear BK445
            clear HB
            have HO_5 := n0_
            have BK443 := n1_
            have BK445 := n2_
            have HB := n3_
            clear n0_ n1_ n2_ n3_
            refine start_ (n := 10) (S := fun w' => w'.cell? ⟨gb445, 0, none⟩ = some (.string ((rd_T73 l0 x14_1).f0)) ∧ w'.cell? ⟨gb445, 1, none⟩ = some (.int .i64 ((rd_T73 l0 x14_1).f1))) (ds := []) #[false, false, false, false, false, false, false, false, false, false] (by kernel_rfl) rfl rfl ⟨(blk_cell BK445.out 0).trans rfl, (blk_cell BK445.out 1).trans rfl⟩ (fun hHeld => ?_); refine with_tabW edit_cut.tab8 edit_cut.bits8 (fun HT_ HW_ => ?_)
            generalize w34.drew = w35 at HO_5 BK443 BK445 HB hHeld ⊢
            refine pS 0 34 HT_ ?_
            refine pS 2 36 HT_ ?_
            refine pS 3 37 HT_ ?_
            refine pS 5 39 HT_ ?_
            refine tS 1 35 HT_ HW_ hHeld ?_
            refine pS 4 38 HT_ ?_
            refine tS 6 40 HT_ HW_ hHeld ?_
            refine pS 7 41 HT_ ?_
            refine oS 8 HT_ (fun K hK => ?_)
            refine box_step ?hg (N := 11) ?hd (cs := #[.string (⟨#[]⟩ : ByteArray), .int .i64 0]) (t := 73) ?hr ?_; (case hd => rfl); (case hg => rfl); (case hr => first | (go_simp; done) | (go_simp; rfl))
            intro gb446 hg w36 hbox hb
            have n0_ := Aside0.mk (Kd.R_below (Kd.R_elderB (pxr HO_5) gb446 (Nat.le_of_eq hg.symm)) hb)
            have n1_ := pxk BK443 hb
            have n2_ := pxk BK445 hb
            have n3_ := pxs HB hb
            have n4_ := Aside0.mk (hbox)
            have n5_ := pxw HB hg
            have n6_ := pxw HB hg
            have n7_ := pxn BK443 hg
            have n8_ := Aside0.mk (pxn BK443 hg).out.symm
            have n9_ := pxn BK445 hg
            have n10_ := Aside0.mk (pxn BK445 hg).out.symm
            clear HO_5
            clear BK443
            clear BK445
            clear HB
            have HO_5 := n0_
            have BK443 := n1_
            have BK445 := n2_
            have HB := n3_
            have BK446 := n4_
            have GW446 := n5_
            have GE446 := n6_
            have NB443_446 := n7_
            have NB446_443 := n8_
            have NB445_446 := n9_
            have NB446_445 := n10_
            clear n0_ n1_ n2_ n3_ n4_ n5_ n6_ n7_ n8_ n9_ n10_
            clear hb hbox hg
            refine hK.out _ _ ⟨(blk_cell BK445.out 0).trans rfl, (blk_cell BK445.out 1).trans rfl⟩ (fun hHeld => ?_)
            clear hK K
            refine nS 11 ?_
            refine oS 9 HT_ (fun K hK => ?_)
            have hs37 : w36.cell? ⟨gb446, 0, none⟩ = some (.string (⟨#[]⟩ : ByteArray)) := (blk_cell BK446.out 0).trans rfl
            have hfs37 := blk_frozen BK446.out 0
            have hns37_0 := NB443_446.out
            have hns37_1 := NB445_446.out
            have hms37_0 := NB446_443.out
            have hms37_1 := NB446_445.out
            have hs38 : w36.cell? ⟨gb446, 1, none⟩ = some (.int .i64 0) := (blk_cell BK446.out 1).trans rfl
            have hfs38 := blk_frozen BK446.out 1
            have hns38_0 := NB443_446.out
            have hns38_1 := NB445_446.out
            have hms38_0 := NB446_443.out
            have hms38_1 := NB446_445.out
            refine skip_ (w1 := ?_) (by rfl) rfl ?_ ?_
            rotate_left
            ·go_simp
             rfl
            refine hK.out _ _ ⟨((cell_far (p := ⟨gb446, _, none⟩) NB445_446.out _).trans (((cell_far (p := ⟨gb446, _, none⟩) NB445_446.out _).trans (hHeld.1)))), ((cell_far (p := ⟨gb446, _, none⟩) NB445_446.out _).trans (((cell_far (p := ⟨gb446, _, none⟩) NB445_446.out _).trans (hHeld.2))))⟩ (fun hHeld => ?_)
            clear hK K
            refine done_ (done_of HT_.out (by kernel_rfl)) ?_
            have hnb39 := NB446_443.out
            have hnc39 := NB443_446.out
            have hnb40 := NB446_445.out
            have hnc40 := NB445_446.out
            have hcz41_0 : w36.cell? ⟨gb446, 0, none⟩ = some (.string (⟨#[]⟩ : ByteArray)) := (blk_cell BK446.out 0).trans rfl
            have hcz41_1 : w36.cell? ⟨gb446, 1, none⟩ = some (.int .i64 0) := (blk_cell BK446.out 1).trans rfl
            have hfz41_0 := blk_frozen BK446.out 0
            have hfz41_1 := blk_frozen BK446.out 1
            try go_wp2_with (first | ((with_reducible refine gate_builtin (b := .append) (xs := #[.tmp 50, .tmp 52]) rfl ?_); at_builtin; refine Kd.R_append k73 (w0 := w) w.heap.size rfl (.tmp 50) (.tmp 52) 68 73 (.agg #[(.string ⟨#[]⟩), (.int .i64 0)]) 24 rfl Try.underlying68 info73 rfl (by decide) (by omega) u5 x5_1 (⟨((rd_T73 l0 x14_1).f0).extract ((ji7) : Int).toNat ((ji8) : Int).toNat, (rd_T73 l0 x14_1).f1⟩ : S73) [.string (((rd_T73 l0 x14_1).f0).extract ((ji7) : Int).toNat ((ji8) : Int).toNat), .int .i64 ((rd_T73 l0 x14_1).f1)] (fun k_ => k_ ≠ gb445 ∧ k_ ≠ gb446) (fun _ => False) rfl (by first | (go_simp; done) | (go_simp; rfl)) ?aP (fun _ hk => hk.elim) ?aF ?aO ?aB ?aS ?aL ?_; (case aP => exact k73_mkM _ _ _ (⟨((rd_T73 l0 x14_1).f0).extract ((ji7) : Int).toNat ((ji8) : Int).toNat, (rd_T73 l0 x14_1).f1⟩ : S73)); (case aB => exact (pxb HB)); (case aF => exact (fun k_ hk => ⟨Kd.freshB (g := gb445) (o := .cells #[.string ((rd_T73 l0 x14_1).f0), .int .i64 ((rd_T73 l0 x14_1).f1)] 73 (0, 0)) (pxp BK445) k_ hk, Kd.freshB (g := gb446) (o := .cells #[.string (((rd_T73 l0 x14_1).f0).extract ((ji7) : Int).toNat ((ji8) : Int).toNat), .int .i64 ((rd_T73 l0 x14_1).f1)] 73 (0, 0)) (pxp BK446) k_ hk⟩)); (case aO => exact (by (with_reducible repeat (first | apply Kd.R_alloc | apply Kd.R_drewN | apply Kd.R_drew)); exact Kd.R_mono (Kd.R_far (p := ⟨gb446, 1, none⟩) (Kd.R_far (p := ⟨gb446, 0, none⟩) (Kd.R_mono HO_5.out (fun k_ hk => (⟨hk, hk.2⟩ : _ ∧ k_ ≠ gb446))) (fun _ hk => hk.2) (.string (((rd_T73 l0 x14_1).f0).extract ((ji7) : Int).toNat ((ji8) : Int).toNat))) (fun _ hk => hk.2) (.int .i64 ((rd_T73 l0 x14_1).f1))) (fun _ hk => ⟨hk.1.1, hk.1.2⟩))); (case aS => exact (below_size (pxb HB))); (case aL => have := LMc29.out; omega); intro v451 w42 ho hb hg hat; rw [← Ny450.out] at ho; have n0_ := Aside0.mk (blk_grown (g := gb443) (o := .cells #[.int .i64 a1_0, .int .i64 a1_1] 39 (0, 0)) (pxp BK443) hg (Kd.R_ne HO_5.out BK443.out (by decide))); have n1_ := Aside0.mk (blk_grown (g := gb445) (o := .cells #[.string ((rd_T73 l0 x14_1).f0), .int .i64 ((rd_T73 l0 x14_1).f1)] 73 (0, 0)) (pxp BK445) hg (Kd.R_away HO_5.out (fun _ hk => hk.1))); have n2_ := Aside0.mk (blk_grown (g := gb446) (o := .cells #[.string (((rd_T73 l0 x14_1).f0).extract ((ji7) : Int).toNat ((ji8) : Int).toNat), .int .i64 ((rd_T73 l0 x14_1).f1)] 73 (0, 0)) (pxp BK446) hg (Kd.R_away HO_5.out (fun _ hk => hk.2))); have n3_ := Aside0.mk (hb); have n4_ := Aside0.mk (ho); clear BK443; clear BK445; clear BK446; clear HB; clear HO_5; have BK443 := n0_; have BK445 := n1_; have BK446 := n2_; have HB := n3_; have HO452 := n4_; clear n0_ n1_ n2_ n3_ n4_; clear ho hb hg hat; obtain ⟨hcz43_0, hcz43_1, hfz43_0, hfz43_1⟩ := pxf2 BK445))
            go_roundg k1
            case measure => have := HK1.out; omega
            case rel => exact ⟨(y450), (wrap64 (x6_1 + (((rd_T73 l0 x14_1).f0).size : Int))), (wrap64 (x14_1 + 1)), (by first | rfl | (simp; done) | (simp [*]; done)), (by first | rfl | (simp; done) | (simp [*]; done)), H', ⟨by have := HK1.out; omega⟩, ⟨by (with_reducible repeat (first | apply Kd.R_alloc | apply Kd.R_drewN | apply Kd.R_drew)); exact Kd.R_mono HO452.out (fun _ hk => trivial)⟩, ⟨pxq BK443⟩, ⟨pxb HB⟩⟩
           ·rw [if_neg c29] at H
            exact absurd H (by simp)
         ·rw [if_neg c12] at H
          exact absurd H (by simp)
        ·rw [if_neg c11] at H
         exact absurd H (by simp)
       ·rw [if_neg c10] at H
        exact absurd H (by simp)
      ·rw [if_neg c9] at H
       have c9b0 : decide ((ji7) < (ji8)) = false := decide_eq_false c9
       clear c9
       have H' := Aside0.mk H
       clear H
       have p444 : 0 ≤ (x14_1 : Int) := pxd
       have q444 : x14_1 < (l0.length : Int) := pxd
       obtain ⟨ad444, e444, hx444_0, hx444_1⟩ := at_T73 HR0.out x14_1 p444 q444
       cases e444
       replace hx444_0 := (HB.out.cell (World.block_lt_of_cell? w _ hx444_0)).trans hx444_0
       replace hx444_1 := (HB.out.cell (World.block_lt_of_cell? w _ hx444_1)).trans hx444_1
       replace p444 := eq_true p444
       replace q444 := eq_true q444
       try go_wp2_with (first | ((with_reducible refine gate_dst (N := 8) rfl ?_); refine box_event ?hg (N := 8) ?hd (cs := #[.string (⟨#[]⟩ : ByteArray), .int .i64 0]) (t := 73) ?hr ?_; (case hd => rfl); (case hg => rfl); (case hr => first | (go_simp; done) | (go_simp; rfl)); intro gb445 hg w44 hbox hb; have BK445 := Aside0.mk (hbox); have GW445 := pxw HB hg; have GE445 := pxw HB hg; have NB443_445 := pxn BK443 hg; have NB445_443 := Aside0.mk (pxn BK443 hg).out.symm; replace HO_5 := Aside0.mk (Kd.R_below (Kd.R_elderB (pxr HO_5) gb445 (Nat.le_of_eq hg.symm)) hb); replace BK443 := pxk BK443 hb; replace HB := pxs HB hb; clear hb hbox hg; have hnb45 := NB445_443.out; have hnc45 := NB443_445.out; obtain ⟨hcz46_0, hcz46_1, hfz46_0, hfz46_1⟩ := pxf2 BK445))
       have n0_ : Aside0 (Kd.R k73 73 ((w44.setCell ⟨gb445, 0, none⟩ (.string ((rd_T73 l0 x14_1).f0))).setCell ⟨gb445, 1, none⟩ (.int .i64 ((rd_T73 l0 x14_1).f1))) w.heap.size (fun k_ => k_ ≠ gb445) u5 x5_1) := ⟨by (with_reducible repeat (first | apply Kd.R_alloc | apply Kd.R_drewN | apply Kd.R_drew)); exact Kd.R_mono (Kd.R_far (p := ⟨gb445, 1, none⟩) (Kd.R_far (p := ⟨gb445, 0, none⟩) (Kd.R_mono HO_5.out (fun k_ hk => (⟨hk, hk.2⟩ : _ ∧ k_ ≠ gb445))) (fun _ hk => hk.2) (.string ((rd_T73 l0 x14_1).f0))) (fun _ hk => hk.2) (.int .i64 ((rd_T73 l0 x14_1).f1))) (fun _ hk => hk.1.2)⟩
       have n1_ : Aside0 (((w44.setCell ⟨gb445, 0, none⟩ (.string ((rd_T73 l0 x14_1).f0))).setCell ⟨gb445, 1, none⟩ (.int .i64 ((rd_T73 l0 x14_1).f1))).heap[gb443]? = some (.cells #[.int .i64 a1_0, .int .i64 a1_1] 39 (0, 0))) := ⟨pxp BK443⟩
       have n2_ : Aside0 (((w44.setCell ⟨gb445, 0, none⟩ (.string ((rd_T73 l0 x14_1).f0))).setCell ⟨gb445, 1, none⟩ (.int .i64 ((rd_T73 l0 x14_1).f1))).heap[gb445]? = some (.cells #[.string ((rd_T73 l0 x14_1).f0), .int .i64 ((rd_T73 l0 x14_1).f1)] 73 (0, 0))) := ⟨pxp BK445⟩
       have n3_ : Aside0 (Below w.heap.size w ((w44.setCell ⟨gb445, 0, none⟩ (.string ((rd_T73 l0 x14_1).f0))).setCell ⟨gb445, 1, none⟩ (.int .i64 ((rd_T73 l0 x14_1).f1)))) := ⟨pxb HB⟩
       (try clear HO_5)
       (try clear BK443)
       (try clear BK445)
       (try clear HB)
       generalize ((w44.setCell ⟨gb445, 0, none⟩ (.string ((rd_T73 l0 x14_1).f0))).setCell ⟨gb445, 1, none⟩ (.int .i64 ((rd_T73 l0 x14_1).f1))) = w47 at n0_ n1_ n2_ n3_ ⊢
       have HO_5 := n0_
       have BK443 := n1_
       have BK445 := n2_
       have HB := n3_
       clear n0_ n1_ n2_ n3_
       have n0_ := Aside0.mk (Kd.R_drew HO_5.out)
       have n1_ := Aside0.mk (blk_drew BK443.out)
       have n2_ := Aside0.mk (blk_drew BK445.out)
       have n3_ := Aside0.mk (below_drew1 HB.out)
       clear HO_5
       clear BK443
       clear BK445
       clear HB
       have HO_5 := n0_
       have BK443 := n1_
       have BK445 := n2_
       have HB := n3_
       clear n0_ n1_ n2_ n3_
       refine start_ (n := 15) (S := fun w' => w'.cell? ⟨gb443, 0, none⟩ = some (.int .i64 a1_0) ∧ w'.cell? ⟨gb443, 1, none⟩ = some (.int .i64 a1_1) ∧ w'.cell? ⟨gb445, 0, none⟩ = some (.string ((rd_T73 l0 x14_1).f0)) ∧ w'.cell? ⟨gb445, 1, none⟩ = some (.int .i64 ((rd_T73 l0 x14_1).f1))) (ds := []) #[false, false, false, false, false, false, false, false, false, false, false, false, false, false, false] (by kernel_rfl) rfl rfl ⟨(blk_cell BK443.out 0).trans rfl, (blk_cell BK443.out 1).trans rfl, (blk_cell BK445.out 0).trans rfl, (blk_cell BK445.out 1).trans rfl⟩ (fun hHeld => ?_); refine with_tabW edit_cut.tab6 edit_cut.bits6 (fun HT_ HW_ => ?_)
       generalize w47.drew = w48 at HO_5 BK443 BK445 HB hHeld ⊢
       refine pS 0 18 HT_ ?_
       refine pS 2 20 HT_ ?_
       refine pS 5 23 HT_ ?_
       refine pS 7 25 HT_ ?_
       refine pS 9 27 HT_ ?_
       refine tS 1 19 HT_ HW_ hHeld ?_
       refine pS 3 21 HT_ ?_
       refine pS 4 22 HT_ ?_
       refine pS 13 9 HT_ ?_
       refine tS 6 24 HT_ HW_ hHeld ?_
       refine pS 8 26 HT_ ?_
       refine tS 10 28 HT_ HW_ hHeld ?_
       refine pS 11 29 HT_ ?_
       refine pS 12 30 HT_ ?_
       refine pS 14 10 HT_ ?_
       refine done_ (done_of HT_.out (by kernel_rfl)) ?_
       have hcz49_0 : w48.cell? ⟨gb445, 0, none⟩ = some (.string ((rd_T73 l0 x14_1).f0)) := (blk_cell BK445.out 0).trans rfl
       have hcz49_1 : w48.cell? ⟨gb445, 1, none⟩ = some (.int .i64 ((rd_T73 l0 x14_1).f1)) := (blk_cell BK445.out 1).trans rfl
       have hfz49_0 := blk_frozen BK445.out 0
       have hfz49_1 := blk_frozen BK445.out 1
       try go_wp2
       go_roundg k1
       case measure => have := HK1.out; omega
       case rel => exact ⟨(x5_1), (wrap64 (x6_1 + (((rd_T73 l0 x14_1).f0).size : Int))), (wrap64 (x14_1 + 1)), (by first | rfl | (simp; done) | (simp [*]; done)), (by first | rfl | (simp; done) | (simp [*]; done)), H', ⟨by have := HK1.out; omega⟩, ⟨by (with_reducible repeat (first | apply Kd.R_alloc | apply Kd.R_drewN | apply Kd.R_drew)); exact Kd.R_mono HO_5.out (fun _ hk => trivial)⟩, ⟨pxq BK443⟩, ⟨pxb HB⟩⟩
     ·rw [if_neg c6] at H
      exact absurd H (by simp)
    ·rw [if_neg c5] at H
     exact absurd H (by simp)
   ·rw [if_neg c4] at H
    have c4b0 : decide (x14_1 < (l0.length : Int)) = false := decide_eq_false c4
    clear c4
    obtain rfl := Option.some.inj H
    go_wp2
    go_ret
    exact ⟨_, by first | rfl | (simp [errW_none, errW_some] <;> rfl) | (simp [*, errW_none, errW_some] <;> rfl), pxr HO_5, pxb HB⟩

end Go.Proofs.Ytoljmjhmieaggaa.X
